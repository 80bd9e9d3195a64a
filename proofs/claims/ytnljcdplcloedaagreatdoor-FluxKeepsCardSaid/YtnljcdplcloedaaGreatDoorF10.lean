/- Closed facts of the row of FluxKeeps; no condition. -/
import Derived.Test.YtnljcdplcloedaaGreatDoorFact
namespace Go.Proofs.YtnljcdplcloedaaGreatDoor.fluxKeeps
open Go
set_option maxRecDepth 100000
theorem c1 : Rows.fluxKeepsRow.wf (OpenSpec.ofChange Rows.fluxKeepsSpec) = true := by kernel_rfl
theorem c4 : Tryz.f10.params.all (Tryz.prog.readableRec ·) = true := by kernel_rfl
theorem c5 : namedTie Tryz.prog Rows.fluxKeepsRow.named Rows.fluxKeepsSpec.vars = true := by kernel_rfl
theorem c6 : (Rows.fluxKeepsRow.stops == []) = true := by kernel_rfl
theorem c8 : (Rows.fluxKeepsRow.knobs == []) = true := by kernel_rfl
theorem c10 : (Rows.fluxKeepsRow.inPlace == Tryz.prog.inPlace 10) = true := by kernel_rfl
theorem c11 : (Rows.fluxKeepsRow.unfollowed == Tryz.prog.unfollowed 10) = true := by kernel_rfl
theorem c12 : (Rows.fluxKeepsRow.recurses == Tryz.prog.recurses 10) = true := by kernel_rfl
theorem c13 : (Rows.fluxKeepsRow.named == Tryz.prog.varsNamed 10) = true := by kernel_rfl
theorem c14 : (Rows.fluxKeepsRow.maps == (Tryz.f10.params.toList ++ Rows.fluxKeepsSpec.plain.varTypes Tryz.prog).any (Tryz.prog.mapsRec ·)) = true := by kernel_rfl
theorem c15 : (Rows.fluxKeepsRow.ifaces == (Tryz.f10.params.toList ++ Rows.fluxKeepsSpec.plain.varTypes Tryz.prog).any (Tryz.prog.ifacesRec ·)) = true := by kernel_rfl
theorem c16 : (Rows.fluxKeepsRow.mapsOut == Tryz.prog.mapsAmong Tryz.f10.resultTypes.toList) = true := by kernel_rfl
theorem c17 : (Rows.fluxKeepsRow.loops == (Tryz.f10.params.toList ++ Rows.fluxKeepsSpec.plain.varTypes Tryz.prog).any (Tryz.prog.loopsFrom ·)) = true := by kernel_rfl
theorem c18 : (Rows.fluxKeepsRow.wideKeys == (Tryz.f10.params.toList ++ Rows.fluxKeepsSpec.plain.varTypes Tryz.prog ++ Tryz.f10.resultTypes.toList).any (Tryz.prog.wideKeysFrom ·)) = true := by kernel_rfl
theorem c19 : Rows.fluxKeepsSpec.vars.all (Tryz.prog.varReadable ·) = true := by kernel_rfl
theorem c20 : Tryz.f10.resultTypes.all (fun t => Tryz.prog.readableRec t && decide (t < Tryz.prog.types.size)) = true := by kernel_rfl
theorem c21 : (Rows.fluxKeepsRow.ifacesOut == Tryz.f10.resultTypes.toList.any (Tryz.prog.ifacesRec ·)) = true := by kernel_rfl
theorem c22 : (Rows.fluxKeepsRow.loopsOut == Tryz.f10.resultTypes.toList.any (Tryz.prog.loopsFrom ·)) = true := by kernel_rfl
theorem c24 : Rows.fluxKeepsRow.shortTexts.isNone = true := by kernel_rfl
theorem c28 : (Tryz.prog.make == some Rows.fluxKeepsRow.make) = true := by kernel_rfl
theorem c29 : (Rows.fluxKeepsRow.kinds == (if Rows.fluxKeepsRow.domain.isEmpty then [] else Tryz.f10.params.toList.map fun t => match Tryz.prog.underlying t with | some (.int k) => some k | _ => none)) = true := by kernel_rfl
theorem c30 : (Rows.fluxKeepsRow.pinned == Rows.fluxKeepsRow.pinnedBy) = true := by kernel_rfl
theorem c31 : (Rows.fluxKeepsRow.veiled == (Tryz.f10.params.toList ++ Rows.fluxKeepsSpec.plain.varTypes Tryz.prog ++ Tryz.f10.resultTypes.toList).any (Tryz.prog.veiledRec ·)) = true := by kernel_rfl
theorem c32 : Rows.fluxKeepsRow.veiledFits Tryz.prog Tryz.f10.params.toList (Tryz.f10.params.toList ++ Rows.fluxKeepsSpec.plain.varTypes Tryz.prog ++ Tryz.f10.resultTypes.toList) = true := by kernel_rfl
theorem closed : joinedFacts Tryz.prog 10 Tryz.f10 (OpenSpec.ofChange Rows.fluxKeepsSpec).bare Rows.fluxKeepsRow = true :=
  joined_mk (s := (OpenSpec.ofChange Rows.fluxKeepsSpec).bare) c1 far2 far3 c4 c5 c6 far7 c8 far9 c10 c11 c12 c13 c14 c15 c16 c17 c18 c19 c20 c21 c22 far23 c24 far25 far26 far27 c28 c29 c30 c31 c32
theorem named : Tryz.prog.funcNamed Rows.fluxKeepsRow.func = some 10 := by kernel_rfl
theorem wfT : Rows.fluxKeepsRow.wfByText (OpenSpec.ofChange Rows.fluxKeepsSpec) = true := by kernel_rfl
theorem goes : false = Rows.fluxKeepsRow.goesBy Tryz.prog := by kernel_rfl
end Go.Proofs.YtnljcdplcloedaaGreatDoor.fluxKeeps
