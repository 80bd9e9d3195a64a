/- Closed facts of the row of FluxQuanta; no condition. -/
import Derived.Test.YtnljcdplcloedaaGreatDoorFact
namespace Go.Proofs.YtnljcdplcloedaaGreatDoor.fluxQuanta
open Go
set_option maxRecDepth 100000
theorem c1 : Rows.fluxQuantaRow.wf (OpenSpec.ofChange Rows.fluxQuantaSpec) = true := by kernel_rfl
theorem c4 : Tryz.f5.params.all (Tryz.prog.readableRec ·) = true := by kernel_rfl
theorem c5 : namedTie Tryz.prog Rows.fluxQuantaRow.named Rows.fluxQuantaSpec.vars = true := by kernel_rfl
theorem c6 : (Rows.fluxQuantaRow.stops == []) = true := by kernel_rfl
theorem c8 : (Rows.fluxQuantaRow.knobs == []) = true := by kernel_rfl
theorem c10 : (Rows.fluxQuantaRow.inPlace == Tryz.prog.inPlace 5) = true := by kernel_rfl
theorem c11 : (Rows.fluxQuantaRow.unfollowed == Tryz.prog.unfollowed 5) = true := by kernel_rfl
theorem c12 : (Rows.fluxQuantaRow.recurses == Tryz.prog.recurses 5) = true := by kernel_rfl
theorem c13 : (Rows.fluxQuantaRow.named == Tryz.prog.varsNamed 5) = true := by kernel_rfl
theorem c14 : (Rows.fluxQuantaRow.maps == (Tryz.f5.params.toList ++ Rows.fluxQuantaSpec.plain.varTypes Tryz.prog).any (Tryz.prog.mapsRec ·)) = true := by kernel_rfl
theorem c15 : (Rows.fluxQuantaRow.ifaces == (Tryz.f5.params.toList ++ Rows.fluxQuantaSpec.plain.varTypes Tryz.prog).any (Tryz.prog.ifacesRec ·)) = true := by kernel_rfl
theorem c16 : (Rows.fluxQuantaRow.mapsOut == Tryz.prog.mapsAmong Tryz.f5.resultTypes.toList) = true := by kernel_rfl
theorem c17 : (Rows.fluxQuantaRow.loops == (Tryz.f5.params.toList ++ Rows.fluxQuantaSpec.plain.varTypes Tryz.prog).any (Tryz.prog.loopsFrom ·)) = true := by kernel_rfl
theorem c18 : (Rows.fluxQuantaRow.wideKeys == (Tryz.f5.params.toList ++ Rows.fluxQuantaSpec.plain.varTypes Tryz.prog ++ Tryz.f5.resultTypes.toList).any (Tryz.prog.wideKeysFrom ·)) = true := by kernel_rfl
theorem c19 : Rows.fluxQuantaSpec.vars.all (Tryz.prog.varReadable ·) = true := by kernel_rfl
theorem c20 : Tryz.f5.resultTypes.all (fun t => Tryz.prog.readableRec t && decide (t < Tryz.prog.types.size)) = true := by kernel_rfl
theorem c21 : (Rows.fluxQuantaRow.ifacesOut == Tryz.f5.resultTypes.toList.any (Tryz.prog.ifacesRec ·)) = true := by kernel_rfl
theorem c22 : (Rows.fluxQuantaRow.loopsOut == Tryz.f5.resultTypes.toList.any (Tryz.prog.loopsFrom ·)) = true := by kernel_rfl
theorem c24 : Rows.fluxQuantaRow.shortTexts.isNone = true := by kernel_rfl
theorem c28 : (Tryz.prog.make == some Rows.fluxQuantaRow.make) = true := by kernel_rfl
theorem c29 : (Rows.fluxQuantaRow.kinds == (if Rows.fluxQuantaRow.domain.isEmpty then [] else Tryz.f5.params.toList.map fun t => match Tryz.prog.underlying t with | some (.int k) => some k | _ => none)) = true := by kernel_rfl
theorem c30 : (Rows.fluxQuantaRow.pinned == Rows.fluxQuantaRow.pinnedBy) = true := by kernel_rfl
theorem c31 : (Rows.fluxQuantaRow.veiled == (Tryz.f5.params.toList ++ Rows.fluxQuantaSpec.plain.varTypes Tryz.prog ++ Tryz.f5.resultTypes.toList).any (Tryz.prog.veiledRec ·)) = true := by kernel_rfl
theorem c32 : Rows.fluxQuantaRow.veiledFits Tryz.prog Tryz.f5.params.toList (Tryz.f5.params.toList ++ Rows.fluxQuantaSpec.plain.varTypes Tryz.prog ++ Tryz.f5.resultTypes.toList) = true := by kernel_rfl
theorem closed : joinedFacts Tryz.prog 5 Tryz.f5 (OpenSpec.ofChange Rows.fluxQuantaSpec).bare Rows.fluxQuantaRow = true :=
  joined_mk (s := (OpenSpec.ofChange Rows.fluxQuantaSpec).bare) c1 far2 far3 c4 c5 c6 far7 c8 far9 c10 c11 c12 c13 c14 c15 c16 c17 c18 c19 c20 c21 c22 far23 c24 far25 far26 far27 c28 c29 c30 c31 c32
theorem named : Tryz.prog.funcNamed Rows.fluxQuantaRow.func = some 5 := by kernel_rfl
theorem wfT : Rows.fluxQuantaRow.wfByText (OpenSpec.ofChange Rows.fluxQuantaSpec) = true := by kernel_rfl
theorem goes : false = Rows.fluxQuantaRow.goesBy Tryz.prog := by kernel_rfl
end Go.Proofs.YtnljcdplcloedaaGreatDoor.fluxQuanta
