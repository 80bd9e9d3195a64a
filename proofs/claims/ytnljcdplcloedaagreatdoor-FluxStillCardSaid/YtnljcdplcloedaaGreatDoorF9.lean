/- Closed facts of the row of FluxStill; no condition. -/
import Derived.Test.YtnljcdplcloedaaGreatDoorFact
namespace Go.Proofs.YtnljcdplcloedaaGreatDoor.fluxStill
open Go
set_option maxRecDepth 100000
theorem c1 : Rows.fluxStillRow.wf (OpenSpec.ofChange Rows.fluxStillSpec) = true := by kernel_rfl
theorem c4 : Tryz.f9.params.all (Tryz.prog.readableRec ·) = true := by kernel_rfl
theorem c5 : namedTie Tryz.prog Rows.fluxStillRow.named Rows.fluxStillSpec.vars = true := by kernel_rfl
theorem c6 : (Rows.fluxStillRow.stops == []) = true := by kernel_rfl
theorem c8 : (Rows.fluxStillRow.knobs == []) = true := by kernel_rfl
theorem c10 : (Rows.fluxStillRow.inPlace == Tryz.prog.inPlace 9) = true := by kernel_rfl
theorem c11 : (Rows.fluxStillRow.unfollowed == Tryz.prog.unfollowed 9) = true := by kernel_rfl
theorem c12 : (Rows.fluxStillRow.recurses == Tryz.prog.recurses 9) = true := by kernel_rfl
theorem c13 : (Rows.fluxStillRow.named == Tryz.prog.varsNamed 9) = true := by kernel_rfl
theorem c14 : (Rows.fluxStillRow.maps == (Tryz.f9.params.toList ++ Rows.fluxStillSpec.plain.varTypes Tryz.prog).any (Tryz.prog.mapsRec ·)) = true := by kernel_rfl
theorem c15 : (Rows.fluxStillRow.ifaces == (Tryz.f9.params.toList ++ Rows.fluxStillSpec.plain.varTypes Tryz.prog).any (Tryz.prog.ifacesRec ·)) = true := by kernel_rfl
theorem c16 : (Rows.fluxStillRow.mapsOut == Tryz.prog.mapsAmong Tryz.f9.resultTypes.toList) = true := by kernel_rfl
theorem c17 : (Rows.fluxStillRow.loops == (Tryz.f9.params.toList ++ Rows.fluxStillSpec.plain.varTypes Tryz.prog).any (Tryz.prog.loopsFrom ·)) = true := by kernel_rfl
theorem c18 : (Rows.fluxStillRow.wideKeys == (Tryz.f9.params.toList ++ Rows.fluxStillSpec.plain.varTypes Tryz.prog ++ Tryz.f9.resultTypes.toList).any (Tryz.prog.wideKeysFrom ·)) = true := by kernel_rfl
theorem c19 : Rows.fluxStillSpec.vars.all (Tryz.prog.varReadable ·) = true := by kernel_rfl
theorem c20 : Tryz.f9.resultTypes.all (fun t => Tryz.prog.readableRec t && decide (t < Tryz.prog.types.size)) = true := by kernel_rfl
theorem c21 : (Rows.fluxStillRow.ifacesOut == Tryz.f9.resultTypes.toList.any (Tryz.prog.ifacesRec ·)) = true := by kernel_rfl
theorem c22 : (Rows.fluxStillRow.loopsOut == Tryz.f9.resultTypes.toList.any (Tryz.prog.loopsFrom ·)) = true := by kernel_rfl
theorem c24 : Rows.fluxStillRow.shortTexts.isNone = true := by kernel_rfl
theorem c28 : (Tryz.prog.make == some Rows.fluxStillRow.make) = true := by kernel_rfl
theorem c29 : (Rows.fluxStillRow.kinds == (if Rows.fluxStillRow.domain.isEmpty then [] else Tryz.f9.params.toList.map fun t => match Tryz.prog.underlying t with | some (.int k) => some k | _ => none)) = true := by kernel_rfl
theorem c30 : (Rows.fluxStillRow.pinned == Rows.fluxStillRow.pinnedBy) = true := by kernel_rfl
theorem c31 : (Rows.fluxStillRow.veiled == (Tryz.f9.params.toList ++ Rows.fluxStillSpec.plain.varTypes Tryz.prog ++ Tryz.f9.resultTypes.toList).any (Tryz.prog.veiledRec ·)) = true := by kernel_rfl
theorem c32 : Rows.fluxStillRow.veiledFits Tryz.prog Tryz.f9.params.toList (Tryz.f9.params.toList ++ Rows.fluxStillSpec.plain.varTypes Tryz.prog ++ Tryz.f9.resultTypes.toList) = true := by kernel_rfl
theorem closed : joinedFacts Tryz.prog 9 Tryz.f9 (OpenSpec.ofChange Rows.fluxStillSpec).bare Rows.fluxStillRow = true :=
  joined_mk (s := (OpenSpec.ofChange Rows.fluxStillSpec).bare) c1 far2 far3 c4 c5 c6 far7 c8 far9 c10 c11 c12 c13 c14 c15 c16 c17 c18 c19 c20 c21 c22 far23 c24 far25 far26 far27 c28 c29 c30 c31 c32
theorem named : Tryz.prog.funcNamed Rows.fluxStillRow.func = some 9 := by kernel_rfl
theorem wfT : Rows.fluxStillRow.wfByText (OpenSpec.ofChange Rows.fluxStillSpec) = true := by kernel_rfl
theorem goes : false = Rows.fluxStillRow.goesBy Tryz.prog := by kernel_rfl
end Go.Proofs.YtnljcdplcloedaaGreatDoor.fluxStill
