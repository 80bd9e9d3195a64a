/- Closed facts of the row of FluxSigns; no condition. -/
import Derived.Test.YtnljcdplcloedaaGreatDoorFact
namespace Go.Proofs.YtnljcdplcloedaaGreatDoor.fluxSigns
open Go
set_option maxRecDepth 100000
theorem c1 : Rows.fluxSignsRow.wf (OpenSpec.ofChange Rows.fluxSignsSpec) = true := by kernel_rfl
theorem c4 : Tryz.f7.params.all (Tryz.prog.readableRec ·) = true := by kernel_rfl
theorem c5 : namedTie Tryz.prog Rows.fluxSignsRow.named Rows.fluxSignsSpec.vars = true := by kernel_rfl
theorem c6 : (Rows.fluxSignsRow.stops == []) = true := by kernel_rfl
theorem c8 : (Rows.fluxSignsRow.knobs == []) = true := by kernel_rfl
theorem c10 : (Rows.fluxSignsRow.inPlace == Tryz.prog.inPlace 7) = true := by kernel_rfl
theorem c11 : (Rows.fluxSignsRow.unfollowed == Tryz.prog.unfollowed 7) = true := by kernel_rfl
theorem c12 : (Rows.fluxSignsRow.recurses == Tryz.prog.recurses 7) = true := by kernel_rfl
theorem c13 : (Rows.fluxSignsRow.named == Tryz.prog.varsNamed 7) = true := by kernel_rfl
theorem c14 : (Rows.fluxSignsRow.maps == (Tryz.f7.params.toList ++ Rows.fluxSignsSpec.plain.varTypes Tryz.prog).any (Tryz.prog.mapsRec ·)) = true := by kernel_rfl
theorem c15 : (Rows.fluxSignsRow.ifaces == (Tryz.f7.params.toList ++ Rows.fluxSignsSpec.plain.varTypes Tryz.prog).any (Tryz.prog.ifacesRec ·)) = true := by kernel_rfl
theorem c16 : (Rows.fluxSignsRow.mapsOut == Tryz.prog.mapsAmong Tryz.f7.resultTypes.toList) = true := by kernel_rfl
theorem c17 : (Rows.fluxSignsRow.loops == (Tryz.f7.params.toList ++ Rows.fluxSignsSpec.plain.varTypes Tryz.prog).any (Tryz.prog.loopsFrom ·)) = true := by kernel_rfl
theorem c18 : (Rows.fluxSignsRow.wideKeys == (Tryz.f7.params.toList ++ Rows.fluxSignsSpec.plain.varTypes Tryz.prog ++ Tryz.f7.resultTypes.toList).any (Tryz.prog.wideKeysFrom ·)) = true := by kernel_rfl
theorem c19 : Rows.fluxSignsSpec.vars.all (Tryz.prog.varReadable ·) = true := by kernel_rfl
theorem c20 : Tryz.f7.resultTypes.all (fun t => Tryz.prog.readableRec t && decide (t < Tryz.prog.types.size)) = true := by kernel_rfl
theorem c21 : (Rows.fluxSignsRow.ifacesOut == Tryz.f7.resultTypes.toList.any (Tryz.prog.ifacesRec ·)) = true := by kernel_rfl
theorem c22 : (Rows.fluxSignsRow.loopsOut == Tryz.f7.resultTypes.toList.any (Tryz.prog.loopsFrom ·)) = true := by kernel_rfl
theorem c24 : Rows.fluxSignsRow.shortTexts.isNone = true := by kernel_rfl
theorem c28 : (Tryz.prog.make == some Rows.fluxSignsRow.make) = true := by kernel_rfl
theorem c29 : (Rows.fluxSignsRow.kinds == (if Rows.fluxSignsRow.domain.isEmpty then [] else Tryz.f7.params.toList.map fun t => match Tryz.prog.underlying t with | some (.int k) => some k | _ => none)) = true := by kernel_rfl
theorem c30 : (Rows.fluxSignsRow.pinned == Rows.fluxSignsRow.pinnedBy) = true := by kernel_rfl
theorem c31 : (Rows.fluxSignsRow.veiled == (Tryz.f7.params.toList ++ Rows.fluxSignsSpec.plain.varTypes Tryz.prog ++ Tryz.f7.resultTypes.toList).any (Tryz.prog.veiledRec ·)) = true := by kernel_rfl
theorem c32 : Rows.fluxSignsRow.veiledFits Tryz.prog Tryz.f7.params.toList (Tryz.f7.params.toList ++ Rows.fluxSignsSpec.plain.varTypes Tryz.prog ++ Tryz.f7.resultTypes.toList) = true := by kernel_rfl
theorem closed : joinedFacts Tryz.prog 7 Tryz.f7 (OpenSpec.ofChange Rows.fluxSignsSpec).bare Rows.fluxSignsRow = true :=
  joined_mk (s := (OpenSpec.ofChange Rows.fluxSignsSpec).bare) c1 far2 far3 c4 c5 c6 far7 c8 far9 c10 c11 c12 c13 c14 c15 c16 c17 c18 c19 c20 c21 c22 far23 c24 far25 far26 far27 c28 c29 c30 c31 c32
theorem named : Tryz.prog.funcNamed Rows.fluxSignsRow.func = some 7 := by kernel_rfl
theorem wfT : Rows.fluxSignsRow.wfByText (OpenSpec.ofChange Rows.fluxSignsSpec) = true := by kernel_rfl
theorem goes : false = Rows.fluxSignsRow.goesBy Tryz.prog := by kernel_rfl
end Go.Proofs.YtnljcdplcloedaaGreatDoor.fluxSigns
