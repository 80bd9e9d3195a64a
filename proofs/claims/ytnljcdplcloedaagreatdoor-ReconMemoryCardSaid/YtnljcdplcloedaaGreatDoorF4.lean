/- Closed facts of the row of ReconMemory; no condition. -/
import Derived.Test.YtnljcdplcloedaaGreatDoorFact
namespace Go.Proofs.YtnljcdplcloedaaGreatDoor.reconMemory
open Go
set_option maxRecDepth 100000
theorem c1 : Rows.reconMemoryRow.wf (OpenSpec.ofChange Rows.reconMemorySpec) = true := by kernel_rfl
theorem c4 : Tryz.f4.params.all (Tryz.prog.readableRec ·) = true := by kernel_rfl
theorem c5 : namedTie Tryz.prog Rows.reconMemoryRow.named Rows.reconMemorySpec.vars = true := by kernel_rfl
theorem c6 : (Rows.reconMemoryRow.stops == []) = true := by kernel_rfl
theorem c8 : (Rows.reconMemoryRow.knobs == []) = true := by kernel_rfl
theorem c10 : (Rows.reconMemoryRow.inPlace == Tryz.prog.inPlace 4) = true := by kernel_rfl
theorem c11 : (Rows.reconMemoryRow.unfollowed == Tryz.prog.unfollowed 4) = true := by kernel_rfl
theorem c12 : (Rows.reconMemoryRow.recurses == Tryz.prog.recurses 4) = true := by kernel_rfl
theorem c13 : (Rows.reconMemoryRow.named == Tryz.prog.varsNamed 4) = true := by kernel_rfl
theorem c14 : (Rows.reconMemoryRow.maps == (Tryz.f4.params.toList ++ Rows.reconMemorySpec.plain.varTypes Tryz.prog).any (Tryz.prog.mapsRec ·)) = true := by kernel_rfl
theorem c15 : (Rows.reconMemoryRow.ifaces == (Tryz.f4.params.toList ++ Rows.reconMemorySpec.plain.varTypes Tryz.prog).any (Tryz.prog.ifacesRec ·)) = true := by kernel_rfl
theorem c16 : (Rows.reconMemoryRow.mapsOut == Tryz.prog.mapsAmong Tryz.f4.resultTypes.toList) = true := by kernel_rfl
theorem c17 : (Rows.reconMemoryRow.loops == (Tryz.f4.params.toList ++ Rows.reconMemorySpec.plain.varTypes Tryz.prog).any (Tryz.prog.loopsFrom ·)) = true := by kernel_rfl
theorem c18 : (Rows.reconMemoryRow.wideKeys == (Tryz.f4.params.toList ++ Rows.reconMemorySpec.plain.varTypes Tryz.prog ++ Tryz.f4.resultTypes.toList).any (Tryz.prog.wideKeysFrom ·)) = true := by kernel_rfl
theorem c19 : Rows.reconMemorySpec.vars.all (Tryz.prog.varReadable ·) = true := by kernel_rfl
theorem c20 : Tryz.f4.resultTypes.all (fun t => Tryz.prog.readableRec t && decide (t < Tryz.prog.types.size)) = true := by kernel_rfl
theorem c21 : (Rows.reconMemoryRow.ifacesOut == Tryz.f4.resultTypes.toList.any (Tryz.prog.ifacesRec ·)) = true := by kernel_rfl
theorem c22 : (Rows.reconMemoryRow.loopsOut == Tryz.f4.resultTypes.toList.any (Tryz.prog.loopsFrom ·)) = true := by kernel_rfl
theorem c24 : Rows.reconMemoryRow.shortTexts.isNone = true := by kernel_rfl
theorem c28 : (Tryz.prog.make == some Rows.reconMemoryRow.make) = true := by kernel_rfl
theorem c29 : (Rows.reconMemoryRow.kinds == (if Rows.reconMemoryRow.domain.isEmpty then [] else Tryz.f4.params.toList.map fun t => match Tryz.prog.underlying t with | some (.int k) => some k | _ => none)) = true := by kernel_rfl
theorem c30 : (Rows.reconMemoryRow.pinned == Rows.reconMemoryRow.pinnedBy) = true := by kernel_rfl
theorem c31 : (Rows.reconMemoryRow.veiled == (Tryz.f4.params.toList ++ Rows.reconMemorySpec.plain.varTypes Tryz.prog ++ Tryz.f4.resultTypes.toList).any (Tryz.prog.veiledRec ·)) = true := by kernel_rfl
theorem c32 : Rows.reconMemoryRow.veiledFits Tryz.prog Tryz.f4.params.toList (Tryz.f4.params.toList ++ Rows.reconMemorySpec.plain.varTypes Tryz.prog ++ Tryz.f4.resultTypes.toList) = true := by kernel_rfl
theorem closed : joinedFacts Tryz.prog 4 Tryz.f4 (OpenSpec.ofChange Rows.reconMemorySpec).bare Rows.reconMemoryRow = true :=
  joined_mk (s := (OpenSpec.ofChange Rows.reconMemorySpec).bare) c1 far2 far3 c4 c5 c6 far7 c8 far9 c10 c11 c12 c13 c14 c15 c16 c17 c18 c19 c20 c21 c22 far23 c24 far25 far26 far27 c28 c29 c30 c31 c32
theorem named : Tryz.prog.funcNamed Rows.reconMemoryRow.func = some 4 := by kernel_rfl
theorem wfT : Rows.reconMemoryRow.wfByText (OpenSpec.ofChange Rows.reconMemorySpec) = true := by kernel_rfl
theorem goes : false = Rows.reconMemoryRow.goesBy Tryz.prog := by kernel_rfl
end Go.Proofs.YtnljcdplcloedaaGreatDoor.reconMemory
