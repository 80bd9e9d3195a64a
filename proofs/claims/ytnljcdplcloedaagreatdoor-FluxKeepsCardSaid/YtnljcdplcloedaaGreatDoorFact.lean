/- Closed facts of the whole program, that every row asks; no condition. -/
import Derived.Test.YtnljcdplcloedaaGreatDoorCards
import Derived.JoinedCond
import Derived.SevenTiedAt
import Derived.KernelRfl
namespace Go.Proofs.YtnljcdplcloedaaGreatDoor
open Go
set_option maxRecDepth 100000
theorem joined_mk {P : Program} {f : FuncId} {fn : Func} {s : ChangeSpec} {c : OpenClaim}
    (h1 : c.wf (OpenSpec.ofChange s) = true) (h2 : laidOutB P = true) (h3 : mapsRowed P = true) (h4 : fn.params.all (P.readableRec ·) = true) (h5 : namedTie P c.named s.vars = true)
    (h6 : (c.stops == []) = true) (h7 : (P.stops == []) = true) (h8 : (c.knobs == []) = true) (h9 : (P.stopKnobs == []) = true)
    (h10 : (c.inPlace == P.inPlace f) = true) (h11 : (c.unfollowed == P.unfollowed f) = true) (h12 : (c.recurses == P.recurses f) = true) (h13 : (c.named == P.varsNamed f) = true)
    (h14 : (c.maps == (fn.params.toList ++ s.plain.varTypes P).any (P.mapsRec ·)) = true) (h15 : (c.ifaces == (fn.params.toList ++ s.plain.varTypes P).any (P.ifacesRec ·)) = true) (h16 : (c.mapsOut == P.mapsAmong fn.resultTypes.toList) = true)
    (h17 : (c.loops == (fn.params.toList ++ s.plain.varTypes P).any (P.loopsFrom ·)) = true) (h18 : (c.wideKeys == (fn.params.toList ++ s.plain.varTypes P ++ fn.resultTypes.toList).any (P.wideKeysFrom ·)) = true)
    (h19 : s.vars.all (P.varReadable ·) = true) (h20 : fn.resultTypes.all (fun t => P.readableRec t && decide (t < P.types.size)) = true) (h21 : (c.ifacesOut == fn.resultTypes.toList.any (P.ifacesRec ·)) = true) (h22 : (c.loopsOut == fn.resultTypes.toList.any (P.loopsFrom ·)) = true)
    (h23 : (c.plainKeys == P.plainKeys) = true) (h24 : c.shortTexts.isNone = true) (h25 : P.stopsHeard = true) (h26 : P.mayEnter = true) (h27 : (c.lifted == P.liftsFinal) = true) (h28 : (P.make == some c.make) = true)
    (h29 : (c.kinds == (if c.domain.isEmpty then [] else fn.params.toList.map fun t => match P.underlying t with | some (.int k) => some k | _ => none)) = true) (h30 : (c.pinned == c.pinnedBy) = true)
    (h31 : (c.veiled == (fn.params.toList ++ s.plain.varTypes P ++ fn.resultTypes.toList).any (P.veiledRec ·)) = true) (h32 : c.veiledFits P fn.params.toList (fn.params.toList ++ s.plain.varTypes P ++ fn.resultTypes.toList) = true) : joinedFacts P f fn s c = true := by
  unfold joinedFacts
  simp only [Bool.and_eq_true]
  exact ⟨⟨⟨⟨⟨⟨⟨⟨⟨⟨⟨⟨⟨⟨⟨⟨⟨⟨⟨⟨⟨⟨⟨⟨⟨⟨⟨⟨⟨⟨⟨h1, h2⟩, h3⟩, h4⟩, h5⟩, h6⟩, h7⟩, h8⟩, h9⟩, h10⟩, h11⟩, h12⟩, h13⟩, h14⟩, h15⟩, h16⟩, h17⟩, h18⟩, h19⟩, h20⟩, h21⟩, h22⟩, h23⟩, h24⟩, h25⟩, h26⟩, h27⟩, h28⟩, h29⟩, h30⟩, h31⟩, h32⟩
theorem far2 : laidOutB Tryz.prog = true := by kernel_rfl
theorem far3 : mapsRowed Tryz.prog = true := by kernel_rfl
theorem far7 : (Tryz.prog.stops == []) = true := by kernel_rfl
theorem far9 : (Tryz.prog.stopKnobs == []) = true := by kernel_rfl
theorem far23 : (false == Tryz.prog.plainKeys) = true := by kernel_rfl
theorem far25 : Tryz.prog.stopsHeard = true := by kernel_rfl
theorem headA : (behindMainWord (wordsSigns Tryz.prog.initOrder.toList)).head? = some "cut".toList := by kernel_rfl
theorem layA : Tryz.prog.laysLater = false := by kernel_rfl
theorem refA : Tryz.prog.bearsReflect = false := by kernel_rfl
theorem doorA : Tryz.prog.doorFits [] = true := by kernel_rfl
theorem stripA (rest : List (List Char)) : stripLifts liftWords ("cut".toList :: rest) = ([], "cut".toList :: rest) := by kernel_rfl
theorem restA : ∃ rest, behindMainWord (wordsSigns Tryz.prog.initOrder.toList) = "cut".toList :: rest := by
  have h := headA
  cases hb : behindMainWord (wordsSigns Tryz.prog.initOrder.toList) with
  | nil => rw [hb] at h; cases h
  | cons w ws => rw [hb] at h; cases h; exact ⟨ws, rfl⟩
theorem far26 : Tryz.prog.mayEnter = true := by
  obtain ⟨rest, h⟩ := restA
  unfold Program.mayEnter
  rw [h]
  simp only [stripA, layA, refA, doorA]
  simp
theorem far27 : (false == Tryz.prog.liftsFinal) = true := by
  obtain ⟨rest, h⟩ := restA
  have h2 : Tryz.prog.headLifts = [] := by
    unfold Program.headLifts
    rw [h, stripA]
    rfl
  unfold Program.liftsFinal
  rw [h2]
  simp only [h]
  rfl
theorem looksA : false = Tryz.prog.looks [] := by kernel_rfl
theorem mainA : Tryz.prog.mainIs = some (true, "833bf87128a6b6673126047520969a4cfc0140c257aee75694157105fa378312".toList) := by kernel_rfl
theorem ownA : ownKnob Tryz.prog.godebug = none := by kernel_rfl
end Go.Proofs.YtnljcdplcloedaaGreatDoor
