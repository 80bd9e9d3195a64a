/- The law FluxQuanta: for every input that its row admits (the listed package variables as the program's text lays them), the call returns true and every argument reads afterwards as before; tied to the program's text by its card. Only the axioms propext, Classical.choice and Quot.sound. -/
import Derived.Test.YtnljcdplcloedaaGreatDoorW5
import Derived.Test.YtnljcdplcloedaaGreatDoorF5
import Derived.WalkKit
import Derived.ProofKit
import Derived.OpenShut
import Derived.Deep.DeepHandedRow
import Derived.Lib.LaidTab
namespace Go.Proofs.YtnljcdplcloedaaGreatDoor.fluxQuanta
open Go Go.Tn Go.RowKit Go.ChangeShapes Go.WideShapes Go.ChangeAt
set_option linter.unusedVariables false
set_option linter.unusedSimpArgs false
set_option maxRecDepth 100000

theorem contract (H : Type) (enc : TypeId × Value → H) (W : World) (base : Nat) (args : Array Value) (ds gs : List (DataW H)) (before : List MemPlace)
    (hval : ∀ (j : Nat) t v, Tryz.f5.params[j]? = some t → args[j]? = some v → Value.okWide Tryz.prog W .any base t v)
    (hW : DataW.Whole enc Tryz.prog Tryz.f5.params.toList Rows.fluxQuantaSpec.vars false W args.toList ds gs before) (hL : laidMetH Tryz.prog Rows.fluxQuantaRow.laid W) :
    Calls Tryz.prog 5 args W fun e W' => ∃ v, e = .returned v ∧ Rows.fluxQuantaSpec.post enc Tryz.prog Tryz.f5 false true false false W args v W' := by
  have hW' := hW
  obtain ⟨p, q, hA0, hV, rfl, hfz, hnd⟩ := hW
  have hA : DataW.TrodAll enc Tryz.prog W 0 (fun _ => true) true Tryz.f5.params.toList args.toList ds p := hA0
  have hps : Tryz.f5.params = #[47] := by kernel_rfl
  rw [hps] at hA hval
  obtain ⟨v0, vs0, d0, ds0, p0, q0, ha0, rfl, rfl, h0, r0⟩ := trodAll_cons hA
  obtain ⟨rfl, rfl, rfl⟩ := trodAll_nil r0
  obtain rfl : args = #[v0] := by cases args; simp_all
  obtain ⟨f0, hf0⟩ := h0
  obtain ⟨a0, n0, m0, rfl⟩ := okWide_slice u47 (hval 0 47 v0 rfl rfl)
  obtain ⟨l, a, c, hl, hA5, hc, hm⟩ := dec_fours (cs := [.slice a0 n0 m0]) hf0
  simp only [List.cons.injEq, Value.slice.injEq, and_true] at hl
  obtain ⟨rfl, rfl, rfl⟩ := hl
  have hll : l.length < 9223372036854775808 := by unfold maxLen at hm; omega
  have hlaid : Laid W := laid_of hL
  have walk : Does Tryz.prog 5 [.slice a0 l.length m0] W fun v' W' => v' = .bool true ∧ Ext W W' := p5 l a0 m0 hll W ⟨hlaid, hA5⟩
  have walk2 : Calls Tryz.prog 5 ⟨[.slice a0 l.length m0]⟩ W fun e W' => ∃ v, e = .returned v ∧ (v = .bool true ∧ Ext W W') := by
    unfold Does at walk
    rw [callFunc_enter (fn := Tryz.f5) (by kernel_rfl) (by kernel_rfl)] at walk
    exact walk
  refine walk2.mono fun e W' ⟨v, he, hv, hE⟩ => ?_
  subst hv
  exact ⟨_, he, post_true rfl (by kernel_rfl) (by rw [hps]; intro t ht; simp only [List.mem_cons, List.not_mem_nil, or_false] at ht; (first | (rcases ht with rfl <;> exact ⟨by kernel_rfl, of_decide_eq_true (by kernel_rfl)⟩))) (fun ds hd => by
    rw [hps] at hd
    match ds, hd with
    | [e0], _ => rfl) hW' hE⟩
def lay : Obj → Obj
  | .cells _ t frozen => .cells ⟨framesV⟩ t frozen
  | o => o
/-- a world for the witness -/
noncomputable def laidWorld (os : Os) : World :=
  { World.holding Tryz.prog os ⟨#[], #[], []⟩ with heap := ((World.holding Tryz.prog os ⟨#[], #[], []⟩).heap.modify 0 lay).modify 2 lay }
def wit : Array Value := #[.slice none 0 0]
theorem laid_met (os : Os) : laidMet Tryz.prog Rows.fluxQuantaRow.laid ((laidWorld os).forCall (fun _ _ => 0) ⟨#[], wit, []⟩).memory :=
  laidMet_of_run' 8 (by kernel_rfl) (by kernel_rfl)
theorem reads (os : Os) {H : Type} (enc : TypeId × Value → H) : ∃ x places, DataW.whole enc Tryz.prog ((laidWorld os).forCall (fun _ _ => 0) ⟨#[], wit, []⟩).memory Tryz.f5.params.toList Rows.fluxQuantaSpec.vars false wit.toList 8 = some (x, [], places) :=
  ⟨[.nil], [], by kernel_rfl⟩
set_option maxRecDepth 100000 in
theorem lifted (os : Os) (started : os.Started) (H : Type) (enc : TypeId × Value → H) (F : Stop.Interp) :
    ReturnsInHanded {} Tryz.checked os 5 .any ((OpenSpec.ofChange Rows.fluxQuantaSpec).preRow enc Tryz.prog Tryz.f5 Rows.fluxQuantaRow.domain false Rows.fluxQuantaRow.laid) (((OpenSpec.ofChange Rows.fluxQuantaSpec).at F).post enc Tryz.prog Tryz.f5 false true false false) := by
  obtain ⟨x, places, hx⟩ := reads os enc
  refine returnsInHanded_of_row (C := Tryz.checked) (s := OpenSpec.ofChange Rows.fluxQuantaSpec) ownA started (by kernel_rfl) Tryz.func5
    (witness_row_at (enc := enc) (C := Tryz.checked) false (laidWorld os) wit rfl (by kernel_rfl) (by kernel_rfl) (by kernel_rfl)
      (OpenSpec.preRow_of_cond 8 hx (by kernel_rfl) (fun k hk => by cases hk) (by kernel_rfl) (laid_met os))) ?_
  intro W base args ds gs before hval hW _ _ _ hL _ _
  exact contract H enc W base args ds gs before hval hW hL
theorem said : Rows.FluxQuantaSaid :=
  OpenClaim.holds_of_cond 5 Tryz.f5 rfl rfl rfl rfl rfl rfl rfl ⟨rfl, rfl, rfl, rfl, rfl⟩ rfl rfl rfl rfl rfl named Tryz.func5 closed
    (of_decide_eq_true (by kernel_rfl)) (by unfold Func.isWrapper; first | (rw [if_pos (by decide +kernel)]; kernel_rfl) | (rw [if_neg (by decide +kernel)]; exact ⟨rfl, rfl⟩))
    (fun os started H enc _ F => by rw [OpenClaim.pre_eq_preRow]; exact lifted os started H enc F)
theorem plain (f : FuncId) (fn : Func) (hf : Tryz.pinned.checked.prog.funcNamed "tarn/tarnlaw13.FluxQuanta" = some f) (hfn : Tryz.pinned.checked.prog.funcs[f]? = some fn) :
    false = Tryz.pinned.checked.prog.looks [] ∧ ∀ (j : Nat) t, fn.params[j]? = some t → Tryz.pinned.checked.prog.wantsStandIn t = false := by
  obtain rfl : f = 5 := Option.some.inj ((show Tryz.prog.funcNamed "tarn/tarnlaw13.FluxQuanta" = some 5 from named).symm.trans hf) |>.symm
  obtain rfl : fn = Tryz.f5 := (Option.some.inj (Tryz.func5.symm.trans hfn)).symm
  refine ⟨looksA, fun j t ht => ?_⟩
  have hps : Tryz.f5.params = #[47] := by kernel_rfl
  rw [hps] at ht
  have hm := Array.mem_of_getElem? ht
  simp only [List.mem_toArray, List.mem_cons, List.not_mem_nil, or_false] at hm
  rcases hm with rfl
  · exact (show Tryz.prog.wantsStandIn 47 = false by kernel_rfl)
theorem card : Rows.FluxQuantaCardSaid :=
  Claim7.holds_tied_plain_at .later [] _ _ _ _ said (fun _ h => by cases h) wfT (fun _ h => by cases h) fluxQuanta_row_tie rfl ⟨rfl, rfl⟩ mainA rfl plain goes
end Go.Proofs.YtnljcdplcloedaaGreatDoor.fluxQuanta
