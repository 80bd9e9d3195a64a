/- The law FluxKeeps: for every input that its row admits (the listed package variables as the program's text lays them), the call returns true and every argument reads afterwards as before; tied to the program's text by its card. Only the axioms propext, Classical.choice and Quot.sound. -/
import Derived.Test.YtnljcdplcloedaaGreatDoorW10
import Derived.Test.YtnljcdplcloedaaGreatDoorArg
import Derived.Test.YtnljcdplcloedaaGreatDoorF10
import Derived.WalkKit
import Derived.ProofKit
import Derived.OpenShut
import Derived.Deep.DeepHandedRow
import Derived.Lib.LaidTab
namespace Go.Proofs.YtnljcdplcloedaaGreatDoor.fluxKeeps
open Go Go.Tn Go.RowKit Go.ChangeShapes Go.WideShapes Go.ChangeAt
set_option linter.unusedVariables false
set_option linter.unusedSimpArgs false
set_option maxRecDepth 100000

theorem contract (H : Type) (enc : TypeId × Value → H) (W : World) (base : Nat) (args : Array Value) (ds gs : List (DataW H)) (before : List MemPlace)
    (hval : ∀ (j : Nat) t v, Tryz.f10.params[j]? = some t → args[j]? = some v → Value.okWide Tryz.prog W .any base t v)
    (hW : DataW.Whole enc Tryz.prog Tryz.f10.params.toList Rows.fluxKeepsSpec.vars false W args.toList ds gs before) (hL : laidMetH Tryz.prog Rows.fluxKeepsRow.laid W) :
    Calls Tryz.prog 10 args W fun e W' => ∃ v, e = .returned v ∧ Rows.fluxKeepsSpec.post enc Tryz.prog Tryz.f10 false true false false W args v W' := by
  have hW' := hW
  obtain ⟨p, q, hA0, hV, rfl, hfz, hnd⟩ := hW
  have hA : DataW.TrodAll enc Tryz.prog W 0 (fun _ => true) true Tryz.f10.params.toList args.toList ds p := hA0
  have hps : Tryz.f10.params = #[3, 54, 25] := by kernel_rfl
  rw [hps] at hA hval
  obtain ⟨v0, vs0, d0, ds0, p0, q0, ha0, rfl, rfl, h0, r0⟩ := trodAll_cons hA
  obtain ⟨v1, vs1, d1, ds1, p1, q1, ha1, rfl, rfl, h1, r1⟩ := trodAll_cons r0
  obtain ⟨v2, vs2, d2, ds2, p2, q2, ha2, rfl, rfl, h2, r2⟩ := trodAll_cons r1
  obtain ⟨rfl, rfl, rfl⟩ := trodAll_nil r2
  obtain rfl : args = #[v0, v1, v2] := by cases args; simp_all
  obtain ⟨cs1, rfl, hcs1⟩ := agg_of u54 (hval 1 54 v1 rfl rfl)
  obtain ⟨cs2, rfl, hcs2⟩ := agg_of u25 (hval 2 25 v2 rfl rfl)
  obtain ⟨side, rfl⟩ := okWide_int u3 (hval 0 3 v0 rfl rfl)
  obtain ⟨f1, hf1⟩ := h1
  obtain ⟨f2, hf2⟩ := h2
  rw [hcs1] at hf1
  rw [hcs2] at hf2
  obtain ⟨pl, rfl⟩ := dec_plan hf1
  obtain ⟨s, rfl, hSea, _⟩ := dec_sea hf2
  have hlaid : Laid W := laid_of hL
  have walk : Does Tryz.prog 10 [.int .i64 side, .agg ⟨pl.cells⟩, .agg ⟨s.cells⟩] W fun v' W' => v' = .bool true ∧ Ext W W' := p10 side pl s W ⟨hlaid, hSea⟩
  have walk2 : Calls Tryz.prog 10 ⟨[.int .i64 side, .agg ⟨pl.cells⟩, .agg ⟨s.cells⟩]⟩ W fun e W' => ∃ v, e = .returned v ∧ (v = .bool true ∧ Ext W W') := by
    unfold Does at walk
    rw [callFunc_enter (fn := Tryz.f10) (by kernel_rfl) (by kernel_rfl)] at walk
    exact walk
  refine walk2.mono fun e W' ⟨v, he, hv, hE⟩ => ?_
  subst hv
  exact ⟨_, he, post_true rfl (by kernel_rfl) (by rw [hps]; intro t ht; simp only [List.mem_cons, List.not_mem_nil, or_false] at ht; (first | (rcases ht with rfl | rfl | rfl <;> exact ⟨by kernel_rfl, of_decide_eq_true (by kernel_rfl)⟩))) (fun ds hd => by
    rw [hps] at hd
    match ds, hd with
    | [e0, e1, e2], _ => rfl) hW' hE⟩
def lay : Obj → Obj
  | .cells _ t frozen => .cells ⟨framesV⟩ t frozen
  | o => o
/-- a world for the witness -/
noncomputable def laidWorld (os : Os) : World :=
  { World.holding Tryz.prog os ⟨#[], #[], []⟩ with heap := ((World.holding Tryz.prog os ⟨#[], #[], []⟩).heap.modify 0 lay).modify 2 lay }
def wit : Array Value := #[.int .i64 0, .agg #[.int .i64 0, .float .f64 0, .float .f64 0, .float .f64 0, .int .i64 0, .bool false, .slice none 0 0], .agg #[.slice none 0 0, .slice none 0 0, .slice none 0 0, .slice none 0 0, .int .i64 0, .int .i64 0]]
theorem laid_met (os : Os) : laidMet Tryz.prog Rows.fluxKeepsRow.laid ((laidWorld os).forCall (fun _ _ => 0) ⟨#[], wit, []⟩).memory :=
  laidMet_of_run' 8 (by kernel_rfl) (by kernel_rfl)
theorem reads (os : Os) {H : Type} (enc : TypeId × Value → H) : ∃ x places, DataW.whole enc Tryz.prog ((laidWorld os).forCall (fun _ _ => 0) ⟨#[], wit, []⟩).memory Tryz.f10.params.toList Rows.fluxKeepsSpec.vars false wit.toList 8 = some (x, [], places) :=
  ⟨[.lit (.int .i64 0), .agg [.lit (.int .i64 0), .lit (.float .f64 0), .lit (.float .f64 0), .lit (.float .f64 0), .lit (.int .i64 0), .lit (.bool false), .nil], .agg [.nil, .nil, .nil, .nil, .lit (.int .i64 0), .lit (.int .i64 0)]], [], by kernel_rfl⟩
set_option maxRecDepth 100000 in
theorem lifted (os : Os) (started : os.Started) (H : Type) (enc : TypeId × Value → H) (F : Stop.Interp) :
    ReturnsInHanded {} Tryz.checked os 10 .any ((OpenSpec.ofChange Rows.fluxKeepsSpec).preRow enc Tryz.prog Tryz.f10 Rows.fluxKeepsRow.domain false Rows.fluxKeepsRow.laid) (((OpenSpec.ofChange Rows.fluxKeepsSpec).at F).post enc Tryz.prog Tryz.f10 false true false false) := by
  obtain ⟨x, places, hx⟩ := reads os enc
  refine returnsInHanded_of_row (C := Tryz.checked) (s := OpenSpec.ofChange Rows.fluxKeepsSpec) ownA started (by kernel_rfl) Tryz.func10
    (witness_row_at (enc := enc) (C := Tryz.checked) false (laidWorld os) wit rfl (by kernel_rfl) (by kernel_rfl) (by kernel_rfl)
      (OpenSpec.preRow_of_cond 8 hx (by kernel_rfl) (fun k hk => by cases hk) (by kernel_rfl) (laid_met os))) ?_
  intro W base args ds gs before hval hW _ _ _ hL _ _
  exact contract H enc W base args ds gs before hval hW hL
theorem said : Rows.FluxKeepsSaid :=
  OpenClaim.holds_of_cond 10 Tryz.f10 rfl rfl rfl rfl rfl rfl rfl ⟨rfl, rfl, rfl, rfl, rfl⟩ rfl rfl rfl rfl rfl named Tryz.func10 closed
    (of_decide_eq_true (by kernel_rfl)) (by unfold Func.isWrapper; first | (rw [if_pos (by decide +kernel)]; kernel_rfl) | (rw [if_neg (by decide +kernel)]; exact ⟨rfl, rfl⟩))
    (fun os started H enc _ F => by rw [OpenClaim.pre_eq_preRow]; exact lifted os started H enc F)
theorem plain (f : FuncId) (fn : Func) (hf : Tryz.pinned.checked.prog.funcNamed "tarn/tarnlaw13.FluxKeeps" = some f) (hfn : Tryz.pinned.checked.prog.funcs[f]? = some fn) :
    false = Tryz.pinned.checked.prog.looks [] ∧ ∀ (j : Nat) t, fn.params[j]? = some t → Tryz.pinned.checked.prog.wantsStandIn t = false := by
  obtain rfl : f = 10 := Option.some.inj ((show Tryz.prog.funcNamed "tarn/tarnlaw13.FluxKeeps" = some 10 from named).symm.trans hf) |>.symm
  obtain rfl : fn = Tryz.f10 := (Option.some.inj (Tryz.func10.symm.trans hfn)).symm
  refine ⟨looksA, fun j t ht => ?_⟩
  have hps : Tryz.f10.params = #[3, 54, 25] := by kernel_rfl
  rw [hps] at ht
  have hm := Array.mem_of_getElem? ht
  simp only [List.mem_toArray, List.mem_cons, List.not_mem_nil, or_false] at hm
  rcases hm with rfl | rfl | rfl
  · exact (show Tryz.prog.wantsStandIn 3 = false by kernel_rfl)
  · exact (show Tryz.prog.wantsStandIn 54 = false by kernel_rfl)
  · exact (show Tryz.prog.wantsStandIn 25 = false by kernel_rfl)
theorem card : Rows.FluxKeepsCardSaid :=
  Claim7.holds_tied_plain_at .later [] _ _ _ _ said (fun _ h => by cases h) wfT (fun _ h => by cases h) fluxKeeps_row_tie rfl ⟨rfl, rfl⟩ mainA rfl plain goes
end Go.Proofs.YtnljcdplcloedaaGreatDoor.fluxKeeps
