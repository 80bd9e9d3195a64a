/- Walk of the law FluxStill: the call returns true and writes no block that it did not make, for every argument that the row admits. -/
import Derived.Test.YtnljcdplcloedaaGreatDoorSea
import Derived.Test.YtnljcdplcloedaaGreatDoorSign
import Derived.Test.YtnljcdplcloedaaGreatDoorMark
section
namespace Go.Proofs.YtnljcdplcloedaaGreatDoor
open Go Go.Tn Go.RowKit
set_option linter.unusedVariables false
set_option linter.unusedSimpArgs false
set_option maxRecDepth 100000
theorem sqrt_ng {x r : Nat} (h : f64.sqrt x = some r) : ng r = false ∨ mg r = 0 := by
  unfold Ieee.Format.sqrt at h
  cases hx : f64.read x with
  | nan s t => rw [hx] at h; cases h
  | infinity s =>
    rw [hx] at h
    unfold Ieee.Datum.root at h
    cases s
    · simp only [Bool.false_eq_true, if_false, Option.map_some, Option.some.injEq, Ieee.Format.write, pinf64] at h
      rw [← h]; exact .inl (ng_word (by decide))
    · cases h
  | number s m i =>
    rw [hx] at h
    unfold Ieee.Datum.root at h
    by_cases hm : m = 0
    · subst hm
      simp only [if_true, Option.map_some, Option.some.injEq, Ieee.Format.write, nearest_rung, rung_zero] at h
      rw [← h]; exact .inr (mg_word (by decide))
    · simp only [hm, if_false] at h
      cases s
      · simp only [Bool.false_eq_true, if_false, Option.map_some, Option.some.injEq, Ieee.Format.write, nearest_rung] at h
        rw [← h]
        exact .inl (ng_word (Nat.lt_of_le_of_lt (rung_le _ _) (by decide)))
      · simp at h
theorem order_zero {x : Nat} (h : mg x = 0) : (f64.order x 0 == some .eq) = true := by
  rw [order_sv (by rw [h]; decide) (by decide)]
  have : sv x = 0 := by unfold sv; rw [h, rv_zero]; split <;> rfl
  rw [this, sv0]; rfl
theorem ng199 : ng s199 = false := by kernel_rfl
theorem canon_ng {x : Nat} (h : ng x = false ∨ mg x = 0 ∨ infR < mg x) : ng (s146 x) = false := by
  unfold s146
  cases h1 : (f64.order x x != some .eq) with
  | true => rw [cond_true]; exact ng199
  | false =>
    rw [cond_false]
    cases h2 : (f64.order x 0 == some .eq) with
    | true => rw [cond_true]; decide
    | false =>
      rw [cond_false]
      rcases h with h | h | h
      · exact h
      · rw [order_zero h] at h2; cases h2
      · have := notnan h1; omega
theorem s236_ng (a b c : Nat) : ng (s236 a b c) = false := by
  unfold s236 s271
  apply canon_ng
  generalize s272 _ _ _ = x
  cases h : f64.sqrt x with
  | none => exact .inr (.inr mg_quiet)
  | some r =>
    rcases sqrt_ng h with h | h
    · exact .inl h
    · exact .inr (.inl h)
theorem ng0 : ng 0 = false := by decide
theorem s99_ng (n c o : Int) : ng (s99 n c o) = false := by
  unfold s99
  cases (!(s120 n c).2.2.2) with
  | true => exact ng0
  | false =>
    rw [cond_false]
    cases decide (o < 0) with
    | true => exact ng0
    | false =>
      rw [cond_false]
      cases decide (o > 3) with
      | true => exact ng0
      | false => rw [cond_false]; exact s236_ng _ _ _
theorem len_ng (n e : Int) : ng ((netOf n).len e) = false := by
  have key : ∀ i, ng ((netOf n).L.getD i 0) = false := by
    intro i
    show ng (((eAll n (cellsN n)).1.map (lOf n)).getD i 0) = false
    rw [List.getD_eq_getElem?_getD, List.getElem?_map]
    cases (eAll n (cellsN n)).1[i]? with
    | none => exact ng0
    | some x => exact s99_ng _ _ _
  unfold Net.len
  cases (netOf n).is e with
  | false => exact ng0
  | true => rw [cond_true]; exact key _
theorem core49_ng (g : Net) (bed : List Nat) (water : List Int) (lim up down back : Int) : ng (core49 g bed water lim up down back) = false := by
  unfold core49
  simp only
  generalize s118 _ _ = r
  cases h : (f64.order r 0 == some .gt) with
  | true => rw [cond_true]; exact (gt0 h).2.2
  | false => exact ng0
theorem s49_ng (g : Net) (bed : List Nat) (water : List Int) (lim e : Int) (u : Nat) : ng (s49 g bed water lim e u) = false := by
  unfold s49
  cases (!(g.is e)) with
  | true => exact ng0
  | false =>
    rw [cond_false]
    cases ((bed.length : Int) != (g.A.length : Int)) with
    | true => exact ng0
    | false =>
      rw [cond_false]
      cases ((water.length : Int) != (g.A.length : Int)) with
      | true => exact ng0
      | false =>
        rw [cond_false]
        cases (f64.order u 0 == some .gt) with
        | true => rw [cond_true]; exact core49_ng _ _ _ _ _ _ _
        | false =>
          rw [cond_false]
          cases (f64.order u 0 == some .lt) with
          | true => rw [cond_true]; exact core49_ng _ _ _ _ _ _ _
          | false => exact ng0
theorem eq0 {x : Nat} (h : (f64.order x 0 == some .eq) = true) : mg x = 0 := by
  by_cases hx : mg x ≤ infR
  · rw [order_sv hx (by decide), sv0] at h
    have h := eq_of_beq h
    simp only [Option.some.injEq] at h
    have h := Int.compare_eq_eq.1 h
    have h2 : rv (mg x) = 0 := by unfold sv at h; split at h <;> omega
    exact rv_inj (h2.trans rv_zero.symm)
  · rw [order_nan (.inl (by omega))] at h; cases h
theorem pf_unit_ng : ng unitF = false := pf_unit.2.2
theorem sgn_pos {u d l t : Nat} (hu : ng u = false) (hd : ng d = false) (hl : ng l = false) (ht : ng t = false) : 0 ≤ s41 u d l t := by
  rw [s41_eq]; exact sg_pos (sg_mul (sg_mul (sg_mul (sg_mul (.inl hu) hd) hl) ht) pf_unit_ng)
theorem sgn_neg {u d l t : Nat} (hu : ng u = true) (hd : ng d = false) (hl : ng l = false) (ht : ng t = false) : s41 u d l t ≤ 0 := by
  rw [s41_eq]; exact sg_neg (sg_mul (sg_mul (sg_mul (sg_mul (.inl hu) hd) hl) ht) pf_unit_ng)
theorem sgn_zero {u d l t : Nat} (hu : mg u = 0) : s41 u d l t = 0 := by
  rw [s41_eq]; exact zn_cK (zn_mul (.inl (zn_mul (.inl (zn_mul (.inl (zn_mul (.inl (.inl hu)))))))))
end Go.Proofs.YtnljcdplcloedaaGreatDoor
end
section
namespace Go.Proofs.YtnljcdplcloedaaGreatDoor
open Go Go.Tn Go.RowKit
set_option linter.unusedVariables false
set_option linter.unusedSimpArgs false
set_option maxRecDepth 100000
set_option maxHeartbeats 2000000

theorem has_set {r : List Value} {L : List Nat} {k x : Nat} {rest : List Value} (h : Has r (fCells L ++ rest)) (hk : k < L.length) : Has (r.set k (.float .f64 x)) (fCells (L.set k x) ++ rest) := by
  intro j w hj
  have hkr : k < r.length := by
    have := h k _ (by rw [List.getElem?_append_left (by rw [fCells_len]; exact hk)]; exact fCells_get (getD_some (d := 0) hk))
    exact (List.getElem?_eq_some_iff.1 this).1
  by_cases e : k = j
  · subst e
    rw [List.getElem?_append_left (by rw [fCells_len, List.length_set]; exact hk), fCells_get (List.getElem?_set_self hk)] at hj
    rw [List.getElem?_set_self hkr]; exact hj
  · rw [List.getElem?_set_ne e]
    refine h j w ?_
    rw [← hj]
    by_cases hl : j < L.length
    · rw [List.getElem?_append_left (by rw [fCells_len]; exact hl), List.getElem?_append_left (by rw [fCells_len, List.length_set]; exact hl)]
      simp only [fCells, List.getElem?_map]
      rw [List.getElem?_set_ne e]
    · rw [List.getElem?_append_right (by rw [fCells_len]; omega), List.getElem?_append_right (by rw [fCells_len, List.length_set]; omega), fCells_len, fCells_len, List.length_set]
theorem has_len {r : List Value} {L : List Nat} {rest : List Value} (h : Has r (fCells L ++ rest)) {k : Nat} (hk : k < L.length) : k < r.length := by
  have := h k _ (by rw [List.getElem?_append_left (by rw [fCells_len]; exact hk)]; exact fCells_get (getD_some (d := 0) hk))
  exact (List.getElem?_eq_some_iff.1 this).1
theorem has_arr {w0 W : World} {mt : List Nat} {l : List (Nat × Obj)} (hS : Sep w0 mt l W) {k : Nat} {r xs rest : List Value} {t : TypeId} (h : (k, .cells ⟨r⟩ t) ∈ l) (hr : Has r (xs ++ rest)) : Arr W (some ⟨k, 0, none⟩) xs :=
  arr_own hS h fun i v hv => by rw [Nat.zero_add]; exact hr i v (by rw [List.getElem?_append_left (List.getElem?_eq_some_iff.1 hv).1]; exact hv)
theorem mg52 : mg (s52 9223372036854775808) = 0 := by kernel_rfl
theorem s43_at {g : Net} {dt : Nat} {lim : Int} {bed : List Nat} {water : List Int} {speed : List Nat} {k : Nat} (h : k < g.E.length) : (s43 g dt lim bed water speed)[k]? = some (q43e g dt lim bed water speed k) := by
  rw [s43, List.getElem?_map, List.getElem?_range h]; rfl
theorem s46_le {s : SeaA} (h : s46 s.ba s.bed.length s.bc s.wa s.water.length s.wc s.ta s.tracer.length s.tc s.ua s.speed.length s.uc s.sky s.step = false) : s.bed.length ≤ 65536 ∧ s.water.length ≤ 65536 ∧ s.tracer.length ≤ 65536 ∧ s.speed.length ≤ 65536 := by
  unfold s46 at h
  by_cases h1 : s.bed.length ≤ 65536
  · rw [decide_eq_false (by omega), cond_false] at h
    by_cases h2 : s.water.length ≤ 65536
    · rw [decide_eq_false (by omega), cond_false] at h
      by_cases h3 : s.tracer.length ≤ 65536
      · rw [decide_eq_false (by omega), cond_false] at h
        have := of_decide_eq_false h
        exact ⟨h1, h2, h3, by omega⟩
      · rw [decide_eq_true (by omega)] at h; cases h
    · rw [decide_eq_true (by omega)] at h; cases h
  · rw [decide_eq_true (by omega)] at h; cases h

-- tarn/tarnlaw13.FluxStill
def loc9_0 (k4 : Nat) (p_0 : Int) (p_1 : Nat) (p_2 : Nat) (p_3 : Nat) (p_4 : Int) (p_5 : Bool) (p_6_a : Option Addr) (p_6_n : Nat) (p_6_c : Nat) (k5 : Nat) (s_0_a : Option Addr) (s_0_n : Nat) (s_0_c : Nat) (s_1_a : Option Addr) (s_1_n : Nat) (s_1_c : Nat) (s_2_a : Option Addr) (s_2_n : Nat) (s_2_c : Nat) (s_3_a : Option Addr) (s_3_n : Nat) (s_3_c : Nat) (s_4 : Int) (s_5 : Int) : Tn.Loc := [⟨k4, 54, [.int .i64 p_0, .float .f64 p_1, .float .f64 p_2, .float .f64 p_3, .int .i64 p_4, .bool p_5, .slice p_6_a p_6_n p_6_c], []⟩, ⟨k5, 25, [.slice s_0_a s_0_n s_0_c, .slice s_1_a s_1_n s_1_c, .slice s_2_a s_2_n s_2_c, .slice s_3_a s_3_n s_3_c, .int .i64 s_4, .int .i64 s_5], []⟩]
def loc9_1 (k4 : Nat) (p_0 : Int) (p_1 : Nat) (p_2 : Nat) (p_3 : Nat) (p_4 : Int) (p_5 : Bool) (p_6_a : Option Addr) (p_6_n : Nat) (p_6_c : Nat) (k5 : Nat) (s_0_a : Option Addr) (s_0_n : Nat) (s_0_c : Nat) (s_1_a : Option Addr) (s_1_n : Nat) (s_1_c : Nat) (s_2_a : Option Addr) (s_2_n : Nat) (s_2_c : Nat) (s_3_a : Option Addr) (s_3_n : Nat) (s_3_c : Nat) (s_4 : Int) (s_5 : Int) (k10 : Nat) (a44_0 : Option Addr) (l44_0 : Nat) (c44_0 : Nat) (a44_1 : Option Addr) (l44_1 : Nat) (c44_1 : Nat) (a44_2 : Option Addr) (l44_2 : Nat) (c44_2 : Nat) (a44_3 : Option Addr) (l44_3 : Nat) (c44_3 : Nat) (n44_4 : Int) (n44_5 : Int) : Tn.Loc := [⟨k4, 54, [.int .i64 p_0, .float .f64 p_1, .float .f64 p_2, .float .f64 p_3, .int .i64 p_4, .bool p_5, .slice p_6_a p_6_n p_6_c], []⟩, ⟨k5, 25, [.slice s_0_a s_0_n s_0_c, .slice s_1_a s_1_n s_1_c, .slice s_2_a s_2_n s_2_c, .slice s_3_a s_3_n s_3_c, .int .i64 s_4, .int .i64 s_5], []⟩, ⟨k10, 25, [.slice a44_0 l44_0 c44_0, .slice a44_1 l44_1 c44_1, .slice a44_2 l44_2 c44_2, .slice a44_3 l44_3 c44_3, .int .i64 n44_4, .int .i64 n44_5], []⟩]
def an9 : Ann := (.seq .leaf (.seq (.seq .leaf (.cond (.seq .leaf .leaf) .leaf)) (.seq .leaf (.seq (.seq .leaf (.cond (.seq .leaf .leaf) .leaf)) (.seq .leaf (.seq (.seq .leaf (.cond (.seq .leaf .leaf) .leaf)) (.seq .leaf (.cut [] [] (.seq .leaf (.block (.loop [(11, .one (.int .i64))] [] (.seq (.seq .leaf (.cond .leaf .leaf)) (.seq (.block (.seq .leaf (.cut [] [] (.seq .leaf (.cond (.seq .leaf .leaf) .leaf)) (.seq .leaf (.seq .leaf (.cond (.draw [0, 1, 2, 3, 4, 5]) .leaf)))))) .leaf))))) (.seq .leaf (.seq (.seq .leaf (.block (.loop [(14, .one (.int .i64))] [] (.seq (.seq .leaf (.cond .leaf .leaf)) (.seq (.block (.seq .leaf (.cond (.seq .leaf .leaf) .leaf))) .leaf))))) (.seq .leaf .leaf)))))))))))
noncomputable def q9 (w0 : World) (side : Int) (p_0 : Int) (p_1 : Nat) (p_2 : Nat) (p_3 : Nat) (p_4 : Int) (p_5 : Bool) (p_6_a : Option Addr) (p_6_n : Nat) (p_6_c : Nat) (s_0_a : Option Addr) (s_0_n : Nat) (s_0_c : Nat) (s_1_a : Option Addr) (s_1_n : Nat) (s_1_c : Nat) (s_2_a : Option Addr) (s_2_n : Nat) (s_2_c : Nat) (s_3_a : Option Addr) (s_3_n : Nat) (s_3_c : Nat) (s_4 : Int) (s_5 : Int) (R : Value → World → Prop) : Prop :=
  (∀ k4 : Nat, (∀ k5 : Nat, (∃ b15 : Bool, CallV (cx w0 [] []) (loc9_0 k4 p_0 p_1 p_2 p_3 p_4 p_5 p_6_a p_6_n p_6_c k5 s_0_a s_0_n s_0_c s_1_a s_1_n s_1_c s_2_a s_2_n s_2_c s_3_a s_3_n s_3_c s_4 s_5) [] 40 [] (.bool b15) ∧ (cond (!b15) (Fin (cx w0 [] []) R (.bool false) []) ((∃ Φ19 : Value → Own → Prop, CallG (cx w0 [] []) (loc9_0 k4 p_0 p_1 p_2 p_3 p_4 p_5 p_6_a p_6_n p_6_c k5 s_0_a s_0_n s_0_c s_1_a s_1_n s_1_c s_2_a s_2_n s_2_c s_3_a s_3_n s_3_c s_4 s_5) [] 30 [.int .i64 side] (.tup [.one .ptr, .one (.int .i64)]) Φ19 ∧ ∀ p19a : Option Addr, ∀ n19b : Int, ∀ own19 : Own, Φ19 (.tuple ⟨[.pointer p19a, .int .i64 n19b]⟩) own19 → (cond (n19b != (0 : Int)) (Fin (cx w0 [] []) R (.bool true) own19) ((∃ b26 : Bool, CallV (cx w0 [] []) (loc9_0 k4 p_0 p_1 p_2 p_3 p_4 p_5 p_6_a p_6_n p_6_c k5 s_0_a s_0_n s_0_c s_1_a s_1_n s_1_c s_2_a s_2_n s_2_c s_3_a s_3_n s_3_c s_4 s_5) own19 46 [.agg ⟨[.slice s_0_a s_0_n s_0_c, .slice s_1_a s_1_n s_1_c, .slice s_2_a s_2_n s_2_c, .slice s_3_a s_3_n s_3_c, .int .i64 s_4, .int .i64 s_5]⟩] (.bool b26) ∧ (cond b26 (Fin (cx w0 [] []) R (.bool true) own19) ((∃ Φ32 : Value → Own → Prop, CallG (cx w0 [] []) (loc9_0 k4 p_0 p_1 p_2 p_3 p_4 p_5 p_6_a p_6_n p_6_c k5 s_0_a s_0_n s_0_c s_1_a s_1_n s_1_c s_2_a s_2_n s_2_c s_3_a s_3_n s_3_c s_4 s_5) own19 43 [.pointer p19a, .agg ⟨[.int .i64 p_0, .float .f64 p_1, .float .f64 p_2, .float .f64 p_3, .int .i64 p_4, .bool p_5, .slice p_6_a p_6_n p_6_c]⟩, .agg ⟨[.slice s_0_a s_0_n s_0_c, .slice s_1_a s_1_n s_1_c, .slice s_2_a s_2_n s_2_c, .slice s_3_a s_3_n s_3_c, .int .i64 s_4, .int .i64 s_5]⟩] (.tup [.one .slice, .one (.int .i64)]) Φ32 ∧ ∀ a32a : Option Addr, ∀ l32a : Nat, ∀ c32a : Nat, ∀ n32b : Int, ∀ own32 : Own, Φ32 (.tuple ⟨[.slice a32a l32a c32a, .int .i64 n32b]⟩) own32 → (cond (n32b != (0 : Int)) (Fin (cx w0 [] []) R (.bool true) own32) ((cond (!(f64.order p_1 0 == some .gt)) (Fin (cx w0 [] []) R (.bool true) own32) ((∃ Φ44 : Value → Own → Prop, CallG (cx w0 [] []) (loc9_0 k4 p_0 p_1 p_2 p_3 p_4 p_5 p_6_a p_6_n p_6_c k5 s_0_a s_0_n s_0_c s_1_a s_1_n s_1_c s_2_a s_2_n s_2_c s_3_a s_3_n s_3_c s_4 s_5) own32 51 [.agg ⟨[.slice s_0_a s_0_n s_0_c, .slice s_1_a s_1_n s_1_c, .slice s_2_a s_2_n s_2_c, .slice s_3_a s_3_n s_3_c, .int .i64 s_4, .int .i64 s_5]⟩] (.val (.agg [.slice, .slice, .slice, .slice, .int .i64, .int .i64])) Φ44 ∧ ∀ a44_0 : Option Addr, ∀ l44_0 : Nat, ∀ c44_0 : Nat, ∀ a44_1 : Option Addr, ∀ l44_1 : Nat, ∀ c44_1 : Nat, ∀ a44_2 : Option Addr, ∀ l44_2 : Nat, ∀ c44_2 : Nat, ∀ a44_3 : Option Addr, ∀ l44_3 : Nat, ∀ c44_3 : Nat, ∀ n44_4 : Int, ∀ n44_5 : Int, ∀ own44 : Own, Φ44 (.agg ⟨[.slice a44_0 l44_0 c44_0, .slice a44_1 l44_1 c44_1, .slice a44_2 l44_2 c44_2, .slice a44_3 l44_3 c44_3, .int .i64 n44_4, .int .i64 n44_5]⟩) own44 → (∀ k10 : Nat, (∃ Jc0 : Own → Prop, ((∃ (I11 : Int → Own → Prop) (μ11 : Int → Own → Nat), I11 (0 : Int) own44 ∧ ∀ n11 : Int, ∀ own11 : Own, I11 n11 own11 → (cond (decide (n11 < ((l32a : Nat) : Int))) ((cond (decide (n11 < ((s_3_n : Nat) : Int))) ((∃ ad61 : Addr, s_3_a = some ad61 ∧ (0 ≤ n11 ∧ n11 < ((s_3_n : Nat) : Int)) ∧ (∃ x62 : Nat, LoadsTo (cx w0 [] []) (loc9_1 k4 p_0 p_1 p_2 p_3 p_4 p_5 p_6_a p_6_n p_6_c k5 s_0_a s_0_n s_0_c s_1_a s_1_n s_1_c s_2_a s_2_n s_2_c s_3_a s_3_n s_3_c s_4 s_5 k10 a44_0 l44_0 c44_0 a44_1 l44_1 c44_1 a44_2 l44_2 c44_2 a44_3 l44_3 c44_3 n44_4 n44_5) own11 44 (Addr.add ad61 (Int.toNat n11 * 1)) (.float .f64 x62) ∧ (∃ Jc2 : Own → Prop, ((cond (f64.order x62 0 == some .gt) ((∃ ad68 : Addr, a32a = some ad68 ∧ (0 ≤ n11 ∧ n11 < ((l32a : Nat) : Int)) ∧ (∃ n69 : Int, LoadsTo (cx w0 [] []) (loc9_1 k4 p_0 p_1 p_2 p_3 p_4 p_5 p_6_a p_6_n p_6_c k5 s_0_a s_0_n s_0_c s_1_a s_1_n s_1_c s_2_a s_2_n s_2_c s_3_a s_3_n s_3_c s_4 s_5 k10 a44_0 l44_0 c44_0 a44_1 l44_1 c44_1 a44_2 l44_2 c44_2 a44_3 l44_3 c44_3 n44_4 n44_5) own11 2 (Addr.add ad68 (Int.toNat n11 * 1)) (.int .i64 n69) ∧ (cond (decide (n69 < (0 : Int))) (Fin (cx w0 [] []) R (.bool false) own11) ((cond (f64.order x62 0 == some .lt) ((∃ ad78 : Addr, a32a = some ad78 ∧ (0 ≤ n11 ∧ n11 < ((l32a : Nat) : Int)) ∧ (∃ n79 : Int, LoadsTo (cx w0 [] []) (loc9_1 k4 p_0 p_1 p_2 p_3 p_4 p_5 p_6_a p_6_n p_6_c k5 s_0_a s_0_n s_0_c s_1_a s_1_n s_1_c s_2_a s_2_n s_2_c s_3_a s_3_n s_3_c s_4 s_5 k10 a44_0 l44_0 c44_0 a44_1 l44_1 c44_1 a44_2 l44_2 c44_2 a44_3 l44_3 c44_3 n44_4 n44_5) own11 2 (Addr.add ad78 (Int.toNat n11 * 1)) (.int .i64 n79) ∧ (cond (decide (n79 > (0 : Int))) (Fin (cx w0 [] []) R (.bool false) own11) ((cond (f64.order x62 0 == some .eq) ((∃ ad89 : Addr, a32a = some ad89 ∧ (0 ≤ n11 ∧ n11 < ((l32a : Nat) : Int)) ∧ (∃ n90 : Int, LoadsTo (cx w0 [] []) (loc9_1 k4 p_0 p_1 p_2 p_3 p_4 p_5 p_6_a p_6_n p_6_c k5 s_0_a s_0_n s_0_c s_1_a s_1_n s_1_c s_2_a s_2_n s_2_c s_3_a s_3_n s_3_c s_4 s_5 k10 a44_0 l44_0 c44_0 a44_1 l44_1 c44_1 a44_2 l44_2 c44_2 a44_3 l44_3 c44_3 n44_4 n44_5) own11 2 (Addr.add ad89 (Int.toNat n11 * 1)) (.int .i64 n90) ∧ (cond (n90 != (0 : Int)) (Fin (cx w0 [] []) R (.bool false) own11) (Jc2  own11))))) (Jc2  own11))))))) ((cond (f64.order x62 0 == some .eq) ((∃ ad89 : Addr, a32a = some ad89 ∧ (0 ≤ n11 ∧ n11 < ((l32a : Nat) : Int)) ∧ (∃ n90 : Int, LoadsTo (cx w0 [] []) (loc9_1 k4 p_0 p_1 p_2 p_3 p_4 p_5 p_6_a p_6_n p_6_c k5 s_0_a s_0_n s_0_c s_1_a s_1_n s_1_c s_2_a s_2_n s_2_c s_3_a s_3_n s_3_c s_4 s_5 k10 a44_0 l44_0 c44_0 a44_1 l44_1 c44_1 a44_2 l44_2 c44_2 a44_3 l44_3 c44_3 n44_4 n44_5) own11 2 (Addr.add ad89 (Int.toNat n11 * 1)) (.int .i64 n90) ∧ (cond (n90 != (0 : Int)) (Fin (cx w0 [] []) R (.bool false) own11) (Jc2  own11))))) (Jc2  own11))))))))) ((cond (f64.order x62 0 == some .lt) ((∃ ad78 : Addr, a32a = some ad78 ∧ (0 ≤ n11 ∧ n11 < ((l32a : Nat) : Int)) ∧ (∃ n79 : Int, LoadsTo (cx w0 [] []) (loc9_1 k4 p_0 p_1 p_2 p_3 p_4 p_5 p_6_a p_6_n p_6_c k5 s_0_a s_0_n s_0_c s_1_a s_1_n s_1_c s_2_a s_2_n s_2_c s_3_a s_3_n s_3_c s_4 s_5 k10 a44_0 l44_0 c44_0 a44_1 l44_1 c44_1 a44_2 l44_2 c44_2 a44_3 l44_3 c44_3 n44_4 n44_5) own11 2 (Addr.add ad78 (Int.toNat n11 * 1)) (.int .i64 n79) ∧ (cond (decide (n79 > (0 : Int))) (Fin (cx w0 [] []) R (.bool false) own11) ((cond (f64.order x62 0 == some .eq) ((∃ ad89 : Addr, a32a = some ad89 ∧ (0 ≤ n11 ∧ n11 < ((l32a : Nat) : Int)) ∧ (∃ n90 : Int, LoadsTo (cx w0 [] []) (loc9_1 k4 p_0 p_1 p_2 p_3 p_4 p_5 p_6_a p_6_n p_6_c k5 s_0_a s_0_n s_0_c s_1_a s_1_n s_1_c s_2_a s_2_n s_2_c s_3_a s_3_n s_3_c s_4 s_5 k10 a44_0 l44_0 c44_0 a44_1 l44_1 c44_1 a44_2 l44_2 c44_2 a44_3 l44_3 c44_3 n44_4 n44_5) own11 2 (Addr.add ad89 (Int.toNat n11 * 1)) (.int .i64 n90) ∧ (cond (n90 != (0 : Int)) (Fin (cx w0 [] []) R (.bool false) own11) (Jc2  own11))))) (Jc2  own11))))))) ((cond (f64.order x62 0 == some .eq) ((∃ ad89 : Addr, a32a = some ad89 ∧ (0 ≤ n11 ∧ n11 < ((l32a : Nat) : Int)) ∧ (∃ n90 : Int, LoadsTo (cx w0 [] []) (loc9_1 k4 p_0 p_1 p_2 p_3 p_4 p_5 p_6_a p_6_n p_6_c k5 s_0_a s_0_n s_0_c s_1_a s_1_n s_1_c s_2_a s_2_n s_2_c s_3_a s_3_n s_3_c s_4 s_5 k10 a44_0 l44_0 c44_0 a44_1 l44_1 c44_1 a44_2 l44_2 c44_2 a44_3 l44_3 c44_3 n44_4 n44_5) own11 2 (Addr.add ad89 (Int.toNat n11 * 1)) (.int .i64 n90) ∧ (cond (n90 != (0 : Int)) (Fin (cx w0 [] []) R (.bool false) own11) (Jc2  own11))))) (Jc2  own11))))))) ∧ ∀ ownc2 : Own, Jc2  ownc2 → (∃ ad97 : Addr, a44_3 = some ad97 ∧ (0 ≤ n11 ∧ n11 < ((l44_3 : Nat) : Int)) ∧ (∃ own65 : Own, StoresTo (cx w0 [] []) (loc9_1 k4 p_0 p_1 p_2 p_3 p_4 p_5 p_6_a p_6_n p_6_c k5 s_0_a s_0_n s_0_c s_1_a s_1_n s_1_c s_2_a s_2_n s_2_c s_3_a s_3_n s_3_c s_4 s_5 k10 a44_0 l44_0 c44_0 a44_1 l44_1 c44_1 a44_2 l44_2 c44_2 a44_3 l44_3 c44_3 n44_4 n44_5) ownc2 44 (Addr.add ad97 (Int.toNat n11 * 1)) (.float .f64 0) own65 ∧ ((2 : Int) ≠ 0) ∧ (cond ((Int.tmod n11 (2 : Int)) == (0 : Int)) ((∃ x104 : Nat, CallV (cx w0 [] []) (loc9_1 k4 p_0 p_1 p_2 p_3 p_4 p_5 p_6_a p_6_n p_6_c k5 s_0_a s_0_n s_0_c s_1_a s_1_n s_1_c s_2_a s_2_n s_2_c s_3_a s_3_n s_3_c s_4 s_5 k10 a44_0 l44_0 c44_0 a44_1 l44_1 c44_1 a44_2 l44_2 c44_2 a44_3 l44_3 c44_3 n44_4 n44_5) own65 52 [.int .u64 (9223372036854775808 : Int)] (.float .f64 x104) ∧ (∃ ad105 : Addr, a44_3 = some ad105 ∧ (0 ≤ n11 ∧ n11 < ((l44_3 : Nat) : Int)) ∧ (∃ own68 : Own, StoresTo (cx w0 [] []) (loc9_1 k4 p_0 p_1 p_2 p_3 p_4 p_5 p_6_a p_6_n p_6_c k5 s_0_a s_0_n s_0_c s_1_a s_1_n s_1_c s_2_a s_2_n s_2_c s_3_a s_3_n s_3_c s_4 s_5 k10 a44_0 l44_0 c44_0 a44_1 l44_1 c44_1 a44_2 l44_2 c44_2 a44_3 l44_3 c44_3 n44_4 n44_5) own65 44 (Addr.add ad105 (Int.toNat n11 * 1)) (.float .f64 x104) own68 ∧ I11 (IntKind.wrap .i64 (n11 + (1 : Int))) own68 ∧ μ11 (IntKind.wrap .i64 (n11 + (1 : Int))) own68 < μ11 n11 own11)))) (I11 (IntKind.wrap .i64 (n11 + (1 : Int))) own65 ∧ μ11 (IntKind.wrap .i64 (n11 + (1 : Int))) own65 < μ11 n11 own11)))))))) (Jc0  own11))) (Jc0  own11)))) ∧ ∀ ownc0 : Own, Jc0  ownc0 → (∃ Φ110 : Value → Own → Prop, CallG (cx w0 [] []) (loc9_1 k4 p_0 p_1 p_2 p_3 p_4 p_5 p_6_a p_6_n p_6_c k5 s_0_a s_0_n s_0_c s_1_a s_1_n s_1_c s_2_a s_2_n s_2_c s_3_a s_3_n s_3_c s_4 s_5 k10 a44_0 l44_0 c44_0 a44_1 l44_1 c44_1 a44_2 l44_2 c44_2 a44_3 l44_3 c44_3 n44_4 n44_5) ownc0 43 [.pointer p19a, .agg ⟨[.int .i64 p_0, .float .f64 p_1, .float .f64 p_2, .float .f64 p_3, .int .i64 p_4, .bool p_5, .slice p_6_a p_6_n p_6_c]⟩, .agg ⟨[.slice a44_0 l44_0 c44_0, .slice a44_1 l44_1 c44_1, .slice a44_2 l44_2 c44_2, .slice a44_3 l44_3 c44_3, .int .i64 n44_4, .int .i64 n44_5]⟩] (.tup [.one .slice, .one (.int .i64)]) Φ110 ∧ ∀ a110a : Option Addr, ∀ l110a : Nat, ∀ c110a : Nat, ∀ n110b : Int, ∀ own110 : Own, Φ110 (.tuple ⟨[.slice a110a l110a c110a, .int .i64 n110b]⟩) own110 → (∃ (I14 : Int → Own → Prop) (μ14 : Int → Own → Nat), I14 (0 : Int) own110 ∧ ∀ n14 : Int, ∀ own14 : Own, I14 n14 own14 → (cond (decide (n14 < ((l110a : Nat) : Int))) ((∃ ad121 : Addr, a110a = some ad121 ∧ (0 ≤ n14 ∧ n14 < ((l110a : Nat) : Int)) ∧ (∃ n122 : Int, LoadsTo (cx w0 [] []) (loc9_1 k4 p_0 p_1 p_2 p_3 p_4 p_5 p_6_a p_6_n p_6_c k5 s_0_a s_0_n s_0_c s_1_a s_1_n s_1_c s_2_a s_2_n s_2_c s_3_a s_3_n s_3_c s_4 s_5 k10 a44_0 l44_0 c44_0 a44_1 l44_1 c44_1 a44_2 l44_2 c44_2 a44_3 l44_3 c44_3 n44_4 n44_5) own14 2 (Addr.add ad121 (Int.toNat n14 * 1)) (.int .i64 n122) ∧ (cond (n122 != (0 : Int)) (Fin (cx w0 [] []) R (.bool false) own14) (I14 (IntKind.wrap .i64 (n14 + (1 : Int))) own14 ∧ μ14 (IntKind.wrap .i64 (n14 + (1 : Int))) own14 < μ14 n14 own14))))) ((cond (n110b == (0 : Int)) (Fin (cx w0 [] []) R (.bool (((l110a : Nat) : Int) == ((l32a : Nat) : Int))) own14) (Fin (cx w0 [] []) R (.bool false) own14)))))))))))))))))))))))))
theorem q9_eq (w0 : World) (side : Int) (p_0 : Int) (p_1 : Nat) (p_2 : Nat) (p_3 : Nat) (p_4 : Int) (p_5 : Bool) (p_6_a : Option Addr) (p_6_n : Nat) (p_6_c : Nat) (s_0_a : Option Addr) (s_0_n : Nat) (s_0_c : Nat) (s_1_a : Option Addr) (s_1_n : Nat) (s_1_c : Nat) (s_2_a : Option Addr) (s_2_n : Nat) (s_2_c : Nat) (s_3_a : Option Addr) (s_3_n : Nat) (s_3_c : Nat) (s_4 : Int) (s_5 : Int) (R : Value → World → Prop) : funT (cx w0 [] []) Tryz.f9 an9 [.int .i64 side, .agg ⟨[.int .i64 p_0, .float .f64 p_1, .float .f64 p_2, .float .f64 p_3, .int .i64 p_4, .bool p_5, .slice p_6_a p_6_n p_6_c]⟩, .agg ⟨[.slice s_0_a s_0_n s_0_c, .slice s_1_a s_1_n s_1_c, .slice s_2_a s_2_n s_2_c, .slice s_3_a s_3_n s_3_c, .int .i64 s_4, .int .i64 s_5]⟩] [] R = q9 w0 side p_0 p_1 p_2 p_3 p_4 p_5 p_6_a p_6_n p_6_c s_0_a s_0_n s_0_c s_1_a s_1_n s_1_c s_2_a s_2_n s_2_c s_3_a s_3_n s_3_c s_4 s_5 R := by kernel_rfl
theorem d9 (W : World) (side : Int) (p_0 : Int) (p_1 : Nat) (p_2 : Nat) (p_3 : Nat) (p_4 : Int) (p_5 : Bool) (p_6_a : Option Addr) (p_6_n : Nat) (p_6_c : Nat) (s_0_a : Option Addr) (s_0_n : Nat) (s_0_c : Nat) (s_1_a : Option Addr) (s_1_n : Nat) (s_1_c : Nat) (s_2_a : Option Addr) (s_2_n : Nat) (s_2_c : Nat) (s_3_a : Option Addr) (s_3_n : Nat) (s_3_c : Nat) (s_4 : Int) (s_5 : Int) {R : Value → World → Prop} (h : q9 W side p_0 p_1 p_2 p_3 p_4 p_5 p_6_a p_6_n p_6_c s_0_a s_0_n s_0_c s_1_a s_1_n s_1_c s_2_a s_2_n s_2_c s_3_a s_3_n s_3_c s_4 s_5 R) : Does Tryz.prog 9 [.int .i64 side, .agg ⟨[.int .i64 p_0, .float .f64 p_1, .float .f64 p_2, .float .f64 p_3, .int .i64 p_4, .bool p_5, .slice p_6_a p_6_n p_6_c]⟩, .agg ⟨[.slice s_0_a s_0_n s_0_c, .slice s_1_a s_1_n s_1_c, .slice s_2_a s_2_n s_2_c, .slice s_3_a s_3_n s_3_c, .int .i64 s_4, .int .i64 s_5]⟩] W R :=
  does_of_T (fn := Tryz.f9) (x := an9) (dyn := []) (by kernel_rfl) (by kernel_rfl) (sep_self W) (Eq.mpr (q9_eq W side p_0 p_1 p_2 p_3 p_4 p_5 p_6_a p_6_n p_6_c s_0_a s_0_n s_0_c s_1_a s_1_n s_1_c s_2_a s_2_n s_2_c s_3_a s_3_n s_3_c s_4 s_5 R) h)

theorem p9 (side : Int) (pl : PlanA) (s : SeaA) : On (fun W => Laid W ∧ SeaAt W s) 9 [.int .i64 side, pl.v, s.v] (.bool true) := fun W ⟨hL, hSea⟩ =>
  d9 W side pl.side pl.dt pl.gravity pl.drag pl.lim pl.rivers pl.ra pl.rn pl.rc s.ba s.bed.length s.bc s.wa s.water.length s.wc s.ta s.tracer.length s.tc s.ua s.speed.length s.uc s.sky s.step fun k4 k5 => ⟨_, p40.callL hL, cond_split (fun h => absurd h (by decide)) fun _ => by
  have hlen := len_ng side
  have hok := fun h : Side side => netOf_ok h
  have h30 := p30 side
  generalize netOf side = g at *
  refine ⟨_, h30.newP.call (fun W' hS => hL.ext (Sep.ext0 hS)) (by rintro v X' (⟨_, kg, km, rfl, _⟩ | ⟨_, rfl, _⟩) <;> exact ⟨_, rfl, _, _, rfl, ⟨_, rfl⟩, _, _, rfl, ⟨_, rfl⟩, rfl⟩), fun p19 n19 own19 h => ?_⟩
  obtain ⟨X, (⟨hs, kg, km, e, hX⟩ | ⟨hn, e, rfl⟩), rfl⟩ := h
  case inr => cases e; exact cond_split (fun _ => fin_ext rfl) fun h => absurd h (by decide)
  cases e
  have hok := hok hs
  have hG : ∀ {own : Own} {loc : Tn.Loc} (W' : World), Sep W [] (ents loc own) W' → (∀ q ∈ X, q ∈ own) → LG ⟨kg, 0, none⟩ g W' := fun W' hS hm => ⟨hL.ext (Sep.ext0 hS), gridAt_of hX (fun b o h => hS.own b o (by unfold ents; exact List.mem_append_right _ (hm _ h))) hok⟩
  rw [List.append_nil]
  refine cond_split (fun h => absurd h (by decide)) fun _ => ⟨_, (p46 _ _ _ _ _ _ _ _ _ _ _ _ _ _).callL hL, cond_split (fun _ => fin_ext rfl) fun hlong => ?_⟩
  obtain ⟨hl1, hl2, hl3, hl4⟩ := s46_le hlong
  refine ⟨_, (p43 ⟨kg, 0, none⟩ g pl s).call (fun W' hS' => ⟨hG W' hS' (fun _ h => h), hSea.ext (Sep.ext0 hS')⟩) (by rintro v X' (⟨_, k, rfl, _⟩ | ⟨_, rfl, _⟩) <;> exact ⟨_, rfl, _, _, rfl, ⟨_, _, _, rfl⟩, _, _, rfl, ⟨_, rfl⟩, rfl⟩), fun a32 l32 c32 n32 own32 h32 => ?_⟩
  obtain ⟨X1, (⟨hok43, kl, e, rfl⟩ | ⟨_, e, rfl⟩), rfl⟩ := h32
  case inr => cases e; exact cond_split (fun _ => fin_ext rfl) fun h => absurd h (by decide)
  cases e
  refine cond_split (fun h => absurd h (by decide)) fun _ => cond_split (fun _ => fin_ext rfl) fun hdt => ?_
  have hdt : ng pl.dt = false := (gt0 (by simpa using hdt)).2.2
  have hE := hok43.2.2.2
  have hel := hok.el
  have hLL : ∀ k, k < g.E.length → (s43 g pl.dt pl.lim s.bed s.water s.speed)[k]? = some (q43e g pl.dt pl.lim s.bed s.water s.speed k) := fun k h => s43_at h
  generalize s43 g pl.dt pl.lim s.bed s.water s.speed = LL at *
  refine ⟨_, (p51 s hl1 hl2 hl3 hl4).call (fun W' hS' => ⟨hL.ext (Sep.ext0 hS'), hSea.ext (Sep.ext0 hS')⟩) (by rintro v X' ⟨b1, c1, r1, b2, c2, r2, b3, c3, r3, b4, c4, r4, rfl, _⟩; exact ⟨_, rfl, _, _, rfl, ⟨_, _, _, rfl⟩, _, _, rfl, ⟨_, _, _, rfl⟩, _, _, rfl, ⟨_, _, _, rfl⟩, _, _, rfl, ⟨_, _, _, rfl⟩, _, _, rfl, ⟨_, rfl⟩, _, _, rfl, ⟨_, rfl⟩, rfl⟩), ?_⟩
  intro a0 l0 c0 a1 l1 c1 a2 l2 c2 a3 l3 c3 n4 n5 own44 h44 k10
  obtain ⟨X2, ⟨b1, c1', r1, b2, c2', r2, b3, c3', r3, b4, c4', r4, e, rfl, hcs, hr1, hr2, hr3, hr4⟩, rfl⟩ := h44
  cases e
  refine ⟨fun own => ∃ L r, L.length = s.speed.length ∧ (∀ j, j < s.speed.length → mg (L.getD j 0) = 0) ∧ Has r (fCells L ++ [markF]) ∧ own = (b3, Obj.cells ⟨r3⟩ 2) :: (b2, .cells ⟨r2⟩ 2) :: (b4, .cells ⟨r⟩ 44) :: (b1, .cells ⟨r1⟩ 44) :: (kl, .cells ⟨iCells LL⟩ 2) :: X, ?_, ?_⟩
  · refine ⟨fun i own => ∃ k : Nat, i = (k : Int) ∧ k ≤ g.E.length ∧ ∃ L r, L.length = s.speed.length ∧ (∀ j, j < k → mg (L.getD j 0) = 0) ∧ Has r (fCells L ++ [markF]) ∧ own = (b3, Obj.cells ⟨r3⟩ 2) :: (b2, .cells ⟨r2⟩ 2) :: (b4, .cells ⟨r⟩ 44) :: (b1, .cells ⟨r1⟩ 44) :: (kl, .cells ⟨iCells LL⟩ 2) :: X, fun i _ => ((g.E.length : Int) - i).toNat, ⟨0, rfl, Nat.zero_le _, s.speed, r4, rfl, fun j h => (by cases h), hr4, rfl⟩, ?_⟩
    rintro i own ⟨k, rfl, hk, L, r, hLl, hz, hr, rfl⟩
    refine cond_split (fun h => ?_) fun h => ⟨L, r, hLl, fun j hj => hz j (by have := of_decide_eq_false h; omega), hr, rfl⟩
    have hk' : k < g.E.length := by have := of_decide_eq_true h; omega
    refine cond_split (fun _ => ?_) fun h => absurd (of_decide_eq_false h) (by omega)
    have hsucc : IntKind.wrap .i64 ((k : Int) + 1) = ((k + 1 : Nat) : Int) := wrap_succ (by omega)
    have hmu : ((g.E.length : Int) - IntKind.wrap .i64 ((k : Int) + 1)).toNat < ((g.E.length : Int) - k).toNat := mu_lt hk' (by omega)
    have hu := getD_some (d := 0) (by omega : k < s.speed.length)
    obtain ⟨b, hb⟩ := arr_addr hSea.2.2.2 (fCells_get hu)
    have hq := hLL k hk'
    have mL : ∀ loc : Tn.Loc, (kl, Obj.cells ⟨iCells LL⟩ 2) ∈ ents loc ((b3, Obj.cells ⟨r3⟩ 2) :: (b2, .cells ⟨r2⟩ 2) :: (b4, .cells ⟨r⟩ 44) :: (b1, .cells ⟨r1⟩ 44) :: (kl, .cells ⟨iCells LL⟩ 2) :: X) := fun loc => by simp [ents]
    have hq1 : (f64.order (s.speed.getD k 0) 0 == some .gt) = true → 0 ≤ q43e g pl.dt pl.lim s.bed s.water s.speed k := fun h => sgn_pos (gt0 h).2.2 (s49_ng _ _ _ _ _ _) (hlen _) hdt
    have hq2 : (f64.order (s.speed.getD k 0) 0 == some .lt) = true → q43e g pl.dt pl.lim s.bed s.water s.speed k ≤ 0 := fun h => sgn_neg (lt0' h) (s49_ng _ _ _ _ _ _) (hlen _) hdt
    have hq3 : (f64.order (s.speed.getD k 0) 0 == some .eq) = true → q43e g pl.dt pl.lim s.bed s.water s.speed k = 0 := fun h => sgn_zero (eq0 h)
    generalize q43e g pl.dt pl.lim s.bed s.water s.speed k = q at *
    generalize s.speed.getD k 0 = u at *
    refine ⟨_, hb, ⟨by omega, by omega⟩, u, (by rw [Nat.mul_one]; exact loads_arr hSea.2.2.2 hb (fCells_get hu) ld44), fun own => own = (b3, Obj.cells ⟨r3⟩ 2) :: (b2, .cells ⟨r2⟩ 2) :: (b4, .cells ⟨r⟩ 44) :: (b1, .cells ⟨r1⟩ 44) :: (kl, .cells ⟨iCells LL⟩ 2) :: X, ?_, ?_⟩
    · exact cond_split (fun h1 => ⟨_, rfl, ⟨by omega, by omega⟩, _, loads_i (mL _) hq, cond_split (fun h => absurd (of_decide_eq_true h) (by have := hq1 h1; omega)) fun _ => cond_split (fun h2 => ⟨_, rfl, ⟨by omega, by omega⟩, _, loads_i (mL _) hq, cond_split (fun h => absurd (of_decide_eq_true h) (by have := hq2 h2; omega)) fun _ => cond_split (fun h3 => ⟨_, rfl, ⟨by omega, by omega⟩, _, loads_i (mL _) hq, cond_split (fun h => absurd h (by rw [hq3 h3]; decide)) fun _ => rfl⟩) fun _ => rfl⟩) fun _ => cond_split (fun h3 => ⟨_, rfl, ⟨by omega, by omega⟩, _, loads_i (mL _) hq, cond_split (fun h => absurd h (by rw [hq3 h3]; decide)) fun _ => rfl⟩) fun _ => rfl⟩) fun _ => cond_split (fun h2 => ⟨_, rfl, ⟨by omega, by omega⟩, _, loads_i (mL _) hq, cond_split (fun h => absurd (of_decide_eq_true h) (by have := hq2 h2; omega)) fun _ => cond_split (fun h3 => ⟨_, rfl, ⟨by omega, by omega⟩, _, loads_i (mL _) hq, cond_split (fun h => absurd h (by rw [hq3 h3]; decide)) fun _ => rfl⟩) fun _ => rfl⟩) fun _ => cond_split (fun h3 => ⟨_, rfl, ⟨by omega, by omega⟩, _, loads_i (mL _) hq, cond_split (fun h => absurd h (by rw [hq3 h3]; decide)) fun _ => rfl⟩) fun _ => rfl
    · rintro own rfl
      have hkL : k < L.length := by omega
      refine ⟨_, rfl, ⟨by omega, by omega⟩, _, stores_at (i := k) (pre := [_, _]) (v := .float .f64 0) rfl (has_len hr hkL) rfl rfl ⟨_, rfl, rfl⟩, by decide, cond_split (fun _ => ?_) fun _ => ⟨⟨k + 1, hsucc, hk', L.set k 0, r.set k (.float .f64 0), by rw [List.length_set]; exact hLl, fun j hj => ?_, has_set hr hkL, rfl⟩, hmu⟩⟩
      · refine ⟨_, (p52 _).callL hL, _, rfl, ⟨by omega, by omega⟩, _, stores_at (i := k) (pre := [_, _]) (v := .float .f64 (s52 9223372036854775808)) rfl (by rw [List.length_set]; exact has_len hr hkL) rfl rfl ⟨_, rfl, rfl⟩, ⟨k + 1, hsucc, hk', (L.set k 0).set k (s52 9223372036854775808), (r.set k (.float .f64 0)).set k (.float .f64 (s52 9223372036854775808)), by rw [List.length_set, List.length_set]; exact hLl, fun j hj => ?_, has_set (has_set hr hkL) (by rw [List.length_set]; exact hkL), rfl⟩, hmu⟩
        rw [List.set_set, List.getD_eq_getElem?_getD]
        by_cases e : k = j
        · subst e; rw [List.getElem?_set_self hkL]; exact mg52
        · rw [List.getElem?_set_ne e, ← List.getD_eq_getElem?_getD]; exact hz j (by omega)
      · rw [List.getD_eq_getElem?_getD]
        by_cases e : k = j
        · subst e; rw [List.getElem?_set_self hkL]; decide
        · rw [List.getElem?_set_ne e, ← List.getD_eq_getElem?_getD]; exact hz j (by omega)
  · rintro own ⟨L, r, hLl, hz, hr, rfl⟩
    generalize ht : (⟨some ⟨b1, 0, none⟩, c0, some ⟨b2, 0, none⟩, c1, some ⟨b3, 0, none⟩, c2, some ⟨b4, 0, none⟩, c3, s.bed, s.water, s.tracer, L, s.sky, s.step⟩ : SeaA) = t
    have hv : t.v = .agg ⟨[.slice (some ⟨b1, 0, none⟩) s.bed.length c0, .slice (some ⟨b2, 0, none⟩) s.water.length c1, .slice (some ⟨b3, 0, none⟩) s.tracer.length c2, .slice (some ⟨b4, 0, none⟩) s.speed.length c3, .int .i64 s.sky, .int .i64 s.step]⟩ := by
      subst ht; simp [SeaA.v, hLl]
    have h43 := p43 ⟨kg, 0, none⟩ g pl t
    rw [hv] at h43
    refine ⟨_, h43.call (fun W' hS' => ⟨hG W' hS' (fun q hq => by simp [hq]), by subst ht; exact ⟨has_arr (t := 44) hS' (by simp [ents]) hr1, has_arr (t := 2) hS' (by simp [ents]) hr2, has_arr (t := 2) hS' (by simp [ents]) hr3, has_arr (t := 44) hS' (by simp [ents]) hr⟩⟩) (by rintro v X' (⟨_, k, rfl, _⟩ | ⟨_, rfl, _⟩) <;> exact ⟨_, rfl, _, _, rfl, ⟨_, _, _, rfl⟩, _, _, rfl, ⟨_, rfl⟩, rfl⟩), fun a6 l6 c6 n6 own6 h6 => ?_⟩
    obtain ⟨X3, (⟨_, km', e, rfl⟩ | ⟨hn, _⟩), rfl⟩ := h6
    case inr => exact (hn ⟨by subst ht; exact hok43.1, by subst ht; exact hok43.2.1, by subst ht; exact hok43.2.2.1, by subst ht; exact hLl.trans hE⟩).elim
    cases e
    have hz0 : ∀ k, k < g.E.length → (s43 g pl.dt pl.lim t.bed t.water t.speed)[k]? = some 0 := fun k hk => by rw [s43_at hk]; congr 1; exact sgn_zero (by subst ht; exact hz k (by omega))
    generalize s43 g pl.dt pl.lim t.bed t.water t.speed = ZL at *
    refine ⟨fun i own => ∃ k : Nat, i = (k : Int) ∧ k ≤ g.E.length ∧ own = [(km', Obj.cells ⟨iCells ZL⟩ 2)] ++ (b3, Obj.cells ⟨r3⟩ 2) :: (b2, .cells ⟨r2⟩ 2) :: (b4, .cells ⟨r⟩ 44) :: (b1, .cells ⟨r1⟩ 44) :: (kl, .cells ⟨iCells LL⟩ 2) :: X, fun i _ => ((g.E.length : Int) - i).toNat, ⟨0, rfl, Nat.zero_le _, rfl⟩, ?_⟩
    rintro i own ⟨k, rfl, hk, rfl⟩
    refine cond_split (fun h => ?_) fun h => cond_split (fun _ => fin_ext (by simp)) fun h => absurd h (by decide)
    have hk' : k < g.E.length := by have := of_decide_eq_true h; omega
    have mZ : ∀ loc : Tn.Loc, (km', Obj.cells ⟨iCells ZL⟩ 2) ∈ ents loc ([(km', Obj.cells ⟨iCells ZL⟩ 2)] ++ (b3, Obj.cells ⟨r3⟩ 2) :: (b2, .cells ⟨r2⟩ 2) :: (b4, .cells ⟨r⟩ 44) :: (b1, .cells ⟨r1⟩ 44) :: (kl, .cells ⟨iCells LL⟩ 2) :: X) := fun loc => by simp [ents]
    exact ⟨_, rfl, ⟨by omega, by omega⟩, _, loads_i (mZ _) (hz0 k hk'), cond_split (fun h => absurd h (by decide)) fun _ => ⟨⟨k + 1, wrap_succ (by omega), hk', rfl⟩, mu_lt hk' (by omega)⟩⟩⟩


end Go.Proofs.YtnljcdplcloedaaGreatDoor
end
