/- Walk of the law FluxKeeps: the call returns true and writes no block that it did not make, for every argument that the row admits. -/
import Derived.Test.YtnljcdplcloedaaGreatDoorSea
import Derived.Test.YtnljcdplcloedaaGreatDoorSign
import Derived.Test.YtnljcdplcloedaaGreatDoorMark
section
namespace Go.Proofs.YtnljcdplcloedaaGreatDoor
open Go Go.Tn Go.RowKit
set_option linter.unusedVariables false
set_option linter.unusedSimpArgs false
set_option maxRecDepth 100000
theorem sqrt_ng {x r : Nat} (h : f64.sqrt x = some r) : ng r = false ∨ mg r = 0 := by
  unfold Ieee.Format.sqrt at h
  cases hx : f64.read x with
  | nan s t => rw [hx] at h; cases h
  | infinity s =>
    rw [hx] at h
    unfold Ieee.Datum.root at h
    cases s
    · simp only [Bool.false_eq_true, if_false, Option.map_some, Option.some.injEq, Ieee.Format.write, pinf64] at h
      rw [← h]; exact .inl (ng_word (by decide))
    · cases h
  | number s m i =>
    rw [hx] at h
    unfold Ieee.Datum.root at h
    by_cases hm : m = 0
    · subst hm
      simp only [if_true, Option.map_some, Option.some.injEq, Ieee.Format.write, nearest_rung, rung_zero] at h
      rw [← h]; exact .inr (mg_word (by decide))
    · simp only [hm, if_false] at h
      cases s
      · simp only [Bool.false_eq_true, if_false, Option.map_some, Option.some.injEq, Ieee.Format.write, nearest_rung] at h
        rw [← h]
        exact .inl (ng_word (Nat.lt_of_le_of_lt (rung_le _ _) (by decide)))
      · simp at h
theorem order_zero {x : Nat} (h : mg x = 0) : (f64.order x 0 == some .eq) = true := by
  rw [order_sv (by rw [h]; decide) (by decide)]
  have : sv x = 0 := by unfold sv; rw [h, rv_zero]; split <;> rfl
  rw [this, sv0]; rfl
theorem ng199 : ng s199 = false := by kernel_rfl
theorem canon_ng {x : Nat} (h : ng x = false ∨ mg x = 0 ∨ infR < mg x) : ng (s146 x) = false := by
  unfold s146
  cases h1 : (f64.order x x != some .eq) with
  | true => rw [cond_true]; exact ng199
  | false =>
    rw [cond_false]
    cases h2 : (f64.order x 0 == some .eq) with
    | true => rw [cond_true]; decide
    | false =>
      rw [cond_false]
      rcases h with h | h | h
      · exact h
      · rw [order_zero h] at h2; cases h2
      · have := notnan h1; omega
theorem s236_ng (a b c : Nat) : ng (s236 a b c) = false := by
  unfold s236 s271
  apply canon_ng
  generalize s272 _ _ _ = x
  cases h : f64.sqrt x with
  | none => exact .inr (.inr mg_quiet)
  | some r =>
    rcases sqrt_ng h with h | h
    · exact .inl h
    · exact .inr (.inl h)
theorem ng0 : ng 0 = false := by decide
theorem s99_ng (n c o : Int) : ng (s99 n c o) = false := by
  unfold s99
  cases (!(s120 n c).2.2.2) with
  | true => exact ng0
  | false =>
    rw [cond_false]
    cases decide (o < 0) with
    | true => exact ng0
    | false =>
      rw [cond_false]
      cases decide (o > 3) with
      | true => exact ng0
      | false => rw [cond_false]; exact s236_ng _ _ _
theorem len_ng (n e : Int) : ng ((netOf n).len e) = false := by
  have key : ∀ i, ng ((netOf n).L.getD i 0) = false := by
    intro i
    show ng (((eAll n (cellsN n)).1.map (lOf n)).getD i 0) = false
    rw [List.getD_eq_getElem?_getD, List.getElem?_map]
    cases (eAll n (cellsN n)).1[i]? with
    | none => exact ng0
    | some x => exact s99_ng _ _ _
  unfold Net.len
  cases (netOf n).is e with
  | false => exact ng0
  | true => rw [cond_true]; exact key _
theorem core49_ng (g : Net) (bed : List Nat) (water : List Int) (lim up down back : Int) : ng (core49 g bed water lim up down back) = false := by
  unfold core49
  simp only
  generalize s118 _ _ = r
  cases h : (f64.order r 0 == some .gt) with
  | true => rw [cond_true]; exact (gt0 h).2.2
  | false => exact ng0
theorem s49_ng (g : Net) (bed : List Nat) (water : List Int) (lim e : Int) (u : Nat) : ng (s49 g bed water lim e u) = false := by
  unfold s49
  cases (!(g.is e)) with
  | true => exact ng0
  | false =>
    rw [cond_false]
    cases ((bed.length : Int) != (g.A.length : Int)) with
    | true => exact ng0
    | false =>
      rw [cond_false]
      cases ((water.length : Int) != (g.A.length : Int)) with
      | true => exact ng0
      | false =>
        rw [cond_false]
        cases (f64.order u 0 == some .gt) with
        | true => rw [cond_true]; exact core49_ng _ _ _ _ _ _ _
        | false =>
          rw [cond_false]
          cases (f64.order u 0 == some .lt) with
          | true => rw [cond_true]; exact core49_ng _ _ _ _ _ _ _
          | false => exact ng0
theorem eq0 {x : Nat} (h : (f64.order x 0 == some .eq) = true) : mg x = 0 := by
  by_cases hx : mg x ≤ infR
  · rw [order_sv hx (by decide), sv0] at h
    have h := eq_of_beq h
    simp only [Option.some.injEq] at h
    have h := Int.compare_eq_eq.1 h
    have h2 : rv (mg x) = 0 := by unfold sv at h; split at h <;> omega
    exact rv_inj (h2.trans rv_zero.symm)
  · rw [order_nan (.inl (by omega))] at h; cases h
theorem pf_unit_ng : ng unitF = false := pf_unit.2.2
theorem sgn_pos {u d l t : Nat} (hu : ng u = false) (hd : ng d = false) (hl : ng l = false) (ht : ng t = false) : 0 ≤ s41 u d l t := by
  rw [s41_eq]; exact sg_pos (sg_mul (sg_mul (sg_mul (sg_mul (.inl hu) hd) hl) ht) pf_unit_ng)
theorem sgn_neg {u d l t : Nat} (hu : ng u = true) (hd : ng d = false) (hl : ng l = false) (ht : ng t = false) : s41 u d l t ≤ 0 := by
  rw [s41_eq]; exact sg_neg (sg_mul (sg_mul (sg_mul (sg_mul (.inl hu) hd) hl) ht) pf_unit_ng)
theorem sgn_zero {u d l t : Nat} (hu : mg u = 0) : s41 u d l t = 0 := by
  rw [s41_eq]; exact zn_cK (zn_mul (.inl (zn_mul (.inl (zn_mul (.inl (zn_mul (.inl (.inl hu)))))))))
end Go.Proofs.YtnljcdplcloedaaGreatDoor
end
section
namespace Go.Proofs.YtnljcdplcloedaaGreatDoor
open Go Go.Tn Go.RowKit
set_option linter.unusedVariables false
set_option linter.unusedSimpArgs false
set_option maxRecDepth 100000
set_option maxHeartbeats 2000000

theorem has_set {r : List Value} {L : List Nat} {k x : Nat} {rest : List Value} (h : Has r (fCells L ++ rest)) (hk : k < L.length) : Has (r.set k (.float .f64 x)) (fCells (L.set k x) ++ rest) := by
  intro j w hj
  have hkr : k < r.length := by
    have := h k _ (by rw [List.getElem?_append_left (by rw [fCells_len]; exact hk)]; exact fCells_get (getD_some (d := 0) hk))
    exact (List.getElem?_eq_some_iff.1 this).1
  by_cases e : k = j
  · subst e
    rw [List.getElem?_append_left (by rw [fCells_len, List.length_set]; exact hk), fCells_get (List.getElem?_set_self hk)] at hj
    rw [List.getElem?_set_self hkr]; exact hj
  · rw [List.getElem?_set_ne e]
    refine h j w ?_
    rw [← hj]
    by_cases hl : j < L.length
    · rw [List.getElem?_append_left (by rw [fCells_len]; exact hl), List.getElem?_append_left (by rw [fCells_len, List.length_set]; exact hl)]
      simp only [fCells, List.getElem?_map]
      rw [List.getElem?_set_ne e]
    · rw [List.getElem?_append_right (by rw [fCells_len]; omega), List.getElem?_append_right (by rw [fCells_len, List.length_set]; omega), fCells_len, fCells_len, List.length_set]
theorem has_len {r : List Value} {L : List Nat} {rest : List Value} (h : Has r (fCells L ++ rest)) {k : Nat} (hk : k < L.length) : k < r.length := by
  have := h k _ (by rw [List.getElem?_append_left (by rw [fCells_len]; exact hk)]; exact fCells_get (getD_some (d := 0) hk))
  exact (List.getElem?_eq_some_iff.1 this).1
theorem has_arr {w0 W : World} {mt : List Nat} {l : List (Nat × Obj)} (hS : Sep w0 mt l W) {k : Nat} {r xs rest : List Value} {t : TypeId} (h : (k, .cells ⟨r⟩ t) ∈ l) (hr : Has r (xs ++ rest)) : Arr W (some ⟨k, 0, none⟩) xs :=
  arr_own hS h fun i v hv => by rw [Nat.zero_add]; exact hr i v (by rw [List.getElem?_append_left (List.getElem?_eq_some_iff.1 hv).1]; exact hv)
theorem mg52 : mg (s52 9223372036854775808) = 0 := by kernel_rfl
theorem s43_at {g : Net} {dt : Nat} {lim : Int} {bed : List Nat} {water : List Int} {speed : List Nat} {k : Nat} (h : k < g.E.length) : (s43 g dt lim bed water speed)[k]? = some (q43e g dt lim bed water speed k) := by
  rw [s43, List.getElem?_map, List.getElem?_range h]; rfl
theorem s46_le {s : SeaA} (h : s46 s.ba s.bed.length s.bc s.wa s.water.length s.wc s.ta s.tracer.length s.tc s.ua s.speed.length s.uc s.sky s.step = false) : s.bed.length ≤ 65536 ∧ s.water.length ≤ 65536 ∧ s.tracer.length ≤ 65536 ∧ s.speed.length ≤ 65536 := by
  unfold s46 at h
  by_cases h1 : s.bed.length ≤ 65536
  · rw [decide_eq_false (by omega), cond_false] at h
    by_cases h2 : s.water.length ≤ 65536
    · rw [decide_eq_false (by omega), cond_false] at h
      by_cases h3 : s.tracer.length ≤ 65536
      · rw [decide_eq_false (by omega), cond_false] at h
        have := of_decide_eq_false h
        exact ⟨h1, h2, h3, by omega⟩
      · rw [decide_eq_true (by omega)] at h; cases h
    · rw [decide_eq_true (by omega)] at h; cases h
  · rw [decide_eq_true (by omega)] at h; cases h

-- tarn/tarnlaw13.FluxStill
def loc9_0 (k4 : Nat) (p_0 : Int) (p_1 : Nat) (p_2 : Nat) (p_3 : Nat) (p_4 : Int) (p_5 : Bool) (p_6_a : Option Addr) (p_6_n : Nat) (p_6_c : Nat) (k5 : Nat) (s_0_a : Option Addr) (s_0_n : Nat) (s_0_c : Nat) (s_1_a : Option Addr) (s_1_n : Nat) (s_1_c : Nat) (s_2_a : Option Addr) (s_2_n : Nat) (s_2_c : Nat) (s_3_a : Option Addr) (s_3_n : Nat) (s_3_c : Nat) (s_4 : Int) (s_5 : Int) : Tn.Loc := [⟨k4, 54, [.int .i64 p_0, .float .f64 p_1, .float .f64 p_2, .float .f64 p_3, .int .i64 p_4, .bool p_5, .slice p_6_a p_6_n p_6_c], []⟩, ⟨k5, 25, [.slice s_0_a s_0_n s_0_c, .slice s_1_a s_1_n s_1_c, .slice s_2_a s_2_n s_2_c, .slice s_3_a s_3_n s_3_c, .int .i64 s_4, .int .i64 s_5], []⟩]
def loc9_1 (k4 : Nat) (p_0 : Int) (p_1 : Nat) (p_2 : Nat) (p_3 : Nat) (p_4 : Int) (p_5 : Bool) (p_6_a : Option Addr) (p_6_n : Nat) (p_6_c : Nat) (k5 : Nat) (s_0_a : Option Addr) (s_0_n : Nat) (s_0_c : Nat) (s_1_a : Option Addr) (s_1_n : Nat) (s_1_c : Nat) (s_2_a : Option Addr) (s_2_n : Nat) (s_2_c : Nat) (s_3_a : Option Addr) (s_3_n : Nat) (s_3_c : Nat) (s_4 : Int) (s_5 : Int) (k10 : Nat) (a44_0 : Option Addr) (l44_0 : Nat) (c44_0 : Nat) (a44_1 : Option Addr) (l44_1 : Nat) (c44_1 : Nat) (a44_2 : Option Addr) (l44_2 : Nat) (c44_2 : Nat) (a44_3 : Option Addr) (l44_3 : Nat) (c44_3 : Nat) (n44_4 : Int) (n44_5 : Int) : Tn.Loc := [⟨k4, 54, [.int .i64 p_0, .float .f64 p_1, .float .f64 p_2, .float .f64 p_3, .int .i64 p_4, .bool p_5, .slice p_6_a p_6_n p_6_c], []⟩, ⟨k5, 25, [.slice s_0_a s_0_n s_0_c, .slice s_1_a s_1_n s_1_c, .slice s_2_a s_2_n s_2_c, .slice s_3_a s_3_n s_3_c, .int .i64 s_4, .int .i64 s_5], []⟩, ⟨k10, 25, [.slice a44_0 l44_0 c44_0, .slice a44_1 l44_1 c44_1, .slice a44_2 l44_2 c44_2, .slice a44_3 l44_3 c44_3, .int .i64 n44_4, .int .i64 n44_5], []⟩]
def an9 : Ann := (.seq .leaf (.seq (.seq .leaf (.cond (.seq .leaf .leaf) .leaf)) (.seq .leaf (.seq (.seq .leaf (.cond (.seq .leaf .leaf) .leaf)) (.seq .leaf (.seq (.seq .leaf (.cond (.seq .leaf .leaf) .leaf)) (.seq .leaf (.cut [] [] (.seq .leaf (.block (.loop [(11, .one (.int .i64))] [] (.seq (.seq .leaf (.cond .leaf .leaf)) (.seq (.block (.seq .leaf (.cut [] [] (.seq .leaf (.cond (.seq .leaf .leaf) .leaf)) (.seq .leaf (.seq .leaf (.cond (.draw [0, 1, 2, 3, 4, 5]) .leaf)))))) .leaf))))) (.seq .leaf (.seq (.seq .leaf (.block (.loop [(14, .one (.int .i64))] [] (.seq (.seq .leaf (.cond .leaf .leaf)) (.seq (.block (.seq .leaf (.cond (.seq .leaf .leaf) .leaf))) .leaf))))) (.seq .leaf .leaf)))))))))))
noncomputable def q9 (w0 : World) (side : Int) (p_0 : Int) (p_1 : Nat) (p_2 : Nat) (p_3 : Nat) (p_4 : Int) (p_5 : Bool) (p_6_a : Option Addr) (p_6_n : Nat) (p_6_c : Nat) (s_0_a : Option Addr) (s_0_n : Nat) (s_0_c : Nat) (s_1_a : Option Addr) (s_1_n : Nat) (s_1_c : Nat) (s_2_a : Option Addr) (s_2_n : Nat) (s_2_c : Nat) (s_3_a : Option Addr) (s_3_n : Nat) (s_3_c : Nat) (s_4 : Int) (s_5 : Int) (R : Value → World → Prop) : Prop :=
  (∀ k4 : Nat, (∀ k5 : Nat, (∃ b15 : Bool, CallV (cx w0 [] []) (loc9_0 k4 p_0 p_1 p_2 p_3 p_4 p_5 p_6_a p_6_n p_6_c k5 s_0_a s_0_n s_0_c s_1_a s_1_n s_1_c s_2_a s_2_n s_2_c s_3_a s_3_n s_3_c s_4 s_5) [] 40 [] (.bool b15) ∧ (cond (!b15) (Fin (cx w0 [] []) R (.bool false) []) ((∃ Φ19 : Value → Own → Prop, CallG (cx w0 [] []) (loc9_0 k4 p_0 p_1 p_2 p_3 p_4 p_5 p_6_a p_6_n p_6_c k5 s_0_a s_0_n s_0_c s_1_a s_1_n s_1_c s_2_a s_2_n s_2_c s_3_a s_3_n s_3_c s_4 s_5) [] 30 [.int .i64 side] (.tup [.one .ptr, .one (.int .i64)]) Φ19 ∧ ∀ p19a : Option Addr, ∀ n19b : Int, ∀ own19 : Own, Φ19 (.tuple ⟨[.pointer p19a, .int .i64 n19b]⟩) own19 → (cond (n19b != (0 : Int)) (Fin (cx w0 [] []) R (.bool true) own19) ((∃ b26 : Bool, CallV (cx w0 [] []) (loc9_0 k4 p_0 p_1 p_2 p_3 p_4 p_5 p_6_a p_6_n p_6_c k5 s_0_a s_0_n s_0_c s_1_a s_1_n s_1_c s_2_a s_2_n s_2_c s_3_a s_3_n s_3_c s_4 s_5) own19 46 [.agg ⟨[.slice s_0_a s_0_n s_0_c, .slice s_1_a s_1_n s_1_c, .slice s_2_a s_2_n s_2_c, .slice s_3_a s_3_n s_3_c, .int .i64 s_4, .int .i64 s_5]⟩] (.bool b26) ∧ (cond b26 (Fin (cx w0 [] []) R (.bool true) own19) ((∃ Φ32 : Value → Own → Prop, CallG (cx w0 [] []) (loc9_0 k4 p_0 p_1 p_2 p_3 p_4 p_5 p_6_a p_6_n p_6_c k5 s_0_a s_0_n s_0_c s_1_a s_1_n s_1_c s_2_a s_2_n s_2_c s_3_a s_3_n s_3_c s_4 s_5) own19 43 [.pointer p19a, .agg ⟨[.int .i64 p_0, .float .f64 p_1, .float .f64 p_2, .float .f64 p_3, .int .i64 p_4, .bool p_5, .slice p_6_a p_6_n p_6_c]⟩, .agg ⟨[.slice s_0_a s_0_n s_0_c, .slice s_1_a s_1_n s_1_c, .slice s_2_a s_2_n s_2_c, .slice s_3_a s_3_n s_3_c, .int .i64 s_4, .int .i64 s_5]⟩] (.tup [.one .slice, .one (.int .i64)]) Φ32 ∧ ∀ a32a : Option Addr, ∀ l32a : Nat, ∀ c32a : Nat, ∀ n32b : Int, ∀ own32 : Own, Φ32 (.tuple ⟨[.slice a32a l32a c32a, .int .i64 n32b]⟩) own32 → (cond (n32b != (0 : Int)) (Fin (cx w0 [] []) R (.bool true) own32) ((cond (!(f64.order p_1 0 == some .gt)) (Fin (cx w0 [] []) R (.bool true) own32) ((∃ Φ44 : Value → Own → Prop, CallG (cx w0 [] []) (loc9_0 k4 p_0 p_1 p_2 p_3 p_4 p_5 p_6_a p_6_n p_6_c k5 s_0_a s_0_n s_0_c s_1_a s_1_n s_1_c s_2_a s_2_n s_2_c s_3_a s_3_n s_3_c s_4 s_5) own32 51 [.agg ⟨[.slice s_0_a s_0_n s_0_c, .slice s_1_a s_1_n s_1_c, .slice s_2_a s_2_n s_2_c, .slice s_3_a s_3_n s_3_c, .int .i64 s_4, .int .i64 s_5]⟩] (.val (.agg [.slice, .slice, .slice, .slice, .int .i64, .int .i64])) Φ44 ∧ ∀ a44_0 : Option Addr, ∀ l44_0 : Nat, ∀ c44_0 : Nat, ∀ a44_1 : Option Addr, ∀ l44_1 : Nat, ∀ c44_1 : Nat, ∀ a44_2 : Option Addr, ∀ l44_2 : Nat, ∀ c44_2 : Nat, ∀ a44_3 : Option Addr, ∀ l44_3 : Nat, ∀ c44_3 : Nat, ∀ n44_4 : Int, ∀ n44_5 : Int, ∀ own44 : Own, Φ44 (.agg ⟨[.slice a44_0 l44_0 c44_0, .slice a44_1 l44_1 c44_1, .slice a44_2 l44_2 c44_2, .slice a44_3 l44_3 c44_3, .int .i64 n44_4, .int .i64 n44_5]⟩) own44 → (∀ k10 : Nat, (∃ Jc0 : Own → Prop, ((∃ (I11 : Int → Own → Prop) (μ11 : Int → Own → Nat), I11 (0 : Int) own44 ∧ ∀ n11 : Int, ∀ own11 : Own, I11 n11 own11 → (cond (decide (n11 < ((l32a : Nat) : Int))) ((cond (decide (n11 < ((s_3_n : Nat) : Int))) ((∃ ad61 : Addr, s_3_a = some ad61 ∧ (0 ≤ n11 ∧ n11 < ((s_3_n : Nat) : Int)) ∧ (∃ x62 : Nat, LoadsTo (cx w0 [] []) (loc9_1 k4 p_0 p_1 p_2 p_3 p_4 p_5 p_6_a p_6_n p_6_c k5 s_0_a s_0_n s_0_c s_1_a s_1_n s_1_c s_2_a s_2_n s_2_c s_3_a s_3_n s_3_c s_4 s_5 k10 a44_0 l44_0 c44_0 a44_1 l44_1 c44_1 a44_2 l44_2 c44_2 a44_3 l44_3 c44_3 n44_4 n44_5) own11 44 (Addr.add ad61 (Int.toNat n11 * 1)) (.float .f64 x62) ∧ (∃ Jc2 : Own → Prop, ((cond (f64.order x62 0 == some .gt) ((∃ ad68 : Addr, a32a = some ad68 ∧ (0 ≤ n11 ∧ n11 < ((l32a : Nat) : Int)) ∧ (∃ n69 : Int, LoadsTo (cx w0 [] []) (loc9_1 k4 p_0 p_1 p_2 p_3 p_4 p_5 p_6_a p_6_n p_6_c k5 s_0_a s_0_n s_0_c s_1_a s_1_n s_1_c s_2_a s_2_n s_2_c s_3_a s_3_n s_3_c s_4 s_5 k10 a44_0 l44_0 c44_0 a44_1 l44_1 c44_1 a44_2 l44_2 c44_2 a44_3 l44_3 c44_3 n44_4 n44_5) own11 2 (Addr.add ad68 (Int.toNat n11 * 1)) (.int .i64 n69) ∧ (cond (decide (n69 < (0 : Int))) (Fin (cx w0 [] []) R (.bool false) own11) ((cond (f64.order x62 0 == some .lt) ((∃ ad78 : Addr, a32a = some ad78 ∧ (0 ≤ n11 ∧ n11 < ((l32a : Nat) : Int)) ∧ (∃ n79 : Int, LoadsTo (cx w0 [] []) (loc9_1 k4 p_0 p_1 p_2 p_3 p_4 p_5 p_6_a p_6_n p_6_c k5 s_0_a s_0_n s_0_c s_1_a s_1_n s_1_c s_2_a s_2_n s_2_c s_3_a s_3_n s_3_c s_4 s_5 k10 a44_0 l44_0 c44_0 a44_1 l44_1 c44_1 a44_2 l44_2 c44_2 a44_3 l44_3 c44_3 n44_4 n44_5) own11 2 (Addr.add ad78 (Int.toNat n11 * 1)) (.int .i64 n79) ∧ (cond (decide (n79 > (0 : Int))) (Fin (cx w0 [] []) R (.bool false) own11) ((cond (f64.order x62 0 == some .eq) ((∃ ad89 : Addr, a32a = some ad89 ∧ (0 ≤ n11 ∧ n11 < ((l32a : Nat) : Int)) ∧ (∃ n90 : Int, LoadsTo (cx w0 [] []) (loc9_1 k4 p_0 p_1 p_2 p_3 p_4 p_5 p_6_a p_6_n p_6_c k5 s_0_a s_0_n s_0_c s_1_a s_1_n s_1_c s_2_a s_2_n s_2_c s_3_a s_3_n s_3_c s_4 s_5 k10 a44_0 l44_0 c44_0 a44_1 l44_1 c44_1 a44_2 l44_2 c44_2 a44_3 l44_3 c44_3 n44_4 n44_5) own11 2 (Addr.add ad89 (Int.toNat n11 * 1)) (.int .i64 n90) ∧ (cond (n90 != (0 : Int)) (Fin (cx w0 [] []) R (.bool false) own11) (Jc2  own11))))) (Jc2  own11))))))) ((cond (f64.order x62 0 == some .eq) ((∃ ad89 : Addr, a32a = some ad89 ∧ (0 ≤ n11 ∧ n11 < ((l32a : Nat) : Int)) ∧ (∃ n90 : Int, LoadsTo (cx w0 [] []) (loc9_1 k4 p_0 p_1 p_2 p_3 p_4 p_5 p_6_a p_6_n p_6_c k5 s_0_a s_0_n s_0_c s_1_a s_1_n s_1_c s_2_a s_2_n s_2_c s_3_a s_3_n s_3_c s_4 s_5 k10 a44_0 l44_0 c44_0 a44_1 l44_1 c44_1 a44_2 l44_2 c44_2 a44_3 l44_3 c44_3 n44_4 n44_5) own11 2 (Addr.add ad89 (Int.toNat n11 * 1)) (.int .i64 n90) ∧ (cond (n90 != (0 : Int)) (Fin (cx w0 [] []) R (.bool false) own11) (Jc2  own11))))) (Jc2  own11))))))))) ((cond (f64.order x62 0 == some .lt) ((∃ ad78 : Addr, a32a = some ad78 ∧ (0 ≤ n11 ∧ n11 < ((l32a : Nat) : Int)) ∧ (∃ n79 : Int, LoadsTo (cx w0 [] []) (loc9_1 k4 p_0 p_1 p_2 p_3 p_4 p_5 p_6_a p_6_n p_6_c k5 s_0_a s_0_n s_0_c s_1_a s_1_n s_1_c s_2_a s_2_n s_2_c s_3_a s_3_n s_3_c s_4 s_5 k10 a44_0 l44_0 c44_0 a44_1 l44_1 c44_1 a44_2 l44_2 c44_2 a44_3 l44_3 c44_3 n44_4 n44_5) own11 2 (Addr.add ad78 (Int.toNat n11 * 1)) (.int .i64 n79) ∧ (cond (decide (n79 > (0 : Int))) (Fin (cx w0 [] []) R (.bool false) own11) ((cond (f64.order x62 0 == some .eq) ((∃ ad89 : Addr, a32a = some ad89 ∧ (0 ≤ n11 ∧ n11 < ((l32a : Nat) : Int)) ∧ (∃ n90 : Int, LoadsTo (cx w0 [] []) (loc9_1 k4 p_0 p_1 p_2 p_3 p_4 p_5 p_6_a p_6_n p_6_c k5 s_0_a s_0_n s_0_c s_1_a s_1_n s_1_c s_2_a s_2_n s_2_c s_3_a s_3_n s_3_c s_4 s_5 k10 a44_0 l44_0 c44_0 a44_1 l44_1 c44_1 a44_2 l44_2 c44_2 a44_3 l44_3 c44_3 n44_4 n44_5) own11 2 (Addr.add ad89 (Int.toNat n11 * 1)) (.int .i64 n90) ∧ (cond (n90 != (0 : Int)) (Fin (cx w0 [] []) R (.bool false) own11) (Jc2  own11))))) (Jc2  own11))))))) ((cond (f64.order x62 0 == some .eq) ((∃ ad89 : Addr, a32a = some ad89 ∧ (0 ≤ n11 ∧ n11 < ((l32a : Nat) : Int)) ∧ (∃ n90 : Int, LoadsTo (cx w0 [] []) (loc9_1 k4 p_0 p_1 p_2 p_3 p_4 p_5 p_6_a p_6_n p_6_c k5 s_0_a s_0_n s_0_c s_1_a s_1_n s_1_c s_2_a s_2_n s_2_c s_3_a s_3_n s_3_c s_4 s_5 k10 a44_0 l44_0 c44_0 a44_1 l44_1 c44_1 a44_2 l44_2 c44_2 a44_3 l44_3 c44_3 n44_4 n44_5) own11 2 (Addr.add ad89 (Int.toNat n11 * 1)) (.int .i64 n90) ∧ (cond (n90 != (0 : Int)) (Fin (cx w0 [] []) R (.bool false) own11) (Jc2  own11))))) (Jc2  own11))))))) ∧ ∀ ownc2 : Own, Jc2  ownc2 → (∃ ad97 : Addr, a44_3 = some ad97 ∧ (0 ≤ n11 ∧ n11 < ((l44_3 : Nat) : Int)) ∧ (∃ own65 : Own, StoresTo (cx w0 [] []) (loc9_1 k4 p_0 p_1 p_2 p_3 p_4 p_5 p_6_a p_6_n p_6_c k5 s_0_a s_0_n s_0_c s_1_a s_1_n s_1_c s_2_a s_2_n s_2_c s_3_a s_3_n s_3_c s_4 s_5 k10 a44_0 l44_0 c44_0 a44_1 l44_1 c44_1 a44_2 l44_2 c44_2 a44_3 l44_3 c44_3 n44_4 n44_5) ownc2 44 (Addr.add ad97 (Int.toNat n11 * 1)) (.float .f64 0) own65 ∧ ((2 : Int) ≠ 0) ∧ (cond ((Int.tmod n11 (2 : Int)) == (0 : Int)) ((∃ x104 : Nat, CallV (cx w0 [] []) (loc9_1 k4 p_0 p_1 p_2 p_3 p_4 p_5 p_6_a p_6_n p_6_c k5 s_0_a s_0_n s_0_c s_1_a s_1_n s_1_c s_2_a s_2_n s_2_c s_3_a s_3_n s_3_c s_4 s_5 k10 a44_0 l44_0 c44_0 a44_1 l44_1 c44_1 a44_2 l44_2 c44_2 a44_3 l44_3 c44_3 n44_4 n44_5) own65 52 [.int .u64 (9223372036854775808 : Int)] (.float .f64 x104) ∧ (∃ ad105 : Addr, a44_3 = some ad105 ∧ (0 ≤ n11 ∧ n11 < ((l44_3 : Nat) : Int)) ∧ (∃ own68 : Own, StoresTo (cx w0 [] []) (loc9_1 k4 p_0 p_1 p_2 p_3 p_4 p_5 p_6_a p_6_n p_6_c k5 s_0_a s_0_n s_0_c s_1_a s_1_n s_1_c s_2_a s_2_n s_2_c s_3_a s_3_n s_3_c s_4 s_5 k10 a44_0 l44_0 c44_0 a44_1 l44_1 c44_1 a44_2 l44_2 c44_2 a44_3 l44_3 c44_3 n44_4 n44_5) own65 44 (Addr.add ad105 (Int.toNat n11 * 1)) (.float .f64 x104) own68 ∧ I11 (IntKind.wrap .i64 (n11 + (1 : Int))) own68 ∧ μ11 (IntKind.wrap .i64 (n11 + (1 : Int))) own68 < μ11 n11 own11)))) (I11 (IntKind.wrap .i64 (n11 + (1 : Int))) own65 ∧ μ11 (IntKind.wrap .i64 (n11 + (1 : Int))) own65 < μ11 n11 own11)))))))) (Jc0  own11))) (Jc0  own11)))) ∧ ∀ ownc0 : Own, Jc0  ownc0 → (∃ Φ110 : Value → Own → Prop, CallG (cx w0 [] []) (loc9_1 k4 p_0 p_1 p_2 p_3 p_4 p_5 p_6_a p_6_n p_6_c k5 s_0_a s_0_n s_0_c s_1_a s_1_n s_1_c s_2_a s_2_n s_2_c s_3_a s_3_n s_3_c s_4 s_5 k10 a44_0 l44_0 c44_0 a44_1 l44_1 c44_1 a44_2 l44_2 c44_2 a44_3 l44_3 c44_3 n44_4 n44_5) ownc0 43 [.pointer p19a, .agg ⟨[.int .i64 p_0, .float .f64 p_1, .float .f64 p_2, .float .f64 p_3, .int .i64 p_4, .bool p_5, .slice p_6_a p_6_n p_6_c]⟩, .agg ⟨[.slice a44_0 l44_0 c44_0, .slice a44_1 l44_1 c44_1, .slice a44_2 l44_2 c44_2, .slice a44_3 l44_3 c44_3, .int .i64 n44_4, .int .i64 n44_5]⟩] (.tup [.one .slice, .one (.int .i64)]) Φ110 ∧ ∀ a110a : Option Addr, ∀ l110a : Nat, ∀ c110a : Nat, ∀ n110b : Int, ∀ own110 : Own, Φ110 (.tuple ⟨[.slice a110a l110a c110a, .int .i64 n110b]⟩) own110 → (∃ (I14 : Int → Own → Prop) (μ14 : Int → Own → Nat), I14 (0 : Int) own110 ∧ ∀ n14 : Int, ∀ own14 : Own, I14 n14 own14 → (cond (decide (n14 < ((l110a : Nat) : Int))) ((∃ ad121 : Addr, a110a = some ad121 ∧ (0 ≤ n14 ∧ n14 < ((l110a : Nat) : Int)) ∧ (∃ n122 : Int, LoadsTo (cx w0 [] []) (loc9_1 k4 p_0 p_1 p_2 p_3 p_4 p_5 p_6_a p_6_n p_6_c k5 s_0_a s_0_n s_0_c s_1_a s_1_n s_1_c s_2_a s_2_n s_2_c s_3_a s_3_n s_3_c s_4 s_5 k10 a44_0 l44_0 c44_0 a44_1 l44_1 c44_1 a44_2 l44_2 c44_2 a44_3 l44_3 c44_3 n44_4 n44_5) own14 2 (Addr.add ad121 (Int.toNat n14 * 1)) (.int .i64 n122) ∧ (cond (n122 != (0 : Int)) (Fin (cx w0 [] []) R (.bool false) own14) (I14 (IntKind.wrap .i64 (n14 + (1 : Int))) own14 ∧ μ14 (IntKind.wrap .i64 (n14 + (1 : Int))) own14 < μ14 n14 own14))))) ((cond (n110b == (0 : Int)) (Fin (cx w0 [] []) R (.bool (((l110a : Nat) : Int) == ((l32a : Nat) : Int))) own14) (Fin (cx w0 [] []) R (.bool false) own14)))))))))))))))))))))))))
theorem q9_eq (w0 : World) (side : Int) (p_0 : Int) (p_1 : Nat) (p_2 : Nat) (p_3 : Nat) (p_4 : Int) (p_5 : Bool) (p_6_a : Option Addr) (p_6_n : Nat) (p_6_c : Nat) (s_0_a : Option Addr) (s_0_n : Nat) (s_0_c : Nat) (s_1_a : Option Addr) (s_1_n : Nat) (s_1_c : Nat) (s_2_a : Option Addr) (s_2_n : Nat) (s_2_c : Nat) (s_3_a : Option Addr) (s_3_n : Nat) (s_3_c : Nat) (s_4 : Int) (s_5 : Int) (R : Value → World → Prop) : funT (cx w0 [] []) Tryz.f9 an9 [.int .i64 side, .agg ⟨[.int .i64 p_0, .float .f64 p_1, .float .f64 p_2, .float .f64 p_3, .int .i64 p_4, .bool p_5, .slice p_6_a p_6_n p_6_c]⟩, .agg ⟨[.slice s_0_a s_0_n s_0_c, .slice s_1_a s_1_n s_1_c, .slice s_2_a s_2_n s_2_c, .slice s_3_a s_3_n s_3_c, .int .i64 s_4, .int .i64 s_5]⟩] [] R = q9 w0 side p_0 p_1 p_2 p_3 p_4 p_5 p_6_a p_6_n p_6_c s_0_a s_0_n s_0_c s_1_a s_1_n s_1_c s_2_a s_2_n s_2_c s_3_a s_3_n s_3_c s_4 s_5 R := by kernel_rfl
theorem d9 (W : World) (side : Int) (p_0 : Int) (p_1 : Nat) (p_2 : Nat) (p_3 : Nat) (p_4 : Int) (p_5 : Bool) (p_6_a : Option Addr) (p_6_n : Nat) (p_6_c : Nat) (s_0_a : Option Addr) (s_0_n : Nat) (s_0_c : Nat) (s_1_a : Option Addr) (s_1_n : Nat) (s_1_c : Nat) (s_2_a : Option Addr) (s_2_n : Nat) (s_2_c : Nat) (s_3_a : Option Addr) (s_3_n : Nat) (s_3_c : Nat) (s_4 : Int) (s_5 : Int) {R : Value → World → Prop} (h : q9 W side p_0 p_1 p_2 p_3 p_4 p_5 p_6_a p_6_n p_6_c s_0_a s_0_n s_0_c s_1_a s_1_n s_1_c s_2_a s_2_n s_2_c s_3_a s_3_n s_3_c s_4 s_5 R) : Does Tryz.prog 9 [.int .i64 side, .agg ⟨[.int .i64 p_0, .float .f64 p_1, .float .f64 p_2, .float .f64 p_3, .int .i64 p_4, .bool p_5, .slice p_6_a p_6_n p_6_c]⟩, .agg ⟨[.slice s_0_a s_0_n s_0_c, .slice s_1_a s_1_n s_1_c, .slice s_2_a s_2_n s_2_c, .slice s_3_a s_3_n s_3_c, .int .i64 s_4, .int .i64 s_5]⟩] W R :=
  does_of_T (fn := Tryz.f9) (x := an9) (dyn := []) (by kernel_rfl) (by kernel_rfl) (sep_self W) (Eq.mpr (q9_eq W side p_0 p_1 p_2 p_3 p_4 p_5 p_6_a p_6_n p_6_c s_0_a s_0_n s_0_c s_1_a s_1_n s_1_c s_2_a s_2_n s_2_c s_3_a s_3_n s_3_c s_4 s_5 R) h)

theorem p9 (side : Int) (pl : PlanA) (s : SeaA) : On (fun W => Laid W ∧ SeaAt W s) 9 [.int .i64 side, pl.v, s.v] (.bool true) := fun W ⟨hL, hSea⟩ =>
  d9 W side pl.side pl.dt pl.gravity pl.drag pl.lim pl.rivers pl.ra pl.rn pl.rc s.ba s.bed.length s.bc s.wa s.water.length s.wc s.ta s.tracer.length s.tc s.ua s.speed.length s.uc s.sky s.step fun k4 k5 => ⟨_, p40.callL hL, cond_split (fun h => absurd h (by decide)) fun _ => by
  have hlen := len_ng side
  have hok := fun h : Side side => netOf_ok h
  have h30 := p30 side
  generalize netOf side = g at *
  refine ⟨_, h30.newP.call (fun W' hS => hL.ext (Sep.ext0 hS)) (by rintro v X' (⟨_, kg, km, rfl, _⟩ | ⟨_, rfl, _⟩) <;> exact ⟨_, rfl, _, _, rfl, ⟨_, rfl⟩, _, _, rfl, ⟨_, rfl⟩, rfl⟩), fun p19 n19 own19 h => ?_⟩
  obtain ⟨X, (⟨hs, kg, km, e, hX⟩ | ⟨hn, e, rfl⟩), rfl⟩ := h
  case inr => cases e; exact cond_split (fun _ => fin_ext rfl) fun h => absurd h (by decide)
  cases e
  have hok := hok hs
  have hG : ∀ {own : Own} {loc : Tn.Loc} (W' : World), Sep W [] (ents loc own) W' → (∀ q ∈ X, q ∈ own) → LG ⟨kg, 0, none⟩ g W' := fun W' hS hm => ⟨hL.ext (Sep.ext0 hS), gridAt_of hX (fun b o h => hS.own b o (by unfold ents; exact List.mem_append_right _ (hm _ h))) hok⟩
  rw [List.append_nil]
  refine cond_split (fun h => absurd h (by decide)) fun _ => ⟨_, (p46 _ _ _ _ _ _ _ _ _ _ _ _ _ _).callL hL, cond_split (fun _ => fin_ext rfl) fun hlong => ?_⟩
  obtain ⟨hl1, hl2, hl3, hl4⟩ := s46_le hlong
  refine ⟨_, (p43 ⟨kg, 0, none⟩ g pl s).call (fun W' hS' => ⟨hG W' hS' (fun _ h => h), hSea.ext (Sep.ext0 hS')⟩) (by rintro v X' (⟨_, k, rfl, _⟩ | ⟨_, rfl, _⟩) <;> exact ⟨_, rfl, _, _, rfl, ⟨_, _, _, rfl⟩, _, _, rfl, ⟨_, rfl⟩, rfl⟩), fun a32 l32 c32 n32 own32 h32 => ?_⟩
  obtain ⟨X1, (⟨hok43, kl, e, rfl⟩ | ⟨_, e, rfl⟩), rfl⟩ := h32
  case inr => cases e; exact cond_split (fun _ => fin_ext rfl) fun h => absurd h (by decide)
  cases e
  refine cond_split (fun h => absurd h (by decide)) fun _ => cond_split (fun _ => fin_ext rfl) fun hdt => ?_
  have hdt : ng pl.dt = false := (gt0 (by simpa using hdt)).2.2
  have hE := hok43.2.2.2
  have hel := hok.el
  have hLL : ∀ k, k < g.E.length → (s43 g pl.dt pl.lim s.bed s.water s.speed)[k]? = some (q43e g pl.dt pl.lim s.bed s.water s.speed k) := fun k h => s43_at h
  generalize s43 g pl.dt pl.lim s.bed s.water s.speed = LL at *
  refine ⟨_, (p51 s hl1 hl2 hl3 hl4).call (fun W' hS' => ⟨hL.ext (Sep.ext0 hS'), hSea.ext (Sep.ext0 hS')⟩) (by rintro v X' ⟨b1, c1, r1, b2, c2, r2, b3, c3, r3, b4, c4, r4, rfl, _⟩; exact ⟨_, rfl, _, _, rfl, ⟨_, _, _, rfl⟩, _, _, rfl, ⟨_, _, _, rfl⟩, _, _, rfl, ⟨_, _, _, rfl⟩, _, _, rfl, ⟨_, _, _, rfl⟩, _, _, rfl, ⟨_, rfl⟩, _, _, rfl, ⟨_, rfl⟩, rfl⟩), ?_⟩
  intro a0 l0 c0 a1 l1 c1 a2 l2 c2 a3 l3 c3 n4 n5 own44 h44 k10
  obtain ⟨X2, ⟨b1, c1', r1, b2, c2', r2, b3, c3', r3, b4, c4', r4, e, rfl, hcs, hr1, hr2, hr3, hr4⟩, rfl⟩ := h44
  cases e
  refine ⟨fun own => ∃ L r, L.length = s.speed.length ∧ (∀ j, j < s.speed.length → mg (L.getD j 0) = 0) ∧ Has r (fCells L ++ [markF]) ∧ own = (b3, Obj.cells ⟨r3⟩ 2) :: (b2, .cells ⟨r2⟩ 2) :: (b4, .cells ⟨r⟩ 44) :: (b1, .cells ⟨r1⟩ 44) :: (kl, .cells ⟨iCells LL⟩ 2) :: X, ?_, ?_⟩
  · refine ⟨fun i own => ∃ k : Nat, i = (k : Int) ∧ k ≤ g.E.length ∧ ∃ L r, L.length = s.speed.length ∧ (∀ j, j < k → mg (L.getD j 0) = 0) ∧ Has r (fCells L ++ [markF]) ∧ own = (b3, Obj.cells ⟨r3⟩ 2) :: (b2, .cells ⟨r2⟩ 2) :: (b4, .cells ⟨r⟩ 44) :: (b1, .cells ⟨r1⟩ 44) :: (kl, .cells ⟨iCells LL⟩ 2) :: X, fun i _ => ((g.E.length : Int) - i).toNat, ⟨0, rfl, Nat.zero_le _, s.speed, r4, rfl, fun j h => (by cases h), hr4, rfl⟩, ?_⟩
    rintro i own ⟨k, rfl, hk, L, r, hLl, hz, hr, rfl⟩
    refine cond_split (fun h => ?_) fun h => ⟨L, r, hLl, fun j hj => hz j (by have := of_decide_eq_false h; omega), hr, rfl⟩
    have hk' : k < g.E.length := by have := of_decide_eq_true h; omega
    refine cond_split (fun _ => ?_) fun h => absurd (of_decide_eq_false h) (by omega)
    have hsucc : IntKind.wrap .i64 ((k : Int) + 1) = ((k + 1 : Nat) : Int) := wrap_succ (by omega)
    have hmu : ((g.E.length : Int) - IntKind.wrap .i64 ((k : Int) + 1)).toNat < ((g.E.length : Int) - k).toNat := mu_lt hk' (by omega)
    have hu := getD_some (d := 0) (by omega : k < s.speed.length)
    obtain ⟨b, hb⟩ := arr_addr hSea.2.2.2 (fCells_get hu)
    have hq := hLL k hk'
    have mL : ∀ loc : Tn.Loc, (kl, Obj.cells ⟨iCells LL⟩ 2) ∈ ents loc ((b3, Obj.cells ⟨r3⟩ 2) :: (b2, .cells ⟨r2⟩ 2) :: (b4, .cells ⟨r⟩ 44) :: (b1, .cells ⟨r1⟩ 44) :: (kl, .cells ⟨iCells LL⟩ 2) :: X) := fun loc => by simp [ents]
    have hq1 : (f64.order (s.speed.getD k 0) 0 == some .gt) = true → 0 ≤ q43e g pl.dt pl.lim s.bed s.water s.speed k := fun h => sgn_pos (gt0 h).2.2 (s49_ng _ _ _ _ _ _) (hlen _) hdt
    have hq2 : (f64.order (s.speed.getD k 0) 0 == some .lt) = true → q43e g pl.dt pl.lim s.bed s.water s.speed k ≤ 0 := fun h => sgn_neg (lt0' h) (s49_ng _ _ _ _ _ _) (hlen _) hdt
    have hq3 : (f64.order (s.speed.getD k 0) 0 == some .eq) = true → q43e g pl.dt pl.lim s.bed s.water s.speed k = 0 := fun h => sgn_zero (eq0 h)
    generalize q43e g pl.dt pl.lim s.bed s.water s.speed k = q at *
    generalize s.speed.getD k 0 = u at *
    refine ⟨_, hb, ⟨by omega, by omega⟩, u, (by rw [Nat.mul_one]; exact loads_arr hSea.2.2.2 hb (fCells_get hu) ld44), fun own => own = (b3, Obj.cells ⟨r3⟩ 2) :: (b2, .cells ⟨r2⟩ 2) :: (b4, .cells ⟨r⟩ 44) :: (b1, .cells ⟨r1⟩ 44) :: (kl, .cells ⟨iCells LL⟩ 2) :: X, ?_, ?_⟩
    · exact cond_split (fun h1 => ⟨_, rfl, ⟨by omega, by omega⟩, _, loads_i (mL _) hq, cond_split (fun h => absurd (of_decide_eq_true h) (by have := hq1 h1; omega)) fun _ => cond_split (fun h2 => ⟨_, rfl, ⟨by omega, by omega⟩, _, loads_i (mL _) hq, cond_split (fun h => absurd (of_decide_eq_true h) (by have := hq2 h2; omega)) fun _ => cond_split (fun h3 => ⟨_, rfl, ⟨by omega, by omega⟩, _, loads_i (mL _) hq, cond_split (fun h => absurd h (by rw [hq3 h3]; decide)) fun _ => rfl⟩) fun _ => rfl⟩) fun _ => cond_split (fun h3 => ⟨_, rfl, ⟨by omega, by omega⟩, _, loads_i (mL _) hq, cond_split (fun h => absurd h (by rw [hq3 h3]; decide)) fun _ => rfl⟩) fun _ => rfl⟩) fun _ => cond_split (fun h2 => ⟨_, rfl, ⟨by omega, by omega⟩, _, loads_i (mL _) hq, cond_split (fun h => absurd (of_decide_eq_true h) (by have := hq2 h2; omega)) fun _ => cond_split (fun h3 => ⟨_, rfl, ⟨by omega, by omega⟩, _, loads_i (mL _) hq, cond_split (fun h => absurd h (by rw [hq3 h3]; decide)) fun _ => rfl⟩) fun _ => rfl⟩) fun _ => cond_split (fun h3 => ⟨_, rfl, ⟨by omega, by omega⟩, _, loads_i (mL _) hq, cond_split (fun h => absurd h (by rw [hq3 h3]; decide)) fun _ => rfl⟩) fun _ => rfl
    · rintro own rfl
      have hkL : k < L.length := by omega
      refine ⟨_, rfl, ⟨by omega, by omega⟩, _, stores_at (i := k) (pre := [_, _]) (v := .float .f64 0) rfl (has_len hr hkL) rfl rfl ⟨_, rfl, rfl⟩, by decide, cond_split (fun _ => ?_) fun _ => ⟨⟨k + 1, hsucc, hk', L.set k 0, r.set k (.float .f64 0), by rw [List.length_set]; exact hLl, fun j hj => ?_, has_set hr hkL, rfl⟩, hmu⟩⟩
      · refine ⟨_, (p52 _).callL hL, _, rfl, ⟨by omega, by omega⟩, _, stores_at (i := k) (pre := [_, _]) (v := .float .f64 (s52 9223372036854775808)) rfl (by rw [List.length_set]; exact has_len hr hkL) rfl rfl ⟨_, rfl, rfl⟩, ⟨k + 1, hsucc, hk', (L.set k 0).set k (s52 9223372036854775808), (r.set k (.float .f64 0)).set k (.float .f64 (s52 9223372036854775808)), by rw [List.length_set, List.length_set]; exact hLl, fun j hj => ?_, has_set (has_set hr hkL) (by rw [List.length_set]; exact hkL), rfl⟩, hmu⟩
        rw [List.set_set, List.getD_eq_getElem?_getD]
        by_cases e : k = j
        · subst e; rw [List.getElem?_set_self hkL]; exact mg52
        · rw [List.getElem?_set_ne e, ← List.getD_eq_getElem?_getD]; exact hz j (by omega)
      · rw [List.getD_eq_getElem?_getD]
        by_cases e : k = j
        · subst e; rw [List.getElem?_set_self hkL]; decide
        · rw [List.getElem?_set_ne e, ← List.getD_eq_getElem?_getD]; exact hz j (by omega)
  · rintro own ⟨L, r, hLl, hz, hr, rfl⟩
    generalize ht : (⟨some ⟨b1, 0, none⟩, c0, some ⟨b2, 0, none⟩, c1, some ⟨b3, 0, none⟩, c2, some ⟨b4, 0, none⟩, c3, s.bed, s.water, s.tracer, L, s.sky, s.step⟩ : SeaA) = t
    have hv : t.v = .agg ⟨[.slice (some ⟨b1, 0, none⟩) s.bed.length c0, .slice (some ⟨b2, 0, none⟩) s.water.length c1, .slice (some ⟨b3, 0, none⟩) s.tracer.length c2, .slice (some ⟨b4, 0, none⟩) s.speed.length c3, .int .i64 s.sky, .int .i64 s.step]⟩ := by
      subst ht; simp [SeaA.v, hLl]
    have h43 := p43 ⟨kg, 0, none⟩ g pl t
    rw [hv] at h43
    refine ⟨_, h43.call (fun W' hS' => ⟨hG W' hS' (fun q hq => by simp [hq]), by subst ht; exact ⟨has_arr (t := 44) hS' (by simp [ents]) hr1, has_arr (t := 2) hS' (by simp [ents]) hr2, has_arr (t := 2) hS' (by simp [ents]) hr3, has_arr (t := 44) hS' (by simp [ents]) hr⟩⟩) (by rintro v X' (⟨_, k, rfl, _⟩ | ⟨_, rfl, _⟩) <;> exact ⟨_, rfl, _, _, rfl, ⟨_, _, _, rfl⟩, _, _, rfl, ⟨_, rfl⟩, rfl⟩), fun a6 l6 c6 n6 own6 h6 => ?_⟩
    obtain ⟨X3, (⟨_, km', e, rfl⟩ | ⟨hn, _⟩), rfl⟩ := h6
    case inr => exact (hn ⟨by subst ht; exact hok43.1, by subst ht; exact hok43.2.1, by subst ht; exact hok43.2.2.1, by subst ht; exact hLl.trans hE⟩).elim
    cases e
    have hz0 : ∀ k, k < g.E.length → (s43 g pl.dt pl.lim t.bed t.water t.speed)[k]? = some 0 := fun k hk => by rw [s43_at hk]; congr 1; exact sgn_zero (by subst ht; exact hz k (by omega))
    generalize s43 g pl.dt pl.lim t.bed t.water t.speed = ZL at *
    refine ⟨fun i own => ∃ k : Nat, i = (k : Int) ∧ k ≤ g.E.length ∧ own = [(km', Obj.cells ⟨iCells ZL⟩ 2)] ++ (b3, Obj.cells ⟨r3⟩ 2) :: (b2, .cells ⟨r2⟩ 2) :: (b4, .cells ⟨r⟩ 44) :: (b1, .cells ⟨r1⟩ 44) :: (kl, .cells ⟨iCells LL⟩ 2) :: X, fun i _ => ((g.E.length : Int) - i).toNat, ⟨0, rfl, Nat.zero_le _, rfl⟩, ?_⟩
    rintro i own ⟨k, rfl, hk, rfl⟩
    refine cond_split (fun h => ?_) fun h => cond_split (fun _ => fin_ext (by simp)) fun h => absurd h (by decide)
    have hk' : k < g.E.length := by have := of_decide_eq_true h; omega
    have mZ : ∀ loc : Tn.Loc, (km', Obj.cells ⟨iCells ZL⟩ 2) ∈ ents loc ([(km', Obj.cells ⟨iCells ZL⟩ 2)] ++ (b3, Obj.cells ⟨r3⟩ 2) :: (b2, .cells ⟨r2⟩ 2) :: (b4, .cells ⟨r⟩ 44) :: (b1, .cells ⟨r1⟩ 44) :: (kl, .cells ⟨iCells LL⟩ 2) :: X) := fun loc => by simp [ents]
    exact ⟨_, rfl, ⟨by omega, by omega⟩, _, loads_i (mZ _) (hz0 k hk'), cond_split (fun h => absurd h (by decide)) fun _ => ⟨⟨k + 1, wrap_succ (by omega), hk', rfl⟩, mu_lt hk' (by omega)⟩⟩⟩


end Go.Proofs.YtnljcdplcloedaaGreatDoor
end
section
namespace Go.Proofs.YtnljcdplcloedaaGreatDoor
open Go Go.Tn Go.RowKit
set_option linter.unusedVariables false
set_option linter.unusedSimpArgs false
set_option maxRecDepth 100000
set_option maxHeartbeats 2000000

theorem w1 {n : Nat} (h : n ≤ 65536) : IntKind.wrap .i64 ((n : Int) + 1) = ((n + 1 : Nat) : Int) := by rw [wi _ (by omega)]; omega
theorem mark_at {xs : List Value} {u : Value} {n : Nat} (h : xs.length = n) : (xs ++ [u])[n]? = some u := by rw [List.getElem?_append_right (by omega), ← h, Nat.sub_self]; rfl
theorem mark_eq : (f64.order 4635118810238550016 4635118810238550016 != some .eq) = false := by kernel_rfl
theorem arr_pre {W : World} {a : Option Addr} {xs ys : List Value} (h : Arr W a (xs ++ ys)) : Arr W a xs := by
  rcases h with h | ⟨b, o, cs, ty, fr, ha, hb, hv⟩
  · exact .inl (List.append_eq_nil_iff.1 h).1
  · exact .inr ⟨b, o, cs, ty, fr, ha, hb, fun i v hi => hv i v (by rw [List.getElem?_append_left (List.getElem?_eq_some_iff.1 hi).1]; exact hi)⟩

-- tarn/tarnlaw13.still
def loc53_0 (k2 : Nat) (a_0_a : Option Addr) (a_0_n : Nat) (a_0_c : Nat) (a_1_a : Option Addr) (a_1_n : Nat) (a_1_c : Nat) (a_2_a : Option Addr) (a_2_n : Nat) (a_2_c : Nat) (a_3_a : Option Addr) (a_3_n : Nat) (a_3_c : Nat) (a_4 : Int) (a_5 : Int) (k3 : Nat) (s_0_a : Option Addr) (s_0_n : Nat) (s_0_c : Nat) (s_1_a : Option Addr) (s_1_n : Nat) (s_1_c : Nat) (s_2_a : Option Addr) (s_2_n : Nat) (s_2_c : Nat) (s_3_a : Option Addr) (s_3_n : Nat) (s_3_c : Nat) (s_4 : Int) (s_5 : Int) : Tn.Loc := [⟨k2, 25, [.slice a_0_a a_0_n a_0_c, .slice a_1_a a_1_n a_1_c, .slice a_2_a a_2_n a_2_c, .slice a_3_a a_3_n a_3_c, .int .i64 a_4, .int .i64 a_5], []⟩, ⟨k3, 25, [.slice s_0_a s_0_n s_0_c, .slice s_1_a s_1_n s_1_c, .slice s_2_a s_2_n s_2_c, .slice s_3_a s_3_n s_3_c, .int .i64 s_4, .int .i64 s_5], []⟩]
def an53 : Ann := (.seq .leaf (.seq (.seq (.draw [0, 1, 2, 3, 4, 5, 6, 7, 8, 9, 10, 11, 12, 13, 14, 15, 16, 17, 18, 19, 20, 21, 22, 23, 24, 25, 26, 27, 28, 29, 30, 31, 32, 33, 34, 35, 36, 37, 38, 39, 40, 41, 42, 43, 44, 45, 46, 47, 48, 49, 50, 51, 52, 53, 54, 55, 56, 57]) (.cond (.seq .leaf .leaf) .leaf)) (.seq .leaf .leaf)))
noncomputable def q53 (w0 : World) (a_0_a : Option Addr) (a_0_n : Nat) (a_0_c : Nat) (a_1_a : Option Addr) (a_1_n : Nat) (a_1_c : Nat) (a_2_a : Option Addr) (a_2_n : Nat) (a_2_c : Nat) (a_3_a : Option Addr) (a_3_n : Nat) (a_3_c : Nat) (a_4 : Int) (a_5 : Int) (s_0_a : Option Addr) (s_0_n : Nat) (s_0_c : Nat) (s_1_a : Option Addr) (s_1_n : Nat) (s_1_c : Nat) (s_2_a : Option Addr) (s_2_n : Nat) (s_2_c : Nat) (s_3_a : Option Addr) (s_3_n : Nat) (s_3_c : Nat) (s_4 : Int) (s_5 : Int) (R : Value → World → Prop) : Prop :=
  (∀ k2 : Nat, (∀ k3 : Nat, (a_0_n ≤ a_0_c ∧ 0 ≤ (0 : Int) ∧ (0 : Int) ≤ IntKind.wrap .i64 (((s_0_n : Nat) : Int) + (1 : Int)) ∧ IntKind.wrap .i64 (((s_0_n : Nat) : Int) + (1 : Int)) ≤ ((a_0_c : Nat) : Int) ∧ ((a_0_c : Nat) : Int) ≤ ((a_0_c : Nat) : Int)) ∧ (∃ ad15 : Addr, (if Int.toNat ((a_0_c : Nat) : Int) = Int.toNat (0 : Int) then a_0_a else Option.map (fun q => Addr.add q (Int.toNat (0 : Int) * 1)) a_0_a) = some ad15 ∧ (0 ≤ ((s_0_n : Nat) : Int) ∧ ((s_0_n : Nat) : Int) < ((Int.toNat (IntKind.wrap .i64 (((s_0_n : Nat) : Int) + (1 : Int))) - Int.toNat (0 : Int) : Nat) : Int)) ∧ (∃ x16 : Nat, LoadsTo (cx w0 [] []) (loc53_0 k2 a_0_a a_0_n a_0_c a_1_a a_1_n a_1_c a_2_a a_2_n a_2_c a_3_a a_3_n a_3_c a_4 a_5 k3 s_0_a s_0_n s_0_c s_1_a s_1_n s_1_c s_2_a s_2_n s_2_c s_3_a s_3_n s_3_c s_4 s_5) [] 44 (Addr.add ad15 (Int.toNat ((s_0_n : Nat) : Int) * 1)) (.float .f64 x16) ∧ (cond (f64.order x16 4635118810238550016 != some .eq) (Fin (cx w0 [] []) R (.bool false) []) ((a_3_n ≤ a_3_c ∧ 0 ≤ (0 : Int) ∧ (0 : Int) ≤ IntKind.wrap .i64 (((s_3_n : Nat) : Int) + (1 : Int)) ∧ IntKind.wrap .i64 (((s_3_n : Nat) : Int) + (1 : Int)) ≤ ((a_3_c : Nat) : Int) ∧ ((a_3_c : Nat) : Int) ≤ ((a_3_c : Nat) : Int)) ∧ (∃ ad29 : Addr, (if Int.toNat ((a_3_c : Nat) : Int) = Int.toNat (0 : Int) then a_3_a else Option.map (fun q => Addr.add q (Int.toNat (0 : Int) * 1)) a_3_a) = some ad29 ∧ (0 ≤ ((s_3_n : Nat) : Int) ∧ ((s_3_n : Nat) : Int) < ((Int.toNat (IntKind.wrap .i64 (((s_3_n : Nat) : Int) + (1 : Int))) - Int.toNat (0 : Int) : Nat) : Int)) ∧ (∃ x30 : Nat, LoadsTo (cx w0 [] []) (loc53_0 k2 a_0_a a_0_n a_0_c a_1_a a_1_n a_1_c a_2_a a_2_n a_2_c a_3_a a_3_n a_3_c a_4 a_5 k3 s_0_a s_0_n s_0_c s_1_a s_1_n s_1_c s_2_a s_2_n s_2_c s_3_a s_3_n s_3_c s_4 s_5) [] 44 (Addr.add ad29 (Int.toNat ((s_3_n : Nat) : Int) * 1)) (.float .f64 x30) ∧ (cond (f64.order x30 4635118810238550016 != some .eq) (Fin (cx w0 [] []) R (.bool false) []) ((a_1_n ≤ a_1_c ∧ 0 ≤ (0 : Int) ∧ (0 : Int) ≤ IntKind.wrap .i64 (((s_1_n : Nat) : Int) + (1 : Int)) ∧ IntKind.wrap .i64 (((s_1_n : Nat) : Int) + (1 : Int)) ≤ ((a_1_c : Nat) : Int) ∧ ((a_1_c : Nat) : Int) ≤ ((a_1_c : Nat) : Int)) ∧ (∃ ad44 : Addr, (if Int.toNat ((a_1_c : Nat) : Int) = Int.toNat (0 : Int) then a_1_a else Option.map (fun q => Addr.add q (Int.toNat (0 : Int) * 1)) a_1_a) = some ad44 ∧ (0 ≤ ((s_1_n : Nat) : Int) ∧ ((s_1_n : Nat) : Int) < ((Int.toNat (IntKind.wrap .i64 (((s_1_n : Nat) : Int) + (1 : Int))) - Int.toNat (0 : Int) : Nat) : Int)) ∧ (∃ n45 : Int, LoadsTo (cx w0 [] []) (loc53_0 k2 a_0_a a_0_n a_0_c a_1_a a_1_n a_1_c a_2_a a_2_n a_2_c a_3_a a_3_n a_3_c a_4 a_5 k3 s_0_a s_0_n s_0_c s_1_a s_1_n s_1_c s_2_a s_2_n s_2_c s_3_a s_3_n s_3_c s_4 s_5) [] 2 (Addr.add ad44 (Int.toNat ((s_1_n : Nat) : Int) * 1)) (.int .i64 n45) ∧ (cond (n45 != (77 : Int)) (Fin (cx w0 [] []) R (.bool false) []) ((a_2_n ≤ a_2_c ∧ 0 ≤ (0 : Int) ∧ (0 : Int) ≤ IntKind.wrap .i64 (((s_2_n : Nat) : Int) + (1 : Int)) ∧ IntKind.wrap .i64 (((s_2_n : Nat) : Int) + (1 : Int)) ≤ ((a_2_c : Nat) : Int) ∧ ((a_2_c : Nat) : Int) ≤ ((a_2_c : Nat) : Int)) ∧ (∃ ad59 : Addr, (if Int.toNat ((a_2_c : Nat) : Int) = Int.toNat (0 : Int) then a_2_a else Option.map (fun q => Addr.add q (Int.toNat (0 : Int) * 1)) a_2_a) = some ad59 ∧ (0 ≤ ((s_2_n : Nat) : Int) ∧ ((s_2_n : Nat) : Int) < ((Int.toNat (IntKind.wrap .i64 (((s_2_n : Nat) : Int) + (1 : Int))) - Int.toNat (0 : Int) : Nat) : Int)) ∧ (∃ n60 : Int, LoadsTo (cx w0 [] []) (loc53_0 k2 a_0_a a_0_n a_0_c a_1_a a_1_n a_1_c a_2_a a_2_n a_2_c a_3_a a_3_n a_3_c a_4 a_5 k3 s_0_a s_0_n s_0_c s_1_a s_1_n s_1_c s_2_a s_2_n s_2_c s_3_a s_3_n s_3_c s_4 s_5) [] 2 (Addr.add ad59 (Int.toNat ((s_2_n : Nat) : Int) * 1)) (.int .i64 n60) ∧ (cond (n60 != (77 : Int)) (Fin (cx w0 [] []) R (.bool false) []) ((∃ b67 : Bool, CallV (cx w0 [] []) (loc53_0 k2 a_0_a a_0_n a_0_c a_1_a a_1_n a_1_c a_2_a a_2_n a_2_c a_3_a a_3_n a_3_c a_4 a_5 k3 s_0_a s_0_n s_0_c s_1_a s_1_n s_1_c s_2_a s_2_n s_2_c s_3_a s_3_n s_3_c s_4 s_5) [] 33 [.slice a_0_a a_0_n a_0_c, .slice s_0_a s_0_n s_0_c] (.bool b67) ∧ (cond b67 ((∃ b73 : Bool, CallV (cx w0 [] []) (loc53_0 k2 a_0_a a_0_n a_0_c a_1_a a_1_n a_1_c a_2_a a_2_n a_2_c a_3_a a_3_n a_3_c a_4 a_5 k3 s_0_a s_0_n s_0_c s_1_a s_1_n s_1_c s_2_a s_2_n s_2_c s_3_a s_3_n s_3_c s_4 s_5) [] 33 [.slice a_3_a a_3_n a_3_c, .slice s_3_a s_3_n s_3_c] (.bool b73) ∧ (cond b73 ((∃ b80 : Bool, CallV (cx w0 [] []) (loc53_0 k2 a_0_a a_0_n a_0_c a_1_a a_1_n a_1_c a_2_a a_2_n a_2_c a_3_a a_3_n a_3_c a_4 a_5 k3 s_0_a s_0_n s_0_c s_1_a s_1_n s_1_c s_2_a s_2_n s_2_c s_3_a s_3_n s_3_c s_4 s_5) [] 45 [.slice a_1_a a_1_n a_1_c, .slice s_1_a s_1_n s_1_c] (.bool b80) ∧ (cond b80 ((∃ b87 : Bool, CallV (cx w0 [] []) (loc53_0 k2 a_0_a a_0_n a_0_c a_1_a a_1_n a_1_c a_2_a a_2_n a_2_c a_3_a a_3_n a_3_c a_4 a_5 k3 s_0_a s_0_n s_0_c s_1_a s_1_n s_1_c s_2_a s_2_n s_2_c s_3_a s_3_n s_3_c s_4 s_5) [] 45 [.slice a_2_a a_2_n a_2_c, .slice s_2_a s_2_n s_2_c] (.bool b87) ∧ (cond b87 ((cond (a_4 == s_4) (Fin (cx w0 [] []) R (.bool (a_5 == s_5)) []) (Fin (cx w0 [] []) R (.bool false) []))) (Fin (cx w0 [] []) R (.bool false) [])))) (Fin (cx w0 [] []) R (.bool false) [])))) (Fin (cx w0 [] []) R (.bool false) [])))) (Fin (cx w0 [] []) R (.bool false) [])))))))))))))))))))))
theorem q53_eq (w0 : World) (a_0_a : Option Addr) (a_0_n : Nat) (a_0_c : Nat) (a_1_a : Option Addr) (a_1_n : Nat) (a_1_c : Nat) (a_2_a : Option Addr) (a_2_n : Nat) (a_2_c : Nat) (a_3_a : Option Addr) (a_3_n : Nat) (a_3_c : Nat) (a_4 : Int) (a_5 : Int) (s_0_a : Option Addr) (s_0_n : Nat) (s_0_c : Nat) (s_1_a : Option Addr) (s_1_n : Nat) (s_1_c : Nat) (s_2_a : Option Addr) (s_2_n : Nat) (s_2_c : Nat) (s_3_a : Option Addr) (s_3_n : Nat) (s_3_c : Nat) (s_4 : Int) (s_5 : Int) (R : Value → World → Prop) : funT (cx w0 [] []) Tryz.f53 an53 [.agg ⟨[.slice a_0_a a_0_n a_0_c, .slice a_1_a a_1_n a_1_c, .slice a_2_a a_2_n a_2_c, .slice a_3_a a_3_n a_3_c, .int .i64 a_4, .int .i64 a_5]⟩, .agg ⟨[.slice s_0_a s_0_n s_0_c, .slice s_1_a s_1_n s_1_c, .slice s_2_a s_2_n s_2_c, .slice s_3_a s_3_n s_3_c, .int .i64 s_4, .int .i64 s_5]⟩] [] R = q53 w0 a_0_a a_0_n a_0_c a_1_a a_1_n a_1_c a_2_a a_2_n a_2_c a_3_a a_3_n a_3_c a_4 a_5 s_0_a s_0_n s_0_c s_1_a s_1_n s_1_c s_2_a s_2_n s_2_c s_3_a s_3_n s_3_c s_4 s_5 R := by kernel_rfl
theorem d53 (W : World) (a_0_a : Option Addr) (a_0_n : Nat) (a_0_c : Nat) (a_1_a : Option Addr) (a_1_n : Nat) (a_1_c : Nat) (a_2_a : Option Addr) (a_2_n : Nat) (a_2_c : Nat) (a_3_a : Option Addr) (a_3_n : Nat) (a_3_c : Nat) (a_4 : Int) (a_5 : Int) (s_0_a : Option Addr) (s_0_n : Nat) (s_0_c : Nat) (s_1_a : Option Addr) (s_1_n : Nat) (s_1_c : Nat) (s_2_a : Option Addr) (s_2_n : Nat) (s_2_c : Nat) (s_3_a : Option Addr) (s_3_n : Nat) (s_3_c : Nat) (s_4 : Int) (s_5 : Int) {R : Value → World → Prop} (h : q53 W a_0_a a_0_n a_0_c a_1_a a_1_n a_1_c a_2_a a_2_n a_2_c a_3_a a_3_n a_3_c a_4 a_5 s_0_a s_0_n s_0_c s_1_a s_1_n s_1_c s_2_a s_2_n s_2_c s_3_a s_3_n s_3_c s_4 s_5 R) : Does Tryz.prog 53 [.agg ⟨[.slice a_0_a a_0_n a_0_c, .slice a_1_a a_1_n a_1_c, .slice a_2_a a_2_n a_2_c, .slice a_3_a a_3_n a_3_c, .int .i64 a_4, .int .i64 a_5]⟩, .agg ⟨[.slice s_0_a s_0_n s_0_c, .slice s_1_a s_1_n s_1_c, .slice s_2_a s_2_n s_2_c, .slice s_3_a s_3_n s_3_c, .int .i64 s_4, .int .i64 s_5]⟩] W R :=
  does_of_T (fn := Tryz.f53) (x := an53) (dyn := []) (by kernel_rfl) (by kernel_rfl) (sep_self W) (Eq.mpr (q53_eq W a_0_a a_0_n a_0_c a_1_a a_1_n a_1_c a_2_a a_2_n a_2_c a_3_a a_3_n a_3_c a_4 a_5 s_0_a s_0_n s_0_c s_1_a s_1_n s_1_c s_2_a s_2_n s_2_c s_3_a s_3_n s_3_c s_4 s_5 R) h)

theorem p53 (s : SeaA) (b1 b2 b3 b4 c1 c2 c3 c4 : Nat) (h1 : s.bed.length ≤ 65536) (h2 : s.water.length ≤ 65536) (h3 : s.tracer.length ≤ 65536) (h4 : s.speed.length ≤ 65536) (g1 : s.bed.length + 1 ≤ c1) (g2 : s.water.length + 1 ≤ c2) (g3 : s.tracer.length + 1 ≤ c3) (g4 : s.speed.length + 1 ≤ c4) :
    On (fun W => Laid W ∧ SeaAt W s ∧ Arr W (some ⟨b1, 0, none⟩) (fCells s.bed ++ [markF]) ∧ Arr W (some ⟨b2, 0, none⟩) (iCells s.water ++ [markI]) ∧ Arr W (some ⟨b3, 0, none⟩) (iCells s.tracer ++ [markI]) ∧ Arr W (some ⟨b4, 0, none⟩) (fCells s.speed ++ [markF])) 53
      [.agg ⟨[.slice (some ⟨b1, 0, none⟩) s.bed.length c1, .slice (some ⟨b2, 0, none⟩) s.water.length c2, .slice (some ⟨b3, 0, none⟩) s.tracer.length c3, .slice (some ⟨b4, 0, none⟩) s.speed.length c4, .int .i64 s.sky, .int .i64 s.step]⟩, s.v] (.bool true) := fun W ⟨hL, hS, hA1, hA2, hA3, hA4⟩ =>
  d53 W (some ⟨b1, 0, none⟩) s.bed.length c1 (some ⟨b2, 0, none⟩) s.water.length c2 (some ⟨b3, 0, none⟩) s.tracer.length c3 (some ⟨b4, 0, none⟩) s.speed.length c4 s.sky s.step s.ba s.bed.length s.bc s.wa s.water.length s.wc s.ta s.tracer.length s.tc s.ua s.speed.length s.uc s.sky s.step fun k2 k3 => by
  rw [w1 h1, w1 h2, w1 h3, w1 h4]
  simp only [slice0]
  simp only [toNat_nat, Int.toNat_zero, Nat.sub_zero]
  refine ⟨⟨by omega, by omega, by omega, by omega, by omega⟩, _, rfl, ⟨by omega, by omega⟩, _, (by rw [Nat.mul_one]; exact loads_arr hA1 rfl (mark_at (fCells_len _)) ld44), cond_split (fun h => Bool.noConfusion (mark_eq.symm.trans h)) fun _ => ?_⟩
  refine ⟨⟨by omega, by omega, by omega, by omega, by omega⟩, _, rfl, ⟨by omega, by omega⟩, _, (by rw [Nat.mul_one]; exact loads_arr hA4 rfl (mark_at (fCells_len _)) ld44), cond_split (fun h => Bool.noConfusion (mark_eq.symm.trans h)) fun _ => ?_⟩
  refine ⟨⟨by omega, by omega, by omega, by omega, by omega⟩, _, rfl, ⟨by omega, by omega⟩, _, (by rw [Nat.mul_one]; exact loads_arr hA2 rfl (mark_at (iCells_len _)) ld2), cond_split (fun h => absurd h (by decide)) fun _ => ?_⟩
  refine ⟨⟨by omega, by omega, by omega, by omega, by omega⟩, _, rfl, ⟨by omega, by omega⟩, _, (by rw [Nat.mul_one]; exact loads_arr hA3 rfl (mark_at (iCells_len _)) ld2), cond_split (fun h => absurd h (by decide)) fun _ => ?_⟩
  refine ⟨_, (p33 s.bed s.bed (some ⟨b1, 0, none⟩) s.ba c1 s.bc (by omega)).call (fun W' hS' => ⟨hL.ext (Sep.ext0 hS'), (arr_pre hA1).sep hS', hS.1.sep hS'⟩), cond_split (fun _ => ?_) fun h => absurd h (by simp)⟩
  refine ⟨_, (p33 s.speed s.speed (some ⟨b4, 0, none⟩) s.ua c4 s.uc (by omega)).call (fun W' hS' => ⟨hL.ext (Sep.ext0 hS'), (arr_pre hA4).sep hS', hS.2.2.2.sep hS'⟩), cond_split (fun _ => ?_) fun h => absurd h (by simp)⟩
  refine ⟨_, (p45 s.water s.water (some ⟨b2, 0, none⟩) s.wa c2 s.wc (by omega)).call (fun W' hS' => ⟨hL.ext (Sep.ext0 hS'), (arr_pre hA2).sep hS', hS.2.1.sep hS'⟩), cond_split (fun _ => ?_) fun h => absurd h (by simp)⟩
  refine ⟨_, (p45 s.tracer s.tracer (some ⟨b3, 0, none⟩) s.ta c3 s.tc (by omega)).call (fun W' hS' => ⟨hL.ext (Sep.ext0 hS'), (arr_pre hA3).sep hS', hS.2.2.1.sep hS'⟩), cond_split (fun _ => ?_) fun h => absurd h (by simp)⟩
  exact cond_split (fun _ => fin_ext (by simp)) fun h => absurd h (by simp)


end Go.Proofs.YtnljcdplcloedaaGreatDoor
end
section
namespace Go.Proofs.YtnljcdplcloedaaGreatDoor
open Go Go.Tn Go.RowKit
set_option linter.unusedVariables false
set_option linter.unusedSimpArgs false
set_option maxRecDepth 100000
set_option maxHeartbeats 2000000

/-- what All answers, told at once -/
def D43 (g : Net) (pl : PlanA) (s : SeaA) : List Int := if s.bed.length = g.A.length ∧ s.water.length = g.A.length ∧ s.tracer.length = g.A.length ∧ s.speed.length = g.E.length then s43 g pl.dt pl.lim s.bed s.water s.speed else []
def e43 (g : Net) (s : SeaA) : Int := if s.bed.length = g.A.length ∧ s.water.length = g.A.length ∧ s.tracer.length = g.A.length ∧ s.speed.length = g.E.length then 0 else 1
def DI (D : List Int) (al : Option Addr) (cl : Nat) (X : Own) : Prop := (D = [] ∧ al = none ∧ cl = 0 ∧ X = []) ∨ ∃ k, al = some ⟨k, 0, none⟩ ∧ cl = D.length ∧ X = [(k, .cells ⟨iCells D⟩ 2)]
theorem p43u (p : Addr) (g : Net) (pl : PlanA) (s : SeaA) : NewP (LS p g s) 43 [.pointer (some p), pl.v, s.v] fun v X' =>
    ∃ al cl, v = .tuple ⟨[.slice al (D43 g pl s).length cl, .int .i64 (e43 g s)]⟩ ∧ DI (D43 g pl s) al cl X' := by
  intro W hW
  refine (p43 p g pl s W hW).mono ?_
  rintro v W' ⟨X', (⟨hok, k, rfl, rfl⟩ | ⟨hn, rfl, rfl⟩), hS⟩
  · unfold ok43 at hok
    have hl : (s43 g pl.dt pl.lim s.bed s.water s.speed).length = g.E.length := by simp [s43]
    refine ⟨_, ⟨some ⟨k, 0, none⟩, g.E.length, ?_, .inr ⟨k, rfl, ?_, ?_⟩⟩, hS⟩
    · unfold D43 e43; rw [if_pos hok, if_pos hok, hl]
    · unfold D43; rw [if_pos hok, hl]
    · unfold D43; rw [if_pos hok]
  · unfold ok43 at hn
    refine ⟨_, ⟨none, 0, ?_, .inl ⟨?_, rfl, rfl, rfl⟩⟩, hS⟩
    · unfold D43 e43; rw [if_neg hn, if_neg hn]; rfl
    · unfold D43; rw [if_neg hn]
theorem di_arr {D : List Int} {al : Option Addr} {cl : Nat} {X : Own} (h : DI D al cl X) {w0 W : World} {mt : List Nat} {l : List (Nat × Obj)} (hS : Sep w0 mt l W) (hm : ∀ q ∈ X, q ∈ l) : Arr W al (iCells D) := by
  rcases h with ⟨rfl, _, _, rfl⟩ | ⟨k, rfl, _, rfl⟩
  · exact .inl rfl
  · exact arr_own hS (hm _ (.head _)) fun i v h => by rw [Nat.zero_add]; exact h
theorem append_onto {w0 : World} {mt dyn : List Nat} {loc : Tn.Loc} {own : Own} {t e : TypeId} {k n c : Nat} {a : Option Addr} {xs : List Value} (hE : ElT t e 1 8) (hx : xs.length = n) (hn : n ≤ 100000) (h1 : xs.all Tn.isOne = true)
    (ha : ∀ W, Sep w0 mt (ents loc ((k, .cells ⟨[]⟩ e) :: own)) W → Arr W a xs) :
    OpG (cx w0 mt dyn) loc ((k, .cells ⟨[]⟩ e) :: own) (Builtin.append_ #[t, t] t ⟨[.slice (some ⟨k, 0, none⟩) 0 0, .slice a n c]⟩) (.val (.one .slice)) fun v' own' => ∃ blk, own' = blk ++ own ∧ GS v' blk e 1 n xs := by
  have g0 : GS (.slice (some ⟨k, 0, none⟩) 0 0) [(k, .cells ⟨[]⟩ e)] e 1 0 [] := ⟨rfl, .inr ⟨k, 0, _, rfl, rfl, Nat.le_refl _, Nat.zero_le _, by simp, by simp⟩⟩
  by_cases h0 : n = 0
  · subst h0
    have e2 : xs = [] := List.eq_nil_of_length_eq_zero hx
    subst e2
    refine opg_of0 fun fr => opg0_mono (append_nothing hE) fun v o ⟨e1, e2⟩ => ⟨_, ⟨[(k, .cells ⟨[]⟩ e)], rfl, ?_⟩, e2⟩
    subst e1; exact g0
  · intro fr W hS
    have hA := ha W (sep_less hS)
    obtain ⟨v0, hv0⟩ : ∃ v, xs[0]? = some v := ⟨_, List.getElem?_eq_getElem (by omega)⟩
    obtain ⟨ad, rfl⟩ := arr_addr hA hv0
    have h := append_gs (w0 := w0) (mt := mt) (dyn := dyn) (loc := loc) (own := (k, .cells ⟨[]⟩ e) :: own) (pre := []) (post := own) (ty := t) (c := c) (a := ad) (m := n) (news := xs) hE g0 rfl (by omega) (by omega) (fun u hu => List.all_eq_true.1 h1 u hu)
      (fun W' hS' j u hu => arr_cells (ha W' hS') hu) (by unfold maxLen; omega) (by omega)
    simp only [List.nil_append, Nat.zero_add] at h
    exact h fr W hS
theorem gs_arr {v : Value} {a : Option Addr} {n c : Nat} {blk : Own} {xs : List Value} {e : TypeId} (hg : GS v blk e 1 n xs) (hv : v = .slice a n c) {w0 W : World} {mt : List Nat} {l : List (Nat × Obj)} (hS : Sep w0 mt l W) (hm : ∀ q ∈ blk, q ∈ l) : Arr W a xs := by
  obtain ⟨hl, h | ⟨g, cap, cur, h1, h2, h3, h4, h5, h6⟩⟩ := hg
  · exact .inl (List.eq_nil_of_length_eq_zero (by rw [hl, h.2.1]))
  · rw [hv] at h1; cases h1
    subst h2
    refine arr_own hS (hm _ (.head _)) fun i v h => ?_
    rw [Nat.zero_add]
    rw [← h6, List.getElem?_take] at h
    split at h
    · exact h
    · cases h

-- tarn/tarnlaw13.FluxKeeps
def loc10_0 (k4 : Nat) (p_0 : Int) (p_1 : Nat) (p_2 : Nat) (p_3 : Nat) (p_4 : Int) (p_5 : Bool) (p_6_a : Option Addr) (p_6_n : Nat) (p_6_c : Nat) (k5 : Nat) (s_0_a : Option Addr) (s_0_n : Nat) (s_0_c : Nat) (s_1_a : Option Addr) (s_1_n : Nat) (s_1_c : Nat) (s_2_a : Option Addr) (s_2_n : Nat) (s_2_c : Nat) (s_3_a : Option Addr) (s_3_n : Nat) (s_3_c : Nat) (s_4 : Int) (s_5 : Int) : Tn.Loc := [⟨k4, 54, [.int .i64 p_0, .float .f64 p_1, .float .f64 p_2, .float .f64 p_3, .int .i64 p_4, .bool p_5, .slice p_6_a p_6_n p_6_c], []⟩, ⟨k5, 25, [.slice s_0_a s_0_n s_0_c, .slice s_1_a s_1_n s_1_c, .slice s_2_a s_2_n s_2_c, .slice s_3_a s_3_n s_3_c, .int .i64 s_4, .int .i64 s_5], []⟩]
def loc10_1 (k4 : Nat) (p_0 : Int) (p_1 : Nat) (p_2 : Nat) (p_3 : Nat) (p_4 : Int) (p_5 : Bool) (p_6_a : Option Addr) (p_6_n : Nat) (p_6_c : Nat) (k5 : Nat) (s_0_a : Option Addr) (s_0_n : Nat) (s_0_c : Nat) (s_1_a : Option Addr) (s_1_n : Nat) (s_1_c : Nat) (s_2_a : Option Addr) (s_2_n : Nat) (s_2_c : Nat) (s_3_a : Option Addr) (s_3_n : Nat) (s_3_c : Nat) (s_4 : Int) (s_5 : Int) (k9 : Nat) (a32_0 : Option Addr) (l32_0 : Nat) (c32_0 : Nat) (a32_1 : Option Addr) (l32_1 : Nat) (c32_1 : Nat) (a32_2 : Option Addr) (l32_2 : Nat) (c32_2 : Nat) (a32_3 : Option Addr) (l32_3 : Nat) (c32_3 : Nat) (n32_4 : Int) (n32_5 : Int) : Tn.Loc := [⟨k4, 54, [.int .i64 p_0, .float .f64 p_1, .float .f64 p_2, .float .f64 p_3, .int .i64 p_4, .bool p_5, .slice p_6_a p_6_n p_6_c], []⟩, ⟨k5, 25, [.slice s_0_a s_0_n s_0_c, .slice s_1_a s_1_n s_1_c, .slice s_2_a s_2_n s_2_c, .slice s_3_a s_3_n s_3_c, .int .i64 s_4, .int .i64 s_5], []⟩, ⟨k9, 25, [.slice a32_0 l32_0 c32_0, .slice a32_1 l32_1 c32_1, .slice a32_2 l32_2 c32_2, .slice a32_3 l32_3 c32_3, .int .i64 n32_4, .int .i64 n32_5], []⟩]
def an10 : Ann := (.seq .leaf (.seq (.seq .leaf (.cond (.seq .leaf .leaf) .leaf)) (.seq .leaf (.seq (.seq .leaf (.cond (.seq .leaf .leaf) .leaf)) (.seq .leaf (.seq .leaf (.seq .leaf (.seq (.seq .leaf (.cond (.seq .leaf .leaf) .leaf)) (.seq .leaf (.seq (.seq .leaf (.block (.loop [(15, .one (.int .i64))] [] (.seq (.seq .leaf (.cond .leaf .leaf)) (.seq (.block .leaf) .leaf))))) (.seq (.seq .leaf (.block (.loop [(10, .one .slice), (16, .one (.int .i64))] [] (.seq (.seq .leaf (.cond .leaf .leaf)) (.seq (.block .leaf) .leaf))))) (.seq .leaf (.seq .leaf .leaf)))))))))))))
noncomputable def q10 (w0 : World) (side : Int) (p_0 : Int) (p_1 : Nat) (p_2 : Nat) (p_3 : Nat) (p_4 : Int) (p_5 : Bool) (p_6_a : Option Addr) (p_6_n : Nat) (p_6_c : Nat) (s_0_a : Option Addr) (s_0_n : Nat) (s_0_c : Nat) (s_1_a : Option Addr) (s_1_n : Nat) (s_1_c : Nat) (s_2_a : Option Addr) (s_2_n : Nat) (s_2_c : Nat) (s_3_a : Option Addr) (s_3_n : Nat) (s_3_c : Nat) (s_4 : Int) (s_5 : Int) (R : Value → World → Prop) : Prop :=
  (∀ k4 : Nat, (∀ k5 : Nat, (∃ b18 : Bool, CallV (cx w0 [] []) (loc10_0 k4 p_0 p_1 p_2 p_3 p_4 p_5 p_6_a p_6_n p_6_c k5 s_0_a s_0_n s_0_c s_1_a s_1_n s_1_c s_2_a s_2_n s_2_c s_3_a s_3_n s_3_c s_4 s_5) [] 40 [] (.bool b18) ∧ (cond (!b18) (Fin (cx w0 [] []) R (.bool false) []) ((∃ Φ22 : Value → Own → Prop, CallG (cx w0 [] []) (loc10_0 k4 p_0 p_1 p_2 p_3 p_4 p_5 p_6_a p_6_n p_6_c k5 s_0_a s_0_n s_0_c s_1_a s_1_n s_1_c s_2_a s_2_n s_2_c s_3_a s_3_n s_3_c s_4 s_5) [] 30 [.int .i64 side] (.tup [.one .ptr, .one (.int .i64)]) Φ22 ∧ ∀ p22a : Option Addr, ∀ n22b : Int, ∀ own22 : Own, Φ22 (.tuple ⟨[.pointer p22a, .int .i64 n22b]⟩) own22 → (cond (n22b != (0 : Int)) (Fin (cx w0 [] []) R (.bool true) own22) ((∃ b29 : Bool, CallV (cx w0 [] []) (loc10_0 k4 p_0 p_1 p_2 p_3 p_4 p_5 p_6_a p_6_n p_6_c k5 s_0_a s_0_n s_0_c s_1_a s_1_n s_1_c s_2_a s_2_n s_2_c s_3_a s_3_n s_3_c s_4 s_5) own22 46 [.agg ⟨[.slice s_0_a s_0_n s_0_c, .slice s_1_a s_1_n s_1_c, .slice s_2_a s_2_n s_2_c, .slice s_3_a s_3_n s_3_c, .int .i64 s_4, .int .i64 s_5]⟩] (.bool b29) ∧ (cond b29 (Fin (cx w0 [] []) R (.bool true) own22) ((∃ Φ32 : Value → Own → Prop, CallG (cx w0 [] []) (loc10_0 k4 p_0 p_1 p_2 p_3 p_4 p_5 p_6_a p_6_n p_6_c k5 s_0_a s_0_n s_0_c s_1_a s_1_n s_1_c s_2_a s_2_n s_2_c s_3_a s_3_n s_3_c s_4 s_5) own22 51 [.agg ⟨[.slice s_0_a s_0_n s_0_c, .slice s_1_a s_1_n s_1_c, .slice s_2_a s_2_n s_2_c, .slice s_3_a s_3_n s_3_c, .int .i64 s_4, .int .i64 s_5]⟩] (.val (.agg [.slice, .slice, .slice, .slice, .int .i64, .int .i64])) Φ32 ∧ ∀ a32_0 : Option Addr, ∀ l32_0 : Nat, ∀ c32_0 : Nat, ∀ a32_1 : Option Addr, ∀ l32_1 : Nat, ∀ c32_1 : Nat, ∀ a32_2 : Option Addr, ∀ l32_2 : Nat, ∀ c32_2 : Nat, ∀ a32_3 : Option Addr, ∀ l32_3 : Nat, ∀ c32_3 : Nat, ∀ n32_4 : Int, ∀ n32_5 : Int, ∀ own32 : Own, Φ32 (.agg ⟨[.slice a32_0 l32_0 c32_0, .slice a32_1 l32_1 c32_1, .slice a32_2 l32_2 c32_2, .slice a32_3 l32_3 c32_3, .int .i64 n32_4, .int .i64 n32_5]⟩) own32 → (∀ k9 : Nat, (∃ Φ37 : Value → Own → Prop, CallG (cx w0 [] []) (loc10_1 k4 p_0 p_1 p_2 p_3 p_4 p_5 p_6_a p_6_n p_6_c k5 s_0_a s_0_n s_0_c s_1_a s_1_n s_1_c s_2_a s_2_n s_2_c s_3_a s_3_n s_3_c s_4 s_5 k9 a32_0 l32_0 c32_0 a32_1 l32_1 c32_1 a32_2 l32_2 c32_2 a32_3 l32_3 c32_3 n32_4 n32_5) own32 43 [.pointer p22a, .agg ⟨[.int .i64 p_0, .float .f64 p_1, .float .f64 p_2, .float .f64 p_3, .int .i64 p_4, .bool p_5, .slice p_6_a p_6_n p_6_c]⟩, .agg ⟨[.slice a32_0 l32_0 c32_0, .slice a32_1 l32_1 c32_1, .slice a32_2 l32_2 c32_2, .slice a32_3 l32_3 c32_3, .int .i64 n32_4, .int .i64 n32_5]⟩] (.tup [.one .slice, .one (.int .i64)]) Φ37 ∧ ∀ a37a : Option Addr, ∀ l37a : Nat, ∀ c37a : Nat, ∀ n37b : Int, ∀ own37 : Own, Φ37 (.tuple ⟨[.slice a37a l37a c37a, .int .i64 n37b]⟩) own37 → (∃ Φ44 : Value → Own → Prop, CallG (cx w0 [] []) (loc10_1 k4 p_0 p_1 p_2 p_3 p_4 p_5 p_6_a p_6_n p_6_c k5 s_0_a s_0_n s_0_c s_1_a s_1_n s_1_c s_2_a s_2_n s_2_c s_3_a s_3_n s_3_c s_4 s_5 k9 a32_0 l32_0 c32_0 a32_1 l32_1 c32_1 a32_2 l32_2 c32_2 a32_3 l32_3 c32_3 n32_4 n32_5) own37 43 [.pointer p22a, .agg ⟨[.int .i64 p_0, .float .f64 p_1, .float .f64 p_2, .float .f64 p_3, .int .i64 p_4, .bool p_5, .slice p_6_a p_6_n p_6_c]⟩, .agg ⟨[.slice a32_0 l32_0 c32_0, .slice a32_1 l32_1 c32_1, .slice a32_2 l32_2 c32_2, .slice a32_3 l32_3 c32_3, .int .i64 n32_4, .int .i64 n32_5]⟩] (.tup [.one .slice, .one (.int .i64)]) Φ44 ∧ ∀ a44a : Option Addr, ∀ l44a : Nat, ∀ c44a : Nat, ∀ n44b : Int, ∀ own44 : Own, Φ44 (.tuple ⟨[.slice a44a l44a c44a, .int .i64 n44b]⟩) own44 → (cond (n37b != n44b) (Fin (cx w0 [] []) R (.bool false) own44) ((∃ b53 : Bool, CallV (cx w0 [] []) (loc10_1 k4 p_0 p_1 p_2 p_3 p_4 p_5 p_6_a p_6_n p_6_c k5 s_0_a s_0_n s_0_c s_1_a s_1_n s_1_c s_2_a s_2_n s_2_c s_3_a s_3_n s_3_c s_4 s_5 k9 a32_0 l32_0 c32_0 a32_1 l32_1 c32_1 a32_2 l32_2 c32_2 a32_3 l32_3 c32_3 n32_4 n32_5) own44 45 [.slice a37a l37a c37a, .slice a44a l44a c44a] (.bool b53) ∧ (cond (!b53) (Fin (cx w0 [] []) R (.bool false) own44) ((∃ b59 : Bool, CallV (cx w0 [] []) (loc10_1 k4 p_0 p_1 p_2 p_3 p_4 p_5 p_6_a p_6_n p_6_c k5 s_0_a s_0_n s_0_c s_1_a s_1_n s_1_c s_2_a s_2_n s_2_c s_3_a s_3_n s_3_c s_4 s_5 k9 a32_0 l32_0 c32_0 a32_1 l32_1 c32_1 a32_2 l32_2 c32_2 a32_3 l32_3 c32_3 n32_4 n32_5) own44 53 [.agg ⟨[.slice a32_0 l32_0 c32_0, .slice a32_1 l32_1 c32_1, .slice a32_2 l32_2 c32_2, .slice a32_3 l32_3 c32_3, .int .i64 n32_4, .int .i64 n32_5]⟩, .agg ⟨[.slice s_0_a s_0_n s_0_c, .slice s_1_a s_1_n s_1_c, .slice s_2_a s_2_n s_2_c, .slice s_3_a s_3_n s_3_c, .int .i64 s_4, .int .i64 s_5]⟩] (.bool b59) ∧ (cond (!b59) (Fin (cx w0 [] []) R (.bool false) own44) ((∀ k62 : Nat, (∃ Φ64 : Value → Own → Prop, OpG (cx w0 [] []) (loc10_1 k4 p_0 p_1 p_2 p_3 p_4 p_5 p_6_a p_6_n p_6_c k5 s_0_a s_0_n s_0_c s_1_a s_1_n s_1_c s_2_a s_2_n s_2_c s_3_a s_3_n s_3_c s_4 s_5 k9 a32_0 l32_0 c32_0 a32_1 l32_1 c32_1 a32_2 l32_2 c32_2 a32_3 l32_3 c32_3 n32_4 n32_5) ((k62, .cells ⟨[]⟩ 2) :: own44) (Builtin.append_ #[23, 23] 23 ⟨[.slice (some ⟨k62, 0, none⟩) 0 0, .slice a44a l44a c44a]⟩) (.val (.one .slice)) Φ64 ∧ ∀ a64 : Option Addr, ∀ l64 : Nat, ∀ c64 : Nat, ∀ own64 : Own, Φ64 (.slice a64 l64 c64) own64 → (∃ (I15 : Int → Own → Prop) (μ15 : Int → Own → Nat), I15 (0 : Int) own64 ∧ ∀ n15 : Int, ∀ own15 : Own, I15 n15 own15 → (cond (decide (n15 < ((l37a : Nat) : Int))) ((∃ ad73 : Addr, a37a = some ad73 ∧ (0 ≤ n15 ∧ n15 < ((l37a : Nat) : Int)) ∧ (∃ own74 : Own, StoresTo (cx w0 [] []) (loc10_1 k4 p_0 p_1 p_2 p_3 p_4 p_5 p_6_a p_6_n p_6_c k5 s_0_a s_0_n s_0_c s_1_a s_1_n s_1_c s_2_a s_2_n s_2_c s_3_a s_3_n s_3_c s_4 s_5 k9 a32_0 l32_0 c32_0 a32_1 l32_1 c32_1 a32_2 l32_2 c32_2 a32_3 l32_3 c32_3 n32_4 n32_5) own15 2 (Addr.add ad73 (Int.toNat n15 * 1)) (.int .i64 (77 : Int)) own74 ∧ I15 (IntKind.wrap .i64 (n15 + (1 : Int))) own74 ∧ μ15 (IntKind.wrap .i64 (n15 + (1 : Int))) own74 < μ15 n15 own15))) ((∃ (I10 : Option Addr → Nat → Nat → Int → Own → Prop) (μ10 : Option Addr → Nat → Nat → Int → Own → Nat), I10 a37a l37a c37a (0 : Int) own15 ∧ ∀ a10 : Option Addr, ∀ l10 : Nat, ∀ c10 : Nat, ∀ n16 : Int, ∀ own10 : Own, I10 a10 l10 c10 n16 own10 → (cond (decide (n16 < (16 : Int))) ((∀ k79 : Nat, (∃ Φ80 : Value → Own → Prop, OpG (cx w0 [] []) (loc10_1 k4 p_0 p_1 p_2 p_3 p_4 p_5 p_6_a p_6_n p_6_c k5 s_0_a s_0_n s_0_c s_1_a s_1_n s_1_c s_2_a s_2_n s_2_c s_3_a s_3_n s_3_c s_4 s_5 k9 a32_0 l32_0 c32_0 a32_1 l32_1 c32_1 a32_2 l32_2 c32_2 a32_3 l32_3 c32_3 n32_4 n32_5) ((k79, .cells ⟨[.int .i64 (78 : Int)]⟩ 2) :: own10) (Builtin.append_ #[23, 23] 23 ⟨[.slice a10 l10 c10, .slice (some ⟨k79, 0, none⟩) 1 1]⟩) (.val (.one .slice)) Φ80 ∧ ∀ a80 : Option Addr, ∀ l80 : Nat, ∀ c80 : Nat, ∀ own80 : Own, Φ80 (.slice a80 l80 c80) own80 → I10 a80 l80 c80 (IntKind.wrap .i64 (n16 + (1 : Int))) own80 ∧ μ10 a80 l80 c80 (IntKind.wrap .i64 (n16 + (1 : Int))) own80 < μ10 a10 l10 c10 n16 own10))) ((∃ Φ85 : Value → Own → Prop, CallG (cx w0 [] []) (loc10_1 k4 p_0 p_1 p_2 p_3 p_4 p_5 p_6_a p_6_n p_6_c k5 s_0_a s_0_n s_0_c s_1_a s_1_n s_1_c s_2_a s_2_n s_2_c s_3_a s_3_n s_3_c s_4 s_5 k9 a32_0 l32_0 c32_0 a32_1 l32_1 c32_1 a32_2 l32_2 c32_2 a32_3 l32_3 c32_3 n32_4 n32_5) own10 43 [.pointer p22a, .agg ⟨[.int .i64 p_0, .float .f64 p_1, .float .f64 p_2, .float .f64 p_3, .int .i64 p_4, .bool p_5, .slice p_6_a p_6_n p_6_c]⟩, .agg ⟨[.slice s_0_a s_0_n s_0_c, .slice s_1_a s_1_n s_1_c, .slice s_2_a s_2_n s_2_c, .slice s_3_a s_3_n s_3_c, .int .i64 s_4, .int .i64 s_5]⟩] (.tup [.one .slice, .one (.int .i64)]) Φ85 ∧ ∀ a85a : Option Addr, ∀ l85a : Nat, ∀ c85a : Nat, ∀ n85b : Int, ∀ own85 : Own, Φ85 (.tuple ⟨[.slice a85a l85a c85a, .int .i64 n85b]⟩) own85 → (cond (n37b == n85b) ((∃ b94 : Bool, CallV (cx w0 [] []) (loc10_1 k4 p_0 p_1 p_2 p_3 p_4 p_5 p_6_a p_6_n p_6_c k5 s_0_a s_0_n s_0_c s_1_a s_1_n s_1_c s_2_a s_2_n s_2_c s_3_a s_3_n s_3_c s_4 s_5 k9 a32_0 l32_0 c32_0 a32_1 l32_1 c32_1 a32_2 l32_2 c32_2 a32_3 l32_3 c32_3 n32_4 n32_5) own85 45 [.slice a44a l44a c44a, .slice a64 l64 c64] (.bool b94) ∧ (cond b94 ((∃ b99 : Bool, CallV (cx w0 [] []) (loc10_1 k4 p_0 p_1 p_2 p_3 p_4 p_5 p_6_a p_6_n p_6_c k5 s_0_a s_0_n s_0_c s_1_a s_1_n s_1_c s_2_a s_2_n s_2_c s_3_a s_3_n s_3_c s_4 s_5 k9 a32_0 l32_0 c32_0 a32_1 l32_1 c32_1 a32_2 l32_2 c32_2 a32_3 l32_3 c32_3 n32_4 n32_5) own85 45 [.slice a85a l85a c85a, .slice a64 l64 c64] (.bool b99) ∧ Fin (cx w0 [] []) R (.bool b99) own85)) (Fin (cx w0 [] []) R (.bool false) own85)))) (Fin (cx w0 [] []) R (.bool false) own85))))))))))))))))))))))))))))))))))
theorem q10_eq (w0 : World) (side : Int) (p_0 : Int) (p_1 : Nat) (p_2 : Nat) (p_3 : Nat) (p_4 : Int) (p_5 : Bool) (p_6_a : Option Addr) (p_6_n : Nat) (p_6_c : Nat) (s_0_a : Option Addr) (s_0_n : Nat) (s_0_c : Nat) (s_1_a : Option Addr) (s_1_n : Nat) (s_1_c : Nat) (s_2_a : Option Addr) (s_2_n : Nat) (s_2_c : Nat) (s_3_a : Option Addr) (s_3_n : Nat) (s_3_c : Nat) (s_4 : Int) (s_5 : Int) (R : Value → World → Prop) : funT (cx w0 [] []) Tryz.f10 an10 [.int .i64 side, .agg ⟨[.int .i64 p_0, .float .f64 p_1, .float .f64 p_2, .float .f64 p_3, .int .i64 p_4, .bool p_5, .slice p_6_a p_6_n p_6_c]⟩, .agg ⟨[.slice s_0_a s_0_n s_0_c, .slice s_1_a s_1_n s_1_c, .slice s_2_a s_2_n s_2_c, .slice s_3_a s_3_n s_3_c, .int .i64 s_4, .int .i64 s_5]⟩] [] R = q10 w0 side p_0 p_1 p_2 p_3 p_4 p_5 p_6_a p_6_n p_6_c s_0_a s_0_n s_0_c s_1_a s_1_n s_1_c s_2_a s_2_n s_2_c s_3_a s_3_n s_3_c s_4 s_5 R := by kernel_rfl
theorem d10 (W : World) (side : Int) (p_0 : Int) (p_1 : Nat) (p_2 : Nat) (p_3 : Nat) (p_4 : Int) (p_5 : Bool) (p_6_a : Option Addr) (p_6_n : Nat) (p_6_c : Nat) (s_0_a : Option Addr) (s_0_n : Nat) (s_0_c : Nat) (s_1_a : Option Addr) (s_1_n : Nat) (s_1_c : Nat) (s_2_a : Option Addr) (s_2_n : Nat) (s_2_c : Nat) (s_3_a : Option Addr) (s_3_n : Nat) (s_3_c : Nat) (s_4 : Int) (s_5 : Int) {R : Value → World → Prop} (h : q10 W side p_0 p_1 p_2 p_3 p_4 p_5 p_6_a p_6_n p_6_c s_0_a s_0_n s_0_c s_1_a s_1_n s_1_c s_2_a s_2_n s_2_c s_3_a s_3_n s_3_c s_4 s_5 R) : Does Tryz.prog 10 [.int .i64 side, .agg ⟨[.int .i64 p_0, .float .f64 p_1, .float .f64 p_2, .float .f64 p_3, .int .i64 p_4, .bool p_5, .slice p_6_a p_6_n p_6_c]⟩, .agg ⟨[.slice s_0_a s_0_n s_0_c, .slice s_1_a s_1_n s_1_c, .slice s_2_a s_2_n s_2_c, .slice s_3_a s_3_n s_3_c, .int .i64 s_4, .int .i64 s_5]⟩] W R :=
  does_of_T (fn := Tryz.f10) (x := an10) (dyn := []) (by kernel_rfl) (by kernel_rfl) (sep_self W) (Eq.mpr (q10_eq W side p_0 p_1 p_2 p_3 p_4 p_5 p_6_a p_6_n p_6_c s_0_a s_0_n s_0_c s_1_a s_1_n s_1_c s_2_a s_2_n s_2_c s_3_a s_3_n s_3_c s_4 s_5 R) h)

theorem p10 (side : Int) (pl : PlanA) (s : SeaA) : On (fun W => Laid W ∧ SeaAt W s) 10 [.int .i64 side, pl.v, s.v] (.bool true) := fun W ⟨hL, hSea⟩ =>
  d10 W side pl.side pl.dt pl.gravity pl.drag pl.lim pl.rivers pl.ra pl.rn pl.rc s.ba s.bed.length s.bc s.wa s.water.length s.wc s.ta s.tracer.length s.tc s.ua s.speed.length s.uc s.sky s.step fun k4 k5 => ⟨_, p40.callL hL, cond_split (fun h => absurd h (by decide)) fun _ => by
  have hok := fun h : Side side => netOf_ok h
  have h30 := p30 side
  generalize netOf side = g at *
  refine ⟨_, h30.newP.call (fun W' hS => hL.ext (Sep.ext0 hS)) (by rintro v X' (⟨_, kg, km, rfl, _⟩ | ⟨_, rfl, _⟩) <;> exact ⟨_, rfl, _, _, rfl, ⟨_, rfl⟩, _, _, rfl, ⟨_, rfl⟩, rfl⟩), fun p19 n19 own19 h => ?_⟩
  obtain ⟨X, (⟨hs, kg, km, e, hX⟩ | ⟨hn, e, rfl⟩), rfl⟩ := h
  case inr => cases e; exact cond_split (fun _ => fin_ext rfl) fun h => absurd h (by decide)
  cases e
  have hok := hok hs
  have hG : ∀ {own : Own} {loc : Tn.Loc} (W' : World), Sep W [] (ents loc own) W' → (∀ q ∈ X, q ∈ own) → LG ⟨kg, 0, none⟩ g W' := fun W' hS hm => ⟨hL.ext (Sep.ext0 hS), gridAt_of hX (fun b o h => hS.own b o (by unfold ents; exact List.mem_append_right _ (hm _ h))) hok⟩
  rw [List.append_nil]
  refine cond_split (fun h => absurd h (by decide)) fun _ => ⟨_, (p46 _ _ _ _ _ _ _ _ _ _ _ _ _ _).callL hL, cond_split (fun _ => fin_ext rfl) fun hlong => ?_⟩
  obtain ⟨hl1, hl2, hl3, hl4⟩ := s46_le hlong
  have hel := hok.el
  refine ⟨_, (p51 s hl1 hl2 hl3 hl4).call (fun W' hS' => ⟨hL.ext (Sep.ext0 hS'), hSea.ext (Sep.ext0 hS')⟩) (by rintro v X' ⟨b1, c1, r1, b2, c2, r2, b3, c3, r3, b4, c4, r4, rfl, _⟩; exact ⟨_, rfl, _, _, rfl, ⟨_, _, _, rfl⟩, _, _, rfl, ⟨_, _, _, rfl⟩, _, _, rfl, ⟨_, _, _, rfl⟩, _, _, rfl, ⟨_, _, _, rfl⟩, _, _, rfl, ⟨_, rfl⟩, _, _, rfl, ⟨_, rfl⟩, rfl⟩), ?_⟩
  intro a0 l0 c0 a1 l1 c1 a2 l2 c2 a3 l3 c3 n4 n5 own44 h44 k10
  obtain ⟨X2, ⟨b1, c1', r1, b2, c2', r2, b3, c3', r3, b4, c4', r4, e, rfl, hcs, hr1, hr2, hr3, hr4⟩, rfl⟩ := h44
  cases e
  obtain ⟨hc1, hc2, hc3, hc4⟩ := hcs
  generalize ht : (⟨some ⟨b1, 0, none⟩, c0, some ⟨b2, 0, none⟩, c1, some ⟨b3, 0, none⟩, c2, some ⟨b4, 0, none⟩, c3, s.bed, s.water, s.tracer, s.speed, s.sky, s.step⟩ : SeaA) = t
  have hv : t.v = .agg ⟨[.slice (some ⟨b1, 0, none⟩) s.bed.length c0, .slice (some ⟨b2, 0, none⟩) s.water.length c1, .slice (some ⟨b3, 0, none⟩) s.tracer.length c2, .slice (some ⟨b4, 0, none⟩) s.speed.length c3, .int .i64 s.sky, .int .i64 s.step]⟩ := by
    subst ht; rfl
  have hD : D43 g pl t = D43 g pl s := by subst ht; rfl
  have he : e43 g t = e43 g s := by subst ht; rfl
  have h43 := p43u ⟨kg, 0, none⟩ g pl t
  have h43s := p43u ⟨kg, 0, none⟩ g pl s
  rw [hv, hD, he] at h43
  have hDl : (D43 g pl s).length ≤ 100000 := by
    unfold D43
    split
    · simp [s43]; omega
    · simp
  have hAt : ∀ {own : Own} {loc : Tn.Loc} (W' : World), Sep W [] (ents loc own) W' → (∀ q ∈ (b3, Obj.cells ⟨r3⟩ 2) :: (b2, .cells ⟨r2⟩ 2) :: (b4, .cells ⟨r4⟩ 44) :: (b1, .cells ⟨r1⟩ 44) :: X, q ∈ own) → LS ⟨kg, 0, none⟩ g t W' := fun {own loc} W' hS hm => by
    have hm2 : ∀ q ∈ (b3, Obj.cells ⟨r3⟩ 2) :: (b2, .cells ⟨r2⟩ 2) :: (b4, .cells ⟨r4⟩ 44) :: (b1, .cells ⟨r1⟩ 44) :: X, q ∈ ents loc own := fun q hq => by unfold ents; exact List.mem_append_right _ (hm q hq)
    refine ⟨hG W' hS (fun q hq => hm q (.tail _ (.tail _ (.tail _ (.tail _ hq))))), ?_⟩
    subst ht
    exact ⟨has_arr (t := 44) hS (hm2 _ (.tail _ (.tail _ (.tail _ (.head _))))) hr1, has_arr (t := 2) hS (hm2 _ (.tail _ (.head _))) hr2, has_arr (t := 2) hS (hm2 _ (.head _)) hr3, has_arr (t := 44) hS (hm2 _ (.tail _ (.tail _ (.head _)))) hr4⟩
  generalize D43 g pl s = D at *
  generalize e43 g s = er at *
  refine ⟨_, h43.call (fun W' hS' => hAt W' hS' (fun q hq => hq)) (by rintro v X' ⟨al, cl, rfl, _⟩; exact ⟨_, rfl, _, _, rfl, ⟨_, _, _, rfl⟩, _, _, rfl, ⟨_, rfl⟩, rfl⟩), fun aa la ca na owna ha => ?_⟩
  obtain ⟨XA, ⟨al1, cl1, e, hXA⟩, rfl⟩ := ha
  cases e
  refine ⟨_, h43.call (fun W' hS' => hAt W' hS' (fun q hq => List.mem_append_right _ hq)) (by rintro v X' ⟨al, cl, rfl, _⟩; exact ⟨_, rfl, _, _, rfl, ⟨_, _, _, rfl⟩, _, _, rfl, ⟨_, rfl⟩, rfl⟩), fun ab lb cb nb ownb hb => ?_⟩
  obtain ⟨XB, ⟨al2, cl2, e, hXB⟩, rfl⟩ := hb
  cases e
  refine cond_split (fun h => absurd h (by simp)) fun _ => ⟨_, (p45 D D aa ab ca cb (by omega)).call (fun W' hS' => ⟨hL.ext (Sep.ext0 hS'), di_arr hXA hS' (fun q hq => by simp [ents, hq]), di_arr hXB hS' (fun q hq => by simp [ents, hq])⟩), cond_split (fun h => absurd h (by simp)) fun _ => ?_⟩
  refine ⟨_, (p53 s b1 b2 b3 b4 c0 c1 c2 c3 hl1 hl2 hl3 hl4 hc1 hc2 hc3 hc4).call (fun W' hS' => ⟨hL.ext (Sep.ext0 hS'), hSea.ext (Sep.ext0 hS'), arr_own (t := 44) (cs := r1) hS' (by simp [ents]) (fun i v h => by rw [Nat.zero_add]; exact hr1 i v h), arr_own (t := 2) (cs := r2) hS' (by simp [ents]) (fun i v h => by rw [Nat.zero_add]; exact hr2 i v h), arr_own (t := 2) (cs := r3) hS' (by simp [ents]) (fun i v h => by rw [Nat.zero_add]; exact hr3 i v h), arr_own (t := 44) (cs := r4) hS' (by simp [ents]) (fun i v h => by rw [Nat.zero_add]; exact hr4 i v h)⟩), cond_split (fun h => absurd h (by simp)) fun _ => ?_⟩
  intro k62
  refine ⟨_, append_onto el23 (iCells_len D) hDl (iCells_one D) (fun W' hS' => di_arr hXB hS' (fun q hq => by simp [ents, hq])), ?_⟩
  rintro aw lw cw ownw ⟨XW, rfl, hgw⟩
  have hlw : lw = D.length := by obtain ⟨_, _, e⟩ := gs_slice hgw; cases e; rfl
  subst hlw
  refine ⟨fun i own => ∃ k : Nat, i = (k : Int) ∧ k ≤ D.length ∧ ∃ D' XA', D'.length = D.length ∧ DI D' aa ca XA' ∧ own = XW ++ (XB ++ (XA' ++ (b3, Obj.cells ⟨r3⟩ 2) :: (b2, .cells ⟨r2⟩ 2) :: (b4, .cells ⟨r4⟩ 44) :: (b1, .cells ⟨r1⟩ 44) :: X)), fun i _ => ((D.length : Int) - i).toNat, ⟨0, rfl, Nat.zero_le _, D, XA, rfl, hXA, rfl⟩, ?_⟩
  rintro i own ⟨k, rfl, hk, D', XA', hD', hXA', rfl⟩
  refine cond_split (fun h => ?_) fun h => ?_
  · have hk' : k < D.length := by have := of_decide_eq_true h; omega
    rcases hXA' with ⟨h0, _⟩ | ⟨ka, rfl, hca, rfl⟩
    · rw [h0] at hD'; simp at hD'; omega
    exact ⟨_, rfl, ⟨by omega, by omega⟩, _, stores_i (i := k) (pre := XW ++ XB) (post := (b3, Obj.cells ⟨r3⟩ 2) :: (b2, .cells ⟨r2⟩ 2) :: (b4, .cells ⟨r4⟩ 44) :: (b1, .cells ⟨r1⟩ 44) :: X) (l := D') (k := ka) (ty := 2) (by simp only [List.append_assoc]; rfl) (by omega), ⟨k + 1, wrap_succ (by omega), hk', D'.set k 77, [(ka, .cells ⟨iCells (D'.set k 77)⟩ 2)], by rw [List.length_set]; exact hD', .inr ⟨ka, rfl, by rw [List.length_set]; exact hca, rfl⟩, by simp only [List.append_assoc]; rfl⟩, mu_lt hk' (by omega)⟩
  have ga : GS (.slice aa D.length ca) XA' 2 1 D.length (iCells D') := by
    rcases hXA' with ⟨h0, rfl, rfl, rfl⟩ | ⟨ka, rfl, hca, rfl⟩
    · subst h0
      have : D.length = 0 := by simpa using hD'.symm
      rw [this]; exact gs_nil 2 1
    · refine ⟨by rw [iCells_len, hD', Nat.mul_one], .inr ⟨ka, ca, iCells D', rfl, rfl, by omega, by unfold maxLen; omega, by rw [iCells_len, hca, Nat.mul_one], ?_⟩⟩
      rw [List.take_of_length_le (by rw [iCells_len]; omega)]
  refine ⟨fun a l c i own => ∃ k : Nat, i = (k : Int) ∧ k ≤ 16 ∧ l = D.length + k ∧ ∃ blk xs, GS (.slice a l c) blk 2 1 l xs ∧ own = XW ++ (XB ++ (blk ++ (b3, Obj.cells ⟨r3⟩ 2) :: (b2, .cells ⟨r2⟩ 2) :: (b4, .cells ⟨r4⟩ 44) :: (b1, .cells ⟨r1⟩ 44) :: X)), fun _ _ _ i _ => ((16 : Int) - i).toNat, ⟨0, rfl, by decide, rfl, XA', iCells D', ga, rfl⟩, ?_⟩
  rintro a l c i own ⟨k, rfl, hk, rfl, blk, xs, hg, rfl⟩
  refine cond_split (fun h => ?_) fun h => ?_
  · have hk' : k < 16 := by have := of_decide_eq_true h; omega
    intro k79
    have hap := fun loc : Tn.Loc => append_gs (w0 := W) (mt := []) (dyn := []) (loc := loc) (own := (k79, .cells ⟨[.int .i64 78]⟩ 2) :: (XW ++ (XB ++ (blk ++ (b3, Obj.cells ⟨r3⟩ 2) :: (b2, .cells ⟨r2⟩ 2) :: (b4, .cells ⟨r4⟩ 44) :: (b1, .cells ⟨r1⟩ 44) :: X)))) (pre := (k79, .cells ⟨[.int .i64 78]⟩ 2) :: (XW ++ XB)) (blk := blk) (post := (b3, Obj.cells ⟨r3⟩ 2) :: (b2, .cells ⟨r2⟩ 2) :: (b4, .cells ⟨r4⟩ 44) :: (b1, .cells ⟨r1⟩ 44) :: X) (ty := 23) (c := 1) (a := ⟨k79, 0, none⟩) (m := 1) (news := [.int .i64 78]) el23 hg (by simp) rfl (by omega) (fun w hw => by simp at hw; subst hw; rfl)
      (fun W' hS' j w hw => cell_own hS' (cs := [.int .i64 78]) (t := 2) (by simp [ents]) j w hw) (by unfold maxLen; omega) (by omega)
    refine ⟨_, opg_sub (hap _) (Φ' := fun v o => ∃ blk' xs', o = XW ++ (XB ++ (blk' ++ (b3, Obj.cells ⟨r3⟩ 2) :: (b2, .cells ⟨r2⟩ 2) :: (b4, .cells ⟨r4⟩ 44) :: (b1, .cells ⟨r1⟩ 44) :: X)) ∧ GS v blk' 2 1 (D.length + k + 1) xs') ?_, ?_⟩
    · rintro v o ⟨blk', rfl, hg'⟩
      exact ⟨XW ++ (XB ++ (blk' ++ (b3, Obj.cells ⟨r3⟩ 2) :: (b2, .cells ⟨r2⟩ 2) :: (b4, .cells ⟨r4⟩ 44) :: (b1, .cells ⟨r1⟩ 44) :: X)), ⟨blk', _, rfl, hg'⟩, by simp⟩
    · rintro a' l' c' o ⟨blk', xs', rfl, hg'⟩
      have hl' : l' = D.length + k + 1 := by obtain ⟨_, _, e⟩ := gs_slice hg'; cases e; rfl
      subst hl'
      exact ⟨⟨k + 1, wrap_succ (by omega), hk', rfl, blk', xs', hg', rfl⟩, mu_lt (n := 16) hk' (by omega)⟩
  refine ⟨_, h43s.call (fun W' hS' => ⟨hG W' hS' (fun q hq => by simp [hq]), hSea.ext (Sep.ext0 hS')⟩) (by rintro v X' ⟨al, cl, rfl, _⟩; exact ⟨_, rfl, _, _, rfl, ⟨_, _, _, rfl⟩, _, _, rfl, ⟨_, rfl⟩, rfl⟩), fun ac lc cc nc ownc hc => ?_⟩
  obtain ⟨XC, ⟨al3, cl3, e, hXC⟩, rfl⟩ := hc
  cases e
  refine cond_split (fun _ => ?_) fun h => absurd h (by simp)
  refine ⟨_, (p45 D D ab aw cb cw (by omega)).call (fun W' hS' => ⟨hL.ext (Sep.ext0 hS'), di_arr hXB hS' (fun q hq => by simp [ents, hq]), gs_arr hgw rfl hS' (fun q hq => by simp [ents, hq])⟩), cond_split (fun _ => ?_) fun h => absurd h (by simp)⟩
  exact ⟨_, (p45 D D ac aw cc cw (by omega)).call (fun W' hS' => ⟨hL.ext (Sep.ext0 hS'), di_arr hXC hS' (fun q hq => by simp [ents, hq]), gs_arr hgw rfl hS' (fun q hq => by simp [ents, hq])⟩), fin_ext (by simp)⟩⟩


end Go.Proofs.YtnljcdplcloedaaGreatDoor
end
