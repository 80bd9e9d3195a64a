/- Rounding in plain numbers: the product and sum of the model keep order and sign, for every pair of words. -/
import Derived.Test.YtnljcdplcloedaaGreatDoorTa
import Derived.Test.YtnljcdplcloedaaGreatDoorCube
section
namespace Go.Proofs.YtnljcdplcloedaaGreatDoor
open Go Go.Tn
set_option linter.unusedVariables false
set_option linter.unusedSimpArgs false

/-- n / D to the nearest whole number, half to even -/
def rhe (n D : Nat) : Nat := n / D + (if D < 2 * (n % D) ∨ (D = 2 * (n % D) ∧ n / D % 2 = 1) then 1 else 0)
theorem rhe_le {n D k : Nat} (hD : 0 < D) : rhe n D ≤ k ↔ (2 * n < (2 * k + 1) * D ∨ (2 * n = (2 * k + 1) * D ∧ k % 2 = 0)) := by
  unfold rhe
  have hn : D * (n / D) + n % D = n := Nat.div_add_mod n D
  have hr : n % D < D := Nat.mod_lt _ hD
  generalize n / D = q at *
  generalize n % D = r at *
  have e1 : (2 * k + 1) * D = 2 * (D * k) + D := by rw [Nat.add_mul, Nat.one_mul, Nat.mul_assoc, Nat.mul_comm k D]
  rw [e1]
  rcases Nat.lt_trichotomy k q with h | h | h
  · have : D * (k + 1) ≤ D * q := Nat.mul_le_mul_left D h
    rw [Nat.mul_add] at this
    constructor
    · intro h'; split at h' <;> omega
    · intro h'; omega
  · subst h
    constructor
    · intro h'; split at h'
      · omega
      · rename_i hc
        have hc1 : ¬ D < 2 * r := fun h => hc (.inl h)
        have hc2 : D = 2 * r → ¬ k % 2 = 1 := fun h h' => hc (.inr ⟨h, h'⟩)
        rcases Nat.lt_or_ge (2 * n) (2 * (D * k) + D) with h2 | h2
        · exact .inl h2
        · refine .inr ⟨by omega, ?_⟩
          have := hc2 (by omega)
          omega
    · intro h'
      rw [if_neg (by omega)]; omega
  · have : D * (q + 1) ≤ D * k := Nat.mul_le_mul_left D h
    rw [Nat.mul_add] at this
    constructor
    · intro _; left; omega
    · intro _; split <;> omega
theorem rhe_mono {n D n' D' : Nat} (hD : 0 < D) (hD' : 0 < D') (h : n * D' ≤ n' * D) : rhe n D ≤ rhe n' D' := by
  rw [rhe_le hD]
  have h1 := (rhe_le (n := n') (k := rhe n' D') hD').1 (Nat.le_refl _)
  generalize rhe n' D' = k at *
  have a1 : 2 * n * D' ≤ 2 * n' * D := by rw [Nat.mul_assoc, Nat.mul_assoc]; exact Nat.mul_le_mul_left 2 h
  rcases h1 with h1 | ⟨h1, h2⟩
  · left
    have a2 : 2 * n' * D < (2 * k + 1) * D' * D := Nat.mul_lt_mul_of_pos_right h1 hD
    have a0 : (2 * k + 1) * D * D' = (2 * k + 1) * D' * D := Nat.mul_right_comm _ _ _
    have a3 : 2 * n * D' < (2 * k + 1) * D * D' := by rw [a0]; omega
    exact Nat.lt_of_mul_lt_mul_right a3
  · have a2 : 2 * n' * D = (2 * k + 1) * D' * D := by rw [h1]
    have a0 : (2 * k + 1) * D * D' = (2 * k + 1) * D' * D := Nat.mul_right_comm _ _ _
    have a3 : 2 * n * D' ≤ (2 * k + 1) * D * D' := by rw [a0]; omega
    have a4 := Nat.le_of_mul_le_mul_right a3 hD'
    rcases Nat.lt_or_ge (2 * n) ((2 * k + 1) * D) with h3 | h3
    · exact .inl h3
    · exact .inr ⟨by omega, h2⟩
theorem le_rhe (n D : Nat) : n / D ≤ rhe n D := Nat.le_add_right _ _
theorem rhe_zero (D : Nat) : rhe 0 D = 0 := by
  unfold rhe; rw [Nat.zero_div, Nat.zero_mod, if_neg (by omega)]
theorem rhe_one (n : Nat) : rhe n 1 = n := by
  unfold rhe; rw [Nat.mod_one, Nat.div_one, if_neg (by omega)]; rfl
theorem cut_rhe (neg : Bool) (n drop : Nat) : Ieee.Toward.even.cut neg n drop = rhe n (2 ^ drop) := by
  unfold Ieee.Toward.cut rhe
  simp only [Nat.one_shiftLeft]
  rcases Nat.le_total drop (n.log2 + 2) with h | h
  · rw [Nat.min_eq_left h]
    congr 1
    by_cases h1 : 2 ^ drop < 2 * (n % 2 ^ drop)
    · rw [if_pos (.inl h1), decide_eq_true h1]; rfl
    · rw [decide_eq_false h1, Bool.false_or]
      by_cases h2 : 2 ^ drop = 2 * (n % 2 ^ drop) ∧ n / 2 ^ drop % 2 = 1
      · rw [if_pos (.inr h2), beq_iff_eq.2 h2.1, beq_iff_eq.2 h2.2]; rfl
      · rw [if_neg (by rintro (h | h); exact h1 h; exact h2 h)]
        have : (2 ^ drop == 2 * (n % 2 ^ drop) && n / 2 ^ drop % 2 == 1) = false := by
          rw [Bool.and_eq_false_iff]
          simp only [beq_eq_false_iff_ne]
          by_cases h3 : 2 ^ drop = 2 * (n % 2 ^ drop)
          · exact .inr fun h4 => h2 ⟨h3, h4⟩
          · exact .inl h3
        rw [this]; rfl
  · rw [Nat.min_eq_right h]
    have h1 : n < 2 ^ (n.log2 + 1) := Nat.lt_log2_self
    have h2 : 2 ^ (n.log2 + 2) = 2 * 2 ^ (n.log2 + 1) := by rw [Nat.pow_succ _ (n.log2 + 1), Nat.mul_comm]
    have h3 : 2 ^ (n.log2 + 2) ≤ 2 ^ drop := Nat.pow_le_pow_right (by decide) h
    rw [Nat.div_eq_of_lt (by omega : n < 2 ^ (n.log2 + 2)), Nat.div_eq_of_lt (by omega : n < 2 ^ drop), Nat.mod_eq_of_lt (by omega : n < 2 ^ (n.log2 + 2)), Nat.mod_eq_of_lt (by omega : n < 2 ^ drop)]
    rw [if_neg (by omega), decide_eq_false (by omega)]
    have : (2 ^ (n.log2 + 2) == 2 * n) = false := by rw [beq_eq_false_iff_ne]; omega
    rw [this]; rfl

theorem psw64 : Ieee.Format.signWeight f64 = 9223372036854775808 := by decide
theorem pinf64 : Ieee.Format.infRung f64 = 9218868437227405312 := by decide
theorem pbin64 : Ieee.Format.binade f64 = 4503599627370496 := by decide
theorem plp64 : Ieee.Format.leastPlace f64 = -1074 := by decide
theorem pfb64 : (f64.fractionBits : Int) = 52 := by decide

def lastP (m : Nat) (i : Int) : Int := max (i + m.log2 - 52) (-1074)
/-- the rung of the float nearest to m * 2 ^ i -/
def rung (m : Nat) (i : Int) : Nat :=
  if m = 0 then 0 else min ((lastP m i + 1074).toNat * 4503599627370496 + rhe (m * 2 ^ (i - lastP m i).toNat) (2 ^ (lastP m i - i).toNat)) 9218868437227405312
theorem nearest_rung (neg : Bool) (m : Nat) (i : Int) : f64.nearest neg m i = f64.word neg (rung m i) := by
  unfold Ieee.Format.nearest rung
  split
  · rfl
  · simp only [plp64, pbin64, pinf64, pfb64, cut_rhe, Nat.shiftLeft_eq]
    rw [show max (i + (m.log2 : Int) - 52) (-1074) = lastP m i from rfl, Int.sub_neg]
theorem shift_le {m m' a b c d : Nat} (h : m * 2 ^ a ≤ m' * 2 ^ b) (e : a + d = b + c) : m * 2 ^ c ≤ m' * 2 ^ d := by
  have h1 : m * 2 ^ a * 2 ^ c ≤ m' * 2 ^ b * 2 ^ c := Nat.mul_le_mul_right _ h
  have h2 : m * 2 ^ c * 2 ^ a ≤ m' * 2 ^ d * 2 ^ a := by
    rw [Nat.mul_right_comm, Nat.mul_assoc m' (2 ^ d), ← Nat.pow_add, Nat.add_comm d a, e, Nat.pow_add, ← Nat.mul_assoc]; exact h1
  exact Nat.le_of_mul_le_mul_right h2 (Nat.two_pow_pos _)
/-- m * 2 ^ i is at most m' * 2 ^ j -/
def vle (m : Nat) (i : Int) (m' : Nat) (j : Int) : Prop := m * 2 ^ (i - min i j).toNat ≤ m' * 2 ^ (j - min i j).toNat
theorem vle_at {m m' : Nat} {i j : Int} (h : vle m i m' j) {c d : Nat} (e : i + d = j + c) : m * 2 ^ c ≤ m' * 2 ^ d := shift_le h (by omega)
theorem vle_of {m m' c d : Nat} {i j : Int} (h : m * 2 ^ c ≤ m' * 2 ^ d) (e : i + d = j + c) : vle m i m' j := shift_le h (by omega)
theorem kept_le {m : Nat} {i : Int} (hm : m ≠ 0) : rhe (m * 2 ^ (i - lastP m i).toNat) (2 ^ (lastP m i - i).toNat) ≤ 9007199254740992 := by
  rw [rhe_le (Nat.two_pow_pos _)]
  left
  have h1 : m < 2 ^ (m.log2 + 1) := Nat.lt_log2_self
  have h2 : m * 2 ^ (i - lastP m i).toNat < 2 ^ (m.log2 + 1) * 2 ^ (i - lastP m i).toNat := Nat.mul_lt_mul_of_pos_right h1 (Nat.two_pow_pos _)
  rw [← Nat.pow_add] at h2
  have h3 : 2 ^ (m.log2 + 1 + (i - lastP m i).toNat) ≤ 2 ^ (53 + (lastP m i - i).toNat) := Nat.pow_le_pow_right (by decide) (by unfold lastP; omega)
  rw [Nat.pow_add 2 53] at h3
  have h4 := Nat.two_pow_pos (lastP m i - i).toNat
  omega
theorem le_kept {m : Nat} {i : Int} (hm : m ≠ 0) (hl : -1074 < lastP m i) : 4503599627370496 ≤ rhe (m * 2 ^ (i - lastP m i).toNat) (2 ^ (lastP m i - i).toNat) := by
  refine Nat.le_trans ?_ (le_rhe _ _)
  rw [Nat.le_div_iff_mul_le (Nat.two_pow_pos _)]
  have h1 : 2 ^ m.log2 ≤ m := Nat.log2_self_le hm
  have h2 : 2 ^ m.log2 * 2 ^ (i - lastP m i).toNat ≤ m * 2 ^ (i - lastP m i).toNat := Nat.mul_le_mul_right _ h1
  refine Nat.le_trans ?_ h2
  rw [show (4503599627370496 : Nat) = 2 ^ 52 by decide, ← Nat.pow_add, ← Nat.pow_add]
  exact Nat.pow_le_pow_right (by decide) (by unfold lastP at *; omega)
/-- The greater number's float is no lesser one. -/
theorem rung_mono {m m' : Nat} {i j : Int} (h : vle m i m' j) : rung m i ≤ rung m' j := by
  unfold rung
  split
  · exact Nat.zero_le _
  · rename_i hm
    split
    · rename_i hm'
      subst hm'
      exfalso
      have := vle_at h (c := (i - min i j).toNat) (d := (j - min i j).toNat) (by omega)
      rw [Nat.zero_mul] at this
      rcases Nat.mul_eq_zero.1 (Nat.le_zero.1 this) with h | h
      · exact hm h
      · exact absurd h (Nat.ne_of_gt (Nat.two_pow_pos _))
    · rename_i hm'
      have hE : i + m.log2 ≤ j + m'.log2 := by
        have h1 : 2 ^ m.log2 ≤ m := Nat.log2_self_le hm
        have h2 : m' < 2 ^ (m'.log2 + 1) := Nat.lt_log2_self
        have h3 := Nat.mul_le_mul_right (2 ^ (i - min i j).toNat) h1
        have h4 := Nat.mul_lt_mul_of_pos_right h2 (Nat.two_pow_pos (j - min i j).toNat)
        have h5 : 2 ^ (m.log2 + (i - min i j).toNat) < 2 ^ (m'.log2 + 1 + (j - min i j).toNat) := by
          rw [Nat.pow_add, Nat.pow_add]; exact Nat.lt_of_le_of_lt (Nat.le_trans h3 h) h4
        have := (Nat.pow_lt_pow_iff_right (by decide : 1 < 2)).1 h5
        omega
      have hl : lastP m i ≤ lastP m' j := by unfold lastP; omega
      have hge : -1074 ≤ lastP m i := by unfold lastP; omega
      refine Nat.le_min.2 ⟨Nat.le_trans (Nat.min_le_left _ _) ?_, Nat.min_le_right _ _⟩
      rcases Int.lt_or_eq_of_le hl with hlt | heq
      · have k1 := kept_le (i := i) hm
        have k2 := le_kept (i := j) hm' (by omega)
        generalize rhe (m * 2 ^ (i - lastP m i).toNat) (2 ^ (lastP m i - i).toNat) = a at *
        generalize rhe (m' * 2 ^ (j - lastP m' j).toNat) (2 ^ (lastP m' j - j).toNat) = b at *
        have : (lastP m i + 1074).toNat + 1 ≤ (lastP m' j + 1074).toNat := by omega
        have := Nat.mul_le_mul_right 4503599627370496 this
        omega
      · rw [← heq]
        refine Nat.add_le_add_left ?_ _
        refine rhe_mono (Nat.two_pow_pos _) (Nat.two_pow_pos _) ?_
        rw [Nat.mul_assoc, Nat.mul_assoc, ← Nat.pow_add, ← Nat.pow_add]
        exact vle_at h (by omega)
theorem rung_le (m : Nat) (i : Int) : rung m i ≤ 9218868437227405312 := by
  unfold rung
  split
  · exact Nat.zero_le _
  · exact Nat.min_le_right _ _
/-- what a rung stands for, in units of the least -/
def rv (r : Nat) : Nat := if r < 4503599627370496 then r else (4503599627370496 + r % 4503599627370496) * 2 ^ (r / 4503599627370496 - 1)
theorem rv_succ (r : Nat) : rv r < rv (r + 1) := by
  unfold rv
  by_cases h : r + 1 < 4503599627370496
  · rw [if_pos h, if_pos (by omega)]; omega
  · rw [if_neg h]
    by_cases h2 : r < 4503599627370496
    · have : r = 4503599627370495 := by omega
      subst this; decide
    · rw [if_neg h2]
      by_cases h3 : r % 4503599627370496 = 4503599627370495
      · have h4 : (r + 1) % 4503599627370496 = 0 := by omega
        have h5 : (r + 1) / 4503599627370496 - 1 = (r / 4503599627370496 - 1) + 1 := by omega
        rw [h4, h5, h3, Nat.pow_succ]
        have := Nat.two_pow_pos (r / 4503599627370496 - 1)
        omega
      · have h4 : (r + 1) % 4503599627370496 = r % 4503599627370496 + 1 := by omega
        have h5 : (r + 1) / 4503599627370496 = r / 4503599627370496 := by omega
        rw [h4, h5]
        exact Nat.mul_lt_mul_of_pos_right (by omega) (Nat.two_pow_pos _)
theorem rv_mono {r s : Nat} (h : r ≤ s) : rv r ≤ rv s := by
  induction h with
  | refl => exact Nat.le_refl _
  | step _ ih => exact Nat.le_trans ih (Nat.le_of_lt (rv_succ _))
theorem rv_lt {r s : Nat} (h : r < s) : rv r < rv s := Nat.lt_of_lt_of_le (rv_succ r) (rv_mono h)
theorem rv_zero : rv 0 = 0 := by decide
end Go.Proofs.YtnljcdplcloedaaGreatDoor
end
section
namespace Go.Proofs.YtnljcdplcloedaaGreatDoor
open Go Go.Tn
set_option linter.unusedVariables false
set_option linter.unusedSimpArgs false

def ng (x : Nat) : Bool := x / 9223372036854775808 % 2 == 1
def mg (x : Nat) : Nat := x % 9223372036854775808
def mm (r : Nat) : Nat := if r < 4503599627370496 then r else 4503599627370496 + r % 4503599627370496
def pp (r : Nat) : Int := if r < 4503599627370496 then -1074 else -1074 + ((r / 4503599627370496 - 1 : Nat) : Int)
abbrev infR : Nat := 9218868437227405312
theorem rv_eq (r : Nat) : rv r = mm r * 2 ^ (pp r + 1074).toNat := by
  unfold rv mm pp
  split
  · rw [show ((-1074 : Int) + 1074).toNat = 0 by decide, Nat.pow_zero, Nat.mul_one]
  · rw [show ((-1074 : Int) + ((r / 4503599627370496 - 1 : Nat) : Int) + 1074).toNat = r / 4503599627370496 - 1 by omega]
theorem pp_ge (r : Nat) : -1074 ≤ pp r := by unfold pp; split <;> omega
theorem mm_lt (r : Nat) : mm r < 9007199254740992 := by unfold mm; split <;> omega
theorem rd_num {x : Nat} (h : mg x < infR) : f64.read x = .number (ng x) (mm (mg x)) (pp (mg x)) := by
  unfold Ieee.Format.read mm pp ng mg at *
  simp only [psw64, pbin64, pinf64, plp64]
  split
  · rfl
  · first | rfl | rw [if_pos h]
theorem rd_inf {x : Nat} (h : mg x = infR) : f64.read x = .infinity (ng x) := by
  unfold Ieee.Format.read ng mg at *
  simp only [psw64, pbin64, pinf64, plp64, infR] at *
  rw [if_neg (by omega), if_neg (by omega), if_pos h]
theorem rd_nan {x : Nat} (h : infR < mg x) : f64.read x = .nan (ng x) (mg x - infR) := by
  unfold Ieee.Format.read ng mg at *
  simp only [psw64, pbin64, pinf64, plp64, infR] at *
  rw [if_neg (by omega), if_neg (by omega), if_neg (by omega)]
/-- the float's value in units of the least; an infinity's too -/
def sv (x : Nat) : Int := if ng x then -(rv (mg x) : Int) else rv (mg x)
theorem icmp_mul {a b c : Int} (hc : 0 < c) : compare (a * c) (b * c) = compare a b := by
  rcases Int.lt_trichotomy a b with h | h | h
  · rw [Int.compare_eq_lt.2 h, Int.compare_eq_lt.2 (Int.mul_lt_mul_of_pos_right h hc)]
  · subst h; rw [Int.compare_eq_eq.2 rfl, Int.compare_eq_eq.2 rfl]
  · rw [Int.compare_eq_gt.2 h, Int.compare_eq_gt.2 (Int.mul_lt_mul_of_pos_right h hc)]
theorem signed_scale (s : Bool) (m : Nat) (i b : Int) (hb : b ≤ i) (h0 : -1074 ≤ b) : Ieee.signed s m (i - b).toNat * ((2 ^ (b + 1074).toNat : Nat) : Int) = if s then -((m * 2 ^ (i + 1074).toNat : Nat) : Int) else ((m * 2 ^ (i + 1074).toNat : Nat) : Int) := by
  have e : m * 2 ^ (i - b).toNat * 2 ^ (b + 1074).toNat = m * 2 ^ (i + 1074).toNat := by
    rw [Nat.mul_assoc, ← Nat.pow_add]; congr 2; omega
  unfold Ieee.signed
  rw [Nat.shiftLeft_eq, ← e]
  cases s
  · simp
  · simp [Int.neg_mul]
theorem rv_lt_inf {r : Nat} (h : r < infR) : rv r < rv infR := rv_lt h
theorem rv_inf_pos : 0 < rv infR := Nat.lt_of_le_of_lt (Nat.zero_le _) (rv_lt (by decide : 0 < infR))
theorem order_sv {x y : Nat} (hx : mg x ≤ infR) (hy : mg y ≤ infR) : f64.order x y = some (compare (sv x) (sv y)) := by
  unfold Ieee.Format.order
  rcases Nat.lt_or_eq_of_le hx with h1 | h1 <;> rcases Nat.lt_or_eq_of_le hy with h2 | h2
  · rw [rd_num h1, rd_num h2]
    simp only [Ieee.Datum.order, Option.some.injEq]
    have a1 := pp_ge (mg x)
    have a2 := pp_ge (mg y)
    have hp : (0 : Int) < ((2 ^ (min (pp (mg x)) (pp (mg y)) + 1074).toNat : Nat) : Int) := Int.ofNat_lt.2 (Nat.two_pow_pos _)
    rw [← icmp_mul hp, signed_scale _ _ _ _ (by omega) (by omega), signed_scale _ _ _ _ (by omega) (by omega), ← rv_eq, ← rv_eq]
    rfl
  · rw [rd_num h1, rd_inf h2]
    simp only [Ieee.Datum.order, Option.some.injEq]
    have := rv_lt_inf h1
    unfold sv
    rw [h2]
    cases ng y <;> cases ng x <;> simp only [Bool.false_eq_true, if_false, if_true]
    · exact (Int.compare_eq_lt.2 (by omega)).symm
    · exact (Int.compare_eq_lt.2 (by omega)).symm
    · exact (Int.compare_eq_gt.2 (by omega)).symm
    · exact (Int.compare_eq_gt.2 (by omega)).symm
  · rw [rd_inf h1, rd_num h2]
    simp only [Ieee.Datum.order, Option.some.injEq]
    have := rv_lt_inf h2
    unfold sv
    rw [h1]
    cases ng y <;> cases ng x <;> simp only [Bool.false_eq_true, if_false, if_true]
    · exact (Int.compare_eq_gt.2 (by omega)).symm
    · exact (Int.compare_eq_lt.2 (by omega)).symm
    · exact (Int.compare_eq_gt.2 (by omega)).symm
    · exact (Int.compare_eq_lt.2 (by omega)).symm
  · rw [rd_inf h1, rd_inf h2]
    simp only [Ieee.Datum.order, Option.some.injEq]
    have := rv_inf_pos
    unfold sv
    rw [h1, h2]
    cases ng y <;> cases ng x <;> simp only [Bool.false_eq_true, if_false, if_true]
    · exact (Int.compare_eq_eq.2 rfl).symm
    · exact (Int.compare_eq_lt.2 (by omega)).symm
    · exact (Int.compare_eq_gt.2 (by omega)).symm
    · exact (Int.compare_eq_eq.2 rfl).symm
theorem order_nan {x y : Nat} (h : infR < mg x ∨ infR < mg y) : f64.order x y = none := by
  unfold Ieee.Format.order
  rcases h with h | h
  · rw [rd_nan h]; cases f64.read y <;> rfl
  · rw [rd_nan h]; cases f64.read x <;> rfl
theorem ng_word {b : Bool} {r : Nat} (h : r < 9223372036854775808) : ng (f64.word b r) = b := by
  unfold ng Ieee.Format.word
  rw [psw64]
  cases b <;> simp <;> omega
theorem mg_word {b : Bool} {r : Nat} (h : r < 9223372036854775808) : mg (f64.word b r) = r := by
  unfold mg Ieee.Format.word
  rw [psw64]
  cases b <;> simp <;> omega
theorem word_ng_mg {x : Nat} (h : x < 18446744073709551616) : f64.word (ng x) (mg x) = x := by
  unfold ng mg Ieee.Format.word
  rw [psw64]
  cases hb : (x / 9223372036854775808 % 2 == 1)
  · have := (beq_eq_false_iff_ne.1 hb); simp; omega
  · have := (beq_iff_eq.1 hb); simp; omega
/-- the rung of a product -/
def mulr (r c : Nat) : Nat := if r < infR ∧ c < infR then rung (mm r * mm c) (pp r + pp c) else infR
theorem mulr_le (r c : Nat) : mulr r c ≤ infR := by
  unfold mulr; split
  · exact rung_le _ _
  · exact Nat.le_refl _
theorem mm_zero {r : Nat} : mm r = 0 ↔ r = 0 := by unfold mm; split <;> omega
/-- the product: none of nought and an infinity -/
theorem mul_eq {x y : Nat} (hx : mg x ≤ infR) (hy : mg y ≤ infR) :
    f64.mul x y = if (mg x = infR ∧ mg y = 0) ∨ (mg x = 0 ∧ mg y = infR) then none else some (f64.word (ng x ^^ ng y) (mulr (mg x) (mg y))) := by
  unfold Ieee.Format.mul
  rcases Nat.lt_or_eq_of_le hx with h1 | h1 <;> rcases Nat.lt_or_eq_of_le hy with h2 | h2
  · rw [rd_num h1, rd_num h2, if_neg (by omega)]
    simp only [Ieee.Datum.product, Option.map_some, Ieee.Format.write, nearest_rung, mulr, h1, h2, and_self, if_true]
  · rw [rd_num h1, rd_inf h2]
    simp only [Ieee.Datum.product, mm_zero]
    by_cases h : mg x = 0
    · rw [if_pos h, if_pos (.inr ⟨h, h2⟩)]; rfl
    · rw [if_neg h, if_neg (by omega)]
      simp only [Option.map_some, Ieee.Format.write, mulr, h2, Nat.lt_irrefl, and_false, if_false, pinf64, Bool.xor_comm]
  · rw [rd_inf h1, rd_num h2]
    simp only [Ieee.Datum.product, mm_zero]
    by_cases h : mg y = 0
    · rw [if_pos h, if_pos (.inl ⟨h1, h⟩)]; rfl
    · rw [if_neg h, if_neg (by omega)]
      simp only [Option.map_some, Ieee.Format.write, mulr, h1, Nat.lt_irrefl, false_and, if_false, pinf64, Bool.xor_comm]
  · rw [rd_inf h1, rd_inf h2, if_neg (by rw [h1, h2]; decide)]
    simp only [Ieee.Datum.product, Option.map_some, Ieee.Format.write, mulr, h1, Nat.lt_irrefl, false_and, if_false, pinf64]
theorem mul_nan {x y : Nat} (h : infR < mg x ∨ infR < mg y) : f64.mul x y = none := by
  unfold Ieee.Format.mul
  rcases h with h | h
  · rw [rd_nan h]; cases f64.read y <;> rfl
  · rw [rd_nan h]; cases f64.read x <;> rfl
theorem mulr_mono {r s c : Nat} (h : r ≤ s) : mulr r c ≤ mulr s c := by
  unfold mulr
  by_cases h1 : s < infR ∧ c < infR
  · rw [if_pos h1, if_pos ⟨by omega, h1.2⟩]
    have h2 := rv_mono h
    rw [rv_eq, rv_eq] at h2
    have a1 := pp_ge r
    have a2 := pp_ge s
    have h3 : mm r * mm c * 2 ^ (pp r + 1074).toNat ≤ mm s * mm c * 2 ^ (pp s + 1074).toNat := by
      rw [Nat.mul_right_comm, Nat.mul_right_comm (mm s)]; exact Nat.mul_le_mul_right _ h2
    exact rung_mono (vle_of h3 (by omega))
  · rw [if_neg h1]
    split
    · exact rung_le _ _
    · exact Nat.le_refl _
theorem rung_zero (i : Int) : rung 0 i = 0 := if_pos rfl
theorem mulr_zero {c : Nat} (h : c < infR) : mulr 0 c = 0 := by
  unfold mulr
  rw [if_pos ⟨by decide, h⟩, show mm 0 = 0 from rfl, Nat.zero_mul, rung_zero]
theorem sv_word {b : Bool} {r : Nat} (h : r < 9223372036854775808) : sv (f64.word b r) = if b then -(rv r : Int) else rv r := by
  unfold sv; rw [ng_word h, mg_word h]
theorem rv_inj {r s : Nat} (h : rv r = rv s) : r = s := by
  rcases Nat.lt_trichotomy r s with h1 | h1 | h1
  · have := rv_lt h1; omega
  · exact h1
  · have := rv_lt h1; omega
theorem rv_le_iff {r s : Nat} : rv r ≤ rv s ↔ r ≤ s := by
  constructor
  · intro h
    rcases Nat.lt_or_ge s r with h1 | h1
    · have := rv_lt h1; omega
    · exact h1
  · exact rv_mono
/-- A greater factor gives no lesser product, with one above nought that is finite. -/
theorem mul_mono {x y c : Nat} (hx : mg x ≤ infR) (hy : mg y ≤ infR) (hc : mg c < infR) (hc0 : 0 < mg c) (hcn : ng c = false) (h : sv x ≤ sv y) :
    ∃ a b, f64.mul x c = some a ∧ f64.mul y c = some b ∧ mg a ≤ infR ∧ mg b ≤ infR ∧ sv a ≤ sv b ∧ ng a = ng x ∧ ng b = ng y := by
  have la := mulr_le (mg x) (mg c)
  have lb := mulr_le (mg y) (mg c)
  have ia : infR < 9223372036854775808 := by decide
  refine ⟨_, _, by rw [mul_eq hx (Nat.le_of_lt hc), if_neg (by omega)], by rw [mul_eq hy (Nat.le_of_lt hc), if_neg (by omega)], ?_, ?_, ?_, ?_, ?_⟩
  · rw [mg_word (by omega)]; exact la
  · rw [mg_word (by omega)]; exact lb
  · rw [sv_word (by omega), sv_word (by omega), hcn, Bool.xor_false, Bool.xor_false]
    unfold sv at h
    have q0 : rv (mulr 0 (mg c)) = 0 := by rw [mulr_zero hc]; exact rv_zero
    generalize ng x = bx at h ⊢
    generalize ng y = by_ at h ⊢
    cases bx <;> cases by_ <;> simp only [Bool.false_eq_true, if_false, if_true] at h ⊢
    · have := rv_mono (mulr_mono (c := mg c) (rv_le_iff.1 (Int.ofNat_le.1 h))); omega
    · have e1 : rv (mg x) = rv 0 := by rw [rv_zero]; omega
      have e2 : rv (mg y) = rv 0 := by rw [rv_zero]; omega
      rw [rv_inj e1, rv_inj e2, q0]; decide
    · omega
    · have := rv_mono (mulr_mono (c := mg c) (rv_le_iff.1 (Int.ofNat_le.1 (by omega : (rv (mg y) : Int) ≤ rv (mg x))))); omega
  · rw [ng_word (by omega), hcn, Bool.xor_false]
  · rw [ng_word (by omega), hcn, Bool.xor_false]
end Go.Proofs.YtnljcdplcloedaaGreatDoor
end
section
namespace Go.Proofs.YtnljcdplcloedaaGreatDoor
open Go Go.Tn Go.RowKit
set_option linter.unusedVariables false
set_option linter.unusedSimpArgs false
set_option maxRecDepth 100000

theorem rnd_rhe (m : Nat) (e : Int) : rnd m e = (rhe (m * 2 ^ e.toNat) (2 ^ (-e).toNat) : Nat) := by
  unfold rnd rhe
  rw [show m * 2 ^ e.toNat / 2 ^ (-e).toNat = below m e from rfl, show m * 2 ^ e.toNat % 2 ^ (-e).toNat = rest m e from rfl]
  have ht : Int.tmod (below m e : Int) 2 = ((below m e % 2 : Nat) : Int) := rfl
  rw [ht]
  generalize below m e = q
  generalize rest m e = r
  generalize 2 ^ (-e).toNat = D
  rcases Nat.lt_trichotomy (2 * r) D with h | h | h
  · rw [Nat.compare_eq_lt.2 h, if_neg (by omega)]; rfl
  · rw [Nat.compare_eq_eq.2 h]
    show cond ((((q % 2 : Nat) : Int)) == 1) _ _ = _
    by_cases hq : q % 2 = 1
    · rw [hq, if_pos (.inr ⟨h.symm, rfl⟩)]; rfl
    · have h0 : q % 2 = 0 := by omega
      rw [h0, if_neg (by omega)]; rfl
  · rw [Nat.compare_eq_gt.2 h, if_pos (.inl h)]; rfl
theorem rhe_eq {n D n' D' : Nat} (hD : 0 < D) (hD' : 0 < D') (h : n * D' = n' * D) : rhe n D = rhe n' D' := Nat.le_antisymm (rhe_mono hD hD' (Nat.le_of_eq h)) (rhe_mono hD' hD (Nat.le_of_eq h.symm))
theorem pow_sh (m a b c d : Nat) (h : a + b = c + d) : m * 2 ^ a * 2 ^ b = m * 2 ^ c * 2 ^ d := by
  rw [Nat.mul_assoc, Nat.mul_assoc, ← Nat.pow_add, ← Nat.pow_add, h]
theorem pow_sh1 (m a b c : Nat) (h : a = b + c) : m * 2 ^ a = m * 2 ^ b * 2 ^ c := by rw [Nat.mul_assoc, ← Nat.pow_add, h]
theorem rhe_monoN {n n' D : Nat} (hD : 0 < D) (h : n ≤ n') : rhe n D ≤ rhe n' D := rhe_mono hD hD (Nat.mul_le_mul_right D h)
theorem rnd_rv {r : Nat} : rnd (mm r) (pp r) = (rhe (rv r) (2 ^ 1074) : Nat) := by
  rw [rnd_rhe]
  congr 1
  apply rhe_eq (Nat.two_pow_pos _) (Nat.two_pow_pos _)
  have := pp_ge r
  rw [rv_eq]
  exact pow_sh _ _ 1074 _ _ (by omega)
/-- the magnitude of a float of rung r, in whole numbers, at most 2 ^ 52 -/
def cR (r : Nat) : Int := ((min 4503599627370496 (rhe (rv r) (2 ^ 1074)) : Nat) : Int)
def cK (x : Nat) : Int := if infR < mg x then 0 else if ng x then -(cR (mg x)) else cR (mg x)
theorem cR_mono {r s : Nat} (h : r ≤ s) : cR r ≤ cR s := by
  have := rhe_monoN (Nat.two_pow_pos 1074) (rv_mono h)
  unfold cR; omega
theorem cR_zero : cR 0 = 0 := by unfold cR; rw [rv_zero, rhe_zero]; rfl
theorem cR_nonneg (r : Nat) : 0 ≤ cR r := by unfold cR; omega
theorem cR_le (r : Nat) : cR r ≤ 4503599627370496 := by unfold cR; omega
abbrev r63 : Nat := 4890909195324358656
theorem mg_mg (x : Nat) : mg (mg x) = mg x := by unfold mg; omega
theorem ng_mg (x : Nat) : ng (mg x) = false := by unfold ng mg; rw [beq_eq_false_iff_ne]; omega
theorem sv_mg (x : Nat) : sv (mg x) = rv (mg x) := by unfold sv; rw [ng_mg, mg_mg]; rfl
theorem ng_r63 : ng r63 = false := by decide
theorem mg_r63 : mg r63 = r63 := by decide
theorem lt63 {x : Nat} (h : mg x ≤ infR) : (f64.order (s165 x) r63 == some .lt) = decide (mg x < r63) := by
  rw [s165_eq, show x % 9223372036854775808 = mg x from rfl, order_sv (by rw [mg_mg]; exact h) (by rw [mg_r63]; decide), sv_mg, show sv r63 = (rv r63 : Int) by unfold sv; rw [ng_r63, mg_r63]; rfl]
  by_cases hl : mg x < r63
  · rw [decide_eq_true hl, Int.compare_eq_lt.2 (by have := rv_lt hl; omega)]; rfl
  · rw [decide_eq_false hl]
    have := rv_mono (Nat.not_lt.1 hl)
    rcases Int.lt_or_eq_of_le (by omega : (rv r63 : Int) ≤ rv (mg x)) with h1 | h1
    · rw [Int.compare_eq_gt.2 h1]; rfl
    · rw [Int.compare_eq_eq.2 h1.symm]; rfl
theorem rhe63a : rhe (rv (r63 - 1)) (2 ^ 1074) = 9223372036854774784 := by kernel_rfl
theorem rhe63b : rhe (rv r63) (2 ^ 1074) = 9223372036854775808 := by kernel_rfl
theorem lt0 {x : Nat} (h : mg x ≤ infR) : (f64.order x 0 == some .lt) = (ng x && decide (0 < mg x)) := by
  rw [order_sv h (by decide), show sv 0 = 0 by decide]
  unfold sv
  have h0 : rv (mg x) = 0 ↔ mg x = 0 := by
    constructor
    · intro e; exact rv_inj (e.trans rv_zero.symm)
    · intro e; rw [e, rv_zero]
  cases ng x
  · rw [if_neg (by simp), Bool.false_and]
    rcases Nat.eq_zero_or_pos (rv (mg x)) with h1 | h1
    · rw [h1]; rfl
    · rw [Int.compare_eq_gt.2 (by omega)]; rfl
  · rw [if_pos rfl, Bool.true_and]
    by_cases hp : 0 < mg x
    · have : rv (mg x) ≠ 0 := fun e => by have := h0.1 e; omega
      rw [decide_eq_true hp, Int.compare_eq_lt.2 (by omega)]; rfl
    · have : rv (mg x) = 0 := h0.2 (by omega)
      rw [decide_eq_false hp, this]; rfl
theorem nn_of {x : Nat} (h : infR < mg x) : Nn x := ⟨_, _, rd_nan h⟩
theorem clamp_eq (x : Nat) : s109 x 4503599627370496 = cK x := by
  unfold cK
  by_cases hn : infR < mg x
  · rw [if_pos hn]; exact nan_109 (nn_of hn) _
  · rw [if_neg hn]
    have hx : mg x ≤ infR := by omega
    have h192 : s192 x = false := by
      unfold s192; rw [order_sv hx hx, Int.compare_eq_eq.2 rfl]; rfl
    unfold s109
    simp only [h192, cond_false]
    rw [if_neg (by decide : ¬ (0 : Int) > 4503599627370496)]
    rw [show (4890909195324358656 : Nat) = r63 from rfl, lt63 hx, lt0 hx]
    by_cases h63 : mg x < r63
    · rw [decide_eq_true h63, cond_true]
      have hlt : mg x < infR := Nat.lt_of_lt_of_le h63 (by decide)
      have hmag : magR x = (rhe (rv (mg x)) (2 ^ 1074) : Nat) := by
        unfold magR; rw [rd_num hlt]; exact rnd_rv
      have hle : rhe (rv (mg x)) (2 ^ 1074) ≤ 9223372036854774784 := by
        rw [← rhe63a]
        exact rhe_mono (Nat.two_pow_pos 1074) (Nat.two_pow_pos 1074) (Nat.mul_le_mul_right _ (rv_mono (by omega)))
      have hw : IntKind.wrap .i64 ((rhe (rv (mg x)) (2 ^ 1074) : Nat) : Int) = ((rhe (rv (mg x)) (2 ^ 1074) : Nat) : Int) := w64 _ (by omega)
      rw [hmag, hw]
      unfold cR
      generalize rhe (rv (mg x)) (2 ^ 1074) = R at *
      have e : (if ((R : Nat) : Int) < 4503599627370496 then ((R : Nat) : Int) else 4503599627370496) = ((min 4503599627370496 R : Nat) : Int) := by split <;> omega
      rw [e]
      cases hng : ng x
      · rw [Bool.false_and, cond_false, if_neg (by simp)]
      · rw [Bool.true_and, if_pos rfl]
        by_cases hp : 0 < mg x
        · rw [decide_eq_true hp, cond_true, w64 _ (by omega)]; omega
        · rw [decide_eq_false hp, cond_false]
          have h0 : mg x = 0 := by omega
          have : R = 0 := by
            have h1 : (R : Int) = magR x := hmag.symm
            have h2 : magR x = (rhe (rv (mg x)) (2 ^ 1074) : Nat) := by unfold magR; rw [rd_num hlt]; exact rnd_rv
            rw [h0, rv_zero, rhe_zero] at h2
            omega
          rw [this]; rfl
    · rw [decide_eq_false h63, cond_false]
      have hge : 9223372036854775808 ≤ rhe (rv (mg x)) (2 ^ 1074) := by
        rw [← rhe63b]
        exact rhe_mono (Nat.two_pow_pos 1074) (Nat.two_pow_pos 1074) (Nat.mul_le_mul_right _ (rv_mono (by omega)))
      have hc : cR (mg x) = 4503599627370496 := by unfold cR; omega
      rw [hc]
      cases hng : ng x
      · rw [Bool.false_and, cond_false, if_neg (by simp)]
      · rw [Bool.true_and, if_pos rfl, decide_eq_true (by have : r63 ≤ mg x := by omega
                                                          exact Nat.lt_of_lt_of_le (by decide) this), cond_true]; decide
/-! ### products -/
def mulF (a b : Nat) : Nat := fr (f64.mul a b)
theorem mg_quiet : infR < mg quietN := by decide
theorem mulF_nan {x y : Nat} (h : infR < mg x ∨ infR < mg y) : mulF x y = quietN := by unfold mulF; rw [mul_nan h]; rfl
theorem mulF_eq {x y : Nat} (hx : mg x ≤ infR) (hy : mg y ≤ infR) : (mulF x y = quietN ∧ ((mg x = infR ∧ mg y = 0) ∨ (mg x = 0 ∧ mg y = infR))) ∨ (¬ ((mg x = infR ∧ mg y = 0) ∨ (mg x = 0 ∧ mg y = infR)) ∧ mg (mulF x y) = mulr (mg x) (mg y) ∧ ng (mulF x y) = (ng x ^^ ng y)) := by
  unfold mulF
  rw [mul_eq hx hy]
  have := mulr_le (mg x) (mg y)
  have hi : infR < 9223372036854775808 := by decide
  split
  · rename_i h; exact .inl ⟨rfl, h⟩
  · rename_i h; exact .inr ⟨h, mg_word (by omega), ng_word (by omega)⟩
/-- y is x with the other sign; or both are NaNs -/
def Opp (x y : Nat) : Prop := (infR < mg x ∧ infR < mg y) ∨ (mg x = mg y ∧ mg x ≤ infR ∧ ng y = !ng x)
theorem opp_mul {x y : Nat} (h : Opp x y) (b : Nat) : Opp (mulF x b) (mulF y b) := by
  rcases h with ⟨h1, h2⟩ | ⟨h1, h2, h3⟩
  · rw [mulF_nan (.inl h1), mulF_nan (.inl h2)]; exact .inl ⟨mg_quiet, mg_quiet⟩
  · by_cases hb : infR < mg b
    · rw [mulF_nan (.inr hb), mulF_nan (.inr hb)]; exact .inl ⟨mg_quiet, mg_quiet⟩
    · have hb' : mg b ≤ infR := by omega
      rcases mulF_eq h2 hb' with ⟨e1, c1⟩ | ⟨c1, e1, e2⟩ <;> rcases mulF_eq (x := y) (by omega) hb' with ⟨e3, c2⟩ | ⟨c2, e3, e4⟩
      · rw [e1, e3]; exact .inl ⟨mg_quiet, mg_quiet⟩
      · rw [h1] at c1; exact (c2 c1).elim
      · rw [h1] at c1; exact (c1 c2).elim
      · refine .inr ⟨by rw [e1, e3, h1], by rw [e1]; exact mulr_le _ _, ?_⟩
        rw [e4, e2, h3]; cases ng x <;> cases ng b <;> rfl
theorem opp_cK {x y : Nat} (h : Opp x y) : cK y = -(cK x) := by
  unfold cK
  rcases h with ⟨h1, h2⟩ | ⟨h1, h2, h3⟩
  · rw [if_pos h1, if_pos h2]; rfl
  · rw [if_neg (show ¬ infR < mg y by omega), if_neg (show ¬ infR < mg x by omega), h3, h1]
    cases ng x <;> simp
/-- nought, or a NaN -/
def Zn (x : Nat) : Prop := mg x = 0 ∨ infR < mg x
theorem zn_mul {x y : Nat} (h : Zn x ∨ Zn y) : Zn (mulF x y) := by
  by_cases hx : infR < mg x
  · rw [mulF_nan (.inl hx)]; exact .inr mg_quiet
  · by_cases hy : infR < mg y
    · rw [mulF_nan (.inr hy)]; exact .inr mg_quiet
    · rcases mulF_eq (x := x) (y := y) (by omega) (by omega) with ⟨e, _⟩ | ⟨c, e, _⟩
      · rw [e]; exact .inr mg_quiet
      · left
        rw [e]
        rcases h with (h | h) | (h | h)
        · rw [h]; exact mulr_zero (by omega)
        · omega
        · rw [h]; unfold mulr
          rw [if_pos ⟨by omega, by decide⟩, show mm 0 = 0 from rfl, Nat.mul_zero, rung_zero]
        · omega
theorem zn_cK {x : Nat} (h : Zn x) : cK x = 0 := by
  unfold cK
  rcases h with h | h
  · rw [h, if_neg (by decide), cR_zero]; simp
  · rw [if_pos h]
/-- of this sign, or a NaN -/
def Sg (b : Bool) (x : Nat) : Prop := ng x = b ∨ infR < mg x
theorem sg_mul {b : Bool} {x y : Nat} (h : Sg b x) (hy : ng y = false) : Sg b (mulF x y) := by
  by_cases hx : infR < mg x
  · rw [mulF_nan (.inl hx)]; exact .inr mg_quiet
  · by_cases hy' : infR < mg y
    · rw [mulF_nan (.inr hy')]; exact .inr mg_quiet
    · rcases mulF_eq (x := x) (y := y) (by omega) (by omega) with ⟨e, _⟩ | ⟨c, _, e⟩
      · rw [e]; exact .inr mg_quiet
      · left
        rw [e, hy, Bool.xor_false]
        rcases h with h | h
        · exact h
        · omega
theorem sg_pos {x : Nat} (h : Sg false x) : 0 ≤ cK x := by
  unfold cK
  split
  · exact Int.le_refl _
  · rcases h with h | h
    · rw [h, if_neg (by simp)]; exact cR_nonneg _
    · omega
theorem sg_neg {x : Nat} (h : Sg true x) : cK x ≤ 0 := by
  unfold cK
  split
  · exact Int.le_refl _
  · rcases h with h | h
    · rw [h, if_pos rfl]; have := cR_nonneg (mg x); omega
    · omega
/-- finite and above nought -/
def Pf (c : Nat) : Prop := mg c < infR ∧ 0 < mg c ∧ ng c = false
/-- no NaNs, and x is at most y -/
def Le (x y : Nat) : Prop := mg x ≤ infR ∧ mg y ≤ infR ∧ sv x ≤ sv y
theorem le_mul {x y c : Nat} (h : Le x y) (hc : Pf c) : Le (mulF x c) (mulF y c) := by
  obtain ⟨a, b, ha, hb, h1, h2, h3, _⟩ := mul_mono h.1 h.2.1 hc.1 hc.2.1 hc.2.2 h.2.2
  unfold mulF
  rw [ha, hb]
  exact ⟨h1, h2, h3⟩
theorem le_cK {x y : Nat} (h : Le x y) : cK x ≤ cK y := by
  obtain ⟨hx, hy, h⟩ := h
  unfold cK
  rw [if_neg (show ¬ infR < mg x by omega), if_neg (show ¬ infR < mg y by omega)]
  unfold sv at h
  have n1 := cR_nonneg (mg x)
  have n2 := cR_nonneg (mg y)
  cases hnx : ng x <;> cases hny : ng y <;> simp only [hnx, hny, Bool.false_eq_true, if_false, if_true] at h ⊢
  · exact cR_mono (rv_le_iff.1 (Int.ofNat_le.1 h))
  · have e1 : rv (mg x) = rv 0 := by rw [rv_zero]; omega
    have e2 : rv (mg y) = rv 0 := by rw [rv_zero]; omega
    rw [rv_inj e1, rv_inj e2, cR_zero]; decide
  · omega
  · have := cR_mono (rv_le_iff.1 (Int.ofNat_le.1 (by omega : (rv (mg y) : Int) ≤ rv (mg x)))); omega
abbrev unitF : Nat := 4742290407621132288
def zQ (u d l t : Nat) : Nat := mulF (mulF (mulF (mulF u d) l) t) unitF
theorem s41_eq (u d l t : Nat) : s41 u d l t = cK (zQ u d l t) := clamp_eq _
theorem pf_unit : Pf unitF := ⟨by decide, by decide, by decide⟩
theorem cK_bound (x : Nat) : -4503599627370496 ≤ cK x ∧ cK x ≤ 4503599627370496 := by
  unfold cK
  have := cR_le (mg x)
  have := cR_nonneg (mg x)
  split
  · omega
  · split <;> omega
end Go.Proofs.YtnljcdplcloedaaGreatDoor
end
section
namespace Go.Proofs.YtnljcdplcloedaaGreatDoor
open Go Go.Tn Go.RowKit
set_option linter.unusedVariables false
set_option linter.unusedSimpArgs false
set_option maxRecDepth 100000
theorem neg_eq (x : Nat) : Op.negFloat .f64 x = x ^^^ 2 ^ 63 := rfl
theorem mg_neg (x : Nat) : mg (Op.negFloat .f64 x) = mg x := by
  rw [neg_eq]; unfold mg
  rw [show (9223372036854775808 : Nat) = 2 ^ 63 by decide, Nat.xor_mod_two_pow, Nat.mod_self, Nat.xor_zero]
theorem ng_neg (x : Nat) : ng (Op.negFloat .f64 x) = !ng x := by
  rw [neg_eq]; unfold ng
  rw [show (9223372036854775808 : Nat) = 2 ^ 63 by decide, Nat.xor_div_two_pow, Nat.div_self (Nat.two_pow_pos 63)]
  have h : (x / 2 ^ 63 ^^^ 1) % 2 = (x / 2 ^ 63 % 2) ^^^ 1 := by
    have := Nat.xor_mod_two_pow (a := x / 2 ^ 63) (b := 1) (n := 1)
    simpa using this
  rw [h]
  rcases Nat.mod_two_eq_zero_or_one (x / 2 ^ 63) with h | h <;> rw [h] <;> rfl
theorem opp_neg {x : Nat} : Opp x (Op.negFloat .f64 x) := by
  by_cases h : infR < mg x
  · exact .inl ⟨h, by rw [mg_neg]; exact h⟩
  · exact .inr ⟨(mg_neg x).symm, by omega, ng_neg x⟩
theorem q_neg (u d l t : Nat) : s41 (Op.negFloat .f64 u) d l t = -(s41 u d l t) := by
  rw [s41_eq, s41_eq]
  exact opp_cK (opp_mul (opp_mul (opp_mul (opp_mul opp_neg d) l) t) unitF)
theorem q_bound (u d l t : Nat) : -4503599627370496 ≤ s41 u d l t ∧ s41 u d l t ≤ 4503599627370496 := by rw [s41_eq]; exact cK_bound _
theorem zn0 : Zn 0 := .inl rfl
theorem q_u0 (d l t : Nat) : s41 0 d l t = 0 := by rw [s41_eq]; exact zn_cK (zn_mul (.inl (zn_mul (.inl (zn_mul (.inl (zn_mul (.inl zn0))))))))
theorem q_d0 (u l t : Nat) : s41 u 0 l t = 0 := by rw [s41_eq]; exact zn_cK (zn_mul (.inl (zn_mul (.inl (zn_mul (.inl (zn_mul (.inr zn0))))))))
theorem q_t0 (u d l : Nat) : s41 u d l 0 = 0 := by rw [s41_eq]; exact zn_cK (zn_mul (.inl (zn_mul (.inr zn0))))
theorem sv0 : sv 0 = 0 := by decide
theorem gt0 {x : Nat} (h : (f64.order x 0 == some .gt) = true) : mg x ≤ infR ∧ 0 < mg x ∧ ng x = false := by
  by_cases hn : infR < mg x
  · rw [order_nan (.inl hn)] at h; cases h
  · have hx : mg x ≤ infR := by omega
    rw [order_sv hx (by decide), sv0] at h
    have h : compare (sv x) 0 = .gt := by simpa using h
    rw [Int.compare_eq_gt] at h
    unfold sv at h
    cases hng : ng x
    · rw [hng, if_neg (by simp)] at h
      refine ⟨hx, ?_, rfl⟩
      rcases Nat.eq_zero_or_pos (mg x) with h0 | h0
      · rw [h0, rv_zero] at h; omega
      · exact h0
    · rw [hng, if_pos rfl] at h; omega
theorem lt0' {x : Nat} (h : (f64.order x 0 == some .lt) = true) : ng x = true := by
  by_cases hn : infR < mg x
  · rw [order_nan (.inl hn)] at h; cases h
  · rw [lt0 (by omega)] at h
    simp only [Bool.and_eq_true] at h
    exact h.1
theorem notnan {x : Nat} (h : (f64.order x x != some .eq) = false) : mg x ≤ infR := by
  by_cases hn : infR < mg x
  · rw [order_nan (.inl hn)] at h; cases h
  · omega
theorem sub_inf {x : Nat} (h : mg x = infR) : f64.sub x x = none := by
  unfold Ieee.Format.sub
  rw [rd_inf h]
  simp [Ieee.Datum.opposite, Ieee.Datum.sum]
theorem fin_of {x r : Nat} (hx : mg x ≤ infR) (f : FRes (f64.sub x x) r) (c : (f64.order r 0 != some .eq) = false) : mg x < infR := by
  rcases Nat.lt_or_eq_of_le hx with h | h
  · exact h
  · rw [sub_inf h] at f
    obtain ⟨s, t, e⟩ := read_nan f
    have : f64.order r 0 = none := by simp [Ieee.Format.order, e, Ieee.Datum.order]
    rw [this] at c; cases c
theorem le_of {x y : Nat} (hx : mg x ≤ infR) (hy : mg y ≤ infR) (h : (f64.order y x == some .lt) = false) : Le x y := by
  refine ⟨hx, hy, ?_⟩
  rw [order_sv hy hx] at h
  have h : ¬ compare (sv y) (sv x) = .lt := by simpa using h
  rw [Int.compare_eq_lt] at h
  omega
theorem q_pos {u d l t : Nat} (hu : (f64.order u 0 == some .gt) = true) (hd : (f64.order d 0 == some .gt) = true) (hl : (f64.order l 0 == some .gt) = true) (ht : (f64.order t 0 == some .gt) = true) : 0 ≤ s41 u d l t := by
  rw [s41_eq]
  exact sg_pos (sg_mul (sg_mul (sg_mul (sg_mul (.inl (gt0 hu).2.2) (gt0 hd).2.2) (gt0 hl).2.2) (gt0 ht).2.2) pf_unit.2.2)
theorem q_negv {u d l t : Nat} (hu : (f64.order u 0 == some .lt) = true) (hd : (f64.order d 0 == some .gt) = true) (hl : (f64.order l 0 == some .gt) = true) (ht : (f64.order t 0 == some .gt) = true) : s41 u d l t ≤ 0 := by
  rw [s41_eq]
  exact sg_neg (sg_mul (sg_mul (sg_mul (sg_mul (.inl (lt0' hu)) (gt0 hd).2.2) (gt0 hl).2.2) (gt0 ht).2.2) pf_unit.2.2)
theorem q_mono {u v d l t r1 r2 r3 : Nat} (hd : (f64.order d 0 == some .gt) = true) (hl : (f64.order l 0 == some .gt) = true) (ht : (f64.order t 0 == some .gt) = true) (hu : (f64.order u u != some .eq) = false) (hv : (f64.order v v != some .eq) = false)
    (f1 : FRes (f64.sub d d) r1) (c1 : (f64.order r1 0 != some .eq) = false) (f2 : FRes (f64.sub l l) r2) (c2 : (f64.order r2 0 != some .eq) = false) (f3 : FRes (f64.sub t t) r3) (c3 : (f64.order r3 0 != some .eq) = false) (h : (f64.order v u == some .lt) = false) : s41 u d l t ≤ s41 v d l t := by
  have pf : ∀ {x r : Nat}, (f64.order x 0 == some .gt) = true → FRes (f64.sub x x) r → (f64.order r 0 != some .eq) = false → Pf x := fun h f c => ⟨fin_of (gt0 h).1 f c, (gt0 h).2.1, (gt0 h).2.2⟩
  rw [s41_eq, s41_eq]
  exact le_cK (le_mul (le_mul (le_mul (le_mul (le_of (notnan hu) (notnan hv) h) (pf hd f1 c1)) (pf hl f2 c2)) (pf ht f3 c3)) pf_unit)
end Go.Proofs.YtnljcdplcloedaaGreatDoor
end
