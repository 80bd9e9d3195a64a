/- Walks of the cube functions: each returns the value of a Lean function, for sides whose frames are as the program lays them. -/
import Derived.Test.YtnljcdplcloedaaGreatDoorNum
import Derived.Test.YtnljcdplcloedaaGreatDoorMem
section
namespace Go.Proofs.YtnljcdplcloedaaGreatDoor
open Go Go.Tn Go.RowKit
set_option linter.unusedVariables false
set_option linter.unusedSimpArgs false
set_option maxRecDepth 100000
-- math.Floor
def an246 : Ann := (.seq .leaf (.seq (.cond (.seq .leaf .leaf) .leaf) (.seq .leaf .leaf)))
noncomputable def q246 (w0 : World) (x : Nat) (R : Value → World → Prop) : Prop :=
  (∃ x4 : Nat, CallV (cx w0 [] []) [] [] 279 [.float .f64 x] (.float .f64 x4) ∧ Fin (cx w0 [] []) R (.float .f64 x4) [])
theorem q246_eq (w0 : World) (x : Nat) (R : Value → World → Prop) : funT (cx w0 [] []) Tryz.f246 an246 [.float .f64 x] [] R = q246 w0 x R := by kernel_rfl
theorem d246 (W : World) (x : Nat) {R : Value → World → Prop} (h : q246 W x R) : Does Tryz.prog 246 [.float .f64 x] W R :=
  does_of_T (fn := Tryz.f246) (x := an246) (dyn := []) (by kernel_rfl) (by kernel_rfl) (sep_self W) (Eq.mpr (q246_eq W x R) h)

theorem p279 {x : Nat} (h : (FloatKind.f64.decode x).isNaN = false) : Pu 279 [.float .f64 x] (.float .f64 (floorS x)) := fun W hL => (x279 x W).mono fun v' W' ⟨⟨r, e, hr⟩, he⟩ => ⟨by rw [e, hr h], he⟩
theorem p246 {x : Nat} (h : (FloatKind.f64.decode x).isNaN = false) : Pu 246 [.float .f64 x] (.float .f64 (floorS x)) := fun W hL => d246 W x ⟨_, (p279 h).callL hL, fin_ext rfl⟩


-- tarn/conv.near
def an193 : Ann := (.seq .leaf (.seq .leaf (.seq .leaf (.seq .leaf (.seq (.seq .leaf (.cond .leaf .leaf)) (.seq .leaf .leaf))))))
noncomputable def q193 (w0 : World) (a : Nat) (R : Value → World → Prop) : Prop :=
  (∃ x7 : Nat, CallV (cx w0 [] []) [] [] 246 [.float .f64 a] (.float .f64 x7) ∧ (∀ n9 : Int, FToI x7 .u64 n9 → (∀ r12 : Nat, FRes (f64.sub a x7) r12 → (cond (f64.order r12 4602678819172646912 == some .gt) (Fin (cx w0 [] []) R (.int .u64 (IntKind.wrap .u64 (n9 + (1 : Int)))) []) ((cond (f64.order r12 4602678819172646912 == some .eq) (((2 : Int) ≠ 0) ∧ (cond ((Int.tmod n9 (2 : Int)) == (1 : Int)) (Fin (cx w0 [] []) R (.int .u64 (IntKind.wrap .u64 (n9 + (1 : Int)))) []) (Fin (cx w0 [] []) R (.int .u64 n9) []))) (Fin (cx w0 [] []) R (.int .u64 n9) [])))))))
theorem q193_eq (w0 : World) (a : Nat) (R : Value → World → Prop) : funT (cx w0 [] []) Tryz.f193 an193 [.float .f64 a] [] R = q193 w0 a R := by kernel_rfl
theorem d193 (W : World) (a : Nat) {R : Value → World → Prop} (h : q193 W a R) : Does Tryz.prog 193 [.float .f64 a] W R :=
  does_of_T (fn := Tryz.f193) (x := an193) (dyn := []) (by kernel_rfl) (by kernel_rfl) (sep_self W) (Eq.mpr (q193_eq W a R) h)

/-- m * 2 ^ e as the nearest whole number; of two, the even one -/
def rnd (m : Nat) (e : Int) : Int :=
  cond (compare (2 * rest m e) (2 ^ (-e).toNat) == .gt) ((below m e : Int) + 1) (cond (compare (2 * rest m e) (2 ^ (-e).toNat) == .eq) (cond (Int.tmod (below m e) 2 == 1) ((below m e : Int) + 1) (below m e)) (below m e))
theorem w64u (n : Int) (h : 0 ≤ n ∧ n < 18446744073709551616) : IntKind.wrap .u64 n = n := by rw [IntKind.wrap_u64]; omega
theorem some_beq (a b : Ordering) : ((some a : Option Ordering) == some b) = (a == b) := rfl
theorem p193 {x m : Nat} {e : Int} (h : f64.read x = .number false m e) (hN : below m e < 9223372036854775808) : Pu 193 [.float .f64 x] (.int .u64 (rnd m e)) := fun W hL => d193 W x (by
  have hnn : (FloatKind.f64.decode x).isNaN = false := by
    have h' : FloatKind.f64.decode x = .number false m e := h
    rw [h']; rfl
  refine ⟨_, (p246 hnn).callL hL, fun n hn r hr => ?_⟩
  have en := ftoi_floor h hN hn
  obtain ⟨r', e1, e2⟩ := sub_floor h hN
  rw [e1] at hr
  have hr : r = r' := hr
  subst hr
  subst en
  rw [e2, some_beq, some_beq]
  have hw : IntKind.wrap .u64 ((below m e : Int) + 1) = (below m e : Int) + 1 := w64u _ (by omega)
  refine cond_split (fun h1 => ?_) fun h1 => cond_split (fun h2 => ⟨by decide, ?_⟩) fun h2 => ?_
  · exact fin_ext (by rw [rnd, h1, cond_true, hw])
  · cases h3 : (Int.tmod (below m e) 2 == 1) with
    | true => exact fin_ext (by rw [rnd, h1, h2, h3, cond_true, cond_true, cond_false, hw])
    | false => exact fin_ext (by rw [rnd, h1, h2, h3, cond_true, cond_false, cond_false])
  · exact fin_ext (by rw [rnd, h1, h2, cond_false, cond_false]))


end Go.Proofs.YtnljcdplcloedaaGreatDoor
end
section
namespace Go.Proofs.YtnljcdplcloedaaGreatDoor
open Go Go.Tn Go.RowKit
set_option linter.unusedVariables false
set_option linter.unusedSimpArgs false
set_option maxRecDepth 100000

theorem s165_eq (x : Nat) : s165 x = x % 9223372036854775808 := by
  unfold s165 s107 s119
  rw [andNot_sign]; rfl
/-- the magnitude of a float, as the nearest whole number -/
def magR (x : Nat) : Int := match f64.read x with | .number _ m e => rnd m e | _ => 0
theorem p193_abs {x : Nat} (h : (f64.order (s165 x) 4890909195324358656 == some .lt) = true) : Pu 193 [.float .f64 (s165 x)] (.int .u64 (magR x)) := by
  rw [s165_eq] at h ⊢
  have hm := read_mag x
  cases hr : f64.read x with
  | nan s t =>
    rw [hr] at hm
    simp [Ieee.Format.order, hm, Ieee.Datum.order] at h
  | infinity s =>
    rw [hr] at hm
    have : f64.order (x % 9223372036854775808) 4890909195324358656 = some .gt := by simp [Ieee.Format.order, hm, read_2_63, Ieee.Datum.order]
    rw [this] at h; cases h
  | number s m e =>
    rw [hr] at hm
    obtain ⟨m', e', h1, h2⟩ := order_lt h (fun s hs => by rw [hm] at hs; cases hs) (fun m e hs => by rw [hm] at hs; cases hs)
    rw [hm] at h1
    simp only [Ieee.Datum.number.injEq, true_and] at h1
    obtain ⟨rfl, rfl⟩ := h1
    have := p193 hm h2
    unfold magR
    rw [hr]
    exact this

-- tarn/conv.Round
def an239 : Ann := (.seq .leaf (.seq .leaf (.seq (.block (.seq .leaf (.cond (.seq .leaf (.seq (.seq .leaf (.cond .leaf .leaf)) (.seq .leaf .leaf))) (.seq .leaf (.cond (.seq .leaf .leaf) .leaf))))) (.seq .leaf .leaf))))
noncomputable def q239 (w0 : World) (x : Nat) (R : Value → World → Prop) : Prop :=
  (∃ x7 : Nat, CallV (cx w0 [] []) [] [] 165 [.float .f64 x] (.float .f64 x7) ∧ (cond (f64.order x7 4890909195324358656 == some .lt) ((∃ n12 : Int, CallV (cx w0 [] []) [] [] 193 [.float .f64 x7] (.int .u64 n12) ∧ (cond (f64.order x 0 == some .lt) (Fin (cx w0 [] []) R (.tuple ⟨[.int .i64 (IntKind.wrap .i64 (0 - (IntKind.wrap .i64 n12))), .bool true]⟩) []) (Fin (cx w0 [] []) R (.tuple ⟨[.int .i64 (IntKind.wrap .i64 n12), .bool true]⟩) [])))) ((cond (f64.order x 14114281232179134464 == some .eq) (Fin (cx w0 [] []) R (.tuple ⟨[.int .i64 ((-9223372036854775808) : Int), .bool true]⟩) []) (Fin (cx w0 [] []) R (.tuple ⟨[.int .i64 (0 : Int), .bool false]⟩) [])))))
theorem q239_eq (w0 : World) (x : Nat) (R : Value → World → Prop) : funT (cx w0 [] []) Tryz.f239 an239 [.float .f64 x] [] R = q239 w0 x R := by kernel_rfl
theorem d239 (W : World) (x : Nat) {R : Value → World → Prop} (h : q239 W x R) : Does Tryz.prog 239 [.float .f64 x] W R :=
  does_of_T (fn := Tryz.f239) (x := an239) (dyn := []) (by kernel_rfl) (by kernel_rfl) (sep_self W) (Eq.mpr (q239_eq W x R) h)

def s239 (x : Nat) : Int × Bool := cond (f64.order (s165 x) 4890909195324358656 == some .lt) (cond (f64.order x 0 == some .lt) (IntKind.wrap .i64 (0 - (IntKind.wrap .i64 (magR x))), true) (IntKind.wrap .i64 (magR x), true))
  (cond (f64.order x 14114281232179134464 == some .eq) (-9223372036854775808, true) (0, false))
theorem p239 (x : Nat) : Pu 239 [.float .f64 x] (.tuple ⟨[.int .i64 (s239 x).1, .bool (s239 x).2]⟩) := fun W hL => d239 W x
  ⟨_, (p165 _).callL hL, cond_split (fun h1 => ⟨_, (p193_abs h1).callL hL, cond_split (fun h2 => fin_ext (by simp only [s239, h1, h2, cond_true])) fun h2 => fin_ext (by simp only [s239, h1, h2, cond_true, cond_false])⟩)
    fun h1 => cond_split (fun h2 => fin_ext (by simp only [s239, h1, h2, cond_true, cond_false])) fun h2 => fin_ext (by simp only [s239, h1, h2, cond_false])⟩
theorem nan_abs {r : Nat} (h : Nn r) : f64.order (s165 r) 4890909195324358656 = none := by
  obtain ⟨s, t, e⟩ := h
  rw [s165_eq]
  have hm := read_mag r
  rw [e] at hm
  simp [Ieee.Format.order, hm, Ieee.Datum.order]
theorem nan_order {r : Nat} (h : Nn r) (y : Nat) : f64.order r y = none := by
  obtain ⟨s, t, e⟩ := h
  simp [Ieee.Format.order, e, Ieee.Datum.order]
theorem nan_239 {r : Nat} (h : Nn r) : s239 r = (0, false) := by
  unfold s239
  rw [nan_abs h, nan_order h, nan_order h]
  rfl
theorem c239_0 {o : Option Nat} {r : Nat} (h : FRes o r) : s239 r = s239 (fr o) := by
  rcases fres_cases h with e | ⟨e, e'⟩
  · rw [← e]
  · rw [nan_239 e, nan_239 e']


-- tarn/conv.Clamp
def an109 : Ann := (.seq .leaf (.seq (.seq .leaf (.cond (.seq .leaf .leaf) .leaf)) (.seq .leaf (.seq .leaf (.seq (.seq .leaf (.seq .leaf (.cond .leaf .leaf))) (.seq (.seq .leaf (.cond (.seq .leaf .leaf) .leaf)) (.seq .leaf .leaf)))))))
noncomputable def q109 (w0 : World) (x : Nat) (most : Int) (R : Value → World → Prop) : Prop :=
  (∃ b8 : Bool, CallV (cx w0 [] []) [] [] 192 [.float .f64 x] (.bool b8) ∧ (cond b8 (Fin (cx w0 [] []) R (.int .i64 (0 : Int)) []) ((∃ x13 : Nat, CallV (cx w0 [] []) [] [] 165 [.float .f64 x] (.float .f64 x13) ∧ (cond (f64.order x13 4890909195324358656 == some .lt) ((∃ n18 : Int, CallV (cx w0 [] []) [] [] 193 [.float .f64 x13] (.int .u64 n18) ∧ (cond (f64.order x 0 == some .lt) (Fin (cx w0 [] []) R (.int .i64 (IntKind.wrap .i64 (0 - (if IntKind.wrap .i64 n18 < if (0 : Int) > most then (0 : Int) else most then IntKind.wrap .i64 n18 else if (0 : Int) > most then (0 : Int) else most)))) []) (Fin (cx w0 [] []) R (.int .i64 (if IntKind.wrap .i64 n18 < if (0 : Int) > most then (0 : Int) else most then IntKind.wrap .i64 n18 else if (0 : Int) > most then (0 : Int) else most)) [])))) ((cond (f64.order x 0 == some .lt) (Fin (cx w0 [] []) R (.int .i64 (IntKind.wrap .i64 (0 - (if (0 : Int) > most then (0 : Int) else most)))) []) (Fin (cx w0 [] []) R (.int .i64 (if (0 : Int) > most then (0 : Int) else most)) []))))))))
theorem q109_eq (w0 : World) (x : Nat) (most : Int) (R : Value → World → Prop) : funT (cx w0 [] []) Tryz.f109 an109 [.float .f64 x, .int .i64 most] [] R = q109 w0 x most R := by kernel_rfl
theorem d109 (W : World) (x : Nat) (most : Int) {R : Value → World → Prop} (h : q109 W x most R) : Does Tryz.prog 109 [.float .f64 x, .int .i64 most] W R :=
  does_of_T (fn := Tryz.f109) (x := an109) (dyn := []) (by kernel_rfl) (by kernel_rfl) (sep_self W) (Eq.mpr (q109_eq W x most R) h)

def s109 (x : Nat) (most : Int) : Int :=
  let top := if (0 : Int) > most then (0 : Int) else most
  cond (s192 x) 0 (cond (f64.order (s165 x) 4890909195324358656 == some .lt)
    (cond (f64.order x 0 == some .lt) (IntKind.wrap .i64 (0 - (if IntKind.wrap .i64 (magR x) < top then IntKind.wrap .i64 (magR x) else top))) (if IntKind.wrap .i64 (magR x) < top then IntKind.wrap .i64 (magR x) else top))
    (cond (f64.order x 0 == some .lt) (IntKind.wrap .i64 (0 - top)) top))
theorem p109 (x : Nat) (most : Int) : Pu 109 [.float .f64 x, .int .i64 most] (.int .i64 (s109 x most)) := fun W hL => d109 W x most
  ⟨_, (p192 _).callL hL, cond_split (fun h0 => fin_ext (by simp only [s109, h0, cond_true])) fun h0 => ⟨_, (p165 _).callL hL, cond_split
    (fun h1 => ⟨_, (p193_abs h1).callL hL, cond_split (fun h2 => fin_ext (by simp only [s109, h0, h1, h2, cond_true, cond_false])) fun h2 => fin_ext (by simp only [s109, h0, h1, h2, cond_true, cond_false])⟩)
    fun h1 => cond_split (fun h2 => fin_ext (by simp only [s109, h0, h1, h2, cond_true, cond_false])) fun h2 => fin_ext (by simp only [s109, h0, h1, h2, cond_false])⟩⟩
theorem nan_109 {r : Nat} (h : Nn r) (most : Int) : s109 r most = 0 := by
  have : s192 r = true := by unfold s192; rw [nan_order h]; rfl
  simp only [s109, this, cond_true]
theorem c109_0 {o : Option Nat} {r : Nat} (h : FRes o r) (most : Int) : s109 r most = s109 (fr o) most := by
  rcases fres_cases h with e | ⟨e, e'⟩
  · rw [← e]
  · rw [nan_109 e, nan_109 e']


end Go.Proofs.YtnljcdplcloedaaGreatDoor
end
section
namespace Go.Proofs.YtnljcdplcloedaaGreatDoor
open Go Go.Tn Go.RowKit
set_option linter.unusedVariables false
set_option linter.unusedSimpArgs false
set_option maxRecDepth 100000
-- tarn/conv.FromInt
def an153 : Ann := (.seq .leaf (.seq .leaf .leaf))
noncomputable def q153 (w0 : World) (i : Int) (R : Value → World → Prop) : Prop :=
  Fin (cx w0 [] []) R (.float .f64 (FloatKind.nearest .f64 i)) []
theorem q153_eq (w0 : World) (i : Int) (R : Value → World → Prop) : funT (cx w0 [] []) Tryz.f153 an153 [.int .i64 i] [] R = q153 w0 i R := by kernel_rfl
theorem d153 (W : World) (i : Int) {R : Value → World → Prop} (h : q153 W i R) : Does Tryz.prog 153 [.int .i64 i] W R :=
  does_of_T (fn := Tryz.f153) (x := an153) (dyn := []) (by kernel_rfl) (by kernel_rfl) (sep_self W) (Eq.mpr (q153_eq W i R) h)
def s153 (i : Int) : Nat := (FloatKind.nearest .f64 i)
theorem p153 (i : Int) : Pu 153 [.int .i64 i] (.float .f64 (s153 i)) := fun W hL => d153 W i (fin_ext (by first | (unfold s153; simp only [cond_true, cond_false]; done) | (exfalso; simp_all; done) | (unfold s153; simp [cond_true, cond_false]; done)))

-- tarn/level.Depth
def an115 : Ann := (.seq .leaf (.seq (.seq .leaf (.cond (.seq .leaf .leaf) .leaf)) (.seq .leaf .leaf)))
noncomputable def q115 (w0 : World) (water : Int) (area : Int) (R : Value → World → Prop) : Prop :=
  (cond (decide (water < (1 : Int))) (Fin (cx w0 [] []) R (.float .f64 0) []) ((cond (decide (area < (1 : Int))) (Fin (cx w0 [] []) R (.float .f64 0) []) ((∃ x12 : Nat, CallV (cx w0 [] []) [] [] 153 [.int .i64 water] (.float .f64 x12) ∧ (∃ x14 : Nat, CallV (cx w0 [] []) [] [] 153 [.int .i64 area] (.float .f64 x14) ∧ (∀ r15 : Nat, FRes (f64.div x12 x14) r15 → Fin (cx w0 [] []) R (.float .f64 r15) [])))))))
theorem q115_eq (w0 : World) (water : Int) (area : Int) (R : Value → World → Prop) : funT (cx w0 [] []) Tryz.f115 an115 [.int .i64 water, .int .i64 area] [] R = q115 w0 water area R := by kernel_rfl
theorem d115 (W : World) (water : Int) (area : Int) {R : Value → World → Prop} (h : q115 W water area R) : Does Tryz.prog 115 [.int .i64 water, .int .i64 area] W R :=
  does_of_T (fn := Tryz.f115) (x := an115) (dyn := []) (by kernel_rfl) (by kernel_rfl) (sep_self W) (Eq.mpr (q115_eq W water area R) h)
def s115 (water : Int) (area : Int) : Option Nat := (cond (decide (water < (1 : Int))) (some 0) (cond (decide (area < (1 : Int))) (some 0) (f64.div (s153 water) (s153 area))))
theorem p115 (water : Int) (area : Int) : PuR 115 [.int .i64 water, .int .i64 area] (s115 water area) := fun W hL => d115 W water area (cond_split (fun h3 => fin_rel (by unfold s115; (try simp only [h3, cond_true, cond_false]); rfl)) (fun h3 => cond_split (fun h2 => fin_rel (by unfold s115; (try simp only [h2, h3, cond_true, cond_false]); rfl)) (fun h2 => ⟨_, (p153 _).callL hL, ⟨_, (p153 _).callL hL, fun _ r1 => fin_rel (by unfold s115; (try simp only [h2, h3, cond_true, cond_false]); exact r1)⟩⟩)))

-- tarn/level.Level
def an92 : Ann := (.seq .leaf (.seq .leaf .leaf))
noncomputable def q92 (w0 : World) (bed : Nat) (water : Int) (area : Int) (R : Value → World → Prop) : Prop :=
  (∃ Φ10 : Value → Prop, CallR (cx w0 [] []) [] [] 115 [.int .i64 water, .int .i64 area] (.val (.one .float)) Φ10 ∧ ∀ x10 : Nat, Φ10 (.float .f64 x10) → (∀ r11 : Nat, FRes (f64.add bed x10) r11 → (∃ x12 : Nat, CallV (cx w0 [] []) [] [] 146 [.float .f64 r11] (.float .f64 x12) ∧ Fin (cx w0 [] []) R (.float .f64 x12) [])))
theorem q92_eq (w0 : World) (bed : Nat) (water : Int) (area : Int) (R : Value → World → Prop) : funT (cx w0 [] []) Tryz.f92 an92 [.float .f64 bed, .int .i64 water, .int .i64 area] [] R = q92 w0 bed water area R := by kernel_rfl
theorem d92 (W : World) (bed : Nat) (water : Int) (area : Int) {R : Value → World → Prop} (h : q92 W bed water area R) : Does Tryz.prog 92 [.float .f64 bed, .int .i64 water, .int .i64 area] W R :=
  does_of_T (fn := Tryz.f92) (x := an92) (dyn := []) (by kernel_rfl) (by kernel_rfl) (sep_self W) (Eq.mpr (q92_eq W bed water area R) h)
def s92 (bed : Nat) (water : Int) (area : Int) : Nat := (s146 (fr (f64.add bed (fr (s115 water area)))))
theorem p92 (bed : Nat) (water : Int) (area : Int) : Pu 92 [.float .f64 bed, .int .i64 water, .int .i64 area] (.float .f64 (s92 bed water area)) := fun W hL => d92 W bed water area (⟨_, (p115 _ _).callL hL, fun _ r1_ => floatOf r1_ fun r1 => fun _ r2 => ⟨_, (p146 _).callL hL, fin_ext (by first | (unfold s92; simp only [c146_0 r2, fa2 r1, cond_true, cond_false]; done) | (exfalso; simp_all; done) | (unfold s92; simp [c146_0 r2, fa2 r1, cond_true, cond_false]; done))⟩⟩)

-- tarn/level.Fill
def an73 : Ann := (.seq .leaf (.seq (.seq .leaf (.cond (.seq .leaf .leaf) .leaf)) (.seq .leaf .leaf)))
noncomputable def q73 (w0 : World) (bed : Nat) (area : Int) (level : Nat) (R : Value → World → Prop) : Prop :=
  (cond (!(f64.order level bed == some .gt)) (Fin (cx w0 [] []) R (.int .i64 (0 : Int)) []) ((cond (decide (area < (1 : Int))) (Fin (cx w0 [] []) R (.int .i64 (0 : Int)) []) ((∀ r17 : Nat, FRes (f64.sub level bed) r17 → (∃ x19 : Nat, CallV (cx w0 [] []) [] [] 153 [.int .i64 area] (.float .f64 x19) ∧ (∀ r20 : Nat, FRes (f64.mul r17 x19) r20 → (∃ n21 : Int, CallV (cx w0 [] []) [] [] 109 [.float .f64 r20, .int .i64 (4503599627370496 : Int)] (.int .i64 n21) ∧ Fin (cx w0 [] []) R (.int .i64 n21) []))))))))
theorem q73_eq (w0 : World) (bed : Nat) (area : Int) (level : Nat) (R : Value → World → Prop) : funT (cx w0 [] []) Tryz.f73 an73 [.float .f64 bed, .int .i64 area, .float .f64 level] [] R = q73 w0 bed area level R := by kernel_rfl
theorem d73 (W : World) (bed : Nat) (area : Int) (level : Nat) {R : Value → World → Prop} (h : q73 W bed area level R) : Does Tryz.prog 73 [.float .f64 bed, .int .i64 area, .float .f64 level] W R :=
  does_of_T (fn := Tryz.f73) (x := an73) (dyn := []) (by kernel_rfl) (by kernel_rfl) (sep_self W) (Eq.mpr (q73_eq W bed area level R) h)
def s73 (bed : Nat) (area : Int) (level : Nat) : Int := (cond (!(f64.order level bed == some .gt)) (0 : Int) (cond (decide (area < (1 : Int))) (0 : Int) (s109 (fr (f64.mul (fr (f64.sub level bed)) (s153 area))) (4503599627370496 : Int))))
theorem p73 (bed : Nat) (area : Int) (level : Nat) : Pu 73 [.float .f64 bed, .int .i64 area, .float .f64 level] (.int .i64 (s73 bed area level)) := fun W hL => d73 W bed area level (cond_split (fun h4 => fin_ext (by first | (unfold s73; simp only [h4, cond_true, cond_false]; done) | (exfalso; simp_all; done) | (unfold s73; simp [h4, cond_true, cond_false]; done))) (fun h4 => cond_split (fun h3 => fin_ext (by first | (unfold s73; simp only [h3, h4, cond_true, cond_false]; done) | (exfalso; simp_all; done) | (unfold s73; simp [h3, h4, cond_true, cond_false]; done))) (fun h3 => fun _ r1 => ⟨_, (p153 _).callL hL, fun _ r2 => ⟨_, (p109 _ _).callL hL, fin_ext (by (try simp only [c109_0 r2, fm1 r1] at h3 h4); first | (unfold s73; simp only [c109_0 r2, fm1 r1, h3, h4, cond_true, cond_false]; done) | (exfalso; simp_all; done) | (unfold s73; simp [c109_0 r2, fm1 r1, h3, h4, cond_true, cond_false]; done))⟩⟩)))

-- tarn/flux.Quanta
def an41 : Ann := (.seq .leaf (.seq .leaf (.seq .leaf (.seq .leaf (.seq .leaf .leaf)))))
noncomputable def q41 (w0 : World) (u : Nat) (depth : Nat) (length : Nat) (dt : Nat) (R : Value → World → Prop) : Prop :=
  (∀ r12 : Nat, FRes (f64.mul u depth) r12 → (∀ r15 : Nat, FRes (f64.mul r12 length) r15 → (∀ r18 : Nat, FRes (f64.mul r15 dt) r18 → (∀ r20 : Nat, FRes (f64.mul r18 4742290407621132288) r20 → (∃ n21 : Int, CallV (cx w0 [] []) [] [] 109 [.float .f64 r20, .int .i64 (4503599627370496 : Int)] (.int .i64 n21) ∧ Fin (cx w0 [] []) R (.int .i64 n21) [])))))
theorem q41_eq (w0 : World) (u : Nat) (depth : Nat) (length : Nat) (dt : Nat) (R : Value → World → Prop) : funT (cx w0 [] []) Tryz.f41 an41 [.float .f64 u, .float .f64 depth, .float .f64 length, .float .f64 dt] [] R = q41 w0 u depth length dt R := by kernel_rfl
theorem d41 (W : World) (u : Nat) (depth : Nat) (length : Nat) (dt : Nat) {R : Value → World → Prop} (h : q41 W u depth length dt R) : Does Tryz.prog 41 [.float .f64 u, .float .f64 depth, .float .f64 length, .float .f64 dt] W R :=
  does_of_T (fn := Tryz.f41) (x := an41) (dyn := []) (by kernel_rfl) (by kernel_rfl) (sep_self W) (Eq.mpr (q41_eq W u depth length dt R) h)
def s41 (u : Nat) (depth : Nat) (length : Nat) (dt : Nat) : Int := (s109 (fr (f64.mul (fr (f64.mul (fr (f64.mul (fr (f64.mul u depth)) length)) dt)) 4742290407621132288)) (4503599627370496 : Int))
theorem p41 (u : Nat) (depth : Nat) (length : Nat) (dt : Nat) : Pu 41 [.float .f64 u, .float .f64 depth, .float .f64 length, .float .f64 dt] (.int .i64 (s41 u depth length dt)) := fun W hL => d41 W u depth length dt (fun _ r1 => fun _ r2 => fun _ r3 => fun _ r4 => ⟨_, (p109 _ _).callL hL, fin_ext (by first | (unfold s41; simp only [c109_0 r4, fm1 r3, fm1 r2, fm1 r1, cond_true, cond_false]; done) | (exfalso; simp_all; done) | (unfold s41; simp [c109_0 r4, fm1 r3, fm1 r2, fm1 r1, cond_true, cond_false]; done))⟩)

-- tarn/geom.ratio
def an242 : Ann := (.seq .leaf (.seq .leaf .leaf))
noncomputable def q242 (w0 : World) (k : Int) (side : Int) (R : Value → World → Prop) : Prop :=
  (∀ r9 : Nat, FRes (f64.div (FloatKind.nearest .f64 k) (FloatKind.nearest .f64 side)) r9 → Fin (cx w0 [] []) R (.float .f64 r9) [])
theorem q242_eq (w0 : World) (k : Int) (side : Int) (R : Value → World → Prop) : funT (cx w0 [] []) Tryz.f242 an242 [.int .i64 k, .int .i64 side] [] R = q242 w0 k side R := by kernel_rfl
theorem d242 (W : World) (k : Int) (side : Int) {R : Value → World → Prop} (h : q242 W k side R) : Does Tryz.prog 242 [.int .i64 k, .int .i64 side] W R :=
  does_of_T (fn := Tryz.f242) (x := an242) (dyn := []) (by kernel_rfl) (by kernel_rfl) (sep_self W) (Eq.mpr (q242_eq W k side R) h)
def s242 (k : Int) (side : Int) : Option Nat := (f64.div (FloatKind.nearest .f64 k) (FloatKind.nearest .f64 side))
theorem p242 (k : Int) (side : Int) : PuR 242 [.int .i64 k, .int .i64 side] (s242 k side) := fun W hL => d242 W k side (fun _ r1 => fin_rel (by unfold s242; (try simp only [cond_true, cond_false]); exact r1))

end Go.Proofs.YtnljcdplcloedaaGreatDoor
end
section
namespace Go.Proofs.YtnljcdplcloedaaGreatDoor
open Go Go.Tn Go.RowKit
set_option linter.unusedVariables false
set_option linter.unusedSimpArgs false
set_option maxRecDepth 100000
-- tarn/cube.good
def an175 : Ann := (.seq .leaf (.seq .leaf .leaf))
noncomputable def q175 (w0 : World) (side : Int) (R : Value → World → Prop) : Prop :=
  (cond (decide (side ≥ (1 : Int))) (Fin (cx w0 [] []) R (.bool (decide (side ≤ (32 : Int)))) []) (Fin (cx w0 [] []) R (.bool false) []))
theorem q175_eq (w0 : World) (side : Int) (R : Value → World → Prop) : funT (cx w0 [] []) Tryz.f175 an175 [.int .i64 side] [] R = q175 w0 side R := by kernel_rfl
theorem d175 (W : World) (side : Int) {R : Value → World → Prop} (h : q175 W side R) : Does Tryz.prog 175 [.int .i64 side] W R :=
  does_of_T (fn := Tryz.f175) (x := an175) (dyn := []) (by kernel_rfl) (by kernel_rfl) (sep_self W) (Eq.mpr (q175_eq W side R) h)
def s175 (side : Int) : Bool := (cond (decide (side ≥ (1 : Int))) (decide (side ≤ (32 : Int))) false)
theorem p175 (side : Int) : Pu 175 [.int .i64 side] (.bool (s175 side)) := fun W hL => d175 W side (cond_split (fun h1 => fin_ext (by first | (unfold s175; simp only [h1, cond_true, cond_false]; done) | (exfalso; simp_all; done) | (unfold s175; simp [h1, cond_true, cond_false]; done))) (fun h1 => fin_ext (by first | (unfold s175; simp only [h1, cond_true, cond_false]; done) | (exfalso; simp_all; done) | (unfold s175; simp [h1, cond_true, cond_false]; done))))

-- (tarn/cube.way).times
def an202 : Ann := (.seq .leaf (.seq .leaf .leaf))
noncomputable def q202 (w0 : World) (w_0 : Int) (w_1 : Int) (w_2 : Int) (k : Int) (R : Value → World → Prop) : Prop :=
  (∀ k2 : Nat, (∀ k4 : Nat, (0 ≤ (0 : Int) ∧ (0 : Int) < ((3 : Nat) : Int)) ∧ (0 ≤ (1 : Int) ∧ (1 : Int) < ((3 : Nat) : Int)) ∧ (0 ≤ (2 : Int) ∧ (2 : Int) < ((3 : Nat) : Int)) ∧ Fin (cx w0 [] []) R (.agg ⟨[.int .i64 (IntKind.wrap .i64 (k * w_0)), .int .i64 (IntKind.wrap .i64 (k * w_1)), .int .i64 (IntKind.wrap .i64 (k * w_2))]⟩) []))
theorem q202_eq (w0 : World) (w_0 : Int) (w_1 : Int) (w_2 : Int) (k : Int) (R : Value → World → Prop) : funT (cx w0 [] []) Tryz.f202 an202 [.agg ⟨[.int .i64 w_0, .int .i64 w_1, .int .i64 w_2]⟩, .int .i64 k] [] R = q202 w0 w_0 w_1 w_2 k R := by kernel_rfl
theorem d202 (W : World) (w_0 : Int) (w_1 : Int) (w_2 : Int) (k : Int) {R : Value → World → Prop} (h : q202 W w_0 w_1 w_2 k R) : Does Tryz.prog 202 [.agg ⟨[.int .i64 w_0, .int .i64 w_1, .int .i64 w_2]⟩, .int .i64 k] W R :=
  does_of_T (fn := Tryz.f202) (x := an202) (dyn := []) (by kernel_rfl) (by kernel_rfl) (sep_self W) (Eq.mpr (q202_eq W w_0 w_1 w_2 k R) h)
def s202 (w_0 : Int) (w_1 : Int) (w_2 : Int) (k : Int) : Int × Int × Int := ((IntKind.wrap .i64 (k * w_0)), (IntKind.wrap .i64 (k * w_1)), (IntKind.wrap .i64 (k * w_2)))
theorem p202 (w_0 : Int) (w_1 : Int) (w_2 : Int) (k : Int) : Pu 202 [.agg ⟨[.int .i64 w_0, .int .i64 w_1, .int .i64 w_2]⟩, .int .i64 k] (.agg ⟨[.int .i64 ((s202 w_0 w_1 w_2 k).1), .int .i64 ((s202 w_0 w_1 w_2 k).2.1), .int .i64 ((s202 w_0 w_1 w_2 k).2.2)]⟩) := fun W hL => d202 W w_0 w_1 w_2 k (fun k2 => fun k4 => ⟨(by first | decide | omega | (simp only [beq_iff_eq, bne_iff_ne, Bool.or_eq_false_iff, Bool.or_eq_true, Bool.and_eq_true, decide_eq_true_eq, decide_eq_false_iff_not, beq_eq_false_iff_ne, ne_eq] at *; omega)), ⟨(by first | decide | omega | (simp only [beq_iff_eq, bne_iff_ne, Bool.or_eq_false_iff, Bool.or_eq_true, Bool.and_eq_true, decide_eq_true_eq, decide_eq_false_iff_not, beq_eq_false_iff_ne, ne_eq] at *; omega)), ⟨(by first | decide | omega | (simp only [beq_iff_eq, bne_iff_ne, Bool.or_eq_false_iff, Bool.or_eq_true, Bool.and_eq_true, decide_eq_true_eq, decide_eq_false_iff_not, beq_eq_false_iff_ne, ne_eq] at *; omega)), fin_ext (by first | (unfold s202; simp only [cond_true, cond_false]; done) | (exfalso; simp_all; done) | (unfold s202; simp [cond_true, cond_false]; done))⟩⟩⟩)

-- (tarn/cube.way).plus
def an177 : Ann := (.seq .leaf (.seq .leaf .leaf))
noncomputable def q177 (w0 : World) (w_0 : Int) (w_1 : Int) (w_2 : Int) (v_0 : Int) (v_1 : Int) (v_2 : Int) (R : Value → World → Prop) : Prop :=
  (∀ k2 : Nat, (∀ k3 : Nat, (∀ k4 : Nat, (0 ≤ (0 : Int) ∧ (0 : Int) < ((3 : Nat) : Int)) ∧ (0 ≤ (0 : Int) ∧ (0 : Int) < ((3 : Nat) : Int)) ∧ (0 ≤ (1 : Int) ∧ (1 : Int) < ((3 : Nat) : Int)) ∧ (0 ≤ (1 : Int) ∧ (1 : Int) < ((3 : Nat) : Int)) ∧ (0 ≤ (2 : Int) ∧ (2 : Int) < ((3 : Nat) : Int)) ∧ (0 ≤ (2 : Int) ∧ (2 : Int) < ((3 : Nat) : Int)) ∧ Fin (cx w0 [] []) R (.agg ⟨[.int .i64 (IntKind.wrap .i64 (w_0 + v_0)), .int .i64 (IntKind.wrap .i64 (w_1 + v_1)), .int .i64 (IntKind.wrap .i64 (w_2 + v_2))]⟩) [])))
theorem q177_eq (w0 : World) (w_0 : Int) (w_1 : Int) (w_2 : Int) (v_0 : Int) (v_1 : Int) (v_2 : Int) (R : Value → World → Prop) : funT (cx w0 [] []) Tryz.f177 an177 [.agg ⟨[.int .i64 w_0, .int .i64 w_1, .int .i64 w_2]⟩, .agg ⟨[.int .i64 v_0, .int .i64 v_1, .int .i64 v_2]⟩] [] R = q177 w0 w_0 w_1 w_2 v_0 v_1 v_2 R := by kernel_rfl
theorem d177 (W : World) (w_0 : Int) (w_1 : Int) (w_2 : Int) (v_0 : Int) (v_1 : Int) (v_2 : Int) {R : Value → World → Prop} (h : q177 W w_0 w_1 w_2 v_0 v_1 v_2 R) : Does Tryz.prog 177 [.agg ⟨[.int .i64 w_0, .int .i64 w_1, .int .i64 w_2]⟩, .agg ⟨[.int .i64 v_0, .int .i64 v_1, .int .i64 v_2]⟩] W R :=
  does_of_T (fn := Tryz.f177) (x := an177) (dyn := []) (by kernel_rfl) (by kernel_rfl) (sep_self W) (Eq.mpr (q177_eq W w_0 w_1 w_2 v_0 v_1 v_2 R) h)
def s177 (w_0 : Int) (w_1 : Int) (w_2 : Int) (v_0 : Int) (v_1 : Int) (v_2 : Int) : Int × Int × Int := ((IntKind.wrap .i64 (w_0 + v_0)), (IntKind.wrap .i64 (w_1 + v_1)), (IntKind.wrap .i64 (w_2 + v_2)))
theorem p177 (w_0 : Int) (w_1 : Int) (w_2 : Int) (v_0 : Int) (v_1 : Int) (v_2 : Int) : Pu 177 [.agg ⟨[.int .i64 w_0, .int .i64 w_1, .int .i64 w_2]⟩, .agg ⟨[.int .i64 v_0, .int .i64 v_1, .int .i64 v_2]⟩] (.agg ⟨[.int .i64 ((s177 w_0 w_1 w_2 v_0 v_1 v_2).1), .int .i64 ((s177 w_0 w_1 w_2 v_0 v_1 v_2).2.1), .int .i64 ((s177 w_0 w_1 w_2 v_0 v_1 v_2).2.2)]⟩) := fun W hL => d177 W w_0 w_1 w_2 v_0 v_1 v_2 (fun k2 => fun k3 => fun k4 => ⟨(by first | decide | omega | (simp only [beq_iff_eq, bne_iff_ne, Bool.or_eq_false_iff, Bool.or_eq_true, Bool.and_eq_true, decide_eq_true_eq, decide_eq_false_iff_not, beq_eq_false_iff_ne, ne_eq] at *; omega)), ⟨(by first | decide | omega | (simp only [beq_iff_eq, bne_iff_ne, Bool.or_eq_false_iff, Bool.or_eq_true, Bool.and_eq_true, decide_eq_true_eq, decide_eq_false_iff_not, beq_eq_false_iff_ne, ne_eq] at *; omega)), ⟨(by first | decide | omega | (simp only [beq_iff_eq, bne_iff_ne, Bool.or_eq_false_iff, Bool.or_eq_true, Bool.and_eq_true, decide_eq_true_eq, decide_eq_false_iff_not, beq_eq_false_iff_ne, ne_eq] at *; omega)), ⟨(by first | decide | omega | (simp only [beq_iff_eq, bne_iff_ne, Bool.or_eq_false_iff, Bool.or_eq_true, Bool.and_eq_true, decide_eq_true_eq, decide_eq_false_iff_not, beq_eq_false_iff_ne, ne_eq] at *; omega)), ⟨(by first | decide | omega | (simp only [beq_iff_eq, bne_iff_ne, Bool.or_eq_false_iff, Bool.or_eq_true, Bool.and_eq_true, decide_eq_true_eq, decide_eq_false_iff_not, beq_eq_false_iff_ne, ne_eq] at *; omega)), ⟨(by first | decide | omega | (simp only [beq_iff_eq, bne_iff_ne, Bool.or_eq_false_iff, Bool.or_eq_true, Bool.and_eq_true, decide_eq_true_eq, decide_eq_false_iff_not, beq_eq_false_iff_ne, ne_eq] at *; omega)), fin_ext (by first | (unfold s177; simp only [cond_true, cond_false]; done) | (exfalso; simp_all; done) | (unfold s177; simp [cond_true, cond_false]; done))⟩⟩⟩⟩⟩⟩)

-- (tarn/cube.way).dot
def an127 : Ann := (.seq .leaf (.seq .leaf .leaf))
noncomputable def q127 (w0 : World) (w_0 : Int) (w_1 : Int) (w_2 : Int) (v_0 : Int) (v_1 : Int) (v_2 : Int) (R : Value → World → Prop) : Prop :=
  (∀ k2 : Nat, (∀ k3 : Nat, (0 ≤ (0 : Int) ∧ (0 : Int) < ((3 : Nat) : Int)) ∧ (0 ≤ (0 : Int) ∧ (0 : Int) < ((3 : Nat) : Int)) ∧ (0 ≤ (1 : Int) ∧ (1 : Int) < ((3 : Nat) : Int)) ∧ (0 ≤ (1 : Int) ∧ (1 : Int) < ((3 : Nat) : Int)) ∧ (0 ≤ (2 : Int) ∧ (2 : Int) < ((3 : Nat) : Int)) ∧ (0 ≤ (2 : Int) ∧ (2 : Int) < ((3 : Nat) : Int)) ∧ Fin (cx w0 [] []) R (.int .i64 (IntKind.wrap .i64 ((IntKind.wrap .i64 ((IntKind.wrap .i64 (w_0 * v_0)) + (IntKind.wrap .i64 (w_1 * v_1)))) + (IntKind.wrap .i64 (w_2 * v_2))))) []))
theorem q127_eq (w0 : World) (w_0 : Int) (w_1 : Int) (w_2 : Int) (v_0 : Int) (v_1 : Int) (v_2 : Int) (R : Value → World → Prop) : funT (cx w0 [] []) Tryz.f127 an127 [.agg ⟨[.int .i64 w_0, .int .i64 w_1, .int .i64 w_2]⟩, .agg ⟨[.int .i64 v_0, .int .i64 v_1, .int .i64 v_2]⟩] [] R = q127 w0 w_0 w_1 w_2 v_0 v_1 v_2 R := by kernel_rfl
theorem d127 (W : World) (w_0 : Int) (w_1 : Int) (w_2 : Int) (v_0 : Int) (v_1 : Int) (v_2 : Int) {R : Value → World → Prop} (h : q127 W w_0 w_1 w_2 v_0 v_1 v_2 R) : Does Tryz.prog 127 [.agg ⟨[.int .i64 w_0, .int .i64 w_1, .int .i64 w_2]⟩, .agg ⟨[.int .i64 v_0, .int .i64 v_1, .int .i64 v_2]⟩] W R :=
  does_of_T (fn := Tryz.f127) (x := an127) (dyn := []) (by kernel_rfl) (by kernel_rfl) (sep_self W) (Eq.mpr (q127_eq W w_0 w_1 w_2 v_0 v_1 v_2 R) h)
def s127 (w_0 : Int) (w_1 : Int) (w_2 : Int) (v_0 : Int) (v_1 : Int) (v_2 : Int) : Int := (IntKind.wrap .i64 ((IntKind.wrap .i64 ((IntKind.wrap .i64 (w_0 * v_0)) + (IntKind.wrap .i64 (w_1 * v_1)))) + (IntKind.wrap .i64 (w_2 * v_2))))
theorem p127 (w_0 : Int) (w_1 : Int) (w_2 : Int) (v_0 : Int) (v_1 : Int) (v_2 : Int) : Pu 127 [.agg ⟨[.int .i64 w_0, .int .i64 w_1, .int .i64 w_2]⟩, .agg ⟨[.int .i64 v_0, .int .i64 v_1, .int .i64 v_2]⟩] (.int .i64 (s127 w_0 w_1 w_2 v_0 v_1 v_2)) := fun W hL => d127 W w_0 w_1 w_2 v_0 v_1 v_2 (fun k2 => fun k3 => ⟨(by first | decide | omega | (simp only [beq_iff_eq, bne_iff_ne, Bool.or_eq_false_iff, Bool.or_eq_true, Bool.and_eq_true, decide_eq_true_eq, decide_eq_false_iff_not, beq_eq_false_iff_ne, ne_eq] at *; omega)), ⟨(by first | decide | omega | (simp only [beq_iff_eq, bne_iff_ne, Bool.or_eq_false_iff, Bool.or_eq_true, Bool.and_eq_true, decide_eq_true_eq, decide_eq_false_iff_not, beq_eq_false_iff_ne, ne_eq] at *; omega)), ⟨(by first | decide | omega | (simp only [beq_iff_eq, bne_iff_ne, Bool.or_eq_false_iff, Bool.or_eq_true, Bool.and_eq_true, decide_eq_true_eq, decide_eq_false_iff_not, beq_eq_false_iff_ne, ne_eq] at *; omega)), ⟨(by first | decide | omega | (simp only [beq_iff_eq, bne_iff_ne, Bool.or_eq_false_iff, Bool.or_eq_true, Bool.and_eq_true, decide_eq_true_eq, decide_eq_false_iff_not, beq_eq_false_iff_ne, ne_eq] at *; omega)), ⟨(by first | decide | omega | (simp only [beq_iff_eq, bne_iff_ne, Bool.or_eq_false_iff, Bool.or_eq_true, Bool.and_eq_true, decide_eq_true_eq, decide_eq_false_iff_not, beq_eq_false_iff_ne, ne_eq] at *; omega)), ⟨(by first | decide | omega | (simp only [beq_iff_eq, bne_iff_ne, Bool.or_eq_false_iff, Bool.or_eq_true, Bool.and_eq_true, decide_eq_true_eq, decide_eq_false_iff_not, beq_eq_false_iff_ne, ne_eq] at *; omega)), fin_ext (by first | (unfold s127; simp only [cond_true, cond_false]; done) | (exfalso; simp_all; done) | (unfold s127; simp [cond_true, cond_false]; done))⟩⟩⟩⟩⟩⟩)

-- tarn/cube.index
def an126 : Ann := (.seq .leaf (.seq .leaf .leaf))
noncomputable def q126 (w0 : World) (side : Int) (a : Int) (R : Value → World → Prop) : Prop :=
  ((2 : Int) ≠ 0) ∧ Fin (cx w0 [] []) R (.int .i64 (if IntKind.wrap .i64 (side - (1 : Int)) < if (0 : Int) > IntKind.wrap .i64 (Int.tdiv (IntKind.wrap .i64 ((IntKind.wrap .i64 (a + side)) - (1 : Int))) (2 : Int)) then (0 : Int) else IntKind.wrap .i64 (Int.tdiv (IntKind.wrap .i64 ((IntKind.wrap .i64 (a + side)) - (1 : Int))) (2 : Int)) then IntKind.wrap .i64 (side - (1 : Int)) else if (0 : Int) > IntKind.wrap .i64 (Int.tdiv (IntKind.wrap .i64 ((IntKind.wrap .i64 (a + side)) - (1 : Int))) (2 : Int)) then (0 : Int) else IntKind.wrap .i64 (Int.tdiv (IntKind.wrap .i64 ((IntKind.wrap .i64 (a + side)) - (1 : Int))) (2 : Int)))) []
theorem q126_eq (w0 : World) (side : Int) (a : Int) (R : Value → World → Prop) : funT (cx w0 [] []) Tryz.f126 an126 [.int .i64 side, .int .i64 a] [] R = q126 w0 side a R := by kernel_rfl
theorem d126 (W : World) (side : Int) (a : Int) {R : Value → World → Prop} (h : q126 W side a R) : Does Tryz.prog 126 [.int .i64 side, .int .i64 a] W R :=
  does_of_T (fn := Tryz.f126) (x := an126) (dyn := []) (by kernel_rfl) (by kernel_rfl) (sep_self W) (Eq.mpr (q126_eq W side a R) h)
def s126 (side : Int) (a : Int) : Int := (if IntKind.wrap .i64 (side - (1 : Int)) < if (0 : Int) > IntKind.wrap .i64 (Int.tdiv (IntKind.wrap .i64 ((IntKind.wrap .i64 (a + side)) - (1 : Int))) (2 : Int)) then (0 : Int) else IntKind.wrap .i64 (Int.tdiv (IntKind.wrap .i64 ((IntKind.wrap .i64 (a + side)) - (1 : Int))) (2 : Int)) then IntKind.wrap .i64 (side - (1 : Int)) else if (0 : Int) > IntKind.wrap .i64 (Int.tdiv (IntKind.wrap .i64 ((IntKind.wrap .i64 (a + side)) - (1 : Int))) (2 : Int)) then (0 : Int) else IntKind.wrap .i64 (Int.tdiv (IntKind.wrap .i64 ((IntKind.wrap .i64 (a + side)) - (1 : Int))) (2 : Int)))
theorem p126 (side : Int) (a : Int) : Pu 126 [.int .i64 side, .int .i64 a] (.int .i64 (s126 side a)) := fun W hL => d126 W side a (⟨(by first | decide | omega | (simp only [beq_iff_eq, bne_iff_ne, Bool.or_eq_false_iff, Bool.or_eq_true, Bool.and_eq_true, decide_eq_true_eq, decide_eq_false_iff_not, beq_eq_false_iff_ne, ne_eq] at *; omega)), fin_ext (by first | (unfold s126; simp only [cond_true, cond_false]; done) | (exfalso; simp_all; done) | (unfold s126; simp [cond_true, cond_false]; done))⟩)

-- tarn/cube.Cell
def an125 : Ann := (.seq .leaf (.seq (.seq .leaf (.cond (.seq .leaf .leaf) .leaf)) (.seq .leaf .leaf)))
noncomputable def q125 (w0 : World) (side : Int) (face : Int) (i : Int) (j : Int) (R : Value → World → Prop) : Prop :=
  (∃ b10 : Bool, CallV (cx w0 [] []) [] [] 175 [.int .i64 side] (.bool b10) ∧ (cond (!b10) (Fin (cx w0 [] []) R (.int .i64 ((-1) : Int)) []) ((cond (decide (face < (0 : Int))) (Fin (cx w0 [] []) R (.int .i64 ((-1) : Int)) []) ((cond (decide (face ≥ (6 : Int))) (Fin (cx w0 [] []) R (.int .i64 ((-1) : Int)) []) ((cond (decide (i < (0 : Int))) (Fin (cx w0 [] []) R (.int .i64 ((-1) : Int)) []) ((cond (decide (i ≥ side)) (Fin (cx w0 [] []) R (.int .i64 ((-1) : Int)) []) ((cond (decide (j < (0 : Int))) (Fin (cx w0 [] []) R (.int .i64 ((-1) : Int)) []) ((cond (decide (j ≥ side)) (Fin (cx w0 [] []) R (.int .i64 ((-1) : Int)) []) (Fin (cx w0 [] []) R (.int .i64 (IntKind.wrap .i64 ((IntKind.wrap .i64 ((IntKind.wrap .i64 ((IntKind.wrap .i64 (face * side)) + j)) * side)) + i))) [])))))))))))))))
theorem q125_eq (w0 : World) (side : Int) (face : Int) (i : Int) (j : Int) (R : Value → World → Prop) : funT (cx w0 [] []) Tryz.f125 an125 [.int .i64 side, .int .i64 face, .int .i64 i, .int .i64 j] [] R = q125 w0 side face i j R := by kernel_rfl
theorem d125 (W : World) (side : Int) (face : Int) (i : Int) (j : Int) {R : Value → World → Prop} (h : q125 W side face i j R) : Does Tryz.prog 125 [.int .i64 side, .int .i64 face, .int .i64 i, .int .i64 j] W R :=
  does_of_T (fn := Tryz.f125) (x := an125) (dyn := []) (by kernel_rfl) (by kernel_rfl) (sep_self W) (Eq.mpr (q125_eq W side face i j R) h)
def s125 (side : Int) (face : Int) (i : Int) (j : Int) : Int := (cond (!(s175 side)) ((-1) : Int) (cond (decide (face < (0 : Int))) ((-1) : Int) (cond (decide (face ≥ (6 : Int))) ((-1) : Int) (cond (decide (i < (0 : Int))) ((-1) : Int) (cond (decide (i ≥ side)) ((-1) : Int) (cond (decide (j < (0 : Int))) ((-1) : Int) (cond (decide (j ≥ side)) ((-1) : Int) (IntKind.wrap .i64 ((IntKind.wrap .i64 ((IntKind.wrap .i64 ((IntKind.wrap .i64 (face * side)) + j)) * side)) + i)))))))))
theorem p125 (side : Int) (face : Int) (i : Int) (j : Int) : Pu 125 [.int .i64 side, .int .i64 face, .int .i64 i, .int .i64 j] (.int .i64 (s125 side face i j)) := fun W hL => d125 W side face i j (⟨_, (p175 _).callL hL, cond_split (fun h7 => fin_ext (by first | (unfold s125; simp only [h7, cond_true, cond_false]; done) | (exfalso; simp_all; done) | (unfold s125; simp [h7, cond_true, cond_false]; done))) (fun h7 => cond_split (fun h6 => fin_ext (by first | (unfold s125; simp only [h6, h7, cond_true, cond_false]; done) | (exfalso; simp_all; done) | (unfold s125; simp [h6, h7, cond_true, cond_false]; done))) (fun h6 => cond_split (fun h5 => fin_ext (by first | (unfold s125; simp only [h5, h6, h7, cond_true, cond_false]; done) | (exfalso; simp_all; done) | (unfold s125; simp [h5, h6, h7, cond_true, cond_false]; done))) (fun h5 => cond_split (fun h4 => fin_ext (by first | (unfold s125; simp only [h4, h5, h6, h7, cond_true, cond_false]; done) | (exfalso; simp_all; done) | (unfold s125; simp [h4, h5, h6, h7, cond_true, cond_false]; done))) (fun h4 => cond_split (fun h3 => fin_ext (by first | (unfold s125; simp only [h3, h4, h5, h6, h7, cond_true, cond_false]; done) | (exfalso; simp_all; done) | (unfold s125; simp [h3, h4, h5, h6, h7, cond_true, cond_false]; done))) (fun h3 => cond_split (fun h2 => fin_ext (by first | (unfold s125; simp only [h2, h3, h4, h5, h6, h7, cond_true, cond_false]; done) | (exfalso; simp_all; done) | (unfold s125; simp [h2, h3, h4, h5, h6, h7, cond_true, cond_false]; done))) (fun h2 => cond_split (fun h1 => fin_ext (by first | (unfold s125; simp only [h1, h2, h3, h4, h5, h6, h7, cond_true, cond_false]; done) | (exfalso; simp_all; done) | (unfold s125; simp [h1, h2, h3, h4, h5, h6, h7, cond_true, cond_false]; done))) (fun h1 => fin_ext (by first | (unfold s125; simp only [h1, h2, h3, h4, h5, h6, h7, cond_true, cond_false]; done) | (exfalso; simp_all; done) | (unfold s125; simp [h1, h2, h3, h4, h5, h6, h7, cond_true, cond_false]; done)))))))))⟩)

-- (tarn/cube.frame).out
def loc128_0 (k2 : Nat) (f_0 : Int) (f_1 : Int) (f_2 : Int) (f_3 : Int) (f_4 : Int) (f_5 : Int) (f_6 : Int) (f_7 : Int) (f_8 : Int) (k4 : Nat) : Tn.Loc := [⟨k2, 146, [.int .i64 f_0, .int .i64 f_1, .int .i64 f_2, .int .i64 f_3, .int .i64 f_4, .int .i64 f_5, .int .i64 f_6, .int .i64 f_7, .int .i64 f_8], []⟩, ⟨k4, 144, [.int .i64 0, .int .i64 0, .int .i64 0], []⟩]
def an128 : Ann := (.seq .leaf (.seq (.seq .leaf (.block (.seq .leaf (.cond (.seq .leaf .leaf) (.seq .leaf (.cond (.seq .leaf .leaf) (.seq .leaf (.cond (.seq .leaf .leaf) .leaf)))))))) (.seq .leaf .leaf)))
noncomputable def q128 (w0 : World) (f_0 : Int) (f_1 : Int) (f_2 : Int) (f_3 : Int) (f_4 : Int) (f_5 : Int) (f_6 : Int) (f_7 : Int) (f_8 : Int) (side : Int) (R : Value → World → Prop) : Prop :=
  (∀ k2 : Nat, (∀ k4 : Nat, (cond (side == (0 : Int)) ((0 ≤ (1 : Int) ∧ (1 : Int) < ((3 : Nat) : Int)) ∧ Fin (cx w0 [] []) R (.agg ⟨[.int .i64 f_3, .int .i64 f_4, .int .i64 f_5]⟩) []) ((cond (side == (1 : Int)) ((0 ≤ (2 : Int) ∧ (2 : Int) < ((3 : Nat) : Int)) ∧ Fin (cx w0 [] []) R (.agg ⟨[.int .i64 f_6, .int .i64 f_7, .int .i64 f_8]⟩) []) ((cond (side == (2 : Int)) ((0 ≤ (1 : Int) ∧ (1 : Int) < ((3 : Nat) : Int)) ∧ (∃ n18_0 : Int, ∃ n18_1 : Int, ∃ n18_2 : Int, CallV (cx w0 [] []) (loc128_0 k2 f_0 f_1 f_2 f_3 f_4 f_5 f_6 f_7 f_8 k4) [] 202 [.agg ⟨[.int .i64 f_3, .int .i64 f_4, .int .i64 f_5]⟩, .int .i64 ((-1) : Int)] (.agg ⟨[.int .i64 n18_0, .int .i64 n18_1, .int .i64 n18_2]⟩) ∧ Fin (cx w0 [] []) R (.agg ⟨[.int .i64 n18_0, .int .i64 n18_1, .int .i64 n18_2]⟩) [])) ((0 ≤ (2 : Int) ∧ (2 : Int) < ((3 : Nat) : Int)) ∧ (∃ n21_0 : Int, ∃ n21_1 : Int, ∃ n21_2 : Int, CallV (cx w0 [] []) (loc128_0 k2 f_0 f_1 f_2 f_3 f_4 f_5 f_6 f_7 f_8 k4) [] 202 [.agg ⟨[.int .i64 f_6, .int .i64 f_7, .int .i64 f_8]⟩, .int .i64 ((-1) : Int)] (.agg ⟨[.int .i64 n21_0, .int .i64 n21_1, .int .i64 n21_2]⟩) ∧ Fin (cx w0 [] []) R (.agg ⟨[.int .i64 n21_0, .int .i64 n21_1, .int .i64 n21_2]⟩) [])))))))))
theorem q128_eq (w0 : World) (f_0 : Int) (f_1 : Int) (f_2 : Int) (f_3 : Int) (f_4 : Int) (f_5 : Int) (f_6 : Int) (f_7 : Int) (f_8 : Int) (side : Int) (R : Value → World → Prop) : funT (cx w0 [] []) Tryz.f128 an128 [.agg ⟨[.int .i64 f_0, .int .i64 f_1, .int .i64 f_2, .int .i64 f_3, .int .i64 f_4, .int .i64 f_5, .int .i64 f_6, .int .i64 f_7, .int .i64 f_8]⟩, .int .i64 side] [] R = q128 w0 f_0 f_1 f_2 f_3 f_4 f_5 f_6 f_7 f_8 side R := by kernel_rfl
theorem d128 (W : World) (f_0 : Int) (f_1 : Int) (f_2 : Int) (f_3 : Int) (f_4 : Int) (f_5 : Int) (f_6 : Int) (f_7 : Int) (f_8 : Int) (side : Int) {R : Value → World → Prop} (h : q128 W f_0 f_1 f_2 f_3 f_4 f_5 f_6 f_7 f_8 side R) : Does Tryz.prog 128 [.agg ⟨[.int .i64 f_0, .int .i64 f_1, .int .i64 f_2, .int .i64 f_3, .int .i64 f_4, .int .i64 f_5, .int .i64 f_6, .int .i64 f_7, .int .i64 f_8]⟩, .int .i64 side] W R :=
  does_of_T (fn := Tryz.f128) (x := an128) (dyn := []) (by kernel_rfl) (by kernel_rfl) (sep_self W) (Eq.mpr (q128_eq W f_0 f_1 f_2 f_3 f_4 f_5 f_6 f_7 f_8 side R) h)
def s128 (f_0 : Int) (f_1 : Int) (f_2 : Int) (f_3 : Int) (f_4 : Int) (f_5 : Int) (f_6 : Int) (f_7 : Int) (f_8 : Int) (side : Int) : Int × Int × Int := (cond (side == (0 : Int)) (f_3, f_4, f_5) (cond (side == (1 : Int)) (f_6, f_7, f_8) (cond (side == (2 : Int)) (((s202 f_3 f_4 f_5 ((-1) : Int)).1), ((s202 f_3 f_4 f_5 ((-1) : Int)).2.1), ((s202 f_3 f_4 f_5 ((-1) : Int)).2.2)) (((s202 f_6 f_7 f_8 ((-1) : Int)).1), ((s202 f_6 f_7 f_8 ((-1) : Int)).2.1), ((s202 f_6 f_7 f_8 ((-1) : Int)).2.2)))))
theorem p128 (f_0 : Int) (f_1 : Int) (f_2 : Int) (f_3 : Int) (f_4 : Int) (f_5 : Int) (f_6 : Int) (f_7 : Int) (f_8 : Int) (side : Int) : Pu 128 [.agg ⟨[.int .i64 f_0, .int .i64 f_1, .int .i64 f_2, .int .i64 f_3, .int .i64 f_4, .int .i64 f_5, .int .i64 f_6, .int .i64 f_7, .int .i64 f_8]⟩, .int .i64 side] (.agg ⟨[.int .i64 ((s128 f_0 f_1 f_2 f_3 f_4 f_5 f_6 f_7 f_8 side).1), .int .i64 ((s128 f_0 f_1 f_2 f_3 f_4 f_5 f_6 f_7 f_8 side).2.1), .int .i64 ((s128 f_0 f_1 f_2 f_3 f_4 f_5 f_6 f_7 f_8 side).2.2)]⟩) := fun W hL => d128 W f_0 f_1 f_2 f_3 f_4 f_5 f_6 f_7 f_8 side (fun k2 => fun k4 => cond_split (fun h3 => ⟨(by first | decide | omega | (simp only [beq_iff_eq, bne_iff_ne, Bool.or_eq_false_iff, Bool.or_eq_true, Bool.and_eq_true, decide_eq_true_eq, decide_eq_false_iff_not, beq_eq_false_iff_ne, ne_eq] at *; omega)), fin_ext (by first | (unfold s128; simp only [h3, cond_true, cond_false]; done) | (exfalso; simp_all; done) | (unfold s128; simp [h3, cond_true, cond_false]; done))⟩) (fun h3 => cond_split (fun h2 => ⟨(by first | decide | omega | (simp only [beq_iff_eq, bne_iff_ne, Bool.or_eq_false_iff, Bool.or_eq_true, Bool.and_eq_true, decide_eq_true_eq, decide_eq_false_iff_not, beq_eq_false_iff_ne, ne_eq] at *; omega)), fin_ext (by first | (unfold s128; simp only [h2, h3, cond_true, cond_false]; done) | (exfalso; simp_all; done) | (unfold s128; simp [h2, h3, cond_true, cond_false]; done))⟩) (fun h2 => cond_split (fun h1 => ⟨(by first | decide | omega | (simp only [beq_iff_eq, bne_iff_ne, Bool.or_eq_false_iff, Bool.or_eq_true, Bool.and_eq_true, decide_eq_true_eq, decide_eq_false_iff_not, beq_eq_false_iff_ne, ne_eq] at *; omega)), ⟨_, _, _, (p202 _ _ _ _).callL hL, fin_ext (by first | (unfold s128; simp only [h1, h2, h3, cond_true, cond_false]; done) | (exfalso; simp_all; done) | (unfold s128; simp [h1, h2, h3, cond_true, cond_false]; done))⟩⟩) (fun h1 => ⟨(by first | decide | omega | (simp only [beq_iff_eq, bne_iff_ne, Bool.or_eq_false_iff, Bool.or_eq_true, Bool.and_eq_true, decide_eq_true_eq, decide_eq_false_iff_not, beq_eq_false_iff_ne, ne_eq] at *; omega)), ⟨_, _, _, (p202 _ _ _ _).callL hL, fin_ext (by first | (unfold s128; simp only [h1, h2, h3, cond_true, cond_false]; done) | (exfalso; simp_all; done) | (unfold s128; simp [h1, h2, h3, cond_true, cond_false]; done))⟩⟩))))

-- tarn/cube.Cells
def an95 : Ann := (.seq .leaf (.seq (.seq .leaf (.cond (.seq .leaf .leaf) .leaf)) (.seq .leaf .leaf)))
noncomputable def q95 (w0 : World) (side : Int) (R : Value → World → Prop) : Prop :=
  (∃ b4 : Bool, CallV (cx w0 [] []) [] [] 175 [.int .i64 side] (.bool b4) ∧ (cond (!b4) (Fin (cx w0 [] []) R (.int .i64 (0 : Int)) []) (Fin (cx w0 [] []) R (.int .i64 (IntKind.wrap .i64 ((IntKind.wrap .i64 ((6 : Int) * side)) * side))) [])))
theorem q95_eq (w0 : World) (side : Int) (R : Value → World → Prop) : funT (cx w0 [] []) Tryz.f95 an95 [.int .i64 side] [] R = q95 w0 side R := by kernel_rfl
theorem d95 (W : World) (side : Int) {R : Value → World → Prop} (h : q95 W side R) : Does Tryz.prog 95 [.int .i64 side] W R :=
  does_of_T (fn := Tryz.f95) (x := an95) (dyn := []) (by kernel_rfl) (by kernel_rfl) (sep_self W) (Eq.mpr (q95_eq W side R) h)
def s95 (side : Int) : Int := (cond (!(s175 side)) (0 : Int) (IntKind.wrap .i64 ((IntKind.wrap .i64 ((6 : Int) * side)) * side)))
theorem p95 (side : Int) : Pu 95 [.int .i64 side] (.int .i64 (s95 side)) := fun W hL => d95 W side (⟨_, (p175 _).callL hL, cond_split (fun h1 => fin_ext (by first | (unfold s95; simp only [h1, cond_true, cond_false]; done) | (exfalso; simp_all; done) | (unfold s95; simp [h1, cond_true, cond_false]; done))) (fun h1 => fin_ext (by first | (unfold s95; simp only [h1, cond_true, cond_false]; done) | (exfalso; simp_all; done) | (unfold s95; simp [h1, cond_true, cond_false]; done)))⟩)

theorem wi (n : Int) (h : -9223372036854775808 ≤ n ∧ n < 9223372036854775808) : IntKind.wrap .i64 n = n := w64 n h
/-- is there a net of this side? -/
def Side (n : Int) : Prop := 1 ≤ n ∧ n ≤ 32
instance (n : Int) : Decidable (Side n) := inferInstanceAs (Decidable (1 ≤ n ∧ n ≤ 32))
theorem s175_eq (n : Int) : s175 n = decide (Side n) := by
  unfold s175 Side
  by_cases h1 : n ≥ 1
  · rw [decide_eq_true h1]
    by_cases h2 : n ≤ 32
    · simp [h1, h2]
    · simp [h1, h2]
  · simp [h1]
theorem side_sq {n : Int} (h : Side n) : n * n ≤ 32 * 32 ∧ n ≤ n * n := by
  obtain ⟨h1, h2⟩ := h
  exact ⟨Int.mul_le_mul h2 h2 (by omega) (by omega), by have := Int.mul_le_mul_of_nonneg_left h1 (by omega : 0 ≤ n); omega⟩
theorem s95_in {n : Int} (h : Side n) : s95 n = 6 * (n * n) := by
  have hs := side_sq h
  unfold s95
  have h' := h
  unfold Side at h'
  rw [s175_eq, decide_eq_true h, Bool.not_true, cond_false, wi (6 * n) (by omega), Int.mul_assoc, wi _ (by omega)]
theorem s95_out {n : Int} (h : ¬ Side n) : s95 n = 0 := by
  unfold s95; rw [s175_eq, decide_eq_false h, Bool.not_false, cond_true]
theorem side_of {n : Int} (h : 0 < s95 n) : Side n := by
  rcases Decidable.em (Side n) with h1 | h1
  · exact h1
  · rw [s95_out h1] at h; omega

-- tarn/cube.Place
def an120 : Ann := (.seq .leaf (.seq (.seq .leaf (.cond (.seq .leaf .leaf) .leaf)) (.seq (.draw [0, 1, 2, 3, 4, 5, 6, 7, 8, 9, 10, 11, 12, 13, 14, 15, 16]) .leaf)))
noncomputable def q120 (w0 : World) (side : Int) (cell : Int) (R : Value → World → Prop) : Prop :=
  (cond (decide (cell < (0 : Int))) (Fin (cx w0 [] []) R (.tuple ⟨[.int .i64 (0 : Int), .int .i64 (0 : Int), .int .i64 (0 : Int), .bool false]⟩) []) ((∃ n13 : Int, CallV (cx w0 [] []) [] [] 95 [.int .i64 side] (.int .i64 n13) ∧ (cond (decide (cell ≥ n13)) (Fin (cx w0 [] []) R (.tuple ⟨[.int .i64 (0 : Int), .int .i64 (0 : Int), .int .i64 (0 : Int), .bool false]⟩) []) (((IntKind.wrap .i64 (side * side)) ≠ 0) ∧ (side ≠ 0) ∧ (side ≠ 0) ∧ (side ≠ 0) ∧ Fin (cx w0 [] []) R (.tuple ⟨[.int .i64 (IntKind.wrap .i64 (Int.tdiv cell (IntKind.wrap .i64 (side * side)))), .int .i64 (Int.tmod cell side), .int .i64 (Int.tmod (IntKind.wrap .i64 (Int.tdiv cell side)) side), .bool true]⟩) [])))))
theorem q120_eq (w0 : World) (side : Int) (cell : Int) (R : Value → World → Prop) : funT (cx w0 [] []) Tryz.f120 an120 [.int .i64 side, .int .i64 cell] [] R = q120 w0 side cell R := by kernel_rfl
theorem d120 (W : World) (side : Int) (cell : Int) {R : Value → World → Prop} (h : q120 W side cell R) : Does Tryz.prog 120 [.int .i64 side, .int .i64 cell] W R :=
  does_of_T (fn := Tryz.f120) (x := an120) (dyn := []) (by kernel_rfl) (by kernel_rfl) (sep_self W) (Eq.mpr (q120_eq W side cell R) h)

def s120 (side : Int) (cell : Int) : Int × Int × Int × Bool := (cond (decide (cell < (0 : Int))) ((0 : Int), (0 : Int), (0 : Int), false) (cond (decide (cell ≥ (s95 side))) ((0 : Int), (0 : Int), (0 : Int), false) ((IntKind.wrap .i64 (Int.tdiv cell (IntKind.wrap .i64 (side * side)))), (Int.tmod cell side), (Int.tmod (IntKind.wrap .i64 (Int.tdiv cell side)) side), true)))
theorem p120 (side : Int) (cell : Int) : Pu 120 [.int .i64 side, .int .i64 cell] (.tuple ⟨[.int .i64 ((s120 side cell).1), .int .i64 ((s120 side cell).2.1), .int .i64 ((s120 side cell).2.2.1), .bool ((s120 side cell).2.2.2)]⟩) := fun W hL => d120 W side cell (cond_split (fun h2 => fin_ext (by unfold s120; simp only [h2, cond_true])) fun h2 => ⟨_, (p95 _).callL hL, cond_split (fun h1 => fin_ext (by unfold s120; simp only [h1, h2, cond_true, cond_false])) fun h1 => by
  have hs : Side side := side_of (by simp at h1 h2; omega)
  have hq := side_sq hs
  have hs' := hs
  unfold Side at hs'
  refine ⟨by rw [wi _ (by omega)]; omega, by omega, by omega, by omega, fin_ext (by unfold s120; simp only [h1, h2, cond_true, cond_false])⟩⟩)
theorem s120_in {n c : Int} (h : Side n) (h0 : 0 ≤ c) (h1 : c < 6 * (n * n)) : s120 n c = (c / (n * n), c % n, c / n % n, true) := by
  have hq := side_sq h
  unfold s120
  rw [s95_in h, decide_eq_false (by omega), decide_eq_false (by omega), cond_false, cond_false]
  obtain ⟨a, b⟩ := h
  rw [wi (n * n) (by omega), Int.tdiv_eq_ediv_of_nonneg h0, Int.tdiv_eq_ediv_of_nonneg h0, Int.tmod_eq_emod_of_nonneg h0]
  have d1 : 0 ≤ c / (n * n) ∧ c / (n * n) ≤ c := ⟨Int.ediv_nonneg h0 (by omega), Int.ediv_le_self _ h0⟩
  have d2 : 0 ≤ c / n ∧ c / n ≤ c := ⟨Int.ediv_nonneg h0 (by omega), Int.ediv_le_self _ h0⟩
  rw [wi (c / (n * n)) (by omega), wi (c / n) (by omega), Int.tmod_eq_emod_of_nonneg d2.1]
theorem s120_out {n c : Int} (h : ¬ (Side n ∧ 0 ≤ c ∧ c < 6 * (n * n))) : s120 n c = (0, 0, 0, false) := by
  unfold s120
  by_cases h0 : c < 0
  · rw [decide_eq_true h0, cond_true]
  · rw [decide_eq_false h0, cond_false]
    have : c ≥ s95 n := by
      by_cases hs : Side n
      · rw [s95_in hs]
        apply Int.not_lt.1
        exact fun hl => h ⟨hs, by omega, hl⟩
      · rw [s95_out hs]; omega
    rw [decide_eq_true this, cond_true]


-- (tarn/cube.way).cross
def an201 : Ann := (.seq .leaf (.seq .leaf .leaf))
noncomputable def q201 (w0 : World) (w_0 : Int) (w_1 : Int) (w_2 : Int) (v_0 : Int) (v_1 : Int) (v_2 : Int) (R : Value → World → Prop) : Prop :=
  (∀ k2 : Nat, (∀ k3 : Nat, (∀ k4 : Nat, (0 ≤ (1 : Int) ∧ (1 : Int) < ((3 : Nat) : Int)) ∧ (0 ≤ (2 : Int) ∧ (2 : Int) < ((3 : Nat) : Int)) ∧ (0 ≤ (2 : Int) ∧ (2 : Int) < ((3 : Nat) : Int)) ∧ (0 ≤ (1 : Int) ∧ (1 : Int) < ((3 : Nat) : Int)) ∧ (0 ≤ (2 : Int) ∧ (2 : Int) < ((3 : Nat) : Int)) ∧ (0 ≤ (0 : Int) ∧ (0 : Int) < ((3 : Nat) : Int)) ∧ (0 ≤ (0 : Int) ∧ (0 : Int) < ((3 : Nat) : Int)) ∧ (0 ≤ (2 : Int) ∧ (2 : Int) < ((3 : Nat) : Int)) ∧ (0 ≤ (0 : Int) ∧ (0 : Int) < ((3 : Nat) : Int)) ∧ (0 ≤ (1 : Int) ∧ (1 : Int) < ((3 : Nat) : Int)) ∧ (0 ≤ (1 : Int) ∧ (1 : Int) < ((3 : Nat) : Int)) ∧ (0 ≤ (0 : Int) ∧ (0 : Int) < ((3 : Nat) : Int)) ∧ Fin (cx w0 [] []) R (.agg ⟨[.int .i64 (IntKind.wrap .i64 ((IntKind.wrap .i64 (w_1 * v_2)) - (IntKind.wrap .i64 (w_2 * v_1)))), .int .i64 (IntKind.wrap .i64 ((IntKind.wrap .i64 (w_2 * v_0)) - (IntKind.wrap .i64 (w_0 * v_2)))), .int .i64 (IntKind.wrap .i64 ((IntKind.wrap .i64 (w_0 * v_1)) - (IntKind.wrap .i64 (w_1 * v_0))))]⟩) [])))
theorem q201_eq (w0 : World) (w_0 : Int) (w_1 : Int) (w_2 : Int) (v_0 : Int) (v_1 : Int) (v_2 : Int) (R : Value → World → Prop) : funT (cx w0 [] []) Tryz.f201 an201 [.agg ⟨[.int .i64 w_0, .int .i64 w_1, .int .i64 w_2]⟩, .agg ⟨[.int .i64 v_0, .int .i64 v_1, .int .i64 v_2]⟩] [] R = q201 w0 w_0 w_1 w_2 v_0 v_1 v_2 R := by kernel_rfl
theorem d201 (W : World) (w_0 : Int) (w_1 : Int) (w_2 : Int) (v_0 : Int) (v_1 : Int) (v_2 : Int) {R : Value → World → Prop} (h : q201 W w_0 w_1 w_2 v_0 v_1 v_2 R) : Does Tryz.prog 201 [.agg ⟨[.int .i64 w_0, .int .i64 w_1, .int .i64 w_2]⟩, .agg ⟨[.int .i64 v_0, .int .i64 v_1, .int .i64 v_2]⟩] W R :=
  does_of_T (fn := Tryz.f201) (x := an201) (dyn := []) (by kernel_rfl) (by kernel_rfl) (sep_self W) (Eq.mpr (q201_eq W w_0 w_1 w_2 v_0 v_1 v_2 R) h)
def s201 (w_0 : Int) (w_1 : Int) (w_2 : Int) (v_0 : Int) (v_1 : Int) (v_2 : Int) : Int × Int × Int := ((IntKind.wrap .i64 ((IntKind.wrap .i64 (w_1 * v_2)) - (IntKind.wrap .i64 (w_2 * v_1)))), (IntKind.wrap .i64 ((IntKind.wrap .i64 (w_2 * v_0)) - (IntKind.wrap .i64 (w_0 * v_2)))), (IntKind.wrap .i64 ((IntKind.wrap .i64 (w_0 * v_1)) - (IntKind.wrap .i64 (w_1 * v_0)))))
theorem p201 (w_0 : Int) (w_1 : Int) (w_2 : Int) (v_0 : Int) (v_1 : Int) (v_2 : Int) : Pu 201 [.agg ⟨[.int .i64 w_0, .int .i64 w_1, .int .i64 w_2]⟩, .agg ⟨[.int .i64 v_0, .int .i64 v_1, .int .i64 v_2]⟩] (.agg ⟨[.int .i64 ((s201 w_0 w_1 w_2 v_0 v_1 v_2).1), .int .i64 ((s201 w_0 w_1 w_2 v_0 v_1 v_2).2.1), .int .i64 ((s201 w_0 w_1 w_2 v_0 v_1 v_2).2.2)]⟩) := fun W hL => d201 W w_0 w_1 w_2 v_0 v_1 v_2 (fun k2 => fun k3 => fun k4 => ⟨(by first | decide | omega | (simp only [beq_iff_eq, bne_iff_ne, Bool.or_eq_false_iff, Bool.or_eq_true, Bool.and_eq_true, decide_eq_true_eq, decide_eq_false_iff_not, beq_eq_false_iff_ne, ne_eq] at *; omega)), ⟨(by first | decide | omega | (simp only [beq_iff_eq, bne_iff_ne, Bool.or_eq_false_iff, Bool.or_eq_true, Bool.and_eq_true, decide_eq_true_eq, decide_eq_false_iff_not, beq_eq_false_iff_ne, ne_eq] at *; omega)), ⟨(by first | decide | omega | (simp only [beq_iff_eq, bne_iff_ne, Bool.or_eq_false_iff, Bool.or_eq_true, Bool.and_eq_true, decide_eq_true_eq, decide_eq_false_iff_not, beq_eq_false_iff_ne, ne_eq] at *; omega)), ⟨(by first | decide | omega | (simp only [beq_iff_eq, bne_iff_ne, Bool.or_eq_false_iff, Bool.or_eq_true, Bool.and_eq_true, decide_eq_true_eq, decide_eq_false_iff_not, beq_eq_false_iff_ne, ne_eq] at *; omega)), ⟨(by first | decide | omega | (simp only [beq_iff_eq, bne_iff_ne, Bool.or_eq_false_iff, Bool.or_eq_true, Bool.and_eq_true, decide_eq_true_eq, decide_eq_false_iff_not, beq_eq_false_iff_ne, ne_eq] at *; omega)), ⟨(by first | decide | omega | (simp only [beq_iff_eq, bne_iff_ne, Bool.or_eq_false_iff, Bool.or_eq_true, Bool.and_eq_true, decide_eq_true_eq, decide_eq_false_iff_not, beq_eq_false_iff_ne, ne_eq] at *; omega)), ⟨(by first | decide | omega | (simp only [beq_iff_eq, bne_iff_ne, Bool.or_eq_false_iff, Bool.or_eq_true, Bool.and_eq_true, decide_eq_true_eq, decide_eq_false_iff_not, beq_eq_false_iff_ne, ne_eq] at *; omega)), ⟨(by first | decide | omega | (simp only [beq_iff_eq, bne_iff_ne, Bool.or_eq_false_iff, Bool.or_eq_true, Bool.and_eq_true, decide_eq_true_eq, decide_eq_false_iff_not, beq_eq_false_iff_ne, ne_eq] at *; omega)), ⟨(by first | decide | omega | (simp only [beq_iff_eq, bne_iff_ne, Bool.or_eq_false_iff, Bool.or_eq_true, Bool.and_eq_true, decide_eq_true_eq, decide_eq_false_iff_not, beq_eq_false_iff_ne, ne_eq] at *; omega)), ⟨(by first | decide | omega | (simp only [beq_iff_eq, bne_iff_ne, Bool.or_eq_false_iff, Bool.or_eq_true, Bool.and_eq_true, decide_eq_true_eq, decide_eq_false_iff_not, beq_eq_false_iff_ne, ne_eq] at *; omega)), ⟨(by first | decide | omega | (simp only [beq_iff_eq, bne_iff_ne, Bool.or_eq_false_iff, Bool.or_eq_true, Bool.and_eq_true, decide_eq_true_eq, decide_eq_false_iff_not, beq_eq_false_iff_ne, ne_eq] at *; omega)), ⟨(by first | decide | omega | (simp only [beq_iff_eq, bne_iff_ne, Bool.or_eq_false_iff, Bool.or_eq_true, Bool.and_eq_true, decide_eq_true_eq, decide_eq_false_iff_not, beq_eq_false_iff_ne, ne_eq] at *; omega)), fin_ext (by first | (unfold s201; simp only [cond_true, cond_false]; done) | (exfalso; simp_all; done) | (unfold s201; simp [cond_true, cond_false]; done))⟩⟩⟩⟩⟩⟩⟩⟩⟩⟩⟩⟩)

-- tarn/cube.turned
def loc123_0 (k2 : Nat) (axes_0 : Int) (axes_1 : Int) (axes_2 : Int) (axes_3 : Int) (axes_4 : Int) (axes_5 : Int) (axes_6 : Int) (axes_7 : Int) (axes_8 : Int) (k3 : Nat) (w_0 : Int) (w_1 : Int) (w_2 : Int) (k4 : Nat) : Tn.Loc := [⟨k2, 146, [.int .i64 axes_0, .int .i64 axes_1, .int .i64 axes_2, .int .i64 axes_3, .int .i64 axes_4, .int .i64 axes_5, .int .i64 axes_6, .int .i64 axes_7, .int .i64 axes_8], []⟩, ⟨k3, 144, [.int .i64 w_0, .int .i64 w_1, .int .i64 w_2], []⟩, ⟨k4, 144, [.int .i64 0, .int .i64 0, .int .i64 0], []⟩]
def an123 : Ann := (.seq .leaf (.seq (.draw [0, 1, 2, 3, 4, 5, 6, 7, 8, 9, 10, 11, 12, 13, 14, 15, 16, 17]) .leaf))
noncomputable def q123 (w0 : World) (axes_0 : Int) (axes_1 : Int) (axes_2 : Int) (axes_3 : Int) (axes_4 : Int) (axes_5 : Int) (axes_6 : Int) (axes_7 : Int) (axes_8 : Int) (w_0 : Int) (w_1 : Int) (w_2 : Int) (R : Value → World → Prop) : Prop :=
  (∀ k2 : Nat, (∀ k3 : Nat, (∀ k4 : Nat, (0 ≤ (0 : Int) ∧ (0 : Int) < ((3 : Nat) : Int)) ∧ (0 ≤ (0 : Int) ∧ (0 : Int) < ((3 : Nat) : Int)) ∧ (∃ n9_0 : Int, ∃ n9_1 : Int, ∃ n9_2 : Int, CallV (cx w0 [] []) (loc123_0 k2 axes_0 axes_1 axes_2 axes_3 axes_4 axes_5 axes_6 axes_7 axes_8 k3 w_0 w_1 w_2 k4) [] 202 [.agg ⟨[.int .i64 axes_0, .int .i64 axes_1, .int .i64 axes_2]⟩, .int .i64 w_0] (.agg ⟨[.int .i64 n9_0, .int .i64 n9_1, .int .i64 n9_2]⟩) ∧ (0 ≤ (1 : Int) ∧ (1 : Int) < ((3 : Nat) : Int)) ∧ (0 ≤ (1 : Int) ∧ (1 : Int) < ((3 : Nat) : Int)) ∧ (∃ n14_0 : Int, ∃ n14_1 : Int, ∃ n14_2 : Int, CallV (cx w0 [] []) (loc123_0 k2 axes_0 axes_1 axes_2 axes_3 axes_4 axes_5 axes_6 axes_7 axes_8 k3 w_0 w_1 w_2 k4) [] 202 [.agg ⟨[.int .i64 axes_3, .int .i64 axes_4, .int .i64 axes_5]⟩, .int .i64 w_1] (.agg ⟨[.int .i64 n14_0, .int .i64 n14_1, .int .i64 n14_2]⟩) ∧ (∃ n15_0 : Int, ∃ n15_1 : Int, ∃ n15_2 : Int, CallV (cx w0 [] []) (loc123_0 k2 axes_0 axes_1 axes_2 axes_3 axes_4 axes_5 axes_6 axes_7 axes_8 k3 w_0 w_1 w_2 k4) [] 177 [.agg ⟨[.int .i64 n9_0, .int .i64 n9_1, .int .i64 n9_2]⟩, .agg ⟨[.int .i64 n14_0, .int .i64 n14_1, .int .i64 n14_2]⟩] (.agg ⟨[.int .i64 n15_0, .int .i64 n15_1, .int .i64 n15_2]⟩) ∧ (0 ≤ (2 : Int) ∧ (2 : Int) < ((3 : Nat) : Int)) ∧ (0 ≤ (2 : Int) ∧ (2 : Int) < ((3 : Nat) : Int)) ∧ (∃ n20_0 : Int, ∃ n20_1 : Int, ∃ n20_2 : Int, CallV (cx w0 [] []) (loc123_0 k2 axes_0 axes_1 axes_2 axes_3 axes_4 axes_5 axes_6 axes_7 axes_8 k3 w_0 w_1 w_2 k4) [] 202 [.agg ⟨[.int .i64 axes_6, .int .i64 axes_7, .int .i64 axes_8]⟩, .int .i64 w_2] (.agg ⟨[.int .i64 n20_0, .int .i64 n20_1, .int .i64 n20_2]⟩) ∧ (∃ n21_0 : Int, ∃ n21_1 : Int, ∃ n21_2 : Int, CallV (cx w0 [] []) (loc123_0 k2 axes_0 axes_1 axes_2 axes_3 axes_4 axes_5 axes_6 axes_7 axes_8 k3 w_0 w_1 w_2 k4) [] 177 [.agg ⟨[.int .i64 n15_0, .int .i64 n15_1, .int .i64 n15_2]⟩, .agg ⟨[.int .i64 n20_0, .int .i64 n20_1, .int .i64 n20_2]⟩] (.agg ⟨[.int .i64 n21_0, .int .i64 n21_1, .int .i64 n21_2]⟩) ∧ Fin (cx w0 [] []) R (.agg ⟨[.int .i64 n21_0, .int .i64 n21_1, .int .i64 n21_2]⟩) []))))))))
theorem q123_eq (w0 : World) (axes_0 : Int) (axes_1 : Int) (axes_2 : Int) (axes_3 : Int) (axes_4 : Int) (axes_5 : Int) (axes_6 : Int) (axes_7 : Int) (axes_8 : Int) (w_0 : Int) (w_1 : Int) (w_2 : Int) (R : Value → World → Prop) : funT (cx w0 [] []) Tryz.f123 an123 [.agg ⟨[.int .i64 axes_0, .int .i64 axes_1, .int .i64 axes_2, .int .i64 axes_3, .int .i64 axes_4, .int .i64 axes_5, .int .i64 axes_6, .int .i64 axes_7, .int .i64 axes_8]⟩, .agg ⟨[.int .i64 w_0, .int .i64 w_1, .int .i64 w_2]⟩] [] R = q123 w0 axes_0 axes_1 axes_2 axes_3 axes_4 axes_5 axes_6 axes_7 axes_8 w_0 w_1 w_2 R := by kernel_rfl
theorem d123 (W : World) (axes_0 : Int) (axes_1 : Int) (axes_2 : Int) (axes_3 : Int) (axes_4 : Int) (axes_5 : Int) (axes_6 : Int) (axes_7 : Int) (axes_8 : Int) (w_0 : Int) (w_1 : Int) (w_2 : Int) {R : Value → World → Prop} (h : q123 W axes_0 axes_1 axes_2 axes_3 axes_4 axes_5 axes_6 axes_7 axes_8 w_0 w_1 w_2 R) : Does Tryz.prog 123 [.agg ⟨[.int .i64 axes_0, .int .i64 axes_1, .int .i64 axes_2, .int .i64 axes_3, .int .i64 axes_4, .int .i64 axes_5, .int .i64 axes_6, .int .i64 axes_7, .int .i64 axes_8]⟩, .agg ⟨[.int .i64 w_0, .int .i64 w_1, .int .i64 w_2]⟩] W R :=
  does_of_T (fn := Tryz.f123) (x := an123) (dyn := []) (by kernel_rfl) (by kernel_rfl) (sep_self W) (Eq.mpr (q123_eq W axes_0 axes_1 axes_2 axes_3 axes_4 axes_5 axes_6 axes_7 axes_8 w_0 w_1 w_2 R) h)
def s123 (axes_0 : Int) (axes_1 : Int) (axes_2 : Int) (axes_3 : Int) (axes_4 : Int) (axes_5 : Int) (axes_6 : Int) (axes_7 : Int) (axes_8 : Int) (w_0 : Int) (w_1 : Int) (w_2 : Int) : Int × Int × Int := (((s177 ((s177 ((s202 axes_0 axes_1 axes_2 w_0).1) ((s202 axes_0 axes_1 axes_2 w_0).2.1) ((s202 axes_0 axes_1 axes_2 w_0).2.2) ((s202 axes_3 axes_4 axes_5 w_1).1) ((s202 axes_3 axes_4 axes_5 w_1).2.1) ((s202 axes_3 axes_4 axes_5 w_1).2.2)).1) ((s177 ((s202 axes_0 axes_1 axes_2 w_0).1) ((s202 axes_0 axes_1 axes_2 w_0).2.1) ((s202 axes_0 axes_1 axes_2 w_0).2.2) ((s202 axes_3 axes_4 axes_5 w_1).1) ((s202 axes_3 axes_4 axes_5 w_1).2.1) ((s202 axes_3 axes_4 axes_5 w_1).2.2)).2.1) ((s177 ((s202 axes_0 axes_1 axes_2 w_0).1) ((s202 axes_0 axes_1 axes_2 w_0).2.1) ((s202 axes_0 axes_1 axes_2 w_0).2.2) ((s202 axes_3 axes_4 axes_5 w_1).1) ((s202 axes_3 axes_4 axes_5 w_1).2.1) ((s202 axes_3 axes_4 axes_5 w_1).2.2)).2.2) ((s202 axes_6 axes_7 axes_8 w_2).1) ((s202 axes_6 axes_7 axes_8 w_2).2.1) ((s202 axes_6 axes_7 axes_8 w_2).2.2)).1), ((s177 ((s177 ((s202 axes_0 axes_1 axes_2 w_0).1) ((s202 axes_0 axes_1 axes_2 w_0).2.1) ((s202 axes_0 axes_1 axes_2 w_0).2.2) ((s202 axes_3 axes_4 axes_5 w_1).1) ((s202 axes_3 axes_4 axes_5 w_1).2.1) ((s202 axes_3 axes_4 axes_5 w_1).2.2)).1) ((s177 ((s202 axes_0 axes_1 axes_2 w_0).1) ((s202 axes_0 axes_1 axes_2 w_0).2.1) ((s202 axes_0 axes_1 axes_2 w_0).2.2) ((s202 axes_3 axes_4 axes_5 w_1).1) ((s202 axes_3 axes_4 axes_5 w_1).2.1) ((s202 axes_3 axes_4 axes_5 w_1).2.2)).2.1) ((s177 ((s202 axes_0 axes_1 axes_2 w_0).1) ((s202 axes_0 axes_1 axes_2 w_0).2.1) ((s202 axes_0 axes_1 axes_2 w_0).2.2) ((s202 axes_3 axes_4 axes_5 w_1).1) ((s202 axes_3 axes_4 axes_5 w_1).2.1) ((s202 axes_3 axes_4 axes_5 w_1).2.2)).2.2) ((s202 axes_6 axes_7 axes_8 w_2).1) ((s202 axes_6 axes_7 axes_8 w_2).2.1) ((s202 axes_6 axes_7 axes_8 w_2).2.2)).2.1), ((s177 ((s177 ((s202 axes_0 axes_1 axes_2 w_0).1) ((s202 axes_0 axes_1 axes_2 w_0).2.1) ((s202 axes_0 axes_1 axes_2 w_0).2.2) ((s202 axes_3 axes_4 axes_5 w_1).1) ((s202 axes_3 axes_4 axes_5 w_1).2.1) ((s202 axes_3 axes_4 axes_5 w_1).2.2)).1) ((s177 ((s202 axes_0 axes_1 axes_2 w_0).1) ((s202 axes_0 axes_1 axes_2 w_0).2.1) ((s202 axes_0 axes_1 axes_2 w_0).2.2) ((s202 axes_3 axes_4 axes_5 w_1).1) ((s202 axes_3 axes_4 axes_5 w_1).2.1) ((s202 axes_3 axes_4 axes_5 w_1).2.2)).2.1) ((s177 ((s202 axes_0 axes_1 axes_2 w_0).1) ((s202 axes_0 axes_1 axes_2 w_0).2.1) ((s202 axes_0 axes_1 axes_2 w_0).2.2) ((s202 axes_3 axes_4 axes_5 w_1).1) ((s202 axes_3 axes_4 axes_5 w_1).2.1) ((s202 axes_3 axes_4 axes_5 w_1).2.2)).2.2) ((s202 axes_6 axes_7 axes_8 w_2).1) ((s202 axes_6 axes_7 axes_8 w_2).2.1) ((s202 axes_6 axes_7 axes_8 w_2).2.2)).2.2))
theorem p123 (axes_0 : Int) (axes_1 : Int) (axes_2 : Int) (axes_3 : Int) (axes_4 : Int) (axes_5 : Int) (axes_6 : Int) (axes_7 : Int) (axes_8 : Int) (w_0 : Int) (w_1 : Int) (w_2 : Int) : Pu 123 [.agg ⟨[.int .i64 axes_0, .int .i64 axes_1, .int .i64 axes_2, .int .i64 axes_3, .int .i64 axes_4, .int .i64 axes_5, .int .i64 axes_6, .int .i64 axes_7, .int .i64 axes_8]⟩, .agg ⟨[.int .i64 w_0, .int .i64 w_1, .int .i64 w_2]⟩] (.agg ⟨[.int .i64 ((s123 axes_0 axes_1 axes_2 axes_3 axes_4 axes_5 axes_6 axes_7 axes_8 w_0 w_1 w_2).1), .int .i64 ((s123 axes_0 axes_1 axes_2 axes_3 axes_4 axes_5 axes_6 axes_7 axes_8 w_0 w_1 w_2).2.1), .int .i64 ((s123 axes_0 axes_1 axes_2 axes_3 axes_4 axes_5 axes_6 axes_7 axes_8 w_0 w_1 w_2).2.2)]⟩) := fun W hL => d123 W axes_0 axes_1 axes_2 axes_3 axes_4 axes_5 axes_6 axes_7 axes_8 w_0 w_1 w_2 (fun k2 => fun k3 => fun k4 => ⟨(by first | decide | omega | (simp only [beq_iff_eq, bne_iff_ne, Bool.or_eq_false_iff, Bool.or_eq_true, Bool.and_eq_true, decide_eq_true_eq, decide_eq_false_iff_not, beq_eq_false_iff_ne, ne_eq] at *; omega)), ⟨(by first | decide | omega | (simp only [beq_iff_eq, bne_iff_ne, Bool.or_eq_false_iff, Bool.or_eq_true, Bool.and_eq_true, decide_eq_true_eq, decide_eq_false_iff_not, beq_eq_false_iff_ne, ne_eq] at *; omega)), ⟨_, _, _, (p202 _ _ _ _).callL hL, ⟨(by first | decide | omega | (simp only [beq_iff_eq, bne_iff_ne, Bool.or_eq_false_iff, Bool.or_eq_true, Bool.and_eq_true, decide_eq_true_eq, decide_eq_false_iff_not, beq_eq_false_iff_ne, ne_eq] at *; omega)), ⟨(by first | decide | omega | (simp only [beq_iff_eq, bne_iff_ne, Bool.or_eq_false_iff, Bool.or_eq_true, Bool.and_eq_true, decide_eq_true_eq, decide_eq_false_iff_not, beq_eq_false_iff_ne, ne_eq] at *; omega)), ⟨_, _, _, (p202 _ _ _ _).callL hL, ⟨_, _, _, (p177 _ _ _ _ _ _).callL hL, ⟨(by first | decide | omega | (simp only [beq_iff_eq, bne_iff_ne, Bool.or_eq_false_iff, Bool.or_eq_true, Bool.and_eq_true, decide_eq_true_eq, decide_eq_false_iff_not, beq_eq_false_iff_ne, ne_eq] at *; omega)), ⟨(by first | decide | omega | (simp only [beq_iff_eq, bne_iff_ne, Bool.or_eq_false_iff, Bool.or_eq_true, Bool.and_eq_true, decide_eq_true_eq, decide_eq_false_iff_not, beq_eq_false_iff_ne, ne_eq] at *; omega)), ⟨_, _, _, (p202 _ _ _ _).callL hL, ⟨_, _, _, (p177 _ _ _ _ _ _).callL hL, fin_ext (by first | (unfold s123; simp only [cond_true, cond_false]; done) | (exfalso; simp_all; done) | (unfold s123; simp [cond_true, cond_false]; done))⟩⟩⟩⟩⟩⟩⟩⟩⟩⟩⟩)


def isF (f x y z : Int) : Bool := fR f 0 == x && (fR f 1 == y && fR f 2 == z)
/-- the first of the last r faces with this middle -/
def faceFrom (x y z : Int) : Nat → Int
  | 0 => -1
  | r + 1 => cond (isF (5 - (r : Int)) x y z) (5 - (r : Int)) (faceFrom x y z r)
def s122 (x y z : Int) : Int := faceFrom x y z 6

-- tarn/cube.faceAt
def loc122_0 (k1 : Nat) (c_0 : Int) (c_1 : Int) (c_2 : Int) : Tn.Loc := [⟨k1, 144, [.int .i64 c_0, .int .i64 c_1, .int .i64 c_2], []⟩]
def an122 : Ann := (.seq .leaf (.seq (.seq .leaf (.block (.loop [(4, .one (.int .i64))] [] (.seq .leaf (.seq (.cond .leaf .leaf) (.seq (.block (.seq .leaf (.seq (.draw [0, 1, 2, 3, 4, 5]) (.cond (.seq .leaf .leaf) .leaf)))) .leaf)))))) (.seq .leaf .leaf)))
noncomputable def q122 (w0 : World) (c_0 : Int) (c_1 : Int) (c_2 : Int) (R : Value → World → Prop) : Prop :=
  (∀ k1 : Nat, (∃ (I4 : Int → Own → Prop) (μ4 : Int → Own → Nat), I4 (0 : Int) [] ∧ ∀ n4 : Int, ∀ own4 : Own, I4 n4 own4 → (cond (decide (n4 < (6 : Int))) ((0 ≤ n4 ∧ n4 < ((6 : Nat) : Int)) ∧ (0 ≤ (0 : Int) ∧ (0 : Int) < ((3 : Nat) : Int)) ∧ (∃ n10_0 : Int, ∃ n10_1 : Int, ∃ n10_2 : Int, LoadsTo (cx w0 [] []) (loc122_0 k1 c_0 c_1 c_2) own4 144 (Addr.add (Addr.add ⟨0, 0, none⟩ (Int.toNat n4 * 9)) (Int.toNat (0 : Int) * 3)) (.agg ⟨[.int .i64 n10_0, .int .i64 n10_1, .int .i64 n10_2]⟩) ∧ (∃ b12 : Bool, OpV (cx w0 [] []) (loc122_0 k1 c_0 c_1 c_2) own4 (do eqGuard .eql 144 (.tmp 10) (.tmp 11) (.agg ⟨[.int .i64 n10_0, .int .i64 n10_1, .int .i64 n10_2]⟩) (.agg ⟨[.int .i64 c_0, .int .i64 c_1, .int .i64 c_2]⟩); binOp .eql 144 (.agg ⟨[.int .i64 n10_0, .int .i64 n10_1, .int .i64 n10_2]⟩) (.agg ⟨[.int .i64 c_0, .int .i64 c_1, .int .i64 c_2]⟩)) (.bool b12) ∧ (cond b12 (Fin (cx w0 [] []) R (.int .i64 n4) own4) (I4 (IntKind.wrap .i64 (n4 + (1 : Int))) own4 ∧ μ4 (IntKind.wrap .i64 (n4 + (1 : Int))) own4 < μ4 n4 own4))))) (Fin (cx w0 [] []) R (.int .i64 ((-1) : Int)) own4))))
theorem q122_eq (w0 : World) (c_0 : Int) (c_1 : Int) (c_2 : Int) (R : Value → World → Prop) : funT (cx w0 [] []) Tryz.f122 an122 [.agg ⟨[.int .i64 c_0, .int .i64 c_1, .int .i64 c_2]⟩] [] R = q122 w0 c_0 c_1 c_2 R := by kernel_rfl
theorem d122 (W : World) (c_0 : Int) (c_1 : Int) (c_2 : Int) {R : Value → World → Prop} (h : q122 W c_0 c_1 c_2 R) : Does Tryz.prog 122 [.agg ⟨[.int .i64 c_0, .int .i64 c_1, .int .i64 c_2]⟩] W R :=
  does_of_T (fn := Tryz.f122) (x := an122) (dyn := []) (by kernel_rfl) (by kernel_rfl) (sep_self W) (Eq.mpr (q122_eq W c_0 c_1 c_2 R) h)

theorem p122 (x y z : Int) : Pu 122 [.agg ⟨[.int .i64 x, .int .i64 y, .int .i64 z]⟩] (.int .i64 (s122 x y z)) := fun W hL => d122 W x y z fun k1 => by
  refine ⟨fun n own => own = [] ∧ ∃ r : Nat, n = 6 - (r : Int) ∧ r ≤ 6 ∧ s122 x y z = faceFrom x y z r, fun n _ => (6 - n).toNat, ⟨rfl, 6, rfl, Nat.le_refl _, rfl⟩, ?_⟩
  rintro n own ⟨rfl, r, rfl, hr, he⟩
  cases r with
  | zero => exact cond_split (fun h => absurd h (by decide)) fun _ => fin_ext (by rw [he]; rfl)
  | succ r =>
    refine cond_split (fun _ => ?_) fun h => absurd h (by simp; omega)
    have hf : 0 ≤ (6 : Int) - ((r + 1 : Nat) : Int) ∧ (6 : Int) - ((r + 1 : Nat) : Int) < 6 := by omega
    have h5 : (6 : Int) - ((r + 1 : Nat) : Int) = 5 - (r : Int) := by omega
    refine ⟨hf, by decide, _, _, _, ldF3 hL List.not_mem_nil hf, _, eq_way _ _ _ _ _ _ _ _, cond_split (fun h => ?_) fun h => ?_⟩
    · refine fin_ext ?_
      rw [he, faceFrom, h5]
      have : isF (5 - (r : Int)) x y z = true := by rw [← h5]; exact h
      rw [this]; rfl
    · refine ⟨⟨rfl, r, by rw [wi _ (by omega)]; omega, by omega, ?_⟩, by show (6 - IntKind.wrap .i64 _ : Int).toNat < _; rw [wi _ (by omega)]; show _ < ((6 : Int) - _).toNat; omega⟩
      rw [he, faceFrom]
      have : isF (5 - (r : Int)) x y z = false := by rw [← h5]; exact h
      rw [this]; rfl


-- tarn/cube.middle
def loc124_0 (k8 : Nat) : Tn.Loc := [⟨k8, 144, [.int .i64 0, .int .i64 0, .int .i64 0], []⟩]
def loc124_1 (k8 : Nat) (k9 : Nat) (n12_0 : Int) (n12_1 : Int) (n12_2 : Int) (n12_3 : Int) (n12_4 : Int) (n12_5 : Int) (n12_6 : Int) (n12_7 : Int) (n12_8 : Int) : Tn.Loc := [⟨k8, 144, [.int .i64 0, .int .i64 0, .int .i64 0], []⟩, ⟨k9, 146, [.int .i64 n12_0, .int .i64 n12_1, .int .i64 n12_2, .int .i64 n12_3, .int .i64 n12_4, .int .i64 n12_5, .int .i64 n12_6, .int .i64 n12_7, .int .i64 n12_8], []⟩]
def an124 : Ann := (.seq .leaf (.seq .leaf (.seq (.draw [0, 1, 2, 3, 4, 5, 6, 7, 8, 9, 10, 11, 12, 13, 14, 15, 16, 17, 18, 19, 20, 21, 22]) .leaf)))
noncomputable def q124 (w0 : World) (side : Int) (face : Int) (i : Int) (j : Int) (R : Value → World → Prop) : Prop :=
  (∀ k8 : Nat, (0 ≤ face ∧ face < ((6 : Nat) : Int)) ∧ (∃ n12_0 : Int, ∃ n12_1 : Int, ∃ n12_2 : Int, ∃ n12_3 : Int, ∃ n12_4 : Int, ∃ n12_5 : Int, ∃ n12_6 : Int, ∃ n12_7 : Int, ∃ n12_8 : Int, LoadsTo (cx w0 [] []) (loc124_0 k8) [] 146 (Addr.add ⟨0, 0, none⟩ (Int.toNat face * 9)) (.agg ⟨[.int .i64 n12_0, .int .i64 n12_1, .int .i64 n12_2, .int .i64 n12_3, .int .i64 n12_4, .int .i64 n12_5, .int .i64 n12_6, .int .i64 n12_7, .int .i64 n12_8]⟩) ∧ (∀ k9 : Nat, (0 ≤ (0 : Int) ∧ (0 : Int) < ((3 : Nat) : Int)) ∧ (∃ n16_0 : Int, ∃ n16_1 : Int, ∃ n16_2 : Int, CallV (cx w0 [] []) (loc124_1 k8 k9 n12_0 n12_1 n12_2 n12_3 n12_4 n12_5 n12_6 n12_7 n12_8) [] 202 [.agg ⟨[.int .i64 n12_0, .int .i64 n12_1, .int .i64 n12_2]⟩, .int .i64 side] (.agg ⟨[.int .i64 n16_0, .int .i64 n16_1, .int .i64 n16_2]⟩) ∧ (0 ≤ (1 : Int) ∧ (1 : Int) < ((3 : Nat) : Int)) ∧ (∃ n24_0 : Int, ∃ n24_1 : Int, ∃ n24_2 : Int, CallV (cx w0 [] []) (loc124_1 k8 k9 n12_0 n12_1 n12_2 n12_3 n12_4 n12_5 n12_6 n12_7 n12_8) [] 202 [.agg ⟨[.int .i64 n12_3, .int .i64 n12_4, .int .i64 n12_5]⟩, .int .i64 (IntKind.wrap .i64 ((IntKind.wrap .i64 ((IntKind.wrap .i64 ((2 : Int) * i)) + (1 : Int))) - side))] (.agg ⟨[.int .i64 n24_0, .int .i64 n24_1, .int .i64 n24_2]⟩) ∧ (∃ n25_0 : Int, ∃ n25_1 : Int, ∃ n25_2 : Int, CallV (cx w0 [] []) (loc124_1 k8 k9 n12_0 n12_1 n12_2 n12_3 n12_4 n12_5 n12_6 n12_7 n12_8) [] 177 [.agg ⟨[.int .i64 n16_0, .int .i64 n16_1, .int .i64 n16_2]⟩, .agg ⟨[.int .i64 n24_0, .int .i64 n24_1, .int .i64 n24_2]⟩] (.agg ⟨[.int .i64 n25_0, .int .i64 n25_1, .int .i64 n25_2]⟩) ∧ (0 ≤ (2 : Int) ∧ (2 : Int) < ((3 : Nat) : Int)) ∧ (∃ n33_0 : Int, ∃ n33_1 : Int, ∃ n33_2 : Int, CallV (cx w0 [] []) (loc124_1 k8 k9 n12_0 n12_1 n12_2 n12_3 n12_4 n12_5 n12_6 n12_7 n12_8) [] 202 [.agg ⟨[.int .i64 n12_6, .int .i64 n12_7, .int .i64 n12_8]⟩, .int .i64 (IntKind.wrap .i64 ((IntKind.wrap .i64 ((IntKind.wrap .i64 ((2 : Int) * j)) + (1 : Int))) - side))] (.agg ⟨[.int .i64 n33_0, .int .i64 n33_1, .int .i64 n33_2]⟩) ∧ (∃ n34_0 : Int, ∃ n34_1 : Int, ∃ n34_2 : Int, CallV (cx w0 [] []) (loc124_1 k8 k9 n12_0 n12_1 n12_2 n12_3 n12_4 n12_5 n12_6 n12_7 n12_8) [] 177 [.agg ⟨[.int .i64 n25_0, .int .i64 n25_1, .int .i64 n25_2]⟩, .agg ⟨[.int .i64 n33_0, .int .i64 n33_1, .int .i64 n33_2]⟩] (.agg ⟨[.int .i64 n34_0, .int .i64 n34_1, .int .i64 n34_2]⟩) ∧ Fin (cx w0 [] []) R (.agg ⟨[.int .i64 n34_0, .int .i64 n34_1, .int .i64 n34_2]⟩) []))))))))
theorem q124_eq (w0 : World) (side : Int) (face : Int) (i : Int) (j : Int) (R : Value → World → Prop) : funT (cx w0 [] []) Tryz.f124 an124 [.int .i64 side, .int .i64 face, .int .i64 i, .int .i64 j] [] R = q124 w0 side face i j R := by kernel_rfl
theorem d124 (W : World) (side : Int) (face : Int) (i : Int) (j : Int) {R : Value → World → Prop} (h : q124 W side face i j R) : Does Tryz.prog 124 [.int .i64 side, .int .i64 face, .int .i64 i, .int .i64 j] W R :=
  does_of_T (fn := Tryz.f124) (x := an124) (dyn := []) (by kernel_rfl) (by kernel_rfl) (sep_self W) (Eq.mpr (q124_eq W side face i j R) h)

/-- the middle of a cell of a face -/
def s124 (side face i j : Int) : Int × Int × Int :=
  let a := s202 (fR face 0) (fR face 1) (fR face 2) side
  let b := s202 (fR face 3) (fR face 4) (fR face 5) (IntKind.wrap .i64 ((IntKind.wrap .i64 ((IntKind.wrap .i64 ((2 : Int) * i)) + (1 : Int))) - side))
  let c := s177 a.1 a.2.1 a.2.2 b.1 b.2.1 b.2.2
  let d := s202 (fR face 6) (fR face 7) (fR face 8) (IntKind.wrap .i64 ((IntKind.wrap .i64 ((IntKind.wrap .i64 ((2 : Int) * j)) + (1 : Int))) - side))
  s177 c.1 c.2.1 c.2.2 d.1 d.2.1 d.2.2
theorem p124 (side face i j : Int) (h : 0 ≤ face ∧ face < 6) : Pu 124 [.int .i64 side, .int .i64 face, .int .i64 i, .int .i64 j] (.agg ⟨[.int .i64 (s124 side face i j).1, .int .i64 (s124 side face i j).2.1, .int .i64 (s124 side face i j).2.2]⟩) := fun W hL => d124 W side face i j fun k8 =>
  ⟨h, _, _, _, _, _, _, _, _, _, ldF9 hL List.not_mem_nil h, fun k9 => ⟨by decide, _, _, _, (p202 _ _ _ _).callL hL, by decide, _, _, _, (p202 _ _ _ _).callL hL, _, _, _, (p177 _ _ _ _ _ _).callL hL, by decide, _, _, _, (p202 _ _ _ _).callL hL, _, _, _, (p177 _ _ _ _ _ _).callL hL, fin_ext rfl⟩⟩


end Go.Proofs.YtnljcdplcloedaaGreatDoor
end
section
namespace Go.Proofs.YtnljcdplcloedaaGreatDoor
open Go Go.Tn Go.RowKit
set_option linter.unusedVariables false
set_option linter.unusedSimpArgs false
set_option maxRecDepth 100000

/-- the way over a side of a face -/
def outF (f o : Int) : Int × Int × Int := s128 (fR f 0) (fR f 1) (fR f 2) (fR f 3) (fR f 4) (fR f 5) (fR f 6) (fR f 7) (fR f 8) o
/-- the face that lies there -/
def toF (f o : Int) : Int := s122 (outF f o).1 (outF f o).2.1 (outF f o).2.2
theorem face_cases {f : Int} (h : 0 ≤ f ∧ f < 6) : f = 0 ∨ f = 1 ∨ f = 2 ∨ f = 3 ∨ f = 4 ∨ f = 5 := by omega
theorem four_cases {o : Int} (h : 0 ≤ o ∧ o < 4) : o = 0 ∨ o = 1 ∨ o = 2 ∨ o = 3 := by omega
theorem toF_ok {f o : Int} (hf : 0 ≤ f ∧ f < 6) (ho : 0 ≤ o ∧ o < 4) : 0 ≤ toF f o ∧ toF f o < 6 := by
  rcases face_cases hf with rfl | rfl | rfl | rfl | rfl | rfl <;> rcases four_cases ho with rfl | rfl | rfl | rfl <;> decide
def stI (o : Int) : Int := cond (o == 0) 1 (cond (o == 2) (-1) 0)
def stJ (o : Int) : Int := cond (o == 1) 1 (cond (o == 3) (-1) 0)
/-- the side of 'to', among the last r, that lies against 'face' -/
def backFrom (to face : Int) : Nat → Option Int
  | 0 => none
  | r + 1 => cond ((outF to (3 - (r : Int))).1 == fR face 0 && ((outF to (3 - (r : Int))).2.1 == fR face 1 && (outF to (3 - (r : Int))).2.2 == fR face 2)) (some (3 - (r : Int))) (backFrom to face r)
/-- over the face's edge -/
def overE (side face i j over : Int) : Int × Int :=
  let m := s124 side face i j
  let q := s177 m.1 m.2.1 m.2.2 (outF face over).1 (outF face over).2.1 (outF face over).2.2
  let to := toF face over
  let c := s125 side to (s126 side (s127 q.1 q.2.1 q.2.2 (fR to 3) (fR to 4) (fR to 5))) (s126 side (s127 q.1 q.2.1 q.2.2 (fR to 6) (fR to 7) (fR to 8)))
  match backFrom to face 4 with | some s => (c, s) | none => (-1, 0)
def s98 (side cell over : Int) : Int × Int :=
  let p := s120 side cell
  cond (!p.2.2.2) (-1, 0) (cond (decide (over < 0)) (-1, 0) (cond (decide (over ≥ 4)) (-1, 0) (
    let n := s125 side p.1 (IntKind.wrap .i64 (p.2.1 + stI over)) (IntKind.wrap .i64 (p.2.2.1 + stJ over))
    cond (decide (n ≥ 0)) (n, Int.tmod (IntKind.wrap .i64 (over + 2)) 4) (overE side p.1 p.2.1 p.2.2.1 over))))

-- tarn/cube.Beside
def loc98_0 (k15 : Nat) (n71_0 : Int) (n71_1 : Int) (n71_2 : Int) (n71_3 : Int) (n71_4 : Int) (n71_5 : Int) (n71_6 : Int) (n71_7 : Int) (n71_8 : Int) : Tn.Loc := [⟨k15, 146, [.int .i64 n71_0, .int .i64 n71_1, .int .i64 n71_2, .int .i64 n71_3, .int .i64 n71_4, .int .i64 n71_5, .int .i64 n71_6, .int .i64 n71_7, .int .i64 n71_8], []⟩]
def loc98_1 (k15 : Nat) (n71_0 : Int) (n71_1 : Int) (n71_2 : Int) (n71_3 : Int) (n71_4 : Int) (n71_5 : Int) (n71_6 : Int) (n71_7 : Int) (n71_8 : Int) (k16 : Nat) (n82_0 : Int) (n82_1 : Int) (n82_2 : Int) : Tn.Loc := [⟨k15, 146, [.int .i64 n71_0, .int .i64 n71_1, .int .i64 n71_2, .int .i64 n71_3, .int .i64 n71_4, .int .i64 n71_5, .int .i64 n71_6, .int .i64 n71_7, .int .i64 n71_8], []⟩, ⟨k16, 144, [.int .i64 n82_0, .int .i64 n82_1, .int .i64 n82_2], []⟩]
def an98 : Ann := (.seq .leaf (.seq .leaf (.seq (.seq .leaf (.cond (.seq .leaf .leaf) .leaf)) (.seq .leaf (.seq (.seq (.draw [0, 1, 2, 3, 4, 5, 6, 7, 8, 9, 10, 11, 12, 13, 14, 15]) (.seq .leaf (.cond (.seq .leaf .leaf) .leaf))) (.seq .leaf (.seq .leaf (.seq (.draw [0, 1, 2, 3, 4, 5, 6, 7, 8, 9, 10, 11, 12]) (.seq (.draw [0, 1, 2, 3, 4, 5, 6, 7, 8, 9, 10, 11, 12, 13, 14, 15]) (.seq (.seq .leaf (.block (.loop [(98, .one (.int .i64))] [] (.seq .leaf (.seq (.cond .leaf .leaf) (.seq (.block (.seq .leaf (.seq (.draw [0, 1, 2, 3, 4, 5, 6, 7]) (.cond (.seq .leaf .leaf) .leaf)))) .leaf)))))) (.seq .leaf .leaf)))))))))))
noncomputable def q98 (w0 : World) (side : Int) (cell : Int) (over : Int) (R : Value → World → Prop) : Prop :=
  (∃ n22a : Int, ∃ n22b : Int, ∃ n22c : Int, ∃ b22d : Bool, CallV (cx w0 [] [12]) [] [] 120 [.int .i64 side, .int .i64 cell] (.tuple ⟨[.int .i64 n22a, .int .i64 n22b, .int .i64 n22c, .bool b22d]⟩) ∧ (cond (!b22d) (Fin (cx w0 [] [12]) R (.tuple ⟨[.int .i64 ((-1) : Int), .int .i64 (0 : Int)]⟩) []) ((cond (decide (over < (0 : Int))) (Fin (cx w0 [] [12]) R (.tuple ⟨[.int .i64 ((-1) : Int), .int .i64 (0 : Int)]⟩) []) ((cond (decide (over ≥ (4 : Int))) (Fin (cx w0 [] [12]) R (.tuple ⟨[.int .i64 ((-1) : Int), .int .i64 (0 : Int)]⟩) []) ((∀ k12 : Nat, (∃ own8 : Own, StoresTo (cx w0 [] [12]) [] ((k12, .cells ⟨[.int .i64 0, .int .i64 0, .int .i64 0, .int .i64 0, .int .i64 0, .int .i64 0, .int .i64 0, .int .i64 0]⟩ 195) :: []) 195 ⟨k12, 0, none⟩ (.agg ⟨[.int .i64 (1 : Int), .int .i64 (0 : Int), .int .i64 (0 : Int), .int .i64 (1 : Int), .int .i64 ((-1) : Int), .int .i64 (0 : Int), .int .i64 (0 : Int), .int .i64 ((-1) : Int)]⟩) own8 ∧ (0 ≤ over ∧ over < ((4 : Nat) : Int)) ∧ (0 ≤ (0 : Int) ∧ (0 : Int) < ((2 : Nat) : Int)) ∧ (∃ n48 : Int, LoadsTo (cx w0 [] [12]) [] own8 3 (Addr.add (Addr.add ⟨k12, 0, none⟩ (Int.toNat over * 2)) (Int.toNat (0 : Int) * 1)) (.int .i64 n48) ∧ (0 ≤ over ∧ over < ((4 : Nat) : Int)) ∧ (0 ≤ (1 : Int) ∧ (1 : Int) < ((2 : Nat) : Int)) ∧ (∃ n54 : Int, LoadsTo (cx w0 [] [12]) [] own8 3 (Addr.add (Addr.add ⟨k12, 0, none⟩ (Int.toNat over * 2)) (Int.toNat (1 : Int) * 1)) (.int .i64 n54) ∧ (∃ n56 : Int, CallV (cx w0 [] [12]) [] own8 125 [.int .i64 side, .int .i64 n22a, .int .i64 (IntKind.wrap .i64 (n22b + n48)), .int .i64 (IntKind.wrap .i64 (n22c + n54))] (.int .i64 n56) ∧ (cond (decide (n56 ≥ (0 : Int))) (((4 : Int) ≠ 0) ∧ Fin (cx w0 [] [12]) R (.tuple ⟨[.int .i64 n56, .int .i64 (Int.tmod (IntKind.wrap .i64 (over + (2 : Int))) (4 : Int))]⟩) own8) ((0 ≤ n22a ∧ n22a < ((6 : Nat) : Int)) ∧ (∃ n65_0 : Int, ∃ n65_1 : Int, ∃ n65_2 : Int, ∃ n65_3 : Int, ∃ n65_4 : Int, ∃ n65_5 : Int, ∃ n65_6 : Int, ∃ n65_7 : Int, ∃ n65_8 : Int, LoadsTo (cx w0 [] [12]) [] own8 146 (Addr.add ⟨0, 0, none⟩ (Int.toNat n22a * 9)) (.agg ⟨[.int .i64 n65_0, .int .i64 n65_1, .int .i64 n65_2, .int .i64 n65_3, .int .i64 n65_4, .int .i64 n65_5, .int .i64 n65_6, .int .i64 n65_7, .int .i64 n65_8]⟩) ∧ (∃ n67_0 : Int, ∃ n67_1 : Int, ∃ n67_2 : Int, CallV (cx w0 [] [12]) [] own8 128 [.agg ⟨[.int .i64 n65_0, .int .i64 n65_1, .int .i64 n65_2, .int .i64 n65_3, .int .i64 n65_4, .int .i64 n65_5, .int .i64 n65_6, .int .i64 n65_7, .int .i64 n65_8]⟩, .int .i64 over] (.agg ⟨[.int .i64 n67_0, .int .i64 n67_1, .int .i64 n67_2]⟩) ∧ (∃ n68 : Int, CallV (cx w0 [] [12]) [] own8 122 [.agg ⟨[.int .i64 n67_0, .int .i64 n67_1, .int .i64 n67_2]⟩] (.int .i64 n68) ∧ (0 ≤ n68 ∧ n68 < ((6 : Nat) : Int)) ∧ (∃ n71_0 : Int, ∃ n71_1 : Int, ∃ n71_2 : Int, ∃ n71_3 : Int, ∃ n71_4 : Int, ∃ n71_5 : Int, ∃ n71_6 : Int, ∃ n71_7 : Int, ∃ n71_8 : Int, LoadsTo (cx w0 [] [12]) [] own8 146 (Addr.add ⟨0, 0, none⟩ (Int.toNat n68 * 9)) (.agg ⟨[.int .i64 n71_0, .int .i64 n71_1, .int .i64 n71_2, .int .i64 n71_3, .int .i64 n71_4, .int .i64 n71_5, .int .i64 n71_6, .int .i64 n71_7, .int .i64 n71_8]⟩) ∧ (∀ k15 : Nat, (∃ n76_0 : Int, ∃ n76_1 : Int, ∃ n76_2 : Int, CallV (cx w0 [] [12]) (loc98_0 k15 n71_0 n71_1 n71_2 n71_3 n71_4 n71_5 n71_6 n71_7 n71_8) own8 124 [.int .i64 side, .int .i64 n22a, .int .i64 n22b, .int .i64 n22c] (.agg ⟨[.int .i64 n76_0, .int .i64 n76_1, .int .i64 n76_2]⟩) ∧ (0 ≤ n22a ∧ n22a < ((6 : Nat) : Int)) ∧ (∃ n79_0 : Int, ∃ n79_1 : Int, ∃ n79_2 : Int, ∃ n79_3 : Int, ∃ n79_4 : Int, ∃ n79_5 : Int, ∃ n79_6 : Int, ∃ n79_7 : Int, ∃ n79_8 : Int, LoadsTo (cx w0 [] [12]) (loc98_0 k15 n71_0 n71_1 n71_2 n71_3 n71_4 n71_5 n71_6 n71_7 n71_8) own8 146 (Addr.add ⟨0, 0, none⟩ (Int.toNat n22a * 9)) (.agg ⟨[.int .i64 n79_0, .int .i64 n79_1, .int .i64 n79_2, .int .i64 n79_3, .int .i64 n79_4, .int .i64 n79_5, .int .i64 n79_6, .int .i64 n79_7, .int .i64 n79_8]⟩) ∧ (∃ n81_0 : Int, ∃ n81_1 : Int, ∃ n81_2 : Int, CallV (cx w0 [] [12]) (loc98_0 k15 n71_0 n71_1 n71_2 n71_3 n71_4 n71_5 n71_6 n71_7 n71_8) own8 128 [.agg ⟨[.int .i64 n79_0, .int .i64 n79_1, .int .i64 n79_2, .int .i64 n79_3, .int .i64 n79_4, .int .i64 n79_5, .int .i64 n79_6, .int .i64 n79_7, .int .i64 n79_8]⟩, .int .i64 over] (.agg ⟨[.int .i64 n81_0, .int .i64 n81_1, .int .i64 n81_2]⟩) ∧ (∃ n82_0 : Int, ∃ n82_1 : Int, ∃ n82_2 : Int, CallV (cx w0 [] [12]) (loc98_0 k15 n71_0 n71_1 n71_2 n71_3 n71_4 n71_5 n71_6 n71_7 n71_8) own8 177 [.agg ⟨[.int .i64 n76_0, .int .i64 n76_1, .int .i64 n76_2]⟩, .agg ⟨[.int .i64 n81_0, .int .i64 n81_1, .int .i64 n81_2]⟩] (.agg ⟨[.int .i64 n82_0, .int .i64 n82_1, .int .i64 n82_2]⟩) ∧ (∀ k16 : Nat, (0 ≤ (1 : Int) ∧ (1 : Int) < ((3 : Nat) : Int)) ∧ (∃ n89 : Int, CallV (cx w0 [] [12]) (loc98_1 k15 n71_0 n71_1 n71_2 n71_3 n71_4 n71_5 n71_6 n71_7 n71_8 k16 n82_0 n82_1 n82_2) own8 127 [.agg ⟨[.int .i64 n82_0, .int .i64 n82_1, .int .i64 n82_2]⟩, .agg ⟨[.int .i64 n71_3, .int .i64 n71_4, .int .i64 n71_5]⟩] (.int .i64 n89) ∧ (∃ n90 : Int, CallV (cx w0 [] [12]) (loc98_1 k15 n71_0 n71_1 n71_2 n71_3 n71_4 n71_5 n71_6 n71_7 n71_8 k16 n82_0 n82_1 n82_2) own8 126 [.int .i64 side, .int .i64 n89] (.int .i64 n90) ∧ (0 ≤ (2 : Int) ∧ (2 : Int) < ((3 : Nat) : Int)) ∧ (∃ n95 : Int, CallV (cx w0 [] [12]) (loc98_1 k15 n71_0 n71_1 n71_2 n71_3 n71_4 n71_5 n71_6 n71_7 n71_8 k16 n82_0 n82_1 n82_2) own8 127 [.agg ⟨[.int .i64 n82_0, .int .i64 n82_1, .int .i64 n82_2]⟩, .agg ⟨[.int .i64 n71_6, .int .i64 n71_7, .int .i64 n71_8]⟩] (.int .i64 n95) ∧ (∃ n96 : Int, CallV (cx w0 [] [12]) (loc98_1 k15 n71_0 n71_1 n71_2 n71_3 n71_4 n71_5 n71_6 n71_7 n71_8 k16 n82_0 n82_1 n82_2) own8 126 [.int .i64 side, .int .i64 n95] (.int .i64 n96) ∧ (∃ n97 : Int, CallV (cx w0 [] [12]) (loc98_1 k15 n71_0 n71_1 n71_2 n71_3 n71_4 n71_5 n71_6 n71_7 n71_8 k16 n82_0 n82_1 n82_2) own8 125 [.int .i64 side, .int .i64 n68, .int .i64 n90, .int .i64 n96] (.int .i64 n97) ∧ (∃ (I98 : Int → Own → Prop) (μ98 : Int → Own → Nat), I98 (0 : Int) own8 ∧ ∀ n98 : Int, ∀ own98 : Own, I98 n98 own98 → (cond (decide (n98 < (4 : Int))) ((∃ n103_0 : Int, ∃ n103_1 : Int, ∃ n103_2 : Int, CallV (cx w0 [] [12]) (loc98_1 k15 n71_0 n71_1 n71_2 n71_3 n71_4 n71_5 n71_6 n71_7 n71_8 k16 n82_0 n82_1 n82_2) own98 128 [.agg ⟨[.int .i64 n71_0, .int .i64 n71_1, .int .i64 n71_2, .int .i64 n71_3, .int .i64 n71_4, .int .i64 n71_5, .int .i64 n71_6, .int .i64 n71_7, .int .i64 n71_8]⟩, .int .i64 n98] (.agg ⟨[.int .i64 n103_0, .int .i64 n103_1, .int .i64 n103_2]⟩) ∧ (0 ≤ n22a ∧ n22a < ((6 : Nat) : Int)) ∧ (0 ≤ (0 : Int) ∧ (0 : Int) < ((3 : Nat) : Int)) ∧ (∃ n107_0 : Int, ∃ n107_1 : Int, ∃ n107_2 : Int, LoadsTo (cx w0 [] [12]) (loc98_1 k15 n71_0 n71_1 n71_2 n71_3 n71_4 n71_5 n71_6 n71_7 n71_8 k16 n82_0 n82_1 n82_2) own98 144 (Addr.add (Addr.add ⟨0, 0, none⟩ (Int.toNat n22a * 9)) (Int.toNat (0 : Int) * 3)) (.agg ⟨[.int .i64 n107_0, .int .i64 n107_1, .int .i64 n107_2]⟩) ∧ (∃ b108 : Bool, OpV (cx w0 [] [12]) (loc98_1 k15 n71_0 n71_1 n71_2 n71_3 n71_4 n71_5 n71_6 n71_7 n71_8 k16 n82_0 n82_1 n82_2) own98 (do eqGuard .eql 144 (.tmp 103) (.tmp 107) (.agg ⟨[.int .i64 n103_0, .int .i64 n103_1, .int .i64 n103_2]⟩) (.agg ⟨[.int .i64 n107_0, .int .i64 n107_1, .int .i64 n107_2]⟩); binOp .eql 144 (.agg ⟨[.int .i64 n103_0, .int .i64 n103_1, .int .i64 n103_2]⟩) (.agg ⟨[.int .i64 n107_0, .int .i64 n107_1, .int .i64 n107_2]⟩)) (.bool b108) ∧ (cond b108 (Fin (cx w0 [] [12]) R (.tuple ⟨[.int .i64 n97, .int .i64 n98]⟩) own98) (I98 (IntKind.wrap .i64 (n98 + (1 : Int))) own98 ∧ μ98 (IntKind.wrap .i64 (n98 + (1 : Int))) own98 < μ98 n98 own98)))))) (Fin (cx w0 [] [12]) R (.tuple ⟨[.int .i64 ((-1) : Int), .int .i64 (0 : Int)]⟩) own98))))))))))))))))))))))))))))))))
theorem q98_eq (w0 : World) (side : Int) (cell : Int) (over : Int) (R : Value → World → Prop) : funT (cx w0 [] [12]) Tryz.f98 an98 [.int .i64 side, .int .i64 cell, .int .i64 over] [] R = q98 w0 side cell over R := by kernel_rfl
theorem d98 (W : World) (side : Int) (cell : Int) (over : Int) {R : Value → World → Prop} (h : q98 W side cell over R) : Does Tryz.prog 98 [.int .i64 side, .int .i64 cell, .int .i64 over] W R :=
  does_of_T (fn := Tryz.f98) (x := an98) (dyn := [12]) (by kernel_rfl) (by kernel_rfl) (sep_self W) (Eq.mpr (q98_eq W side cell over R) h)

theorem ld_st {w0 : World} {mt dyn : List Nat} {own : Own} {k : Nat} {t : TypeId} {over : Int} (h : 0 ≤ over ∧ over < 4) :
    LoadsTo (cx w0 mt dyn) [] ((k, .cells ⟨[.int .i64 1, .int .i64 0, .int .i64 0, .int .i64 1, .int .i64 (-1), .int .i64 0, .int .i64 0, .int .i64 (-1)]⟩ t) :: own) 3 (Addr.add (Addr.add ⟨k, 0, none⟩ (Int.toNat over * 2)) (Int.toNat (0 : Int) * 1)) (.int .i64 (stI over)) ∧
    LoadsTo (cx w0 mt dyn) [] ((k, .cells ⟨[.int .i64 1, .int .i64 0, .int .i64 0, .int .i64 1, .int .i64 (-1), .int .i64 0, .int .i64 0, .int .i64 (-1)]⟩ t) :: own) 3 (Addr.add (Addr.add ⟨k, 0, none⟩ (Int.toNat over * 2)) (Int.toNat (1 : Int) * 1)) (.int .i64 (stJ over)) := by
  rcases four_cases h with rfl | rfl | rfl | rfl <;> exact ⟨loads_own (.head _) (ld3 _ _), loads_own (.head _) (ld3 _ _)⟩
theorem p98 (side cell over : Int) : Pu 98 [.int .i64 side, .int .i64 cell, .int .i64 over] (.tuple ⟨[.int .i64 (s98 side cell over).1, .int .i64 (s98 side cell over).2]⟩) := fun W hL => d98 W side cell over (by
  refine ⟨_, _, _, _, (p120 _ _).callL hL, cond_split (fun h1 => fin_ext (by simp only [s98, h1, cond_true])) fun h1 => cond_split (fun h2 => fin_ext (by simp only [s98, h1, h2, cond_true, cond_false])) fun h2 => cond_split (fun h3 => fin_ext (by simp only [s98, h1, h2, h3, cond_true, cond_false])) fun h3 => fun k12 => ?_⟩
  have ho : 0 ≤ over ∧ over < 4 := by simp at h2 h3; omega
  have hf : 0 ≤ (s120 side cell).1 ∧ (s120 side cell).1 < 6 := by
    by_cases hc : Side side ∧ 0 ≤ cell ∧ cell < 6 * (side * side)
    · rw [s120_in hc.1 hc.2.1 hc.2.2]
      have hq := side_sq hc.1
      have hs := hc.1
      unfold Side at hs
      exact ⟨Int.ediv_nonneg hc.2.1 (by omega), Int.ediv_lt_of_lt_mul (by omega) hc.2.2⟩
    · rw [s120_out hc] at h1; cases h1
  have e98 : s98 side cell over = cond (decide (s125 side (s120 side cell).1 (IntKind.wrap .i64 ((s120 side cell).2.1 + stI over)) (IntKind.wrap .i64 ((s120 side cell).2.2.1 + stJ over)) ≥ 0))
      (s125 side (s120 side cell).1 (IntKind.wrap .i64 ((s120 side cell).2.1 + stI over)) (IntKind.wrap .i64 ((s120 side cell).2.2.1 + stJ over)), Int.tmod (IntKind.wrap .i64 (over + 2)) 4) (overE side (s120 side cell).1 (s120 side cell).2.1 (s120 side cell).2.2.1 over) := by
    simp only [s98, h1, h2, h3, cond_false]
  rw [e98]
  generalize (s120 side cell).1 = face at *
  generalize (s120 side cell).2.1 = i at *
  generalize (s120 side cell).2.2.1 = j at *
  have ht := toF_ok hf ho
  refine ⟨_, stores_agg (o := 0) (pre := []) (post := []) (vs := [.int .i64 1, .int .i64 0, .int .i64 0, .int .i64 1, .int .i64 (-1), .int .i64 0, .int .i64 0, .int .i64 (-1)]) rfl rfl (Nat.le_refl 8) rfl ⟨_, rfl, rfl⟩, ho, by decide, _, (ld_st ho).1, ho, by decide, _, (ld_st ho).2, _, (p125 _ _ _ _).callL hL, cond_split (fun h4 => ⟨by decide, fin_ext (by simp only [h4, cond_true])⟩) fun h4 => ?_⟩
  refine ⟨hf, _, _, _, _, _, _, _, _, _, ldF9 hL List.not_mem_nil hf, _, _, _, (p128 _ _ _ _ _ _ _ _ _ _).callL hL, _, (p122 _ _ _).callL hL, ht, _, _, _, _, _, _, _, _, _, ldF9 hL List.not_mem_nil ht, fun k15 => ⟨_, _, _, (p124 _ _ _ _ hf).callL hL, hf, _, _, _, _, _, _, _, _, _, ldF9 hL List.not_mem_nil hf, _, _, _, (p128 _ _ _ _ _ _ _ _ _ _).callL hL, _, _, _, (p177 _ _ _ _ _ _).callL hL, fun k16 => ⟨by decide, _, (p127 _ _ _ _ _ _).callL hL, _, (p126 _ _).callL hL, by decide, _, (p127 _ _ _ _ _ _).callL hL, _, (p126 _ _).callL hL, _, (p125 _ _ _ _).callL hL, ?_⟩⟩⟩
  rw [h4, cond_false]
  refine ⟨fun n own => ∃ r : Nat, n = 4 - (r : Int) ∧ r ≤ 4 ∧ backFrom (toF face over) face 4 = backFrom (toF face over) face r, fun n _ => (4 - n).toNat, ⟨4, rfl, Nat.le_refl _, rfl⟩, ?_⟩
  rintro n own ⟨r, rfl, hr, he⟩
  cases r with
  | zero => exact cond_split (fun h => absurd h (by decide)) fun _ => fin_ext (by simp only [overE]; rw [he]; rfl)
  | succ r =>
    refine cond_split (fun _ => ?_) fun h => absurd h (by simp; omega)
    have h5 : (4 : Int) - ((r + 1 : Nat) : Int) = 3 - (r : Int) := by omega
    rw [h5]
    refine ⟨_, _, _, (p128 _ _ _ _ _ _ _ _ _ _).callL hL, hf, by decide, _, _, _, ldF3 hL List.not_mem_nil hf, _, eq_way _ _ _ _ _ _ _ _, cond_split (fun h => ?_) fun h => ?_⟩
    · refine fin_ext ?_
      simp only [overE]
      rw [he, backFrom]
      have : ((outF (toF face over) (3 - (r : Int))).1 == fR face 0 && ((outF (toF face over) (3 - (r : Int))).2.1 == fR face 1 && (outF (toF face over) (3 - (r : Int))).2.2 == fR face 2)) = true := h
      rw [this]; rfl
    · refine ⟨⟨r, by rw [wi _ (by omega)]; omega, by omega, ?_⟩, by show (4 - IntKind.wrap .i64 _ : Int).toNat < ((4 : Int) - _).toNat; rw [wi _ (by omega)]; omega⟩
      rw [he, backFrom]
      have : ((outF (toF face over) (3 - (r : Int))).1 == fR face 0 && ((outF (toF face over) (3 - (r : Int))).2.1 == fR face 1 && (outF (toF face over) (3 - (r : Int))).2.2 == fR face 2)) = false := h
      rw [this]; rfl)


end Go.Proofs.YtnljcdplcloedaaGreatDoor
end
