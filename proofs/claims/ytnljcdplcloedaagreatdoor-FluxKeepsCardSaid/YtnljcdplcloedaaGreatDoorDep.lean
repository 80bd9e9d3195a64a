/- Walks of the comparisons of lists and of recon.Depths: each answers as a Lean function, for lists of any length that memory holds. -/
import Derived.Test.YtnljcdplcloedaaGreatDoorSea
namespace Go.Proofs.YtnljcdplcloedaaGreatDoor
open Go Go.Tn Go.RowKit
set_option linter.unusedVariables false
set_option linter.unusedSimpArgs false
set_option maxRecDepth 100000
set_option maxHeartbeats 2000000
-- tarn/tarnraw.All
def an33 : Ann := (.seq .leaf (.seq (.seq .leaf (.cond (.seq .leaf .leaf) .leaf)) (.seq (.seq .leaf (.block (.loop [(5, .one (.int .i64))] [] (.seq (.seq .leaf (.cond .leaf .leaf)) (.seq (.block (.seq (.draw [0, 1, 2, 3, 4, 5, 6, 7, 8, 9]) (.cond (.seq .leaf .leaf) .leaf))) .leaf))))) (.seq .leaf .leaf))))
noncomputable def q33 (w0 : World) (a_a : Option Addr) (a_n : Nat) (a_c : Nat) (b_a : Option Addr) (b_n : Nat) (b_c : Nat) (R : Value → World → Prop) : Prop :=
  (cond (((a_n : Nat) : Int) != ((b_n : Nat) : Int)) (Fin (cx w0 [] []) R (.bool false) []) ((∃ (I5 : Int → Own → Prop) (μ5 : Int → Own → Nat), I5 (0 : Int) [] ∧ ∀ n5 : Int, ∀ own5 : Own, I5 n5 own5 → (cond (decide (n5 < ((a_n : Nat) : Int))) ((∃ ad19 : Addr, a_a = some ad19 ∧ (0 ≤ n5 ∧ n5 < ((a_n : Nat) : Int)) ∧ (∃ x20 : Nat, LoadsTo (cx w0 [] []) [] own5 44 (Addr.add ad19 (Int.toNat n5 * 1)) (.float .f64 x20) ∧ (∃ ad23 : Addr, b_a = some ad23 ∧ (0 ≤ n5 ∧ n5 < ((b_n : Nat) : Int)) ∧ (∃ x24 : Nat, LoadsTo (cx w0 [] []) [] own5 44 (Addr.add ad23 (Int.toNat n5 * 1)) (.float .f64 x24) ∧ (∃ b25 : Bool, CallV (cx w0 [] []) [] own5 39 [.float .f64 x20, .float .f64 x24] (.bool b25) ∧ (cond (!b25) (Fin (cx w0 [] []) R (.bool false) own5) (I5 (IntKind.wrap .i64 (n5 + (1 : Int))) own5 ∧ μ5 (IntKind.wrap .i64 (n5 + (1 : Int))) own5 < μ5 n5 own5)))))))) (Fin (cx w0 [] []) R (.bool true) own5)))))
theorem q33_eq (w0 : World) (a_a : Option Addr) (a_n : Nat) (a_c : Nat) (b_a : Option Addr) (b_n : Nat) (b_c : Nat) (R : Value → World → Prop) : funT (cx w0 [] []) Tryz.f33 an33 [.slice a_a a_n a_c, .slice b_a b_n b_c] [] R = q33 w0 a_a a_n a_c b_a b_n b_c R := by kernel_rfl
theorem d33 (W : World) (a_a : Option Addr) (a_n : Nat) (a_c : Nat) (b_a : Option Addr) (b_n : Nat) (b_c : Nat) {R : Value → World → Prop} (h : q33 W a_a a_n a_c b_a b_n b_c R) : Does Tryz.prog 33 [.slice a_a a_n a_c, .slice b_a b_n b_c] W R :=
  does_of_T (fn := Tryz.f33) (x := an33) (dyn := []) (by kernel_rfl) (by kernel_rfl) (sep_self W) (Eq.mpr (q33_eq W a_a a_n a_c b_a b_n b_c R) h)

theorem p33 (a b : List Nat) (aa ab : Option Addr) (ca cb : Nat) (ha : a.length < 9223372036854775808) : On (fun W => Laid W ∧ Arr W aa (fCells a) ∧ Arr W ab (fCells b)) 33 [.slice aa a.length ca, .slice ab b.length cb] (.bool (decide (a = b))) := fun W ⟨hL, hA, hB⟩ => d33 W aa a.length ca ab b.length cb (cond_split (fun h => fin_ext (by
    have : a ≠ b := fun e => by subst e; simp at h
    rw [decide_eq_false this])) fun h => by
  have hab : a.length = b.length := by have := h; simp at this; omega
  refine ⟨fun i own => ∃ k : Nat, i = (k : Int) ∧ k ≤ a.length ∧ a.take k = b.take k ∧ own = [], fun i _ => ((a.length : Int) - i).toNat, ⟨0, rfl, Nat.zero_le _, by simp, rfl⟩, ?_⟩
  rintro i own ⟨k, rfl, hk, ht, rfl⟩
  refine cond_split (fun h => ?_) fun h => ?_
  · have hk' : k < a.length := by have := of_decide_eq_true h; omega
    obtain ⟨x, hx⟩ : ∃ x, a[k]? = some x := ⟨_, List.getElem?_eq_getElem hk'⟩
    obtain ⟨y, hy⟩ : ∃ y, b[k]? = some y := ⟨_, List.getElem?_eq_getElem (by omega)⟩
    obtain ⟨ad, had⟩ := arr_addr hA (fCells_get hx)
    obtain ⟨ad2, had2⟩ := arr_addr hB (fCells_get hy)
    have hsucc : IntKind.wrap .i64 ((k : Int) + 1) = ((k + 1 : Nat) : Int) := by rw [wi _ (by omega)]; omega
    have hmu : ((a.length : Int) - IntKind.wrap .i64 ((k : Int) + 1)).toNat < ((a.length : Int) - k).toNat := by rw [hsucc]; omega
    refine ⟨_, had, ⟨by omega, by omega⟩, x, (by rw [Nat.mul_one]; exact loads_arr hA had (fCells_get hx) ld44), _, had2, ⟨by omega, by omega⟩, y, (by rw [Nat.mul_one]; exact loads_arr hB had2 (fCells_get hy) ld44), _, (p39 _ _).callL hL, cond_split (fun h1 => fin_ext (by
      have : a ≠ b := fun e => by subst e; rw [hx] at hy; cases hy; simp [s39, s107] at h1
      rw [decide_eq_false this])) fun h1 => ⟨⟨k + 1, hsucc, hk', by rw [List.take_add_one, List.take_add_one, ht, hx, hy, show x = y by simp [s39, s107] at h1; omega], rfl⟩, hmu⟩⟩
  · have hk' : k = a.length := by have := of_decide_eq_false h; omega
    subst hk'
    refine fin_ext ?_
    rw [List.take_length, hab, List.take_length] at ht
    rw [decide_eq_true ht])


-- tarn/tarnlaw13.ints
def an45 : Ann := (.seq .leaf (.seq (.seq .leaf (.cond (.seq .leaf .leaf) .leaf)) (.seq (.seq .leaf (.block (.loop [(5, .one (.int .i64))] [] (.seq (.seq .leaf (.cond .leaf .leaf)) (.seq (.block (.seq (.draw [0, 1, 2, 3, 4, 5, 6, 7, 8]) (.cond (.seq .leaf .leaf) .leaf))) .leaf))))) (.seq .leaf .leaf))))
noncomputable def q45 (w0 : World) (a_a : Option Addr) (a_n : Nat) (a_c : Nat) (b_a : Option Addr) (b_n : Nat) (b_c : Nat) (R : Value → World → Prop) : Prop :=
  (cond (((a_n : Nat) : Int) != ((b_n : Nat) : Int)) (Fin (cx w0 [] []) R (.bool false) []) ((∃ (I5 : Int → Own → Prop) (μ5 : Int → Own → Nat), I5 (0 : Int) [] ∧ ∀ n5 : Int, ∀ own5 : Own, I5 n5 own5 → (cond (decide (n5 < ((a_n : Nat) : Int))) ((∃ ad19 : Addr, a_a = some ad19 ∧ (0 ≤ n5 ∧ n5 < ((a_n : Nat) : Int)) ∧ (∃ n20 : Int, LoadsTo (cx w0 [] []) [] own5 2 (Addr.add ad19 (Int.toNat n5 * 1)) (.int .i64 n20) ∧ (∃ ad23 : Addr, b_a = some ad23 ∧ (0 ≤ n5 ∧ n5 < ((b_n : Nat) : Int)) ∧ (∃ n24 : Int, LoadsTo (cx w0 [] []) [] own5 2 (Addr.add ad23 (Int.toNat n5 * 1)) (.int .i64 n24) ∧ (cond (n20 != n24) (Fin (cx w0 [] []) R (.bool false) own5) (I5 (IntKind.wrap .i64 (n5 + (1 : Int))) own5 ∧ μ5 (IntKind.wrap .i64 (n5 + (1 : Int))) own5 < μ5 n5 own5))))))) (Fin (cx w0 [] []) R (.bool true) own5)))))
theorem q45_eq (w0 : World) (a_a : Option Addr) (a_n : Nat) (a_c : Nat) (b_a : Option Addr) (b_n : Nat) (b_c : Nat) (R : Value → World → Prop) : funT (cx w0 [] []) Tryz.f45 an45 [.slice a_a a_n a_c, .slice b_a b_n b_c] [] R = q45 w0 a_a a_n a_c b_a b_n b_c R := by kernel_rfl
theorem d45 (W : World) (a_a : Option Addr) (a_n : Nat) (a_c : Nat) (b_a : Option Addr) (b_n : Nat) (b_c : Nat) {R : Value → World → Prop} (h : q45 W a_a a_n a_c b_a b_n b_c R) : Does Tryz.prog 45 [.slice a_a a_n a_c, .slice b_a b_n b_c] W R :=
  does_of_T (fn := Tryz.f45) (x := an45) (dyn := []) (by kernel_rfl) (by kernel_rfl) (sep_self W) (Eq.mpr (q45_eq W a_a a_n a_c b_a b_n b_c R) h)

theorem p45 (a b : List Int) (aa ab : Option Addr) (ca cb : Nat) (ha : a.length < 9223372036854775808) : On (fun W => Laid W ∧ Arr W aa (iCells a) ∧ Arr W ab (iCells b)) 45 [.slice aa a.length ca, .slice ab b.length cb] (.bool (decide (a = b))) := fun W ⟨hL, hA, hB⟩ => d45 W aa a.length ca ab b.length cb (cond_split (fun h => fin_ext (by
    have : a ≠ b := fun e => by subst e; simp at h
    rw [decide_eq_false this])) fun h => by
  have hab : a.length = b.length := by have := h; simp at this; omega
  refine ⟨fun i own => ∃ k : Nat, i = (k : Int) ∧ k ≤ a.length ∧ a.take k = b.take k ∧ own = [], fun i _ => ((a.length : Int) - i).toNat, ⟨0, rfl, Nat.zero_le _, by simp, rfl⟩, ?_⟩
  rintro i own ⟨k, rfl, hk, ht, rfl⟩
  refine cond_split (fun h => ?_) fun h => ?_
  · have hk' : k < a.length := by have := of_decide_eq_true h; omega
    obtain ⟨x, hx⟩ : ∃ x, a[k]? = some x := ⟨_, List.getElem?_eq_getElem hk'⟩
    obtain ⟨y, hy⟩ : ∃ y, b[k]? = some y := ⟨_, List.getElem?_eq_getElem (by omega)⟩
    obtain ⟨ad, had⟩ := arr_addr hA (iCells_get hx)
    obtain ⟨ad2, had2⟩ := arr_addr hB (iCells_get hy)
    have hsucc : IntKind.wrap .i64 ((k : Int) + 1) = ((k + 1 : Nat) : Int) := by rw [wi _ (by omega)]; omega
    have hmu : ((a.length : Int) - IntKind.wrap .i64 ((k : Int) + 1)).toNat < ((a.length : Int) - k).toNat := by rw [hsucc]; omega
    refine ⟨_, had, ⟨by omega, by omega⟩, x, (by rw [Nat.mul_one]; exact loads_arr hA had (iCells_get hx) ld2), _, had2, ⟨by omega, by omega⟩, y, (by rw [Nat.mul_one]; exact loads_arr hB had2 (iCells_get hy) ld2), cond_split (fun h1 => fin_ext (by
      have : a ≠ b := fun e => by subst e; rw [hx] at hy; cases hy; simp at h1
      rw [decide_eq_false this])) fun h1 => ⟨⟨k + 1, hsucc, hk', by rw [List.take_add_one, List.take_add_one, ht, hx, hy, show x = y by simpa using h1], rfl⟩, hmu⟩⟩
  · have hk' : k = a.length := by have := of_decide_eq_false h; omega
    subst hk'
    refine fin_ext ?_
    rw [List.take_length, hab, List.take_length] at ht
    rw [decide_eq_true ht])



def ok29 (g : Net) (s : SeaA) (lim : Int) : Prop := s.bed.length = g.A.length ∧ s.water.length = g.A.length ∧ s.speed.length = g.E.length ∧ s94 lim = true
def d29e (g : Net) (lim : Int) (bed : List Nat) (water : List Int) (speed : List Nat) (e : Nat) : Nat := s49 g bed water lim (e : Int) (speed.getD e 0)
def s29 (g : Net) (lim : Int) (bed : List Nat) (water : List Int) (speed : List Nat) : List Nat := (List.range g.E.length).map (d29e g lim bed water speed)

-- tarn/recon.Depths
def loc29_0 (k5 : Nat) (s_0_a : Option Addr) (s_0_n : Nat) (s_0_c : Nat) (s_1_a : Option Addr) (s_1_n : Nat) (s_1_c : Nat) (s_2_a : Option Addr) (s_2_n : Nat) (s_2_c : Nat) (s_3_a : Option Addr) (s_3_n : Nat) (s_3_c : Nat) (s_4 : Int) (s_5 : Int) : Tn.Loc := [⟨k5, 25, [.slice s_0_a s_0_n s_0_c, .slice s_1_a s_1_n s_1_c, .slice s_2_a s_2_n s_2_c, .slice s_3_a s_3_n s_3_c, .int .i64 s_4, .int .i64 s_5], []⟩]
def an29 : Ann := (.seq .leaf (.seq (.block (.seq .leaf (.cond (.seq .leaf .leaf) (.seq (.draw [0, 1, 2, 3, 4, 5, 6, 7, 8, 9, 10, 11, 12, 13, 14, 15, 16, 17, 18, 19, 20, 21, 22, 23, 24, 25, 26, 27]) (.cond (.seq .leaf .leaf) .leaf))))) (.seq .leaf (.seq (.seq .leaf (.block (.loop [(46, .one (.int .i64))] [] (.seq .leaf (.seq (.cond .leaf .leaf) (.seq (.block (.seq .leaf (.draw [0, 1, 2, 3, 4, 5, 6, 7, 8, 9, 10, 11, 12, 13]))) .leaf)))))) (.seq .leaf .leaf)))))
noncomputable def q29 (w0 : World) (g : Addr) (limiter : Int) (s_0_a : Option Addr) (s_0_n : Nat) (s_0_c : Nat) (s_1_a : Option Addr) (s_1_n : Nat) (s_1_c : Nat) (s_2_a : Option Addr) (s_2_n : Nat) (s_2_c : Nat) (s_3_a : Option Addr) (s_3_n : Nat) (s_3_c : Nat) (s_4 : Int) (s_5 : Int) (R : Value → World → Prop) : Prop :=
  (∀ k5 : Nat, (cond (Option.isNone (some g)) (Fin (cx w0 [] []) R (.tuple ⟨[.slice none 0 0, .int .i64 (2 : Int)]⟩) []) ((∃ n18 : Int, CallV (cx w0 [] []) (loc29_0 k5 s_0_a s_0_n s_0_c s_1_a s_1_n s_1_c s_2_a s_2_n s_2_c s_3_a s_3_n s_3_c s_4 s_5) [] 36 [.pointer (some g)] (.int .i64 n18) ∧ (cond (((s_0_n : Nat) : Int) != n18) (Fin (cx w0 [] []) R (.tuple ⟨[.slice none 0 0, .int .i64 (1 : Int)]⟩) []) ((∃ n25 : Int, CallV (cx w0 [] []) (loc29_0 k5 s_0_a s_0_n s_0_c s_1_a s_1_n s_1_c s_2_a s_2_n s_2_c s_3_a s_3_n s_3_c s_4 s_5) [] 36 [.pointer (some g)] (.int .i64 n25) ∧ (cond (((s_1_n : Nat) : Int) != n25) (Fin (cx w0 [] []) R (.tuple ⟨[.slice none 0 0, .int .i64 (1 : Int)]⟩) []) ((∃ n33 : Int, CallV (cx w0 [] []) (loc29_0 k5 s_0_a s_0_n s_0_c s_1_a s_1_n s_1_c s_2_a s_2_n s_2_c s_3_a s_3_n s_3_c s_4 s_5) [] 37 [.pointer (some g)] (.int .i64 n33) ∧ (cond (((s_3_n : Nat) : Int) != n33) (Fin (cx w0 [] []) R (.tuple ⟨[.slice none 0 0, .int .i64 (1 : Int)]⟩) []) ((∃ b38 : Bool, CallV (cx w0 [] []) (loc29_0 k5 s_0_a s_0_n s_0_c s_1_a s_1_n s_1_c s_2_a s_2_n s_2_c s_3_a s_3_n s_3_c s_4 s_5) [] 94 [.int .i64 limiter] (.bool b38) ∧ (cond (!b38) (Fin (cx w0 [] []) R (.tuple ⟨[.slice none 0 0, .int .i64 (1 : Int)]⟩) []) ((∃ n42 : Int, CallV (cx w0 [] []) (loc29_0 k5 s_0_a s_0_n s_0_c s_1_a s_1_n s_1_c s_2_a s_2_n s_2_c s_3_a s_3_n s_3_c s_4 s_5) [] 37 [.pointer (some g)] (.int .i64 n42) ∧ ((0 ≤ n42 ∧ n42 ≤ n42 ∧ n42 < 2 ^ 46 ∧ ((8 : Nat) : Int) * n42 ≤ 2 ^ 47) ∧ ∀ k43 : Nat, (∃ (I46 : Int → Own → Prop) (μ46 : Int → Own → Nat), I46 (0 : Int) ((k43, .cells ⟨List.replicate (Int.toNat n42) (.float .f64 0)⟩ 44) :: []) ∧ ∀ n46 : Int, ∀ own46 : Own, I46 n46 own46 → (cond (decide (n46 < ((Int.toNat n42 : Nat) : Int))) ((∃ ad58 : Addr, s_3_a = some ad58 ∧ (0 ≤ n46 ∧ n46 < ((s_3_n : Nat) : Int)) ∧ (∃ x59 : Nat, LoadsTo (cx w0 [] []) (loc29_0 k5 s_0_a s_0_n s_0_c s_1_a s_1_n s_1_c s_2_a s_2_n s_2_c s_3_a s_3_n s_3_c s_4 s_5) own46 44 (Addr.add ad58 (Int.toNat n46 * 1)) (.float .f64 x59) ∧ (∃ x60 : Nat, CallV (cx w0 [] []) (loc29_0 k5 s_0_a s_0_n s_0_c s_1_a s_1_n s_1_c s_2_a s_2_n s_2_c s_3_a s_3_n s_3_c s_4 s_5) own46 49 [.pointer (some g), .int .i64 limiter, .agg ⟨[.slice s_0_a s_0_n s_0_c, .slice s_1_a s_1_n s_1_c, .slice s_2_a s_2_n s_2_c, .slice s_3_a s_3_n s_3_c, .int .i64 s_4, .int .i64 s_5]⟩, .int .i64 n46, .float .f64 x59] (.float .f64 x60) ∧ (∃ ad61 : Addr, (some ⟨k43, 0, none⟩) = some ad61 ∧ (0 ≤ n46 ∧ n46 < ((Int.toNat n42 : Nat) : Int)) ∧ (∃ own31 : Own, StoresTo (cx w0 [] []) (loc29_0 k5 s_0_a s_0_n s_0_c s_1_a s_1_n s_1_c s_2_a s_2_n s_2_c s_3_a s_3_n s_3_c s_4 s_5) own46 44 (Addr.add ad61 (Int.toNat n46 * 1)) (.float .f64 x60) own31 ∧ I46 (IntKind.wrap .i64 (n46 + (1 : Int))) own31 ∧ μ46 (IntKind.wrap .i64 (n46 + (1 : Int))) own31 < μ46 n46 own46)))))) (Fin (cx w0 [] []) R (.tuple ⟨[.slice (some ⟨k43, 0, none⟩) (Int.toNat n42) (Int.toNat n42), .int .i64 (0 : Int)]⟩) own46))))))))))))))))))))
theorem q29_eq (w0 : World) (g : Addr) (limiter : Int) (s_0_a : Option Addr) (s_0_n : Nat) (s_0_c : Nat) (s_1_a : Option Addr) (s_1_n : Nat) (s_1_c : Nat) (s_2_a : Option Addr) (s_2_n : Nat) (s_2_c : Nat) (s_3_a : Option Addr) (s_3_n : Nat) (s_3_c : Nat) (s_4 : Int) (s_5 : Int) (R : Value → World → Prop) : funT (cx w0 [] []) Tryz.f29 an29 [.pointer (some g), .int .i64 limiter, .agg ⟨[.slice s_0_a s_0_n s_0_c, .slice s_1_a s_1_n s_1_c, .slice s_2_a s_2_n s_2_c, .slice s_3_a s_3_n s_3_c, .int .i64 s_4, .int .i64 s_5]⟩] [] R = q29 w0 g limiter s_0_a s_0_n s_0_c s_1_a s_1_n s_1_c s_2_a s_2_n s_2_c s_3_a s_3_n s_3_c s_4 s_5 R := by kernel_rfl
theorem d29 (W : World) (g : Addr) (limiter : Int) (s_0_a : Option Addr) (s_0_n : Nat) (s_0_c : Nat) (s_1_a : Option Addr) (s_1_n : Nat) (s_1_c : Nat) (s_2_a : Option Addr) (s_2_n : Nat) (s_2_c : Nat) (s_3_a : Option Addr) (s_3_n : Nat) (s_3_c : Nat) (s_4 : Int) (s_5 : Int) {R : Value → World → Prop} (h : q29 W g limiter s_0_a s_0_n s_0_c s_1_a s_1_n s_1_c s_2_a s_2_n s_2_c s_3_a s_3_n s_3_c s_4 s_5 R) : Does Tryz.prog 29 [.pointer (some g), .int .i64 limiter, .agg ⟨[.slice s_0_a s_0_n s_0_c, .slice s_1_a s_1_n s_1_c, .slice s_2_a s_2_n s_2_c, .slice s_3_a s_3_n s_3_c, .int .i64 s_4, .int .i64 s_5]⟩] W R :=
  does_of_T (fn := Tryz.f29) (x := an29) (dyn := []) (by kernel_rfl) (by kernel_rfl) (sep_self W) (Eq.mpr (q29_eq W g limiter s_0_a s_0_n s_0_c s_1_a s_1_n s_1_c s_2_a s_2_n s_2_c s_3_a s_3_n s_3_c s_4 s_5 R) h)

theorem p29 (p : Addr) (g : Net) (lim : Int) (s : SeaA) : NewP (LS p g s) 29 [.pointer (some p), .int .i64 lim, s.v] fun v X' =>
    (ok29 g s lim ∧ ∃ k, v = .tuple ⟨[.slice (some ⟨k, 0, none⟩) g.E.length g.E.length, .int .i64 0]⟩ ∧ X' = [(k, .cells ⟨fCells (s29 g lim s.bed s.water s.speed)⟩ 44)]) ∨ (¬ ok29 g s lim ∧ v = .tuple ⟨[.slice none 0 0, .int .i64 1]⟩ ∧ X' = []) := by
  intro W hLS
  have hL := hLS.1.1
  have hLG := hLS.1
  have hS := hLS.2
  refine d29 W p lim s.ba s.bed.length s.bc s.wa s.water.length s.wc s.ta s.tracer.length s.tc s.ua s.speed.length s.uc s.sky s.step fun k5 => cond_split (fun h => by cases h) fun _ => ?_
  have bad : ¬ ok29 g s lim → Fin (cx W [] []) (fun v' W' => ∃ X', ((ok29 g s lim ∧ ∃ k, v' = .tuple ⟨[.slice (some ⟨k, 0, none⟩) g.E.length g.E.length, .int .i64 0]⟩ ∧ X' = [(k, .cells ⟨fCells (s29 g lim s.bed s.water s.speed)⟩ 44)]) ∨ (¬ ok29 g s lim ∧ v' = .tuple ⟨[.slice none 0 0, .int .i64 1]⟩ ∧ X' = [])) ∧ Sep W [] X' W') (.tuple ⟨[.slice none 0 0, .int .i64 1]⟩) [] := fun hn W' hS' => ⟨[], .inr ⟨hn, rfl, rfl⟩, hS'⟩
  have nq : ∀ {a b : Nat}, (((a : Nat) : Int) != (b : Int)) = true → a ≠ b := fun h e => by subst e; simp at h
  have yq : ∀ {a b : Nat}, (((a : Nat) : Int) != (b : Int)) = false → a = b := fun h => by have := h; simp at this; omega
  refine ⟨_, (p36 p g).callG hLG, cond_split (fun h => bad fun h' => nq h h'.1) fun h0 => ⟨_, (p36 p g).callG hLG, cond_split (fun h => bad fun h' => nq h h'.2.1) fun h1 => ⟨_, (p37 p g).callG hLG, cond_split (fun h => bad fun h' => nq h h'.2.2.1) fun h3 => ⟨_, (p94 _).callL hL, cond_split (fun h => bad fun h' => by rw [h'.2.2.2] at h; cases h) fun h4 => ⟨_, (p37 p g).callG hLG, ?_⟩⟩⟩⟩⟩
  have hok : ok29 g s lim := ⟨yq h0, yq h1, yq h3, by simpa using h4⟩
  have hel := hLG.2.ok.el
  refine ⟨⟨by omega, by omega, by omega, by omega⟩, fun k45 => ?_⟩
  refine ⟨fun i own => ∃ k : Nat, i = (k : Int) ∧ k ≤ g.E.length ∧ own = [(k45, .cells ⟨fCells ((List.range k).map (d29e g lim s.bed s.water s.speed)) ++ List.replicate (g.E.length - k) (.float .f64 0)⟩ 44)], fun i _ => ((g.E.length : Int) - i).toNat, ⟨0, rfl, Nat.zero_le _, rfl⟩, ?_⟩
  rintro i own ⟨k, rfl, hk, rfl⟩
  refine cond_split (fun h => ?_) fun h => ?_
  · have hk' : k < g.E.length := by have := of_decide_eq_true h; omega
    have hks : k < s.speed.length := by rw [hok.2.2.1]; exact hk'
    obtain ⟨x, hx⟩ : ∃ x, s.speed[k]? = some x := ⟨_, List.getElem?_eq_getElem hks⟩
    obtain ⟨ad, had⟩ := arr_addr hS.2.2.2 (fCells_get hx)
    obtain ⟨m, hm⟩ : ∃ m, g.E.length - k = m + 1 := ⟨g.E.length - k - 1, by omega⟩
    refine ⟨_, had, ⟨by omega, by omega⟩, x, (by rw [Nat.mul_one]; exact loads_arr hS.2.2.2 had (fCells_get hx) ld44), _, (p49 p g s lim k x).callS hLS, _, rfl, ⟨by omega, by omega⟩, _, stores_fill (pre := []) (post := []) (m := m) (A := fCells ((List.range k).map (d29e g lim s.bed s.water s.speed))) (z := .float .f64 0) (ty := 44) (by rw [hm]; rfl) (by simp [fCells]) rfl rfl ⟨_, rfl, rfl⟩, ⟨k + 1, wrap_succ (by omega), hk', ?_⟩, mu_lt hk' hel⟩
    rw [map_range_succ, show g.E.length - (k + 1) = m by omega]
    simp [fCells, d29e, hx]
  · have hk' : k = g.E.length := by have := of_decide_eq_false h; omega
    subst hk'
    refine fun W' hS' => ⟨_, .inl ⟨hok, k45, rfl, rfl⟩, ?_⟩
    rw [Nat.sub_self, List.replicate_zero, List.append_nil] at hS'
    exact hS'


end Go.Proofs.YtnljcdplcloedaaGreatDoor
