/- Walks of the bits and number functions: each is shown to return the value of a Lean function, for every argument. -/
import Derived.Test.YtnljcdplcloedaaGreatDoorMem
section
namespace Go.Proofs.YtnljcdplcloedaaGreatDoor
open Go Go.Tn Go.RowKit
set_option linter.unusedVariables false
set_option linter.unusedSimpArgs false
set_option maxRecDepth 100000
-- tarn/bits.quiet
def an199 : Ann := (.seq .leaf (.seq .leaf .leaf))
noncomputable def q199 (w0 : World)  (R : Value → World → Prop) : Prop :=
  (∃ x1 : Nat, CallV (cx w0 [] []) [] [] 119 [.int .u64 (9221120237041090561 : Int)] (.float .f64 x1) ∧ Fin (cx w0 [] []) R (.float .f64 x1) [])
theorem q199_eq (w0 : World)  (R : Value → World → Prop) : funT (cx w0 [] []) Tryz.f199 an199 [] [] R = q199 w0  R := by kernel_rfl
theorem d199 (W : World)  {R : Value → World → Prop} (h : q199 W  R) : Does Tryz.prog 199 [] W R :=
  does_of_T (fn := Tryz.f199) (x := an199) (dyn := []) (by kernel_rfl) (by kernel_rfl) (sep_self W) (Eq.mpr (q199_eq W  R) h)
def s199  : Nat := (s119 (9221120237041090561 : Int))
theorem p199  : Pu 199 [] (.float .f64 s199) := fun W hL => d199 W  (⟨_, (p119 _).callL hL, fin_ext (by first | (unfold s199; simp only [cond_true, cond_false]; done) | (exfalso; simp_all; done) | (unfold s199; simp [cond_true, cond_false]; done))⟩)

-- tarn/bits.Canon
def an146 : Ann := (.seq .leaf (.seq (.block (.seq .leaf (.cond (.seq .leaf .leaf) (.seq .leaf (.cond (.seq .leaf .leaf) .leaf))))) (.seq .leaf .leaf)))
noncomputable def q146 (w0 : World) (x : Nat) (R : Value → World → Prop) : Prop :=
  (cond (f64.order x x != some .eq) ((∃ x7 : Nat, CallV (cx w0 [] []) [] [] 199 [] (.float .f64 x7) ∧ Fin (cx w0 [] []) R (.float .f64 x7) [])) ((cond (f64.order x 0 == some .eq) (Fin (cx w0 [] []) R (.float .f64 0) []) (Fin (cx w0 [] []) R (.float .f64 x) []))))
theorem q146_eq (w0 : World) (x : Nat) (R : Value → World → Prop) : funT (cx w0 [] []) Tryz.f146 an146 [.float .f64 x] [] R = q146 w0 x R := by kernel_rfl
theorem d146 (W : World) (x : Nat) {R : Value → World → Prop} (h : q146 W x R) : Does Tryz.prog 146 [.float .f64 x] W R :=
  does_of_T (fn := Tryz.f146) (x := an146) (dyn := []) (by kernel_rfl) (by kernel_rfl) (sep_self W) (Eq.mpr (q146_eq W x R) h)
def s146 (x : Nat) : Nat := (cond (f64.order x x != some .eq) s199 (cond (f64.order x 0 == some .eq) 0 x))
theorem p146 (x : Nat) : Pu 146 [.float .f64 x] (.float .f64 (s146 x)) := fun W hL => d146 W x (cond_split (fun h2 => ⟨_, (p199).callL hL, fin_ext (by first | (unfold s146; simp only [h2, cond_true, cond_false]; done) | (exfalso; simp_all; done) | (unfold s146; simp [h2, cond_true, cond_false]; done))⟩) (fun h2 => cond_split (fun h1 => fin_ext (by first | (unfold s146; simp only [h1, h2, cond_true, cond_false]; done) | (exfalso; simp_all; done) | (unfold s146; simp [h1, h2, cond_true, cond_false]; done))) (fun h1 => fin_ext (by first | (unfold s146; simp only [h1, h2, cond_true, cond_false]; done) | (exfalso; simp_all; done) | (unfold s146; simp [h1, h2, cond_true, cond_false]; done)))))
theorem c146_0 {o : Option Nat} {r : Nat} (h : FRes o r) : s146 r = s146 (fr o) := by
  rcases fres_cases h with e | ⟨⟨s, t, e⟩, ⟨s', t', e'⟩⟩
  · rw [← e]
  · have e1 : f64.order r r = none := by simp [Ieee.Format.order, e, Ieee.Datum.order]
    have e2 : f64.order (fr o) (fr o) = none := by simp [Ieee.Format.order, e', Ieee.Datum.order]
    have e3 : ((none : Option Ordering) != some .eq) = true := rfl
    simp only [s146, e1, e2, e3, cond_true]

-- cmp.isNaN[uint64]
def an283 : Ann := (.seq .leaf (.seq .leaf .leaf))
noncomputable def q283 (w0 : World) (x : Int) (R : Value → World → Prop) : Prop :=
  Fin (cx w0 [] []) R (.bool (x != x)) []
theorem q283_eq (w0 : World) (x : Int) (R : Value → World → Prop) : funT (cx w0 [] []) Tryz.f283 an283 [.int .u64 x] [] R = q283 w0 x R := by kernel_rfl
theorem d283 (W : World) (x : Int) {R : Value → World → Prop} (h : q283 W x R) : Does Tryz.prog 283 [.int .u64 x] W R :=
  does_of_T (fn := Tryz.f283) (x := an283) (dyn := []) (by kernel_rfl) (by kernel_rfl) (sep_self W) (Eq.mpr (q283_eq W x R) h)
def s283 (x : Int) : Bool := (x != x)
theorem p283 (x : Int) : Pu 283 [.int .u64 x] (.bool (s283 x)) := fun W hL => d283 W x (fin_ext (by first | (unfold s283; simp only [cond_true, cond_false]; done) | (exfalso; simp_all; done) | (unfold s283; simp [cond_true, cond_false]; done)))

-- cmp.Compare[uint64]
def an254 : Ann := (.seq .leaf (.seq .leaf (.seq .leaf (.seq (.seq .leaf (.cond (.seq (.seq .leaf (.cond (.seq .leaf .leaf) .leaf)) (.seq .leaf .leaf)) .leaf)) (.seq (.seq .leaf (.cond (.seq .leaf .leaf) .leaf)) (.seq (.seq .leaf (.cond (.seq .leaf .leaf) .leaf)) (.seq (.seq .leaf (.cond (.seq .leaf .leaf) .leaf)) (.seq .leaf .leaf))))))))
noncomputable def q254 (w0 : World) (x : Int) (y : Int) (R : Value → World → Prop) : Prop :=
  (∃ b8 : Bool, CallV (cx w0 [] []) [] [] 283 [.int .u64 x] (.bool b8) ∧ (∃ b10 : Bool, CallV (cx w0 [] []) [] [] 283 [.int .u64 y] (.bool b10) ∧ (cond b8 ((cond b10 (Fin (cx w0 [] []) R (.int .i64 (0 : Int)) []) (Fin (cx w0 [] []) R (.int .i64 ((-1) : Int)) []))) ((cond b10 (Fin (cx w0 [] []) R (.int .i64 (1 : Int)) []) ((cond (decide (x < y)) (Fin (cx w0 [] []) R (.int .i64 ((-1) : Int)) []) ((cond (decide (x > y)) (Fin (cx w0 [] []) R (.int .i64 (1 : Int)) []) (Fin (cx w0 [] []) R (.int .i64 (0 : Int)) []))))))))))
theorem q254_eq (w0 : World) (x : Int) (y : Int) (R : Value → World → Prop) : funT (cx w0 [] []) Tryz.f254 an254 [.int .u64 x, .int .u64 y] [] R = q254 w0 x y R := by kernel_rfl
theorem d254 (W : World) (x : Int) (y : Int) {R : Value → World → Prop} (h : q254 W x y R) : Does Tryz.prog 254 [.int .u64 x, .int .u64 y] W R :=
  does_of_T (fn := Tryz.f254) (x := an254) (dyn := []) (by kernel_rfl) (by kernel_rfl) (sep_self W) (Eq.mpr (q254_eq W x y R) h)
def s254 (x : Int) (y : Int) : Int := (cond (s283 x) (cond (s283 y) (0 : Int) ((-1) : Int)) (cond (s283 y) (1 : Int) (cond (decide (x < y)) ((-1) : Int) (cond (decide (x > y)) (1 : Int) (0 : Int)))))
theorem p254 (x : Int) (y : Int) : Pu 254 [.int .u64 x, .int .u64 y] (.int .i64 (s254 x y)) := fun W hL => d254 W x y (⟨_, (p283 _).callL hL, ⟨_, (p283 _).callL hL, cond_split (fun h5 => cond_split (fun h1 => fin_ext (by first | (unfold s254; simp only [h1, h5, cond_true, cond_false]; done) | (exfalso; simp_all; done) | (unfold s254; simp [h1, h5, cond_true, cond_false]; done))) (fun h1 => fin_ext (by first | (unfold s254; simp only [h1, h5, cond_true, cond_false]; done) | (exfalso; simp_all; done) | (unfold s254; simp [h1, h5, cond_true, cond_false]; done)))) (fun h5 => cond_split (fun h4 => fin_ext (by first | (unfold s254; simp only [h4, h5, cond_true, cond_false]; done) | (exfalso; simp_all; done) | (unfold s254; simp [h4, h5, cond_true, cond_false]; done))) (fun h4 => cond_split (fun h3 => fin_ext (by first | (unfold s254; simp only [h3, h4, h5, cond_true, cond_false]; done) | (exfalso; simp_all; done) | (unfold s254; simp [h3, h4, h5, cond_true, cond_false]; done))) (fun h3 => cond_split (fun h2 => fin_ext (by first | (unfold s254; simp only [h2, h3, h4, h5, cond_true, cond_false]; done) | (exfalso; simp_all; done) | (unfold s254; simp [h2, h3, h4, h5, cond_true, cond_false]; done))) (fun h2 => fin_ext (by first | (unfold s254; simp only [h2, h3, h4, h5, cond_true, cond_false]; done) | (exfalso; simp_all; done) | (unfold s254; simp [h2, h3, h4, h5, cond_true, cond_false]; done))))))⟩⟩)

-- tarn/bits.place
def an255 : Ann := (.seq .leaf (.seq .leaf (.seq (.seq .leaf (.cond (.seq .leaf .leaf) .leaf)) (.seq .leaf .leaf))))
noncomputable def q255 (w0 : World) (x : Nat) (R : Value → World → Prop) : Prop :=
  (∃ n5 : Int, CallV (cx w0 [] []) [] [] 107 [.float .f64 x] (.int .u64 n5) ∧ (cond (decide (n5 ≥ (9223372036854775808 : Int))) (Fin (cx w0 [] []) R (.int .u64 (bitsI .xor .u64 (cond (IntKind.signed .u64) (-1) (IntKind.max .u64)) n5)) []) (Fin (cx w0 [] []) R (.int .u64 (bitsI .or .u64 n5 (9223372036854775808 : Int))) [])))
theorem q255_eq (w0 : World) (x : Nat) (R : Value → World → Prop) : funT (cx w0 [] []) Tryz.f255 an255 [.float .f64 x] [] R = q255 w0 x R := by kernel_rfl
theorem d255 (W : World) (x : Nat) {R : Value → World → Prop} (h : q255 W x R) : Does Tryz.prog 255 [.float .f64 x] W R :=
  does_of_T (fn := Tryz.f255) (x := an255) (dyn := []) (by kernel_rfl) (by kernel_rfl) (sep_self W) (Eq.mpr (q255_eq W x R) h)
def s255 (x : Nat) : Int := (cond (decide ((s107 x) ≥ (9223372036854775808 : Int))) (bitsI .xor .u64 (cond (IntKind.signed .u64) (-1) (IntKind.max .u64)) (s107 x)) (bitsI .or .u64 (s107 x) (9223372036854775808 : Int)))
theorem p255 (x : Nat) : Pu 255 [.float .f64 x] (.int .u64 (s255 x)) := fun W hL => d255 W x (⟨_, (p107 _).callL hL, cond_split (fun h1 => fin_ext (by first | (unfold s255; simp only [h1, cond_true, cond_false]; done) | (exfalso; simp_all; done) | (unfold s255; simp [h1, cond_true, cond_false]; done))) (fun h1 => fin_ext (by first | (unfold s255; simp only [h1, cond_true, cond_false]; done) | (exfalso; simp_all; done) | (unfold s255; simp [h1, cond_true, cond_false]; done)))⟩)

-- tarn/bits.Order
def an200 : Ann := (.seq .leaf (.seq .leaf .leaf))
noncomputable def q200 (w0 : World) (a : Nat) (b : Nat) (R : Value → World → Prop) : Prop :=
  (∃ n6 : Int, CallV (cx w0 [] []) [] [] 255 [.float .f64 a] (.int .u64 n6) ∧ (∃ n8 : Int, CallV (cx w0 [] []) [] [] 255 [.float .f64 b] (.int .u64 n8) ∧ (∃ n9 : Int, CallV (cx w0 [] []) [] [] 254 [.int .u64 n6, .int .u64 n8] (.int .i64 n9) ∧ Fin (cx w0 [] []) R (.int .i64 n9) [])))
theorem q200_eq (w0 : World) (a : Nat) (b : Nat) (R : Value → World → Prop) : funT (cx w0 [] []) Tryz.f200 an200 [.float .f64 a, .float .f64 b] [] R = q200 w0 a b R := by kernel_rfl
theorem d200 (W : World) (a : Nat) (b : Nat) {R : Value → World → Prop} (h : q200 W a b R) : Does Tryz.prog 200 [.float .f64 a, .float .f64 b] W R :=
  does_of_T (fn := Tryz.f200) (x := an200) (dyn := []) (by kernel_rfl) (by kernel_rfl) (sep_self W) (Eq.mpr (q200_eq W a b R) h)
def s200 (a : Nat) (b : Nat) : Int := (s254 (s255 a) (s255 b))
theorem p200 (a : Nat) (b : Nat) : Pu 200 [.float .f64 a, .float .f64 b] (.int .i64 (s200 a b)) := fun W hL => d200 W a b (⟨_, (p255 _).callL hL, ⟨_, (p255 _).callL hL, ⟨_, (p254 _ _).callL hL, fin_ext (by first | (unfold s200; simp only [cond_true, cond_false]; done) | (exfalso; simp_all; done) | (unfold s200; simp [cond_true, cond_false]; done))⟩⟩⟩)

-- tarn/bits.Max
def an117 : Ann := (.seq .leaf (.seq (.seq .leaf (.cond (.seq .leaf .leaf) .leaf)) (.seq (.seq .leaf (.cond (.seq .leaf .leaf) .leaf)) (.seq .leaf .leaf))))
noncomputable def q117 (w0 : World) (a : Nat) (b : Nat) (R : Value → World → Prop) : Prop :=
  (cond (f64.order a a != some .eq) ((∃ x13 : Nat, CallV (cx w0 [] []) [] [] 199 [] (.float .f64 x13) ∧ Fin (cx w0 [] []) R (.float .f64 x13) [])) ((cond (f64.order b b != some .eq) ((∃ x13 : Nat, CallV (cx w0 [] []) [] [] 199 [] (.float .f64 x13) ∧ Fin (cx w0 [] []) R (.float .f64 x13) [])) ((∃ n16 : Int, CallV (cx w0 [] []) [] [] 200 [.float .f64 a, .float .f64 b] (.int .i64 n16) ∧ (cond (decide (n16 < (0 : Int))) (Fin (cx w0 [] []) R (.float .f64 b) []) (Fin (cx w0 [] []) R (.float .f64 a) [])))))))
theorem q117_eq (w0 : World) (a : Nat) (b : Nat) (R : Value → World → Prop) : funT (cx w0 [] []) Tryz.f117 an117 [.float .f64 a, .float .f64 b] [] R = q117 w0 a b R := by kernel_rfl
theorem d117 (W : World) (a : Nat) (b : Nat) {R : Value → World → Prop} (h : q117 W a b R) : Does Tryz.prog 117 [.float .f64 a, .float .f64 b] W R :=
  does_of_T (fn := Tryz.f117) (x := an117) (dyn := []) (by kernel_rfl) (by kernel_rfl) (sep_self W) (Eq.mpr (q117_eq W a b R) h)
def s117 (a : Nat) (b : Nat) : Nat := (cond (f64.order a a != some .eq) s199 (cond (f64.order b b != some .eq) s199 (cond (decide ((s200 a b) < (0 : Int))) b a)))
theorem p117 (a : Nat) (b : Nat) : Pu 117 [.float .f64 a, .float .f64 b] (.float .f64 (s117 a b)) := fun W hL => d117 W a b (cond_split (fun h3 => ⟨_, (p199).callL hL, fin_ext (by first | (unfold s117; simp only [h3, cond_true, cond_false]; done) | (exfalso; simp_all; done) | (unfold s117; simp [h3, cond_true, cond_false]; done))⟩) (fun h3 => cond_split (fun h2 => ⟨_, (p199).callL hL, fin_ext (by first | (unfold s117; simp only [h2, h3, cond_true, cond_false]; done) | (exfalso; simp_all; done) | (unfold s117; simp [h2, h3, cond_true, cond_false]; done))⟩) (fun h2 => ⟨_, (p200 _ _).callL hL, cond_split (fun h1 => fin_ext (by first | (unfold s117; simp only [h1, h2, h3, cond_true, cond_false]; done) | (exfalso; simp_all; done) | (unfold s117; simp [h1, h2, h3, cond_true, cond_false]; done))) (fun h1 => fin_ext (by first | (unfold s117; simp only [h1, h2, h3, cond_true, cond_false]; done) | (exfalso; simp_all; done) | (unfold s117; simp [h1, h2, h3, cond_true, cond_false]; done)))⟩)))

-- tarn/bits.Min
def an118 : Ann := (.seq .leaf (.seq (.seq .leaf (.cond (.seq .leaf .leaf) .leaf)) (.seq (.seq .leaf (.cond (.seq .leaf .leaf) .leaf)) (.seq .leaf .leaf))))
noncomputable def q118 (w0 : World) (a : Nat) (b : Nat) (R : Value → World → Prop) : Prop :=
  (cond (f64.order a a != some .eq) ((∃ x13 : Nat, CallV (cx w0 [] []) [] [] 199 [] (.float .f64 x13) ∧ Fin (cx w0 [] []) R (.float .f64 x13) [])) ((cond (f64.order b b != some .eq) ((∃ x13 : Nat, CallV (cx w0 [] []) [] [] 199 [] (.float .f64 x13) ∧ Fin (cx w0 [] []) R (.float .f64 x13) [])) ((∃ n16 : Int, CallV (cx w0 [] []) [] [] 200 [.float .f64 a, .float .f64 b] (.int .i64 n16) ∧ (cond (decide (n16 > (0 : Int))) (Fin (cx w0 [] []) R (.float .f64 b) []) (Fin (cx w0 [] []) R (.float .f64 a) [])))))))
theorem q118_eq (w0 : World) (a : Nat) (b : Nat) (R : Value → World → Prop) : funT (cx w0 [] []) Tryz.f118 an118 [.float .f64 a, .float .f64 b] [] R = q118 w0 a b R := by kernel_rfl
theorem d118 (W : World) (a : Nat) (b : Nat) {R : Value → World → Prop} (h : q118 W a b R) : Does Tryz.prog 118 [.float .f64 a, .float .f64 b] W R :=
  does_of_T (fn := Tryz.f118) (x := an118) (dyn := []) (by kernel_rfl) (by kernel_rfl) (sep_self W) (Eq.mpr (q118_eq W a b R) h)
def s118 (a : Nat) (b : Nat) : Nat := (cond (f64.order a a != some .eq) s199 (cond (f64.order b b != some .eq) s199 (cond (decide ((s200 a b) > (0 : Int))) b a)))
theorem p118 (a : Nat) (b : Nat) : Pu 118 [.float .f64 a, .float .f64 b] (.float .f64 (s118 a b)) := fun W hL => d118 W a b (cond_split (fun h3 => ⟨_, (p199).callL hL, fin_ext (by first | (unfold s118; simp only [h3, cond_true, cond_false]; done) | (exfalso; simp_all; done) | (unfold s118; simp [h3, cond_true, cond_false]; done))⟩) (fun h3 => cond_split (fun h2 => ⟨_, (p199).callL hL, fin_ext (by first | (unfold s118; simp only [h2, h3, cond_true, cond_false]; done) | (exfalso; simp_all; done) | (unfold s118; simp [h2, h3, cond_true, cond_false]; done))⟩) (fun h2 => ⟨_, (p200 _ _).callL hL, cond_split (fun h1 => fin_ext (by first | (unfold s118; simp only [h1, h2, h3, cond_true, cond_false]; done) | (exfalso; simp_all; done) | (unfold s118; simp [h1, h2, h3, cond_true, cond_false]; done))) (fun h1 => fin_ext (by first | (unfold s118; simp only [h1, h2, h3, cond_true, cond_false]; done) | (exfalso; simp_all; done) | (unfold s118; simp [h1, h2, h3, cond_true, cond_false]; done)))⟩)))

-- tarn/vec.canon
def loc273_0 (k6 : Nat) : Tn.Loc := [⟨k6, 198, [.float .f64 0, .float .f64 0, .float .f64 0], []⟩]
def an273 : Ann := (.seq .leaf (.seq .leaf .leaf))
noncomputable def q273 (w0 : World) (x : Nat) (y : Nat) (z : Nat) (R : Value → World → Prop) : Prop :=
  (∀ k6 : Nat, (∃ x8 : Nat, CallV (cx w0 [] []) (loc273_0 k6) [] 146 [.float .f64 x] (.float .f64 x8) ∧ (∃ x10 : Nat, CallV (cx w0 [] []) (loc273_0 k6) [] 146 [.float .f64 y] (.float .f64 x10) ∧ (∃ x12 : Nat, CallV (cx w0 [] []) (loc273_0 k6) [] 146 [.float .f64 z] (.float .f64 x12) ∧ Fin (cx w0 [] []) R (.agg ⟨[.float .f64 x8, .float .f64 x10, .float .f64 x12]⟩) []))))
theorem q273_eq (w0 : World) (x : Nat) (y : Nat) (z : Nat) (R : Value → World → Prop) : funT (cx w0 [] []) Tryz.f273 an273 [.float .f64 x, .float .f64 y, .float .f64 z] [] R = q273 w0 x y z R := by kernel_rfl
theorem d273 (W : World) (x : Nat) (y : Nat) (z : Nat) {R : Value → World → Prop} (h : q273 W x y z R) : Does Tryz.prog 273 [.float .f64 x, .float .f64 y, .float .f64 z] W R :=
  does_of_T (fn := Tryz.f273) (x := an273) (dyn := []) (by kernel_rfl) (by kernel_rfl) (sep_self W) (Eq.mpr (q273_eq W x y z R) h)
def s273 (x : Nat) (y : Nat) (z : Nat) : Nat × Nat × Nat := ((s146 x), (s146 y), (s146 z))
theorem p273 (x : Nat) (y : Nat) (z : Nat) : Pu 273 [.float .f64 x, .float .f64 y, .float .f64 z] (.agg ⟨[.float .f64 ((s273 x y z).1), .float .f64 ((s273 x y z).2.1), .float .f64 ((s273 x y z).2.2)]⟩) := fun W hL => d273 W x y z (fun k6 => ⟨_, (p146 _).callL hL, ⟨_, (p146 _).callL hL, ⟨_, (p146 _).callL hL, fin_ext (by first | (unfold s273; simp only [cond_true, cond_false]; done) | (exfalso; simp_all; done) | (unfold s273; simp [cond_true, cond_false]; done))⟩⟩⟩)
theorem c273_0 {o : Option Nat} {r : Nat} (h : FRes o r) (x y : Nat) : s273 r x y = s273 (fr o) x y := by unfold s273; rw [c146_0 h]
theorem c273_1 {o : Option Nat} {r : Nat} (h : FRes o r) (x y : Nat) : s273 x r y = s273 x (fr o) y := by unfold s273; rw [c146_0 h]
theorem c273_2 {o : Option Nat} {r : Nat} (h : FRes o r) (x y : Nat) : s273 x y r = s273 x y (fr o) := by unfold s273; rw [c146_0 h]

-- tarn/tarnraw.From
def an52 : Ann := (.seq .leaf (.seq .leaf .leaf))
noncomputable def q52 (w0 : World) (b : Int) (R : Value → World → Prop) : Prop :=
  (∃ x4 : Nat, CallV (cx w0 [] []) [] [] 119 [.int .u64 b] (.float .f64 x4) ∧ Fin (cx w0 [] []) R (.float .f64 x4) [])
theorem q52_eq (w0 : World) (b : Int) (R : Value → World → Prop) : funT (cx w0 [] []) Tryz.f52 an52 [.int .u64 b] [] R = q52 w0 b R := by kernel_rfl
theorem d52 (W : World) (b : Int) {R : Value → World → Prop} (h : q52 W b R) : Does Tryz.prog 52 [.int .u64 b] W R :=
  does_of_T (fn := Tryz.f52) (x := an52) (dyn := []) (by kernel_rfl) (by kernel_rfl) (sep_self W) (Eq.mpr (q52_eq W b R) h)
def s52 (b : Int) : Nat := (s119 b)
theorem p52 (b : Int) : Pu 52 [.int .u64 b] (.float .f64 (s52 b)) := fun W hL => d52 W b (⟨_, (p119 _).callL hL, fin_ext (by first | (unfold s52; simp only [cond_true, cond_false]; done) | (exfalso; simp_all; done) | (unfold s52; simp [cond_true, cond_false]; done))⟩)

-- tarn/tarnraw.Bits
def an70 : Ann := (.seq .leaf (.seq .leaf .leaf))
noncomputable def q70 (w0 : World) (x : Nat) (R : Value → World → Prop) : Prop :=
  (∃ n4 : Int, CallV (cx w0 [] []) [] [] 107 [.float .f64 x] (.int .u64 n4) ∧ Fin (cx w0 [] []) R (.int .u64 n4) [])
theorem q70_eq (w0 : World) (x : Nat) (R : Value → World → Prop) : funT (cx w0 [] []) Tryz.f70 an70 [.float .f64 x] [] R = q70 w0 x R := by kernel_rfl
theorem d70 (W : World) (x : Nat) {R : Value → World → Prop} (h : q70 W x R) : Does Tryz.prog 70 [.float .f64 x] W R :=
  does_of_T (fn := Tryz.f70) (x := an70) (dyn := []) (by kernel_rfl) (by kernel_rfl) (sep_self W) (Eq.mpr (q70_eq W x R) h)
def s70 (x : Nat) : Int := (s107 x)
theorem p70 (x : Nat) : Pu 70 [.float .f64 x] (.int .u64 (s70 x)) := fun W hL => d70 W x (⟨_, (p107 _).callL hL, fin_ext (by first | (unfold s70; simp only [cond_true, cond_false]; done) | (exfalso; simp_all; done) | (unfold s70; simp [cond_true, cond_false]; done))⟩)

-- tarn/tarnraw.Same
def an39 : Ann := (.seq .leaf (.seq .leaf .leaf))
noncomputable def q39 (w0 : World) (a : Nat) (b : Nat) (R : Value → World → Prop) : Prop :=
  (∃ n6 : Int, CallV (cx w0 [] []) [] [] 107 [.float .f64 a] (.int .u64 n6) ∧ (∃ n8 : Int, CallV (cx w0 [] []) [] [] 107 [.float .f64 b] (.int .u64 n8) ∧ Fin (cx w0 [] []) R (.bool (n6 == n8)) []))
theorem q39_eq (w0 : World) (a : Nat) (b : Nat) (R : Value → World → Prop) : funT (cx w0 [] []) Tryz.f39 an39 [.float .f64 a, .float .f64 b] [] R = q39 w0 a b R := by kernel_rfl
theorem d39 (W : World) (a : Nat) (b : Nat) {R : Value → World → Prop} (h : q39 W a b R) : Does Tryz.prog 39 [.float .f64 a, .float .f64 b] W R :=
  does_of_T (fn := Tryz.f39) (x := an39) (dyn := []) (by kernel_rfl) (by kernel_rfl) (sep_self W) (Eq.mpr (q39_eq W a b R) h)
def s39 (a : Nat) (b : Nat) : Bool := ((s107 a) == (s107 b))
theorem p39 (a : Nat) (b : Nat) : Pu 39 [.float .f64 a, .float .f64 b] (.bool (s39 a b)) := fun W hL => d39 W a b (⟨_, (p107 _).callL hL, ⟨_, (p107 _).callL hL, fin_ext (by first | (unfold s39; simp only [cond_true, cond_false]; done) | (exfalso; simp_all; done) | (unfold s39; simp [cond_true, cond_false]; done))⟩⟩)

-- tarn/tarnref01.Quiet
def an214 : Ann := (.seq .leaf (.seq .leaf .leaf))
noncomputable def q214 (w0 : World)  (R : Value → World → Prop) : Prop :=
  (∃ x1 : Nat, CallV (cx w0 [] []) [] [] 52 [.int .u64 (9221120237041090561 : Int)] (.float .f64 x1) ∧ Fin (cx w0 [] []) R (.float .f64 x1) [])
theorem q214_eq (w0 : World)  (R : Value → World → Prop) : funT (cx w0 [] []) Tryz.f214 an214 [] [] R = q214 w0  R := by kernel_rfl
theorem d214 (W : World)  {R : Value → World → Prop} (h : q214 W  R) : Does Tryz.prog 214 [] W R :=
  does_of_T (fn := Tryz.f214) (x := an214) (dyn := []) (by kernel_rfl) (by kernel_rfl) (sep_self W) (Eq.mpr (q214_eq W  R) h)
def s214  : Nat := (s52 (9221120237041090561 : Int))
theorem p214  : Pu 214 [] (.float .f64 s214) := fun W hL => d214 W  (⟨_, (p52 _).callL hL, fin_ext (by first | (unfold s214; simp only [cond_true, cond_false]; done) | (exfalso; simp_all; done) | (unfold s214; simp [cond_true, cond_false]; done))⟩)

-- tarn/tarnref01.Mag
def an215 : Ann := (.seq .leaf (.seq .leaf .leaf))
noncomputable def q215 (w0 : World) (x : Nat) (R : Value → World → Prop) : Prop :=
  (∃ n4 : Int, CallV (cx w0 [] []) [] [] 70 [.float .f64 x] (.int .u64 n4) ∧ ((9223372036854775808 : Int) ≠ 0) ∧ Fin (cx w0 [] []) R (.int .u64 (Int.tmod n4 (9223372036854775808 : Int))) [])
theorem q215_eq (w0 : World) (x : Nat) (R : Value → World → Prop) : funT (cx w0 [] []) Tryz.f215 an215 [.float .f64 x] [] R = q215 w0 x R := by kernel_rfl
theorem d215 (W : World) (x : Nat) {R : Value → World → Prop} (h : q215 W x R) : Does Tryz.prog 215 [.float .f64 x] W R :=
  does_of_T (fn := Tryz.f215) (x := an215) (dyn := []) (by kernel_rfl) (by kernel_rfl) (sep_self W) (Eq.mpr (q215_eq W x R) h)
def s215 (x : Nat) : Int := (Int.tmod (s70 x) (9223372036854775808 : Int))
theorem p215 (x : Nat) : Pu 215 [.float .f64 x] (.int .u64 (s215 x)) := fun W hL => d215 W x (⟨_, (p70 _).callL hL, ⟨(by first | decide | omega | (simp only [beq_iff_eq, bne_iff_ne, Bool.or_eq_false_iff, Bool.or_eq_true, Bool.and_eq_true, decide_eq_true_eq, decide_eq_false_iff_not, beq_eq_false_iff_ne, ne_eq] at *; omega)), fin_ext (by first | (unfold s215; simp only [cond_true, cond_false]; done) | (exfalso; simp_all; done) | (unfold s215; simp [cond_true, cond_false]; done))⟩⟩)

-- tarn/tarnref01.Below
def an278 : Ann := (.seq .leaf (.seq .leaf .leaf))
noncomputable def q278 (w0 : World) (x : Nat) (R : Value → World → Prop) : Prop :=
  (∃ n4 : Int, CallV (cx w0 [] []) [] [] 70 [.float .f64 x] (.int .u64 n4) ∧ Fin (cx w0 [] []) R (.bool (decide (n4 ≥ (9223372036854775808 : Int)))) [])
theorem q278_eq (w0 : World) (x : Nat) (R : Value → World → Prop) : funT (cx w0 [] []) Tryz.f278 an278 [.float .f64 x] [] R = q278 w0 x R := by kernel_rfl
theorem d278 (W : World) (x : Nat) {R : Value → World → Prop} (h : q278 W x R) : Does Tryz.prog 278 [.float .f64 x] W R :=
  does_of_T (fn := Tryz.f278) (x := an278) (dyn := []) (by kernel_rfl) (by kernel_rfl) (sep_self W) (Eq.mpr (q278_eq W x R) h)
def s278 (x : Nat) : Bool := (decide ((s70 x) ≥ (9223372036854775808 : Int)))
theorem p278 (x : Nat) : Pu 278 [.float .f64 x] (.bool (s278 x)) := fun W hL => d278 W x (⟨_, (p70 _).callL hL, fin_ext (by first | (unfold s278; simp only [cond_true, cond_false]; done) | (exfalso; simp_all; done) | (unfold s278; simp [cond_true, cond_false]; done))⟩)

-- tarn/tarnref01.None
def an213 : Ann := (.seq .leaf (.seq .leaf .leaf))
noncomputable def q213 (w0 : World) (x : Nat) (R : Value → World → Prop) : Prop :=
  (∃ n4 : Int, CallV (cx w0 [] []) [] [] 215 [.float .f64 x] (.int .u64 n4) ∧ Fin (cx w0 [] []) R (.bool (decide (n4 > (9218868437227405312 : Int)))) [])
theorem q213_eq (w0 : World) (x : Nat) (R : Value → World → Prop) : funT (cx w0 [] []) Tryz.f213 an213 [.float .f64 x] [] R = q213 w0 x R := by kernel_rfl
theorem d213 (W : World) (x : Nat) {R : Value → World → Prop} (h : q213 W x R) : Does Tryz.prog 213 [.float .f64 x] W R :=
  does_of_T (fn := Tryz.f213) (x := an213) (dyn := []) (by kernel_rfl) (by kernel_rfl) (sep_self W) (Eq.mpr (q213_eq W x R) h)
def s213 (x : Nat) : Bool := (decide ((s215 x) > (9218868437227405312 : Int)))
theorem p213 (x : Nat) : Pu 213 [.float .f64 x] (.bool (s213 x)) := fun W hL => d213 W x (⟨_, (p215 _).callL hL, fin_ext (by first | (unfold s213; simp only [cond_true, cond_false]; done) | (exfalso; simp_all; done) | (unfold s213; simp [cond_true, cond_false]; done))⟩)

end Go.Proofs.YtnljcdplcloedaaGreatDoor
end
section
namespace Go.Proofs.YtnljcdplcloedaaGreatDoor
open Go Go.Tn Go.RowKit
set_option linter.unusedVariables false
set_option linter.unusedSimpArgs false
set_option maxRecDepth 100000
-- math.IsNaN
def an192 : Ann := (.seq .leaf (.seq .leaf .leaf))
noncomputable def q192 (w0 : World) (f : Nat) (R : Value → World → Prop) : Prop :=
  Fin (cx w0 [] []) R (.bool (f64.order f f != some .eq)) []
theorem q192_eq (w0 : World) (f : Nat) (R : Value → World → Prop) : funT (cx w0 [] []) Tryz.f192 an192 [.float .f64 f] [] R = q192 w0 f R := by kernel_rfl
theorem d192 (W : World) (f : Nat) {R : Value → World → Prop} (h : q192 W f R) : Does Tryz.prog 192 [.float .f64 f] W R :=
  does_of_T (fn := Tryz.f192) (x := an192) (dyn := []) (by kernel_rfl) (by kernel_rfl) (sep_self W) (Eq.mpr (q192_eq W f R) h)
def s192 (f : Nat) : Bool := (f64.order f f != some .eq)
theorem p192 (f : Nat) : Pu 192 [.float .f64 f] (.bool (s192 f)) := fun W hL => d192 W f (fin_ext (by first | (unfold s192; simp only [cond_true, cond_false]; done) | (exfalso; simp_all; done) | (unfold s192; simp [cond_true, cond_false]; done)))

-- tarn/sum.quiet
def an305 : Ann := (.seq .leaf (.seq (.seq .leaf (.cond (.seq .leaf .leaf) .leaf)) (.seq .leaf .leaf)))
noncomputable def q305 (w0 : World) (x : Nat) (R : Value → World → Prop) : Prop :=
  (∃ b4 : Bool, CallV (cx w0 [] []) [] [] 192 [.float .f64 x] (.bool b4) ∧ (cond b4 ((∃ x5 : Nat, CallV (cx w0 [] []) [] [] 119 [.int .u64 (9221120237041090561 : Int)] (.float .f64 x5) ∧ Fin (cx w0 [] []) R (.float .f64 x5) [])) (Fin (cx w0 [] []) R (.float .f64 x) [])))
theorem q305_eq (w0 : World) (x : Nat) (R : Value → World → Prop) : funT (cx w0 [] []) Tryz.f305 an305 [.float .f64 x] [] R = q305 w0 x R := by kernel_rfl
theorem d305 (W : World) (x : Nat) {R : Value → World → Prop} (h : q305 W x R) : Does Tryz.prog 305 [.float .f64 x] W R :=
  does_of_T (fn := Tryz.f305) (x := an305) (dyn := []) (by kernel_rfl) (by kernel_rfl) (sep_self W) (Eq.mpr (q305_eq W x R) h)
def s305 (x : Nat) : Nat := (cond (s192 x) (s119 (9221120237041090561 : Int)) x)
theorem p305 (x : Nat) : Pu 305 [.float .f64 x] (.float .f64 (s305 x)) := fun W hL => d305 W x (⟨_, (p192 _).callL hL, cond_split (fun h1 => ⟨_, (p119 _).callL hL, fin_ext (by first | (unfold s305; simp only [h1, cond_true, cond_false]; done) | (exfalso; simp_all; done) | (unfold s305; simp [h1, cond_true, cond_false]; done))⟩) (fun h1 => fin_ext (by first | (unfold s305; simp only [h1, cond_true, cond_false]; done) | (exfalso; simp_all; done) | (unfold s305; simp [h1, cond_true, cond_false]; done)))⟩)

-- tarn/sum.magnitude
def an296 : Ann := (.seq .leaf (.seq .leaf .leaf))
noncomputable def q296 (w0 : World) (x : Nat) (R : Value → World → Prop) : Prop :=
  (∃ n4 : Int, CallV (cx w0 [] []) [] [] 107 [.float .f64 x] (.int .u64 n4) ∧ (0 ≤ (1 : Int)) ∧ Fin (cx w0 [] []) R (.int .u64 (IntKind.wrap .u64 (n4 * 2 ^ min (Int.toNat (1 : Int)) (IntKind.bits .u64)))) [])
theorem q296_eq (w0 : World) (x : Nat) (R : Value → World → Prop) : funT (cx w0 [] []) Tryz.f296 an296 [.float .f64 x] [] R = q296 w0 x R := by kernel_rfl
theorem d296 (W : World) (x : Nat) {R : Value → World → Prop} (h : q296 W x R) : Does Tryz.prog 296 [.float .f64 x] W R :=
  does_of_T (fn := Tryz.f296) (x := an296) (dyn := []) (by kernel_rfl) (by kernel_rfl) (sep_self W) (Eq.mpr (q296_eq W x R) h)
def s296 (x : Nat) : Int := (IntKind.wrap .u64 ((s107 x) * 2 ^ min (Int.toNat (1 : Int)) (IntKind.bits .u64)))
theorem p296 (x : Nat) : Pu 296 [.float .f64 x] (.int .u64 (s296 x)) := fun W hL => d296 W x (⟨_, (p107 _).callL hL, ⟨(by first | decide | omega | (simp only [beq_iff_eq, bne_iff_ne, Bool.or_eq_false_iff, Bool.or_eq_true, Bool.and_eq_true, decide_eq_true_eq, decide_eq_false_iff_not, beq_eq_false_iff_ne, ne_eq] at *; omega)), fin_ext (by first | (unfold s296; simp only [cond_true, cond_false]; done) | (exfalso; simp_all; done) | (unfold s296; simp [cond_true, cond_false]; done))⟩⟩)

-- cmp.Or[int]
def an295 : Ann := (.seq .leaf (.seq .leaf (.seq (.seq .leaf (.block (.loop [(8, .one (.int .i64))] [] (.seq .leaf (.seq (.cond .leaf .leaf) (.seq (.block (.seq .leaf (.seq .leaf (.cond (.seq .leaf .leaf) .leaf)))) .leaf)))))) (.seq .leaf .leaf))))
noncomputable def q295 (w0 : World) (vals_a : Option Addr) (vals_n : Nat) (vals_c : Nat) (R : Value → World → Prop) : Prop :=
  (∃ (I8 : Int → Own → Prop) (μ8 : Int → Own → Nat), I8 (0 : Int) [] ∧ ∀ n8 : Int, ∀ own8 : Own, I8 n8 own8 → (cond (decide (n8 < ((vals_n : Nat) : Int))) ((∃ ad10 : Addr, vals_a = some ad10 ∧ (0 ≤ n8 ∧ n8 < ((vals_n : Nat) : Int)) ∧ (∃ n11 : Int, LoadsTo (cx w0 [] []) [] own8 3 (Addr.add ad10 (Int.toNat n8 * 1)) (.int .i64 n11) ∧ (cond (n11 != (0 : Int)) (Fin (cx w0 [] []) R (.int .i64 n11) own8) (I8 (IntKind.wrap .i64 (n8 + (1 : Int))) own8 ∧ μ8 (IntKind.wrap .i64 (n8 + (1 : Int))) own8 < μ8 n8 own8))))) (Fin (cx w0 [] []) R (.int .i64 (0 : Int)) own8)))
theorem q295_eq (w0 : World) (vals_a : Option Addr) (vals_n : Nat) (vals_c : Nat) (R : Value → World → Prop) : funT (cx w0 [] []) Tryz.f295 an295 [.slice vals_a vals_n vals_c] [] R = q295 w0 vals_a vals_n vals_c R := by kernel_rfl
theorem d295 (W : World) (vals_a : Option Addr) (vals_n : Nat) (vals_c : Nat) {R : Value → World → Prop} (h : q295 W vals_a vals_n vals_c R) : Does Tryz.prog 295 [.slice vals_a vals_n vals_c] W R :=
  does_of_T (fn := Tryz.f295) (x := an295) (dyn := []) (by kernel_rfl) (by kernel_rfl) (sep_self W) (Eq.mpr (q295_eq W vals_a vals_n vals_c R) h)

/-- the first that isn't nought, of two -/
def s295 (x y : Int) : Int := cond (x != 0) x (cond (y != 0) y 0)
theorem p295 (x y : Int) (a : Option Addr) : On (fun W => Laid W ∧ Arr W a [.int .i64 x, .int .i64 y]) 295 [.slice a 2 2] (.int .i64 (s295 x y)) := fun W ⟨hL, hA⟩ => d295 W a 2 2 (by
  obtain ⟨b, o, rfl⟩ := arr_some (i := 0) hA (by simp)
  refine ⟨fun n own => own = [] ∧ (n = 0 ∨ n = 1 ∧ x = 0 ∨ n = 2 ∧ x = 0 ∧ y = 0), fun n _ => (2 - n).toNat, ⟨rfl, .inl rfl⟩, ?_⟩
  rintro n own ⟨rfl, rfl | ⟨rfl, hx⟩ | ⟨rfl, hx, hy⟩⟩
  · refine ⟨_, rfl, ⟨by decide, by decide⟩, x, loads_arr hA rfl rfl ld3, cond_split (fun h => fin_ext (by simp [s295, h])) fun h => ?_⟩
    have h0 : x = 0 := by simpa using h
    exact ⟨⟨rfl, .inr (.inl ⟨rfl, h0⟩)⟩, by decide⟩
  · refine ⟨_, rfl, ⟨by decide, by decide⟩, y, loads_arr hA rfl rfl ld3, cond_split (fun h => fin_ext (by simp [s295, hx, h])) fun h => ?_⟩
    have h0 : y = 0 := by simpa using h
    exact ⟨⟨rfl, .inr (.inr ⟨rfl, hx, h0⟩)⟩, by decide⟩
  · exact fin_ext (by simp [s295, hx, hy]))


-- tarn/sum.Three$1
def an294 : Ann := (.seq .leaf (.seq .leaf .leaf))
noncomputable def q294 (w0 : World) (x : Nat) (y : Nat) (R : Value → World → Prop) : Prop :=
  (∃ n6 : Int, CallV (cx w0 [] []) [] [] 296 [.float .f64 x] (.int .u64 n6) ∧ (∃ n8 : Int, CallV (cx w0 [] []) [] [] 296 [.float .f64 y] (.int .u64 n8) ∧ (∃ n9 : Int, CallV (cx w0 [] []) [] [] 254 [.int .u64 n6, .int .u64 n8] (.int .i64 n9) ∧ (∃ n12 : Int, CallV (cx w0 [] []) [] [] 200 [.float .f64 x, .float .f64 y] (.int .i64 n12) ∧ (∀ k13 : Nat, (∃ n14 : Int, CallV (cx w0 [] []) [] ((k13, .cells ⟨[.int .i64 n9, .int .i64 n12]⟩ 3) :: []) 295 [.slice (some ⟨k13, 0, none⟩) 2 2] (.int .i64 n14) ∧ Fin (cx w0 [] []) R (.int .i64 n14) ((k13, .cells ⟨[.int .i64 n9, .int .i64 n12]⟩ 3) :: [])))))))
theorem q294_eq (w0 : World) (x : Nat) (y : Nat) (R : Value → World → Prop) : funT (cx w0 [] []) Tryz.f294 an294 [.float .f64 x, .float .f64 y] [] R = q294 w0 x y R := by kernel_rfl
theorem d294 (W : World) (x : Nat) (y : Nat) {R : Value → World → Prop} (h : q294 W x y R) : Does Tryz.prog 294 [.float .f64 x, .float .f64 y] W R :=
  does_of_T (fn := Tryz.f294) (x := an294) (dyn := []) (by kernel_rfl) (by kernel_rfl) (sep_self W) (Eq.mpr (q294_eq W x y R) h)

/-- which comes first: by magnitude, then by order -/
def s294 (x y : Nat) : Int := s295 (s254 (s296 x) (s296 y)) (s200 x y)
theorem p294 (x y : Nat) : Pu 294 [.float .f64 x, .float .f64 y] (.int .i64 (s294 x y)) := fun W hL => d294 W x y
  ⟨_, (p296 _).callL hL, _, (p296 _).callL hL, _, (p254 _ _).callL hL, _, (p200 _ _).callL hL, fun k => ⟨_, (p295 _ _ _).call fun W' hS => ⟨hL.ext (Sep.ext0 hS), arr_own hS (.head _) fun i v h => by simpa using h⟩, fin_ext rfl⟩⟩


-- tarn/sum.row
def an297 : Ann := (.seq .leaf (.seq (.seq .leaf (.cond (.seq .leaf .leaf) .leaf)) (.seq .leaf (.seq (.seq .leaf (.block (.loop [(3, .one .float), (15, .one (.int .i64))] [] (.seq .leaf (.seq (.cond .leaf .leaf) (.seq (.block (.seq .leaf .leaf)) .leaf)))))) (.seq .leaf .leaf)))))
noncomputable def q297 (w0 : World) (xs_a : Option Addr) (xs_n : Nat) (xs_c : Nat) (R : Value → World → Prop) : Prop :=
  (cond (((xs_n : Nat) : Int) == (0 : Int)) (Fin (cx w0 [] []) R (.float .f64 0) []) ((∃ ad10 : Addr, xs_a = some ad10 ∧ (0 ≤ (0 : Int) ∧ (0 : Int) < ((xs_n : Nat) : Int)) ∧ (∃ x11 : Nat, LoadsTo (cx w0 [] []) [] [] 44 (Addr.add ad10 (Int.toNat (0 : Int) * 1)) (.float .f64 x11) ∧ (xs_n ≤ xs_c ∧ 0 ≤ (1 : Int) ∧ (1 : Int) ≤ ((xs_n : Nat) : Int) ∧ ((xs_n : Nat) : Int) ≤ ((xs_c : Nat) : Int) ∧ ((xs_c : Nat) : Int) ≤ ((xs_c : Nat) : Int)) ∧ (∃ (I3 : Nat → Int → Own → Prop) (μ3 : Nat → Int → Own → Nat), I3 x11 (0 : Int) [] ∧ ∀ x3 : Nat, ∀ n15 : Int, ∀ own3 : Own, I3 x3 n15 own3 → (cond (decide (n15 < ((Int.toNat ((xs_n : Nat) : Int) - Int.toNat (1 : Int) : Nat) : Int))) ((∃ ad17 : Addr, (if Int.toNat ((xs_c : Nat) : Int) = Int.toNat (1 : Int) then xs_a else Option.map (fun q => Addr.add q (Int.toNat (1 : Int) * 1)) xs_a) = some ad17 ∧ (0 ≤ n15 ∧ n15 < ((Int.toNat ((xs_n : Nat) : Int) - Int.toNat (1 : Int) : Nat) : Int)) ∧ (∃ x18 : Nat, LoadsTo (cx w0 [] []) [] own3 44 (Addr.add ad17 (Int.toNat n15 * 1)) (.float .f64 x18) ∧ (∀ r21 : Nat, FRes (f64.add x3 x18) r21 → I3 r21 (IntKind.wrap .i64 (n15 + (1 : Int))) own3 ∧ μ3 r21 (IntKind.wrap .i64 (n15 + (1 : Int))) own3 < μ3 x3 n15 own3)))) ((∃ x24 : Nat, CallV (cx w0 [] []) [] own3 305 [.float .f64 x3] (.float .f64 x24) ∧ Fin (cx w0 [] []) R (.float .f64 x24) own3))))))))
theorem q297_eq (w0 : World) (xs_a : Option Addr) (xs_n : Nat) (xs_c : Nat) (R : Value → World → Prop) : funT (cx w0 [] []) Tryz.f297 an297 [.slice xs_a xs_n xs_c] [] R = q297 w0 xs_a xs_n xs_c R := by kernel_rfl
theorem d297 (W : World) (xs_a : Option Addr) (xs_n : Nat) (xs_c : Nat) {R : Value → World → Prop} (h : q297 W xs_a xs_n xs_c R) : Does Tryz.prog 297 [.slice xs_a xs_n xs_c] W R :=
  does_of_T (fn := Tryz.f297) (x := an297) (dyn := []) (by kernel_rfl) (by kernel_rfl) (sep_self W) (Eq.mpr (q297_eq W xs_a xs_n xs_c R) h)

theorem c305_0 {o : Option Nat} {r : Nat} (h : FRes o r) : s305 r = s305 (fr o) := by
  rcases fres_cases h with e | ⟨⟨s, t, e⟩, ⟨s', t', e'⟩⟩
  · rw [← e]
  · have e1 : f64.order r r = none := by simp [Ieee.Format.order, e, Ieee.Datum.order]
    have e2 : f64.order (fr o) (fr o) = none := by simp [Ieee.Format.order, e', Ieee.Datum.order]
    have e3 : ((none : Option Ordering) != some .eq) = true := rfl
    simp only [s305, s192, e1, e2, e3, cond_true]
/-- three numbers added from the left -/
def s297 (x y z : Nat) : Nat := s305 (fr (f64.add (fr (f64.add x y)) z))
theorem p297 (x y z : Nat) (a : Option Addr) : On (fun W => Laid W ∧ Arr W a [.float .f64 x, .float .f64 y, .float .f64 z]) 297 [.slice a 3 3] (.float .f64 (s297 x y z)) := fun W ⟨hL, hA⟩ => d297 W a 3 3 (by
  obtain ⟨b, o, rfl⟩ := arr_some (i := 0) hA (by simp)
  have hA' : Arr W (some ⟨b, o + 1, none⟩) [.float .f64 y, .float .f64 z] := arr_sub (j := 1) hA fun i v h => by rw [Nat.add_comm]; simpa using h
  refine ⟨_, rfl, ⟨by decide, by decide⟩, x, loads_arr hA rfl rfl ld44, by decide, fun s i own => own = [] ∧ (i = 0 ∧ s = x ∨ i = 1 ∧ FRes (f64.add x y) s ∨ i = 2 ∧ FRes (f64.add (fr (f64.add x y)) z) s), fun _ i _ => (2 - i).toNat, ⟨rfl, .inl ⟨rfl, rfl⟩⟩, ?_⟩
  rintro s i own ⟨rfl, ⟨rfl, rfl⟩ | ⟨rfl, hs⟩ | ⟨rfl, hs⟩⟩
  · exact ⟨_, rfl, ⟨by decide, by decide⟩, y, loads_arr (a := some ⟨b, o + 1, none⟩) hA' rfl rfl ld44, fun r hr => ⟨⟨rfl, .inr (.inl ⟨rfl, hr⟩)⟩, by show (2 - IntKind.i64.wrap (0 + 1)).toNat < (2 - (0 : Int)).toNat; decide⟩⟩
  · exact ⟨_, rfl, ⟨by decide, by decide⟩, z, loads_arr (a := some ⟨b, o + 1, none⟩) hA' rfl rfl ld44, fun r hr => ⟨⟨rfl, .inr (.inr ⟨rfl, by rw [← fa1 hs]; exact hr⟩)⟩, by show (2 - IntKind.i64.wrap (1 + 1)).toNat < (2 - (1 : Int)).toNat; decide⟩⟩
  · exact ⟨_, (p305 _).callL hL, fin_ext (by rw [s297, c305_0 hs])⟩)


end Go.Proofs.YtnljcdplcloedaaGreatDoor
end
section
namespace Go.Proofs.YtnljcdplcloedaaGreatDoor
open Go Go.Tn Go.RowKit
set_option linter.unusedVariables false
set_option linter.unusedSimpArgs false
set_option maxRecDepth 100000
-- math/bits.Len64
def an290 : Ann := (.seq .leaf (.seq (.seq .leaf (.cond (.seq .leaf .leaf) .leaf)) (.seq (.seq .leaf (.cond (.seq .leaf .leaf) .leaf)) (.seq (.seq .leaf (.cond (.seq .leaf .leaf) .leaf)) (.seq .leaf .leaf)))))
noncomputable def q290 (w0 : World) (x : Int) (R : Value → World → Prop) : Prop :=
  (cond (decide (x ≥ (4294967296 : Int))) ((0 ≤ (32 : Int)) ∧ (cond (decide ((Int.fdiv x (2 ^ min (Int.toNat (32 : Int)) (IntKind.bits .u64))) ≥ (65536 : Int))) ((0 ≤ (16 : Int)) ∧ (cond (decide ((Int.fdiv (Int.fdiv x (2 ^ min (Int.toNat (32 : Int)) (IntKind.bits .u64))) (2 ^ min (Int.toNat (16 : Int)) (IntKind.bits .u64))) ≥ (256 : Int))) ((0 ≤ (8 : Int)) ∧ (∃ n22 : Int, OpV (cx w0 [] []) [] [] (Instr.index 9 (strFn Tryz.f290) (.int .u8 (IntKind.wrap .u8 (Int.fdiv (Int.fdiv (Int.fdiv x (2 ^ min (Int.toNat (32 : Int)) (IntKind.bits .u64))) (2 ^ min (Int.toNat (16 : Int)) (IntKind.bits .u64))) (2 ^ min (Int.toNat (8 : Int)) (IntKind.bits .u64)))))) (.int .u8 n22) ∧ Fin (cx w0 [] []) R (.int .i64 (IntKind.wrap .i64 ((IntKind.wrap .i64 ((IntKind.wrap .i64 ((32 : Int) + (16 : Int))) + (8 : Int))) + (IntKind.wrap .i64 n22)))) [])) ((∃ n22 : Int, OpV (cx w0 [] []) [] [] (Instr.index 9 (strFn Tryz.f290) (.int .u8 (IntKind.wrap .u8 (Int.fdiv (Int.fdiv x (2 ^ min (Int.toNat (32 : Int)) (IntKind.bits .u64))) (2 ^ min (Int.toNat (16 : Int)) (IntKind.bits .u64)))))) (.int .u8 n22) ∧ Fin (cx w0 [] []) R (.int .i64 (IntKind.wrap .i64 ((IntKind.wrap .i64 ((32 : Int) + (16 : Int))) + (IntKind.wrap .i64 n22)))) [])))) ((cond (decide ((Int.fdiv x (2 ^ min (Int.toNat (32 : Int)) (IntKind.bits .u64))) ≥ (256 : Int))) ((0 ≤ (8 : Int)) ∧ (∃ n22 : Int, OpV (cx w0 [] []) [] [] (Instr.index 9 (strFn Tryz.f290) (.int .u8 (IntKind.wrap .u8 (Int.fdiv (Int.fdiv x (2 ^ min (Int.toNat (32 : Int)) (IntKind.bits .u64))) (2 ^ min (Int.toNat (8 : Int)) (IntKind.bits .u64)))))) (.int .u8 n22) ∧ Fin (cx w0 [] []) R (.int .i64 (IntKind.wrap .i64 ((IntKind.wrap .i64 ((32 : Int) + (8 : Int))) + (IntKind.wrap .i64 n22)))) [])) ((∃ n22 : Int, OpV (cx w0 [] []) [] [] (Instr.index 9 (strFn Tryz.f290) (.int .u8 (IntKind.wrap .u8 (Int.fdiv x (2 ^ min (Int.toNat (32 : Int)) (IntKind.bits .u64)))))) (.int .u8 n22) ∧ Fin (cx w0 [] []) R (.int .i64 (IntKind.wrap .i64 ((32 : Int) + (IntKind.wrap .i64 n22)))) [])))))) ((cond (decide (x ≥ (65536 : Int))) ((0 ≤ (16 : Int)) ∧ (cond (decide ((Int.fdiv x (2 ^ min (Int.toNat (16 : Int)) (IntKind.bits .u64))) ≥ (256 : Int))) ((0 ≤ (8 : Int)) ∧ (∃ n22 : Int, OpV (cx w0 [] []) [] [] (Instr.index 9 (strFn Tryz.f290) (.int .u8 (IntKind.wrap .u8 (Int.fdiv (Int.fdiv x (2 ^ min (Int.toNat (16 : Int)) (IntKind.bits .u64))) (2 ^ min (Int.toNat (8 : Int)) (IntKind.bits .u64)))))) (.int .u8 n22) ∧ Fin (cx w0 [] []) R (.int .i64 (IntKind.wrap .i64 ((IntKind.wrap .i64 ((IntKind.wrap .i64 ((0 : Int) + (16 : Int))) + (8 : Int))) + (IntKind.wrap .i64 n22)))) [])) ((∃ n22 : Int, OpV (cx w0 [] []) [] [] (Instr.index 9 (strFn Tryz.f290) (.int .u8 (IntKind.wrap .u8 (Int.fdiv x (2 ^ min (Int.toNat (16 : Int)) (IntKind.bits .u64)))))) (.int .u8 n22) ∧ Fin (cx w0 [] []) R (.int .i64 (IntKind.wrap .i64 ((IntKind.wrap .i64 ((0 : Int) + (16 : Int))) + (IntKind.wrap .i64 n22)))) [])))) ((cond (decide (x ≥ (256 : Int))) ((0 ≤ (8 : Int)) ∧ (∃ n22 : Int, OpV (cx w0 [] []) [] [] (Instr.index 9 (strFn Tryz.f290) (.int .u8 (IntKind.wrap .u8 (Int.fdiv x (2 ^ min (Int.toNat (8 : Int)) (IntKind.bits .u64)))))) (.int .u8 n22) ∧ Fin (cx w0 [] []) R (.int .i64 (IntKind.wrap .i64 ((IntKind.wrap .i64 ((0 : Int) + (8 : Int))) + (IntKind.wrap .i64 n22)))) [])) ((∃ n22 : Int, OpV (cx w0 [] []) [] [] (Instr.index 9 (strFn Tryz.f290) (.int .u8 (IntKind.wrap .u8 x))) (.int .u8 n22) ∧ Fin (cx w0 [] []) R (.int .i64 (IntKind.wrap .i64 ((0 : Int) + (IntKind.wrap .i64 n22)))) [])))))))
theorem q290_eq (w0 : World) (x : Int) (R : Value → World → Prop) : funT (cx w0 [] []) Tryz.f290 an290 [.int .u64 x] [] R = q290 w0 x R := by kernel_rfl
theorem d290 (W : World) (x : Int) {R : Value → World → Prop} (h : q290 W x R) : Does Tryz.prog 290 [.int .u64 x] W R :=
  does_of_T (fn := Tryz.f290) (x := an290) (dyn := []) (by kernel_rfl) (by kernel_rfl) (sep_self W) (Eq.mpr (q290_eq W x R) h)

theorem p290_3 : Pu 290 [.int .u64 3] (.int .i64 2) := fun W hL => d290 W 3 (by
  unfold q290
  refine cond_split (fun h => absurd h (by decide)) fun _ => cond_split (fun h => absurd h (by decide)) fun _ => cond_split (fun h => absurd h (by decide)) fun _ => ⟨2, fun W' _ => by kernel_rfl, fin_ext rfl⟩)


-- math/bits.Len
def an304 : Ann := (.seq .leaf (.seq (.cond (.seq .leaf .leaf) .leaf) (.seq .leaf .leaf)))
noncomputable def q304 (w0 : World) (x : Int) (R : Value → World → Prop) : Prop :=
  (∃ n7 : Int, CallV (cx w0 [] []) [] [] 290 [.int .u64 x] (.int .i64 n7) ∧ Fin (cx w0 [] []) R (.int .i64 n7) [])
theorem q304_eq (w0 : World) (x : Int) (R : Value → World → Prop) : funT (cx w0 [] []) Tryz.f304 an304 [.int .u64 x] [] R = q304 w0 x R := by kernel_rfl
theorem d304 (W : World) (x : Int) {R : Value → World → Prop} (h : q304 W x R) : Does Tryz.prog 304 [.int .u64 x] W R :=
  does_of_T (fn := Tryz.f304) (x := an304) (dyn := []) (by kernel_rfl) (by kernel_rfl) (sep_self W) (Eq.mpr (q304_eq W x R) h)

theorem p304_3 : Pu 304 [.int .u64 3] (.int .i64 2) := fun W hL => d304 W 3 ⟨_, p290_3.callL hL, fin_ext rfl⟩


-- slices.insertionSortCmpFunc[float64]
def an309 : Ann := (.seq .leaf (.block (.loop [(8, .one (.int .i64))] [] (.seq (.seq .leaf (.cond .leaf .leaf)) (.seq (.block (.seq .leaf (.block (.loop [(9, .one (.int .i64))] [] (.seq (.seq (.draw [0, 1, 2, 3, 4, 5, 6, 7, 8, 9, 10, 11, 12, 13, 14, 15, 16]) (.cond .leaf .leaf)) (.seq (.block (.draw [0, 1, 2, 3, 4, 5, 6, 7, 8, 9, 10, 11, 12, 13, 14, 15, 16, 17])) .leaf)))))) .leaf)))))
noncomputable def q309 (w0 : World) (data_a : Option Addr) (data_n : Nat) (data_c : Nat) (a : Int) (b : Int) (own0 : Own) (k : Nat) (R : Value → World → Prop) : Prop :=
  (∃ (I8 : Int → Own → Prop) (μ8 : Int → Own → Nat), I8 (IntKind.wrap .i64 (a + (1 : Int))) own0 ∧ ∀ n8 : Int, ∀ own8 : Own, I8 n8 own8 → (cond (decide (n8 < b)) ((∃ (I9 : Int → Own → Prop) (μ9 : Int → Own → Nat), I9 n8 own8 ∧ ∀ n9 : Int, ∀ own9 : Own, I9 n9 own9 → (cond (decide (n9 > a)) ((∃ ad25 : Addr, data_a = some ad25 ∧ (0 ≤ n9 ∧ n9 < ((data_n : Nat) : Int)) ∧ (∃ x26 : Nat, LoadsTo (cx w0 [k] []) [] own9 44 (Addr.add ad25 (Int.toNat n9 * 1)) (.float .f64 x26) ∧ (∃ ad30 : Addr, data_a = some ad30 ∧ (0 ≤ IntKind.wrap .i64 (n9 - (1 : Int)) ∧ IntKind.wrap .i64 (n9 - (1 : Int)) < ((data_n : Nat) : Int)) ∧ (∃ x31 : Nat, LoadsTo (cx w0 [k] []) [] own9 44 (Addr.add ad30 (Int.toNat (IntKind.wrap .i64 (n9 - (1 : Int))) * 1)) (.float .f64 x31) ∧ (∃ n32 : Int, CallV (cx w0 [k] []) [] own9 294 [.float .f64 x26, .float .f64 x31] (.int .i64 n32) ∧ (cond (decide (n32 < (0 : Int))) ((∃ ad45 : Addr, data_a = some ad45 ∧ (0 ≤ IntKind.wrap .i64 (n9 - (1 : Int)) ∧ IntKind.wrap .i64 (n9 - (1 : Int)) < ((data_n : Nat) : Int)) ∧ (∃ x46 : Nat, LoadsTo (cx w0 [k] []) [] own9 44 (Addr.add ad45 (Int.toNat (IntKind.wrap .i64 (n9 - (1 : Int))) * 1)) (.float .f64 x46) ∧ (∃ ad49 : Addr, data_a = some ad49 ∧ (0 ≤ n9 ∧ n9 < ((data_n : Nat) : Int)) ∧ (∃ x50 : Nat, LoadsTo (cx w0 [k] []) [] own9 44 (Addr.add ad49 (Int.toNat n9 * 1)) (.float .f64 x50) ∧ (∃ ad51 : Addr, data_a = some ad51 ∧ (0 ≤ n9 ∧ n9 < ((data_n : Nat) : Int)) ∧ (∃ own25 : Own, StoresTo (cx w0 [k] []) [] own9 44 (Addr.add ad51 (Int.toNat n9 * 1)) (.float .f64 x46) own25 ∧ (∃ ad52 : Addr, data_a = some ad52 ∧ (0 ≤ IntKind.wrap .i64 (n9 - (1 : Int)) ∧ IntKind.wrap .i64 (n9 - (1 : Int)) < ((data_n : Nat) : Int)) ∧ (∃ own27 : Own, StoresTo (cx w0 [k] []) [] own25 44 (Addr.add ad52 (Int.toNat (IntKind.wrap .i64 (n9 - (1 : Int))) * 1)) (.float .f64 x50) own27 ∧ I9 (IntKind.wrap .i64 (n9 - (1 : Int))) own27 ∧ μ9 (IntKind.wrap .i64 (n9 - (1 : Int))) own27 < μ9 n9 own9))))))))) (I8 (IntKind.wrap .i64 (n8 + (1 : Int))) own9 ∧ μ8 (IntKind.wrap .i64 (n8 + (1 : Int))) own9 < μ8 n8 own8)))))))) (I8 (IntKind.wrap .i64 (n8 + (1 : Int))) own9 ∧ μ8 (IntKind.wrap .i64 (n8 + (1 : Int))) own9 < μ8 n8 own8)))) (Fin (cx w0 [k] []) R (.tuple ⟨[]⟩) own8)))
theorem q309_eq (w0 : World) (data_a : Option Addr) (data_n : Nat) (data_c : Nat) (a : Int) (b : Int) (own0 : Own) (k : Nat) (R : Value → World → Prop) : funT (cx w0 [k] []) Tryz.f309 an309 [.slice data_a data_n data_c, .int .i64 a, .int .i64 b, .func (.func 294) ⟨[]⟩ ⟨[]⟩] own0 R = q309 w0 data_a data_n data_c a b own0 k R := by kernel_rfl
theorem d309 (W : World) (data_a : Option Addr) (data_n : Nat) (data_c : Nat) (a : Int) (b : Int) (own0 : Own) (k : Nat) (hS : Sep W [k] own0 W) {R : Value → World → Prop} (h : q309 W data_a data_n data_c a b own0 k R) : Does Tryz.prog 309 [.slice data_a data_n data_c, .int .i64 a, .int .i64 b, .func (.func 294) ⟨[]⟩ ⟨[]⟩] W R :=
  does_of_T (fn := Tryz.f309) (x := an309) (dyn := []) (by kernel_rfl) (by kernel_rfl) hS (Eq.mpr (q309_eq W data_a data_n data_c a b own0 k R) h)

def lt3 (x y : Nat) : Bool := decide (s294 x y < 0)
def step1 (x y z : Nat) : Nat × Nat × Nat := cond (lt3 y x) (y, x, z) (x, y, z)
def step2 (p q r : Nat) : Nat × Nat × Nat := cond (lt3 r q) (cond (lt3 r p) (r, p, q) (p, r, q)) (p, q, r)
/-- three numbers, put into order by insertion -/
def sort3 (x y z : Nat) : Nat × Nat × Nat := step2 (step1 x y z).1 (step1 x y z).2.1 (step1 x y z).2.2
def arr3 (l : Nat × Nat × Nat) (t : TypeId) : Obj := .cells ⟨[.float .f64 l.1, .float .f64 l.2.1, .float .f64 l.2.2]⟩ t
theorem set44 {w0 : World} {mt dyn : List Nat} {k o : Nat} {cs : List Value} {ty : TypeId} {x : Nat} (hlt : o < cs.length) :
    StoresTo (cx w0 mt dyn) [] [(k, .cells ⟨cs⟩ ty)] 44 ⟨k, o, none⟩ (.float .f64 x) [(k, .cells ⟨cs.set o (.float .f64 x)⟩ ty)] :=
  stores_own (pre := []) (post := []) rfl hlt rfl rfl ⟨_, rfl, rfl⟩
theorem p309 (x y z k : Nat) (t : TypeId) : Mut 309 [.slice (some ⟨k, 0, none⟩) 3 3, .int .i64 0, .int .i64 3, .func (.func 294) ⟨[]⟩ ⟨[]⟩] k (arr3 (x, y, z) t) (arr3 (sort3 x y z) t) (.tuple ⟨[]⟩) := fun W hL hk hk0 hk2 => by
  have hS : Tn.Sep W [k] [(k, arr3 (x, y, z) t)] W := sep_one hk
  have hm : 0 ∉ [k] ∧ 2 ∉ [k] := by simp; omega
  have c294 : ∀ {own : Own} (u v : Nat), CallV (cx W [k] []) [] own 294 [.float .f64 u, .float .f64 v] (.int .i64 (s294 u v)) := fun u v => (p294 u v).call fun W' hS' => hL.sep hS' hm.1 hm.2
  refine d309 W (some ⟨k, 0, none⟩) 3 3 0 3 [(k, arr3 (x, y, z) t)] k hS ?_
  unfold q309
  refine ⟨fun n own => (n = 1 ∧ own = [(k, arr3 (x, y, z) t)]) ∨ (n = 2 ∧ own = [(k, arr3 (step1 x y z) t)]) ∨ (n = 3 ∧ own = [(k, arr3 (sort3 x y z) t)]), fun n _ => (3 - n).toNat, .inl ⟨rfl, rfl⟩, ?_⟩
  rintro n own (⟨rfl, rfl⟩ | ⟨rfl, rfl⟩ | ⟨rfl, rfl⟩)
  · -- the second number
    refine ⟨fun j own => (j = 1 ∧ own = [(k, arr3 (x, y, z) t)]) ∨ (j = 0 ∧ lt3 y x = true ∧ own = [(k, arr3 (y, x, z) t)]), fun j _ => j.toNat, .inl ⟨rfl, rfl⟩, ?_⟩
    rintro j own (⟨rfl, rfl⟩ | ⟨rfl, h1, rfl⟩)
    · refine ⟨_, rfl, ⟨by decide, by decide⟩, y, loads_own (.head _) (ld44 _ _), _, rfl, ⟨by decide, by decide⟩, x, loads_own (.head _) (ld44 _ _), _, c294 y x, cond_split (fun h => ?_) fun h => ?_⟩
      · refine ⟨_, rfl, ⟨by decide, by decide⟩, x, loads_own (.head _) (ld44 _ _), _, rfl, ⟨by decide, by decide⟩, y, loads_own (.head _) (ld44 _ _), _, rfl, ⟨by decide, by decide⟩, _, set44 (ltr rfl), _, rfl, ⟨by decide, by decide⟩, _, set44 (ltr rfl), .inr ⟨rfl, h, rfl⟩, ltr rfl⟩
      · refine ⟨.inr (.inl ⟨rfl, ?_⟩), ltr rfl⟩
        have h' : lt3 y x = false := h
        simp only [step1, h', cond_false]
    · refine ⟨.inr (.inl ⟨rfl, ?_⟩), ltr rfl⟩
      simp only [step1, h1, cond_true]
  · -- the third
    unfold sort3
    generalize step1 x y z = s
    obtain ⟨p, q, r⟩ := s
    refine ⟨fun j own => (j = 2 ∧ own = [(k, arr3 (p, q, r) t)]) ∨ (j = 1 ∧ lt3 r q = true ∧ own = [(k, arr3 (p, r, q) t)]) ∨ (j = 0 ∧ lt3 r q = true ∧ lt3 r p = true ∧ own = [(k, arr3 (r, p, q) t)]), fun j _ => j.toNat, .inl ⟨rfl, rfl⟩, ?_⟩
    rintro j own (⟨rfl, rfl⟩ | ⟨rfl, h1, rfl⟩ | ⟨rfl, h1, h2, rfl⟩)
    · refine ⟨_, rfl, ⟨by decide, by decide⟩, r, loads_own (.head _) (ld44 _ _), _, rfl, ⟨by decide, by decide⟩, q, loads_own (.head _) (ld44 _ _), _, c294 r q, cond_split (fun h => ?_) fun h => ?_⟩
      · refine ⟨_, rfl, ⟨by decide, by decide⟩, q, loads_own (.head _) (ld44 _ _), _, rfl, ⟨by decide, by decide⟩, r, loads_own (.head _) (ld44 _ _), _, rfl, ⟨by decide, by decide⟩, _, set44 (ltr rfl), _, rfl, ⟨by decide, by decide⟩, _, set44 (ltr rfl), .inr (.inl ⟨rfl, h, rfl⟩), ltr rfl⟩
      · refine ⟨.inr (.inr ⟨rfl, ?_⟩), ltr rfl⟩
        have h' : lt3 r q = false := h
        simp only [step2, h', cond_false]
    · refine ⟨_, rfl, ⟨by decide, by decide⟩, r, loads_own (.head _) (ld44 _ _), _, rfl, ⟨by decide, by decide⟩, p, loads_own (.head _) (ld44 _ _), _, c294 r p, cond_split (fun h => ?_) fun h => ?_⟩
      · refine ⟨_, rfl, ⟨by decide, by decide⟩, p, loads_own (.head _) (ld44 _ _), _, rfl, ⟨by decide, by decide⟩, r, loads_own (.head _) (ld44 _ _), _, rfl, ⟨by decide, by decide⟩, _, set44 (ltr rfl), _, rfl, ⟨by decide, by decide⟩, _, set44 (ltr rfl), .inr (.inr ⟨rfl, h1, h, rfl⟩), ltr rfl⟩
      · refine ⟨.inr (.inr ⟨rfl, ?_⟩), ltr rfl⟩
        have h' : lt3 r p = false := h
        simp only [step2, h1, h', cond_true, cond_false]
    · refine ⟨.inr (.inr ⟨rfl, ?_⟩), ltr rfl⟩
      simp only [step2, h1, h2, cond_true]
  · exact fun W' hW => ⟨rfl, hW⟩

-- slices.pdqsortCmpFunc[float64]
def an303 : Ann := (.seq .leaf (.seq .leaf (.block (.loop [(1, .one (.int .i64)), (2, .one (.int .i64)), (3, .one (.int .i64)), (10, .one .bool), (11, .one .bool)] [] (.block (.seq .leaf (.seq (.seq .leaf (.cond (.seq .leaf .leaf) .leaf)) (.seq (.seq .leaf (.cond (.seq .leaf .leaf) .leaf)) (.cut [(3, .one (.int .i64))] [] (.seq .leaf (.cond (.seq .leaf .leaf) .leaf)) (.seq .leaf (.cut [(13, .one (.int .i64)), (14, .one (.int .i64))] [] (.seq .leaf (.cond (.seq .leaf (.seq .leaf .leaf)) .leaf)) (.cut [] [] (.cut [(75, .one .bool)] [] .leaf (.cond (.seq .leaf (.cond .leaf .leaf)) .leaf)) (.seq (.cut [(97, .one .bool)] [] (.draw [0, 1, 2, 3, 4, 5, 6, 7, 8, 9, 10, 11, 12, 13, 14, 15, 16]) (.cond (.seq .leaf (.seq .leaf .leaf)) .leaf)) (.seq .leaf (.seq .leaf (.seq .leaf (.seq .leaf (.seq .leaf (.cond (.seq .leaf (.seq .leaf .leaf)) (.seq .leaf (.seq .leaf .leaf)))))))))))))))))))))
noncomputable def q303 (w0 : World) (data_a : Option Addr) (data_n : Nat) (data_c : Nat) (a : Int) (b : Int) (limit : Int) (own0 : Own) (k : Nat) (R : Value → World → Prop) : Prop :=
  (∃ (I1 : Int → Int → Int → Bool → Bool → Own → Prop) (μ1 : Int → Int → Int → Bool → Bool → Own → Nat), I1 a b limit true true own0 ∧ ∀ n1 : Int, ∀ n2 : Int, ∀ n3 : Int, ∀ b10 : Bool, ∀ b11 : Bool, ∀ own1 : Own, I1 n1 n2 n3 b10 b11 own1 → (cond (decide ((IntKind.wrap .i64 (n2 - n1)) ≤ (12 : Int))) ((∃ Φ30 : Value → Own → Prop, CallG (cx w0 [k] []) [] own1 309 [.slice data_a data_n data_c, .int .i64 n1, .int .i64 n2, .func (.func 294) ⟨[]⟩ ⟨[]⟩] (.tup []) Φ30 ∧ ∀ own30 : Own, Φ30 (.tuple ⟨[]⟩) own30 → Fin (cx w0 [k] []) R (.tuple ⟨[]⟩) own30)) ((cond (n3 == (0 : Int)) ((CallV (cx w0 [k] []) [] own1 310 [.slice data_a data_n data_c, .int .i64 n1, .int .i64 n2, .func (.func 294) ⟨[]⟩ ⟨[]⟩] (.tuple ⟨[]⟩) ∧ Fin (cx w0 [k] []) R (.tuple ⟨[]⟩) own1)) ((∃ J3 : Int → Own → Prop, ((cond (!b10) ((CallV (cx w0 [k] []) [] own1 311 [.slice data_a data_n data_c, .int .i64 n1, .int .i64 n2, .func (.func 294) ⟨[]⟩ ⟨[]⟩] (.tuple ⟨[]⟩) ∧ J3 (IntKind.wrap .i64 (n3 - (1 : Int))) own1)) (J3 n3 own1))) ∧ ∀ n3_1 : Int, ∀ own3 : Own, J3 n3_1 own3 → (∃ n52a : Int, ∃ n52b : Int, CallV (cx w0 [k] []) [] own3 312 [.slice data_a data_n data_c, .int .i64 n1, .int .i64 n2, .func (.func 294) ⟨[]⟩ ⟨[]⟩] (.tuple ⟨[.int .i64 n52a, .int .i64 n52b]⟩) ∧ (∃ J13 : Int → Int → Own → Prop, ((cond (n52b == (2 : Int)) ((CallV (cx w0 [k] []) [] own3 313 [.slice data_a data_n data_c, .int .i64 n1, .int .i64 n2, .func (.func 294) ⟨[]⟩ ⟨[]⟩] (.tuple ⟨[]⟩) ∧ J13 (IntKind.wrap .i64 ((IntKind.wrap .i64 (n2 - (1 : Int))) - (IntKind.wrap .i64 (n52a - n1)))) (1 : Int) own3)) (J13 n52a n52b own3))) ∧ ∀ n13 : Int, ∀ n14 : Int, ∀ own13 : Own, J13 n13 n14 own13 → (∃ Jc1 : Own → Prop, ((∃ J75 : Bool → Own → Prop, ((cond b10 ((cond b11 (J75 (n14 == (1 : Int)) own13) (J75 false own13))) (J75 false own13))) ∧ ∀ b75 : Bool, ∀ own75 : Own, J75 b75 own75 → (cond b75 ((∃ b80 : Bool, CallV (cx w0 [k] []) [] own75 314 [.slice data_a data_n data_c, .int .i64 n1, .int .i64 n2, .func (.func 294) ⟨[]⟩ ⟨[]⟩] (.bool b80) ∧ (cond b80 (Fin (cx w0 [k] []) R (.tuple ⟨[]⟩) own75) (Jc1  own75)))) (Jc1  own75)))) ∧ ∀ ownc1 : Own, Jc1  ownc1 → (∃ J97 : Bool → Own → Prop, ((cond (decide (n1 > (0 : Int))) ((∃ ad88 : Addr, data_a = some ad88 ∧ (0 ≤ IntKind.wrap .i64 (n1 - (1 : Int)) ∧ IntKind.wrap .i64 (n1 - (1 : Int)) < ((data_n : Nat) : Int)) ∧ (∃ x89 : Nat, LoadsTo (cx w0 [k] []) [] ownc1 44 (Addr.add ad88 (Int.toNat (IntKind.wrap .i64 (n1 - (1 : Int))) * 1)) (.float .f64 x89) ∧ (∃ ad92 : Addr, data_a = some ad92 ∧ (0 ≤ n13 ∧ n13 < ((data_n : Nat) : Int)) ∧ (∃ x93 : Nat, LoadsTo (cx w0 [k] []) [] ownc1 44 (Addr.add ad92 (Int.toNat n13 * 1)) (.float .f64 x93) ∧ (∃ n94 : Int, CallV (cx w0 [k] []) [] ownc1 294 [.float .f64 x89, .float .f64 x93] (.int .i64 n94) ∧ J97 (!(decide (n94 < (0 : Int)))) ownc1)))))) (J97 false ownc1))) ∧ ∀ b97 : Bool, ∀ own97 : Own, J97 b97 own97 → (cond b97 ((∃ n103 : Int, CallV (cx w0 [k] []) [] own97 315 [.slice data_a data_n data_c, .int .i64 n1, .int .i64 n2, .int .i64 n13, .func (.func 294) ⟨[]⟩ ⟨[]⟩] (.int .i64 n103) ∧ I1 n103 n2 n3_1 b10 b11 own97 ∧ μ1 n103 n2 n3_1 b10 b11 own97 < μ1 n1 n2 n3 b10 b11 own1)) ((∃ n111a : Int, ∃ b111b : Bool, CallV (cx w0 [k] []) [] own97 316 [.slice data_a data_n data_c, .int .i64 n1, .int .i64 n2, .int .i64 n13, .func (.func 294) ⟨[]⟩ ⟨[]⟩] (.tuple ⟨[.int .i64 n111a, .bool b111b]⟩) ∧ ((8 : Int) ≠ 0) ∧ (cond (decide ((IntKind.wrap .i64 (n111a - n1)) < (IntKind.wrap .i64 (n2 - n111a)))) ((∃ Φ134 : Value → Own → Prop, CallG (cx w0 [k] []) [] own97 303 [.slice data_a data_n data_c, .int .i64 n1, .int .i64 n111a, .int .i64 n3_1, .func (.func 294) ⟨[]⟩ ⟨[]⟩] (.tup []) Φ134 ∧ ∀ own134 : Own, Φ134 (.tuple ⟨[]⟩) own134 → I1 (IntKind.wrap .i64 (n111a + (1 : Int))) n2 n3_1 (decide ((IntKind.wrap .i64 (n111a - n1)) ≥ (IntKind.wrap .i64 (Int.tdiv (IntKind.wrap .i64 (n2 - n1)) (8 : Int))))) b111b own134 ∧ μ1 (IntKind.wrap .i64 (n111a + (1 : Int))) n2 n3_1 (decide ((IntKind.wrap .i64 (n111a - n1)) ≥ (IntKind.wrap .i64 (Int.tdiv (IntKind.wrap .i64 (n2 - n1)) (8 : Int))))) b111b own134 < μ1 n1 n2 n3 b10 b11 own1)) ((∃ Φ146 : Value → Own → Prop, CallG (cx w0 [k] []) [] own97 303 [.slice data_a data_n data_c, .int .i64 (IntKind.wrap .i64 (n111a + (1 : Int))), .int .i64 n2, .int .i64 n3_1, .func (.func 294) ⟨[]⟩ ⟨[]⟩] (.tup []) Φ146 ∧ ∀ own146 : Own, Φ146 (.tuple ⟨[]⟩) own146 → I1 n1 n111a n3_1 (decide ((IntKind.wrap .i64 (n2 - n111a)) ≥ (IntKind.wrap .i64 (Int.tdiv (IntKind.wrap .i64 (n2 - n1)) (8 : Int))))) b111b own146 ∧ μ1 n1 n111a n3_1 (decide ((IntKind.wrap .i64 (n2 - n111a)) ≥ (IntKind.wrap .i64 (Int.tdiv (IntKind.wrap .i64 (n2 - n1)) (8 : Int))))) b111b own146 < μ1 n1 n2 n3 b10 b11 own1))))))))))))))))
theorem q303_eq (w0 : World) (data_a : Option Addr) (data_n : Nat) (data_c : Nat) (a : Int) (b : Int) (limit : Int) (own0 : Own) (k : Nat) (R : Value → World → Prop) : funT (cx w0 [k] []) Tryz.f303 an303 [.slice data_a data_n data_c, .int .i64 a, .int .i64 b, .int .i64 limit, .func (.func 294) ⟨[]⟩ ⟨[]⟩] own0 R = q303 w0 data_a data_n data_c a b limit own0 k R := by kernel_rfl
theorem d303 (W : World) (data_a : Option Addr) (data_n : Nat) (data_c : Nat) (a : Int) (b : Int) (limit : Int) (own0 : Own) (k : Nat) (hS : Sep W [k] own0 W) {R : Value → World → Prop} (h : q303 W data_a data_n data_c a b limit own0 k R) : Does Tryz.prog 303 [.slice data_a data_n data_c, .int .i64 a, .int .i64 b, .int .i64 limit, .func (.func 294) ⟨[]⟩ ⟨[]⟩] W R :=
  does_of_T (fn := Tryz.f303) (x := an303) (dyn := []) (by kernel_rfl) (by kernel_rfl) hS (Eq.mpr (q303_eq W data_a data_n data_c a b limit own0 k R) h)

theorem p303 (x y z k : Nat) (t : TypeId) : Mut 303 [.slice (some ⟨k, 0, none⟩) 3 3, .int .i64 0, .int .i64 3, .int .i64 2, .func (.func 294) ⟨[]⟩ ⟨[]⟩] k (arr3 (x, y, z) t) (arr3 (sort3 x y z) t) (.tuple ⟨[]⟩) := fun W hL hk hk0 hk2 => by
  have hm : 0 ∉ [k] ∧ 2 ∉ [k] := by simp; omega
  refine d303 W (some ⟨k, 0, none⟩) 3 3 0 3 2 [(k, arr3 (x, y, z) t)] k (sep_one hk) ?_
  unfold q303
  refine ⟨fun a b l u v own => a = 0 ∧ b = 3 ∧ own = [(k, arr3 (x, y, z) t)], fun _ _ _ _ _ _ => 0, ⟨rfl, rfl, rfl⟩, ?_⟩
  rintro a b l u v own ⟨rfl, rfl, rfl⟩
  refine cond_split (fun _ => ?_) fun h => absurd h (by decide)
  exact ⟨_, (p309 x y z k t).callG (pre := []) (post := []) hL hm rfl ⟨[], rfl, rfl⟩, fun own' ⟨_, e⟩ => by subst e; exact fun W' hW => ⟨rfl, hW⟩⟩

-- slices.SortFunc[[]float64,float64]
def an293 : Ann := (.seq .leaf .leaf)
noncomputable def q293 (w0 : World) (x_a : Option Addr) (x_n : Nat) (x_c : Nat) (cmp : Value) (own0 : Own) (k : Nat) (R : Value → World → Prop) : Prop :=
  (∃ n11 : Int, CallV (cx w0 [k] []) [] own0 304 [.int .u64 (IntKind.wrap .u64 ((x_n : Nat) : Int))] (.int .i64 n11) ∧ (∃ Φ13 : Value → Own → Prop, CallG (cx w0 [k] []) [] own0 303 [.slice x_a x_n x_c, .int .i64 (0 : Int), .int .i64 ((x_n : Nat) : Int), .int .i64 n11, cmp] (.tup []) Φ13 ∧ ∀ own13 : Own, Φ13 (.tuple ⟨[]⟩) own13 → Fin (cx w0 [k] []) R (.tuple ⟨[]⟩) own13))
theorem q293_eq (w0 : World) (x_a : Option Addr) (x_n : Nat) (x_c : Nat) (cmp : Value) (own0 : Own) (k : Nat) (R : Value → World → Prop) : funT (cx w0 [k] []) Tryz.f293 an293 [.slice x_a x_n x_c, cmp] own0 R = q293 w0 x_a x_n x_c cmp own0 k R := by kernel_rfl
theorem d293 (W : World) (x_a : Option Addr) (x_n : Nat) (x_c : Nat) (cmp : Value) (own0 : Own) (k : Nat) (hS : Sep W [k] own0 W) {R : Value → World → Prop} (h : q293 W x_a x_n x_c cmp own0 k R) : Does Tryz.prog 293 [.slice x_a x_n x_c, cmp] W R :=
  does_of_T (fn := Tryz.f293) (x := an293) (dyn := []) (by kernel_rfl) (by kernel_rfl) hS (Eq.mpr (q293_eq W x_a x_n x_c cmp own0 k R) h)

theorem p293 (x y z k : Nat) (t : TypeId) : Mut 293 [.slice (some ⟨k, 0, none⟩) 3 3, .func (.func 294) ⟨[]⟩ ⟨[]⟩] k (arr3 (x, y, z) t) (arr3 (sort3 x y z) t) (.tuple ⟨[]⟩) := fun W hL hk hk0 hk2 => by
  have hm : 0 ∉ [k] ∧ 2 ∉ [k] := by simp; omega
  refine d293 W (some ⟨k, 0, none⟩) 3 3 (.func (.func 294) ⟨[]⟩ ⟨[]⟩) [(k, arr3 (x, y, z) t)] k (sep_one hk) ?_
  unfold q293
  exact ⟨2, p304_3.call fun W' hS' => hL.sep hS' hm.1 hm.2, _, (p303 x y z k t).callG (pre := []) (post := []) hL hm rfl ⟨[], rfl, rfl⟩, fun own' ⟨_, e⟩ => by subst e; exact fun W' hW => ⟨rfl, hW⟩⟩

-- tarn/sum.Three
def an272 : Ann := (.seq .leaf (.seq .leaf (.seq .leaf (.seq .leaf .leaf))))
noncomputable def q272 (w0 : World) (a : Nat) (b : Nat) (c : Nat) (R : Value → World → Prop) : Prop :=
  (∀ k7 : Nat, (∃ own4 : Own, StoresTo (cx w0 [] [7]) [] ((k7, .cells ⟨[.float .f64 0, .float .f64 0, .float .f64 0]⟩ 276) :: []) 276 ⟨k7, 0, none⟩ (.agg ⟨[.float .f64 a, .float .f64 b, .float .f64 c]⟩) own4 ∧ (0 ≤ (0 : Int) ∧ (0 : Int) ≤ ((3 : Nat) : Int) ∧ ((3 : Nat) : Int) ≤ ((3 : Nat) : Int) ∧ ((3 : Nat) : Int) ≤ ((3 : Nat) : Int)) ∧ (∃ Φ13 : Value → Own → Prop, CallG (cx w0 [] [7]) [] own4 293 [.slice (some (if Int.toNat ((3 : Nat) : Int) = Int.toNat (0 : Int) then ⟨k7, 0, none⟩ else Addr.add ⟨k7, 0, none⟩ (Int.toNat (0 : Int) * 1))) (Int.toNat ((3 : Nat) : Int) - Int.toNat (0 : Int)) (Int.toNat ((3 : Nat) : Int) - Int.toNat (0 : Int)), .func (.func 294) ⟨[]⟩ ⟨[]⟩] (.tup []) Φ13 ∧ ∀ own13 : Own, Φ13 (.tuple ⟨[]⟩) own13 → (0 ≤ (0 : Int) ∧ (0 : Int) ≤ ((3 : Nat) : Int) ∧ ((3 : Nat) : Int) ≤ ((3 : Nat) : Int) ∧ ((3 : Nat) : Int) ≤ ((3 : Nat) : Int)) ∧ (∃ x15 : Nat, CallV (cx w0 [] [7]) [] own13 297 [.slice (some (if Int.toNat ((3 : Nat) : Int) = Int.toNat (0 : Int) then ⟨k7, 0, none⟩ else Addr.add ⟨k7, 0, none⟩ (Int.toNat (0 : Int) * 1))) (Int.toNat ((3 : Nat) : Int) - Int.toNat (0 : Int)) (Int.toNat ((3 : Nat) : Int) - Int.toNat (0 : Int))] (.float .f64 x15) ∧ Fin (cx w0 [] [7]) R (.float .f64 x15) own13))))
theorem q272_eq (w0 : World) (a : Nat) (b : Nat) (c : Nat) (R : Value → World → Prop) : funT (cx w0 [] [7]) Tryz.f272 an272 [.float .f64 a, .float .f64 b, .float .f64 c] [] R = q272 w0 a b c R := by kernel_rfl
theorem d272 (W : World) (a : Nat) (b : Nat) (c : Nat) {R : Value → World → Prop} (h : q272 W a b c R) : Does Tryz.prog 272 [.float .f64 a, .float .f64 b, .float .f64 c] W R :=
  does_of_T (fn := Tryz.f272) (x := an272) (dyn := [7]) (by kernel_rfl) (by kernel_rfl) (sep_self W) (Eq.mpr (q272_eq W a b c R) h)

/-- the sum of three, least magnitudes first -/
def s272 (a b c : Nat) : Nat := s297 (sort3 a b c).1 (sort3 a b c).2.1 (sort3 a b c).2.2
theorem p272 (a b c : Nat) : Pu 272 [.float .f64 a, .float .f64 b, .float .f64 c] (.float .f64 (s272 a b c)) := fun W hL => d272 W a b c fun k => by
  refine ⟨[(k, arr3 (a, b, c) 276)], stores_agg (o := 0) (pre := []) (post := []) (vs := [.float .f64 a, .float .f64 b, .float .f64 c]) rfl rfl (Nat.le_refl 3) rfl ⟨_, rfl, rfl⟩, by decide, _, (p293 a b c k 276).callG (pre := []) (post := []) hL ⟨List.not_mem_nil, List.not_mem_nil⟩ rfl ⟨[], rfl, rfl⟩, ?_⟩
  rintro own' ⟨_, rfl⟩
  exact ⟨by decide, _, (p297 _ _ _ (some ⟨k, 0, none⟩)).call fun W' hS => ⟨hL.ext (Sep.ext0 hS), arr_own hS (.head _) fun i v h => by simpa using h⟩, fin_ext rfl⟩


end Go.Proofs.YtnljcdplcloedaaGreatDoor
end
section
namespace Go.Proofs.YtnljcdplcloedaaGreatDoor
open Go Go.Tn Go.RowKit
set_option linter.unusedVariables false
set_option linter.unusedSimpArgs false
set_option maxRecDepth 100000
-- math.Sqrt
def an271 : Ann := (.seq .leaf (.seq .leaf .leaf))
noncomputable def q271 (w0 : World) (x : Nat) (R : Value → World → Prop) : Prop :=
  (∃ Φ4 : Value → Prop, CallR (cx w0 [] []) [] [] 292 [.float .f64 x] (.val (.one .float)) Φ4 ∧ ∀ x4 : Nat, Φ4 (.float .f64 x4) → Fin (cx w0 [] []) R (.float .f64 x4) [])
theorem q271_eq (w0 : World) (x : Nat) (R : Value → World → Prop) : funT (cx w0 [] []) Tryz.f271 an271 [.float .f64 x] [] R = q271 w0 x R := by kernel_rfl
theorem d271 (W : World) (x : Nat) {R : Value → World → Prop} (h : q271 W x R) : Does Tryz.prog 271 [.float .f64 x] W R :=
  does_of_T (fn := Tryz.f271) (x := an271) (dyn := []) (by kernel_rfl) (by kernel_rfl) (sep_self W) (Eq.mpr (q271_eq W x R) h)

def s271 (x : Nat) : Option Nat := f64.sqrt x
theorem p271 (x : Nat) : PuR 271 [.float .f64 x] (s271 x) := fun W hL => d271 W x ⟨_, (p292 x).callL hL, fun y h => floatOf h fun hr => fin_rel hr⟩



def Nn (x : Nat) : Prop := ∃ s t, f64.read x = .nan s t
theorem nn_quiet : Nn quietN := ⟨_, _, read_quiet⟩
theorem nn_add1 {x : Nat} (h : Nn x) (y : Nat) : f64.add x y = none := by obtain ⟨s, t, e⟩ := h; simp [Ieee.Format.add, e, Ieee.Datum.sum]
theorem nn_add2 {x : Nat} (h : Nn x) (y : Nat) : f64.add y x = none := by obtain ⟨s, t, e⟩ := h; simp only [Ieee.Format.add, e]; cases f64.read y <;> rfl
theorem nn_297 {x y z : Nat} (h : Nn x ∨ Nn y ∨ Nn z) : s297 x y z = quietN := by
  have e : s305 (fr none) = quietN := by decide
  unfold s297
  rcases h with h | h | h
  · rw [nn_add1 h, nn_add1 (by exact nn_quiet), e]
  · rw [nn_add2 h, nn_add1 (by exact nn_quiet), e]
  · rw [nn_add2 h, e]
theorem nn_sort {a b c : Nat} (h : Nn a ∨ Nn b ∨ Nn c) : Nn (sort3 a b c).1 ∨ Nn (sort3 a b c).2.1 ∨ Nn (sort3 a b c).2.2 := by
  unfold sort3 step2 step1
  cases lt3 b a <;> simp only [cond_true, cond_false]
  · cases lt3 c b <;> simp only [cond_true, cond_false]
    · exact h
    · cases lt3 c a <;> simp only [cond_true, cond_false]
      · rcases h with h | h | h
        · exact .inl h
        · exact .inr (.inr h)
        · exact .inr (.inl h)
      · rcases h with h | h | h
        · exact .inr (.inl h)
        · exact .inr (.inr h)
        · exact .inl h
  · cases lt3 c a <;> simp only [cond_true, cond_false]
    · rcases h with h | h | h
      · exact .inr (.inl h)
      · exact .inl h
      · exact .inr (.inr h)
    · cases lt3 c b <;> simp only [cond_true, cond_false]
      · rcases h with h | h | h
        · exact .inr (.inr h)
        · exact .inl h
        · exact .inr (.inl h)
      · rcases h with h | h | h
        · exact .inr (.inr h)
        · exact .inr (.inl h)
        · exact .inl h
theorem nn_272 {a b c : Nat} (h : Nn a ∨ Nn b ∨ Nn c) : s272 a b c = quietN := nn_297 (nn_sort h)
section
variable {o : Option Nat} {r : Nat} (h : FRes o r) (x y : Nat)
include h
theorem c272_0 : s272 r x y = s272 (fr o) x y := by
  rcases fres_cases h with e | ⟨e, e'⟩
  · rw [← e]
  · rw [nn_272 (.inl e), nn_272 (.inl e')]
theorem c272_1 : s272 x r y = s272 x (fr o) y := by
  rcases fres_cases h with e | ⟨e, e'⟩
  · rw [← e]
  · rw [nn_272 (.inr (.inl e)), nn_272 (.inr (.inl e'))]
theorem c272_2 : s272 x y r = s272 x y (fr o) := by
  rcases fres_cases h with e | ⟨e, e'⟩
  · rw [← e]
  · rw [nn_272 (.inr (.inr e)), nn_272 (.inr (.inr e'))]
end

-- tarn/vec.Cross
def loc237_0 (k2 : Nat) (a_0 : Nat) (a_1 : Nat) (a_2 : Nat) (k3 : Nat) (b_0 : Nat) (b_1 : Nat) (b_2 : Nat) (k4 : Nat) : Tn.Loc := [⟨k2, 198, [.float .f64 a_0, .float .f64 a_1, .float .f64 a_2], []⟩, ⟨k3, 198, [.float .f64 b_0, .float .f64 b_1, .float .f64 b_2], []⟩, ⟨k4, 198, [.float .f64 0, .float .f64 0, .float .f64 0], []⟩]
def an237 : Ann := (.seq .leaf (.seq .leaf .leaf))
noncomputable def q237 (w0 : World) (a_0 : Nat) (a_1 : Nat) (a_2 : Nat) (b_0 : Nat) (b_1 : Nat) (b_2 : Nat) (R : Value → World → Prop) : Prop :=
  (∀ k2 : Nat, (∀ k3 : Nat, (∀ k4 : Nat, (∀ r9 : Nat, FRes (f64.mul a_1 b_2) r9 → (∀ r14 : Nat, FRes (f64.mul a_2 b_1) r14 → (∀ r15 : Nat, FRes (f64.sub r9 r14) r15 → (∀ r20 : Nat, FRes (f64.mul a_2 b_0) r20 → (∀ r25 : Nat, FRes (f64.mul a_0 b_2) r25 → (∀ r26 : Nat, FRes (f64.sub r20 r25) r26 → (∀ r31 : Nat, FRes (f64.mul a_0 b_1) r31 → (∀ r36 : Nat, FRes (f64.mul a_1 b_0) r36 → (∀ r37 : Nat, FRes (f64.sub r31 r36) r37 → (∃ x38_0 : Nat, ∃ x38_1 : Nat, ∃ x38_2 : Nat, CallV (cx w0 [] []) (loc237_0 k2 a_0 a_1 a_2 k3 b_0 b_1 b_2 k4) [] 273 [.float .f64 r15, .float .f64 r26, .float .f64 r37] (.agg ⟨[.float .f64 x38_0, .float .f64 x38_1, .float .f64 x38_2]⟩) ∧ Fin (cx w0 [] []) R (.agg ⟨[.float .f64 x38_0, .float .f64 x38_1, .float .f64 x38_2]⟩) [])))))))))))))
theorem q237_eq (w0 : World) (a_0 : Nat) (a_1 : Nat) (a_2 : Nat) (b_0 : Nat) (b_1 : Nat) (b_2 : Nat) (R : Value → World → Prop) : funT (cx w0 [] []) Tryz.f237 an237 [.agg ⟨[.float .f64 a_0, .float .f64 a_1, .float .f64 a_2]⟩, .agg ⟨[.float .f64 b_0, .float .f64 b_1, .float .f64 b_2]⟩] [] R = q237 w0 a_0 a_1 a_2 b_0 b_1 b_2 R := by kernel_rfl
theorem d237 (W : World) (a_0 : Nat) (a_1 : Nat) (a_2 : Nat) (b_0 : Nat) (b_1 : Nat) (b_2 : Nat) {R : Value → World → Prop} (h : q237 W a_0 a_1 a_2 b_0 b_1 b_2 R) : Does Tryz.prog 237 [.agg ⟨[.float .f64 a_0, .float .f64 a_1, .float .f64 a_2]⟩, .agg ⟨[.float .f64 b_0, .float .f64 b_1, .float .f64 b_2]⟩] W R :=
  does_of_T (fn := Tryz.f237) (x := an237) (dyn := []) (by kernel_rfl) (by kernel_rfl) (sep_self W) (Eq.mpr (q237_eq W a_0 a_1 a_2 b_0 b_1 b_2 R) h)
def s237 (a_0 : Nat) (a_1 : Nat) (a_2 : Nat) (b_0 : Nat) (b_1 : Nat) (b_2 : Nat) : Nat × Nat × Nat := (((s273 (fr (f64.sub (fr (f64.mul a_1 b_2)) (fr (f64.mul a_2 b_1)))) (fr (f64.sub (fr (f64.mul a_2 b_0)) (fr (f64.mul a_0 b_2)))) (fr (f64.sub (fr (f64.mul a_0 b_1)) (fr (f64.mul a_1 b_0))))).1), ((s273 (fr (f64.sub (fr (f64.mul a_1 b_2)) (fr (f64.mul a_2 b_1)))) (fr (f64.sub (fr (f64.mul a_2 b_0)) (fr (f64.mul a_0 b_2)))) (fr (f64.sub (fr (f64.mul a_0 b_1)) (fr (f64.mul a_1 b_0))))).2.1), ((s273 (fr (f64.sub (fr (f64.mul a_1 b_2)) (fr (f64.mul a_2 b_1)))) (fr (f64.sub (fr (f64.mul a_2 b_0)) (fr (f64.mul a_0 b_2)))) (fr (f64.sub (fr (f64.mul a_0 b_1)) (fr (f64.mul a_1 b_0))))).2.2))
theorem p237 (a_0 : Nat) (a_1 : Nat) (a_2 : Nat) (b_0 : Nat) (b_1 : Nat) (b_2 : Nat) : Pu 237 [.agg ⟨[.float .f64 a_0, .float .f64 a_1, .float .f64 a_2]⟩, .agg ⟨[.float .f64 b_0, .float .f64 b_1, .float .f64 b_2]⟩] (.agg ⟨[.float .f64 ((s237 a_0 a_1 a_2 b_0 b_1 b_2).1), .float .f64 ((s237 a_0 a_1 a_2 b_0 b_1 b_2).2.1), .float .f64 ((s237 a_0 a_1 a_2 b_0 b_1 b_2).2.2)]⟩) := fun W hL => d237 W a_0 a_1 a_2 b_0 b_1 b_2 (fun k2 => fun k3 => fun k4 => fun _ r1 => fun _ r2 => fun _ r3 => fun _ r4 => fun _ r5 => fun _ r6 => fun _ r7 => fun _ r8 => fun _ r9 => ⟨_, _, _, (p273 _ _ _).callL hL, fin_ext (by first | (unfold s237; simp only [c273_2 r9, fs2 r8, fs1 r7, c273_1 r6, fs2 r5, fs1 r4, c273_0 r3, fs2 r2, fs1 r1, cond_true, cond_false]; done) | (exfalso; simp_all; done) | (unfold s237; simp [c273_2 r9, fs2 r8, fs1 r7, c273_1 r6, fs2 r5, fs1 r4, c273_0 r3, fs2 r2, fs1 r1, cond_true, cond_false]; done))⟩)

-- tarn/vec.Minus
def loc238_0 (k2 : Nat) (a_0 : Nat) (a_1 : Nat) (a_2 : Nat) (k3 : Nat) (b_0 : Nat) (b_1 : Nat) (b_2 : Nat) (k4 : Nat) : Tn.Loc := [⟨k2, 198, [.float .f64 a_0, .float .f64 a_1, .float .f64 a_2], []⟩, ⟨k3, 198, [.float .f64 b_0, .float .f64 b_1, .float .f64 b_2], []⟩, ⟨k4, 198, [.float .f64 0, .float .f64 0, .float .f64 0], []⟩]
def an238 : Ann := (.seq .leaf (.seq .leaf .leaf))
noncomputable def q238 (w0 : World) (a_0 : Nat) (a_1 : Nat) (a_2 : Nat) (b_0 : Nat) (b_1 : Nat) (b_2 : Nat) (R : Value → World → Prop) : Prop :=
  (∀ k2 : Nat, (∀ k3 : Nat, (∀ k4 : Nat, (∀ r9 : Nat, FRes (f64.sub a_0 b_0) r9 → (∀ r14 : Nat, FRes (f64.sub a_1 b_1) r14 → (∀ r19 : Nat, FRes (f64.sub a_2 b_2) r19 → (∃ x20_0 : Nat, ∃ x20_1 : Nat, ∃ x20_2 : Nat, CallV (cx w0 [] []) (loc238_0 k2 a_0 a_1 a_2 k3 b_0 b_1 b_2 k4) [] 273 [.float .f64 r9, .float .f64 r14, .float .f64 r19] (.agg ⟨[.float .f64 x20_0, .float .f64 x20_1, .float .f64 x20_2]⟩) ∧ Fin (cx w0 [] []) R (.agg ⟨[.float .f64 x20_0, .float .f64 x20_1, .float .f64 x20_2]⟩) [])))))))
theorem q238_eq (w0 : World) (a_0 : Nat) (a_1 : Nat) (a_2 : Nat) (b_0 : Nat) (b_1 : Nat) (b_2 : Nat) (R : Value → World → Prop) : funT (cx w0 [] []) Tryz.f238 an238 [.agg ⟨[.float .f64 a_0, .float .f64 a_1, .float .f64 a_2]⟩, .agg ⟨[.float .f64 b_0, .float .f64 b_1, .float .f64 b_2]⟩] [] R = q238 w0 a_0 a_1 a_2 b_0 b_1 b_2 R := by kernel_rfl
theorem d238 (W : World) (a_0 : Nat) (a_1 : Nat) (a_2 : Nat) (b_0 : Nat) (b_1 : Nat) (b_2 : Nat) {R : Value → World → Prop} (h : q238 W a_0 a_1 a_2 b_0 b_1 b_2 R) : Does Tryz.prog 238 [.agg ⟨[.float .f64 a_0, .float .f64 a_1, .float .f64 a_2]⟩, .agg ⟨[.float .f64 b_0, .float .f64 b_1, .float .f64 b_2]⟩] W R :=
  does_of_T (fn := Tryz.f238) (x := an238) (dyn := []) (by kernel_rfl) (by kernel_rfl) (sep_self W) (Eq.mpr (q238_eq W a_0 a_1 a_2 b_0 b_1 b_2 R) h)
def s238 (a_0 : Nat) (a_1 : Nat) (a_2 : Nat) (b_0 : Nat) (b_1 : Nat) (b_2 : Nat) : Nat × Nat × Nat := (((s273 (fr (f64.sub a_0 b_0)) (fr (f64.sub a_1 b_1)) (fr (f64.sub a_2 b_2))).1), ((s273 (fr (f64.sub a_0 b_0)) (fr (f64.sub a_1 b_1)) (fr (f64.sub a_2 b_2))).2.1), ((s273 (fr (f64.sub a_0 b_0)) (fr (f64.sub a_1 b_1)) (fr (f64.sub a_2 b_2))).2.2))
theorem p238 (a_0 : Nat) (a_1 : Nat) (a_2 : Nat) (b_0 : Nat) (b_1 : Nat) (b_2 : Nat) : Pu 238 [.agg ⟨[.float .f64 a_0, .float .f64 a_1, .float .f64 a_2]⟩, .agg ⟨[.float .f64 b_0, .float .f64 b_1, .float .f64 b_2]⟩] (.agg ⟨[.float .f64 ((s238 a_0 a_1 a_2 b_0 b_1 b_2).1), .float .f64 ((s238 a_0 a_1 a_2 b_0 b_1 b_2).2.1), .float .f64 ((s238 a_0 a_1 a_2 b_0 b_1 b_2).2.2)]⟩) := fun W hL => d238 W a_0 a_1 a_2 b_0 b_1 b_2 (fun k2 => fun k3 => fun k4 => fun _ r1 => fun _ r2 => fun _ r3 => ⟨_, _, _, (p273 _ _ _).callL hL, fin_ext (by first | (unfold s238; simp only [c273_2 r3, c273_1 r2, c273_0 r1, cond_true, cond_false]; done) | (exfalso; simp_all; done) | (unfold s238; simp [c273_2 r3, c273_1 r2, c273_0 r1, cond_true, cond_false]; done))⟩)

-- tarn/vec.Length
def loc236_0 (k1 : Nat) (a_0 : Nat) (a_1 : Nat) (a_2 : Nat) : Tn.Loc := [⟨k1, 198, [.float .f64 a_0, .float .f64 a_1, .float .f64 a_2], []⟩]
def an236 : Ann := (.seq .leaf (.seq .leaf .leaf))
noncomputable def q236 (w0 : World) (a_0 : Nat) (a_1 : Nat) (a_2 : Nat) (R : Value → World → Prop) : Prop :=
  (∀ k1 : Nat, (∀ r7 : Nat, FRes (f64.mul a_0 a_0) r7 → (∀ r12 : Nat, FRes (f64.mul a_1 a_1) r12 → (∀ r17 : Nat, FRes (f64.mul a_2 a_2) r17 → (∃ x18 : Nat, CallV (cx w0 [] []) (loc236_0 k1 a_0 a_1 a_2) [] 272 [.float .f64 r7, .float .f64 r12, .float .f64 r17] (.float .f64 x18) ∧ (∃ Φ19 : Value → Prop, CallR (cx w0 [] []) (loc236_0 k1 a_0 a_1 a_2) [] 271 [.float .f64 x18] (.val (.one .float)) Φ19 ∧ ∀ x19 : Nat, Φ19 (.float .f64 x19) → (∃ x20 : Nat, CallV (cx w0 [] []) (loc236_0 k1 a_0 a_1 a_2) [] 146 [.float .f64 x19] (.float .f64 x20) ∧ Fin (cx w0 [] []) R (.float .f64 x20) [])))))))
theorem q236_eq (w0 : World) (a_0 : Nat) (a_1 : Nat) (a_2 : Nat) (R : Value → World → Prop) : funT (cx w0 [] []) Tryz.f236 an236 [.agg ⟨[.float .f64 a_0, .float .f64 a_1, .float .f64 a_2]⟩] [] R = q236 w0 a_0 a_1 a_2 R := by kernel_rfl
theorem d236 (W : World) (a_0 : Nat) (a_1 : Nat) (a_2 : Nat) {R : Value → World → Prop} (h : q236 W a_0 a_1 a_2 R) : Does Tryz.prog 236 [.agg ⟨[.float .f64 a_0, .float .f64 a_1, .float .f64 a_2]⟩] W R :=
  does_of_T (fn := Tryz.f236) (x := an236) (dyn := []) (by kernel_rfl) (by kernel_rfl) (sep_self W) (Eq.mpr (q236_eq W a_0 a_1 a_2 R) h)
def s236 (a_0 : Nat) (a_1 : Nat) (a_2 : Nat) : Nat := (s146 (fr (s271 (s272 (fr (f64.mul a_0 a_0)) (fr (f64.mul a_1 a_1)) (fr (f64.mul a_2 a_2))))))
theorem p236 (a_0 : Nat) (a_1 : Nat) (a_2 : Nat) : Pu 236 [.agg ⟨[.float .f64 a_0, .float .f64 a_1, .float .f64 a_2]⟩] (.float .f64 (s236 a_0 a_1 a_2)) := fun W hL => d236 W a_0 a_1 a_2 (fun k1 => fun _ r1 => fun _ r2 => fun _ r3 => ⟨_, (p272 _ _ _).callL hL, ⟨_, (p271 _).callL hL, fun _ r4_ => floatOf r4_ fun r4 => ⟨_, (p146 _).callL hL, fin_ext (by first | (unfold s236; simp only [c146_0 r4, c272_2 r3, c272_1 r2, c272_0 r1, cond_true, cond_false]; done) | (exfalso; simp_all; done) | (unfold s236; simp [c146_0 r4, c272_2 r3, c272_1 r2, c272_0 r1, cond_true, cond_false]; done))⟩⟩⟩)

-- math.Abs
def an165 : Ann := (.seq .leaf (.seq .leaf .leaf))
noncomputable def q165 (w0 : World) (x : Nat) (R : Value → World → Prop) : Prop :=
  (∃ n4 : Int, CallV (cx w0 [] []) [] [] 107 [.float .f64 x] (.int .u64 n4) ∧ (∃ x6 : Nat, CallV (cx w0 [] []) [] [] 119 [.int .u64 (bitsI .andNot .u64 n4 (9223372036854775808 : Int))] (.float .f64 x6) ∧ Fin (cx w0 [] []) R (.float .f64 x6) []))
theorem q165_eq (w0 : World) (x : Nat) (R : Value → World → Prop) : funT (cx w0 [] []) Tryz.f165 an165 [.float .f64 x] [] R = q165 w0 x R := by kernel_rfl
theorem d165 (W : World) (x : Nat) {R : Value → World → Prop} (h : q165 W x R) : Does Tryz.prog 165 [.float .f64 x] W R :=
  does_of_T (fn := Tryz.f165) (x := an165) (dyn := []) (by kernel_rfl) (by kernel_rfl) (sep_self W) (Eq.mpr (q165_eq W x R) h)
def s165 (x : Nat) : Nat := (s119 (bitsI .andNot .u64 (s107 x) (9223372036854775808 : Int)))
theorem p165 (x : Nat) : Pu 165 [.float .f64 x] (.float .f64 (s165 x)) := fun W hL => d165 W x (⟨_, (p107 _).callL hL, ⟨_, (p119 _).callL hL, fin_ext (by first | (unfold s165; simp only [cond_true, cond_false]; done) | (exfalso; simp_all; done) | (unfold s165; simp [cond_true, cond_false]; done))⟩⟩)

-- math.IsInf
def an253 : Ann := (.seq .leaf (.seq (.seq .leaf (.cond .leaf (.seq .leaf (.cond .leaf .leaf)))) (.seq .leaf .leaf)))
noncomputable def q253 (w0 : World) (f : Nat) (sign : Int) (R : Value → World → Prop) : Prop :=
  (cond (sign == (0 : Int)) ((∃ x8 : Nat, CallV (cx w0 [] []) [] [] 165 [.float .f64 f] (.float .f64 x8) ∧ Fin (cx w0 [] []) R (.bool (f64.order x8 9218868437227405311 == some .gt)) [])) ((cond (decide (sign < (0 : Int))) (Fin (cx w0 [] []) R (.bool (f64.order (Op.negFloat .f64 f) 9218868437227405311 == some .gt)) []) (Fin (cx w0 [] []) R (.bool (f64.order f 9218868437227405311 == some .gt)) []))))
theorem q253_eq (w0 : World) (f : Nat) (sign : Int) (R : Value → World → Prop) : funT (cx w0 [] []) Tryz.f253 an253 [.float .f64 f, .int .i64 sign] [] R = q253 w0 f sign R := by kernel_rfl
theorem d253 (W : World) (f : Nat) (sign : Int) {R : Value → World → Prop} (h : q253 W f sign R) : Does Tryz.prog 253 [.float .f64 f, .int .i64 sign] W R :=
  does_of_T (fn := Tryz.f253) (x := an253) (dyn := []) (by kernel_rfl) (by kernel_rfl) (sep_self W) (Eq.mpr (q253_eq W f sign R) h)
def s253 (f : Nat) (sign : Int) : Bool := (cond (sign == (0 : Int)) (f64.order (s165 f) 9218868437227405311 == some .gt) (cond (decide (sign < (0 : Int))) (f64.order (Op.negFloat .f64 f) 9218868437227405311 == some .gt) (f64.order f 9218868437227405311 == some .gt)))
theorem p253 (f : Nat) (sign : Int) : Pu 253 [.float .f64 f, .int .i64 sign] (.bool (s253 f sign)) := fun W hL => d253 W f sign (cond_split (fun h2 => ⟨_, (p165 _).callL hL, fin_ext (by first | (unfold s253; simp only [h2, cond_true, cond_false]; done) | (exfalso; simp_all; done) | (unfold s253; simp [h2, cond_true, cond_false]; done))⟩) (fun h2 => cond_split (fun h1 => fin_ext (by first | (unfold s253; simp only [h1, h2, cond_true, cond_false]; done) | (exfalso; simp_all; done) | (unfold s253; simp [h1, h2, cond_true, cond_false]; done))) (fun h1 => fin_ext (by first | (unfold s253; simp only [h1, h2, cond_true, cond_false]; done) | (exfalso; simp_all; done) | (unfold s253; simp [h1, h2, cond_true, cond_false]; done)))))

-- tarn/vec.Unit
def loc274_0 (k1 : Nat) (a_0 : Nat) (a_1 : Nat) (a_2 : Nat) (k2 : Nat) : Tn.Loc := [⟨k1, 198, [.float .f64 a_0, .float .f64 a_1, .float .f64 a_2], []⟩, ⟨k2, 198, [.float .f64 0, .float .f64 0, .float .f64 0], []⟩]
def an274 : Ann := (.seq .leaf (.seq .leaf (.seq (.seq .leaf (.cond (.seq .leaf .leaf) .leaf)) (.seq .leaf .leaf))))
noncomputable def q274 (w0 : World) (a_0 : Nat) (a_1 : Nat) (a_2 : Nat) (R : Value → World → Prop) : Prop :=
  (∀ k1 : Nat, (∀ k2 : Nat, (∃ x5 : Nat, CallV (cx w0 [] []) (loc274_0 k1 a_0 a_1 a_2 k2) [] 236 [.agg ⟨[.float .f64 a_0, .float .f64 a_1, .float .f64 a_2]⟩] (.float .f64 x5) ∧ (cond (!(f64.order x5 0 == some .gt)) (Fin (cx w0 [] []) R (.agg ⟨[.float .f64 0, .float .f64 0, .float .f64 0]⟩) []) ((∃ b11 : Bool, CallV (cx w0 [] []) (loc274_0 k1 a_0 a_1 a_2 k2) [] 253 [.float .f64 x5, .int .i64 (1 : Int)] (.bool b11) ∧ (cond b11 (Fin (cx w0 [] []) R (.agg ⟨[.float .f64 0, .float .f64 0, .float .f64 0]⟩) []) ((∀ r17 : Nat, FRes (f64.div a_0 x5) r17 → (∀ r21 : Nat, FRes (f64.div a_1 x5) r21 → (∀ r25 : Nat, FRes (f64.div a_2 x5) r25 → (∃ x26_0 : Nat, ∃ x26_1 : Nat, ∃ x26_2 : Nat, CallV (cx w0 [] []) (loc274_0 k1 a_0 a_1 a_2 k2) [] 273 [.float .f64 r17, .float .f64 r21, .float .f64 r25] (.agg ⟨[.float .f64 x26_0, .float .f64 x26_1, .float .f64 x26_2]⟩) ∧ Fin (cx w0 [] []) R (.agg ⟨[.float .f64 x26_0, .float .f64 x26_1, .float .f64 x26_2]⟩) []))))))))))))
theorem q274_eq (w0 : World) (a_0 : Nat) (a_1 : Nat) (a_2 : Nat) (R : Value → World → Prop) : funT (cx w0 [] []) Tryz.f274 an274 [.agg ⟨[.float .f64 a_0, .float .f64 a_1, .float .f64 a_2]⟩] [] R = q274 w0 a_0 a_1 a_2 R := by kernel_rfl
theorem d274 (W : World) (a_0 : Nat) (a_1 : Nat) (a_2 : Nat) {R : Value → World → Prop} (h : q274 W a_0 a_1 a_2 R) : Does Tryz.prog 274 [.agg ⟨[.float .f64 a_0, .float .f64 a_1, .float .f64 a_2]⟩] W R :=
  does_of_T (fn := Tryz.f274) (x := an274) (dyn := []) (by kernel_rfl) (by kernel_rfl) (sep_self W) (Eq.mpr (q274_eq W a_0 a_1 a_2 R) h)
def s274 (a_0 : Nat) (a_1 : Nat) (a_2 : Nat) : Nat × Nat × Nat := (cond (!(f64.order (s236 a_0 a_1 a_2) 0 == some .gt)) (0, 0, 0) (cond (s253 (s236 a_0 a_1 a_2) (1 : Int)) (0, 0, 0) (((s273 (fr (f64.div a_0 (s236 a_0 a_1 a_2))) (fr (f64.div a_1 (s236 a_0 a_1 a_2))) (fr (f64.div a_2 (s236 a_0 a_1 a_2)))).1), ((s273 (fr (f64.div a_0 (s236 a_0 a_1 a_2))) (fr (f64.div a_1 (s236 a_0 a_1 a_2))) (fr (f64.div a_2 (s236 a_0 a_1 a_2)))).2.1), ((s273 (fr (f64.div a_0 (s236 a_0 a_1 a_2))) (fr (f64.div a_1 (s236 a_0 a_1 a_2))) (fr (f64.div a_2 (s236 a_0 a_1 a_2)))).2.2))))
theorem p274 (a_0 : Nat) (a_1 : Nat) (a_2 : Nat) : Pu 274 [.agg ⟨[.float .f64 a_0, .float .f64 a_1, .float .f64 a_2]⟩] (.agg ⟨[.float .f64 ((s274 a_0 a_1 a_2).1), .float .f64 ((s274 a_0 a_1 a_2).2.1), .float .f64 ((s274 a_0 a_1 a_2).2.2)]⟩) := fun W hL => d274 W a_0 a_1 a_2 (fun k1 => fun k2 => ⟨_, (p236 _ _ _).callL hL, cond_split (fun h5 => fin_ext (by first | (unfold s274; simp only [h5, cond_true, cond_false]; done) | (exfalso; simp_all; done) | (unfold s274; simp [h5, cond_true, cond_false]; done))) (fun h5 => ⟨_, (p253 _ _).callL hL, cond_split (fun h4 => fin_ext (by first | (unfold s274; simp only [h4, h5, cond_true, cond_false]; done) | (exfalso; simp_all; done) | (unfold s274; simp [h4, h5, cond_true, cond_false]; done))) (fun h4 => fun _ r1 => fun _ r2 => fun _ r3 => ⟨_, _, _, (p273 _ _ _).callL hL, fin_ext (by (try simp only [c273_2 r3, c273_1 r2, c273_0 r1] at h4 h5); first | (unfold s274; simp only [c273_2 r3, c273_1 r2, c273_0 r1, h4, h5, cond_true, cond_false]; done) | (exfalso; simp_all; done) | (unfold s274; simp [c273_2 r3, c273_1 r2, c273_0 r1, h4, h5, cond_true, cond_false]; done))⟩)⟩)⟩)

-- tarn/vec.Gap
def loc179_0 (k2 : Nat) (a_0 : Nat) (a_1 : Nat) (a_2 : Nat) (k3 : Nat) (b_0 : Nat) (b_1 : Nat) (b_2 : Nat) : Tn.Loc := [⟨k2, 198, [.float .f64 a_0, .float .f64 a_1, .float .f64 a_2], []⟩, ⟨k3, 198, [.float .f64 b_0, .float .f64 b_1, .float .f64 b_2], []⟩]
def an179 : Ann := (.seq .leaf (.seq .leaf .leaf))
noncomputable def q179 (w0 : World) (a_0 : Nat) (a_1 : Nat) (a_2 : Nat) (b_0 : Nat) (b_1 : Nat) (b_2 : Nat) (R : Value → World → Prop) : Prop :=
  (∀ k2 : Nat, (∀ k3 : Nat, (∃ x7_0 : Nat, ∃ x7_1 : Nat, ∃ x7_2 : Nat, CallV (cx w0 [] []) (loc179_0 k2 a_0 a_1 a_2 k3 b_0 b_1 b_2) [] 238 [.agg ⟨[.float .f64 a_0, .float .f64 a_1, .float .f64 a_2]⟩, .agg ⟨[.float .f64 b_0, .float .f64 b_1, .float .f64 b_2]⟩] (.agg ⟨[.float .f64 x7_0, .float .f64 x7_1, .float .f64 x7_2]⟩) ∧ (∃ x8 : Nat, CallV (cx w0 [] []) (loc179_0 k2 a_0 a_1 a_2 k3 b_0 b_1 b_2) [] 236 [.agg ⟨[.float .f64 x7_0, .float .f64 x7_1, .float .f64 x7_2]⟩] (.float .f64 x8) ∧ Fin (cx w0 [] []) R (.float .f64 x8) []))))
theorem q179_eq (w0 : World) (a_0 : Nat) (a_1 : Nat) (a_2 : Nat) (b_0 : Nat) (b_1 : Nat) (b_2 : Nat) (R : Value → World → Prop) : funT (cx w0 [] []) Tryz.f179 an179 [.agg ⟨[.float .f64 a_0, .float .f64 a_1, .float .f64 a_2]⟩, .agg ⟨[.float .f64 b_0, .float .f64 b_1, .float .f64 b_2]⟩] [] R = q179 w0 a_0 a_1 a_2 b_0 b_1 b_2 R := by kernel_rfl
theorem d179 (W : World) (a_0 : Nat) (a_1 : Nat) (a_2 : Nat) (b_0 : Nat) (b_1 : Nat) (b_2 : Nat) {R : Value → World → Prop} (h : q179 W a_0 a_1 a_2 b_0 b_1 b_2 R) : Does Tryz.prog 179 [.agg ⟨[.float .f64 a_0, .float .f64 a_1, .float .f64 a_2]⟩, .agg ⟨[.float .f64 b_0, .float .f64 b_1, .float .f64 b_2]⟩] W R :=
  does_of_T (fn := Tryz.f179) (x := an179) (dyn := []) (by kernel_rfl) (by kernel_rfl) (sep_self W) (Eq.mpr (q179_eq W a_0 a_1 a_2 b_0 b_1 b_2 R) h)
def s179 (a_0 : Nat) (a_1 : Nat) (a_2 : Nat) (b_0 : Nat) (b_1 : Nat) (b_2 : Nat) : Nat := (s236 ((s238 a_0 a_1 a_2 b_0 b_1 b_2).1) ((s238 a_0 a_1 a_2 b_0 b_1 b_2).2.1) ((s238 a_0 a_1 a_2 b_0 b_1 b_2).2.2))
theorem p179 (a_0 : Nat) (a_1 : Nat) (a_2 : Nat) (b_0 : Nat) (b_1 : Nat) (b_2 : Nat) : Pu 179 [.agg ⟨[.float .f64 a_0, .float .f64 a_1, .float .f64 a_2]⟩, .agg ⟨[.float .f64 b_0, .float .f64 b_1, .float .f64 b_2]⟩] (.float .f64 (s179 a_0 a_1 a_2 b_0 b_1 b_2)) := fun W hL => d179 W a_0 a_1 a_2 b_0 b_1 b_2 (fun k2 => fun k3 => ⟨_, _, _, (p238 _ _ _ _ _ _).callL hL, ⟨_, (p236 _ _ _).callL hL, fin_ext (by first | (unfold s179; simp only [cond_true, cond_false]; done) | (exfalso; simp_all; done) | (unfold s179; simp [cond_true, cond_false]; done))⟩⟩)

end Go.Proofs.YtnljcdplcloedaaGreatDoor
end
