/- Walk of the law FluxQuanta: the call returns true and writes no block that it did not make, for every argument that the row admits. -/
import Derived.Test.YtnljcdplcloedaaGreatDoorDep
import Derived.Test.YtnljcdplcloedaaGreatDoorExact
import Derived.Test.YtnljcdplcloedaaGreatDoorArg
section
namespace Go.Proofs.YtnljcdplcloedaaGreatDoor
open Go Go.Tn Go.RowKit
set_option linter.unusedVariables false
set_option linter.unusedSimpArgs false
set_option maxRecDepth 100000
set_option maxHeartbeats 2000000

theorem fres_lt {x y r : Nat} (h : FRes (f64.mul x y) r) : r < 18446744073709551616 := by
  by_cases hx : mg x ≤ infR
  · by_cases hy : mg y ≤ infR
    · rw [mul_eq hx hy] at h
      split at h
      · exact h.2
      · have hr : r = _ := h
        have hm := mulr_le (mg x) (mg y)
        rw [hr]
        unfold Ieee.Format.word
        rw [psw64]
        unfold infR at hm
        split <;> omega
    · rw [mul_nan (.inr (by omega))] at h; exact h.2
  · rw [mul_nan (.inl (by omega))] at h; exact h.2

-- tarn/tarnref13.Quanta
def an42 : Ann := (.seq .leaf (.seq .leaf (.seq .leaf (.seq .leaf (.seq .leaf (.seq .leaf .leaf))))))
noncomputable def q42 (w0 : World) (u : Nat) (depth : Nat) (length : Nat) (dt : Nat) (R : Value → World → Prop) : Prop :=
  (∀ r12 : Nat, FRes (f64.mul u depth) r12 → (∀ r15 : Nat, FRes (f64.mul r12 length) r15 → (∀ r18 : Nat, FRes (f64.mul r15 dt) r18 → (∀ r20 : Nat, FRes (f64.mul r18 4742290407621132288) r20 → (∃ n22 : Int, CallV (cx w0 [] []) [] [] 110 [.float .f64 r20, .int .i64 (4503599627370496 : Int)] (.int .i64 n22) ∧ Fin (cx w0 [] []) R (.int .i64 n22) [])))))
theorem q42_eq (w0 : World) (u : Nat) (depth : Nat) (length : Nat) (dt : Nat) (R : Value → World → Prop) : funT (cx w0 [] []) Tryz.f42 an42 [.float .f64 u, .float .f64 depth, .float .f64 length, .float .f64 dt] [] R = q42 w0 u depth length dt R := by kernel_rfl
theorem d42 (W : World) (u : Nat) (depth : Nat) (length : Nat) (dt : Nat) {R : Value → World → Prop} (h : q42 W u depth length dt R) : Does Tryz.prog 42 [.float .f64 u, .float .f64 depth, .float .f64 length, .float .f64 dt] W R :=
  does_of_T (fn := Tryz.f42) (x := an42) (dyn := []) (by kernel_rfl) (by kernel_rfl) (sep_self W) (Eq.mpr (q42_eq W u depth length dt R) h)

theorem p42 (u d l t : Nat) : Pu 42 [.float .f64 u, .float .f64 d, .float .f64 l, .float .f64 t] (.int .i64 (s41 u d l t)) := fun W hL => d42 W u d l t (fun _ r1 => fun _ r2 => fun _ r3 => fun _ r4 => ⟨_, (p110 _ _).callL hL, fin_ext (by
  rw [s110_eq (fres_lt r4), ← clamp_eq, c109_0 r4]
  unfold s41
  simp only [fm1 r3, fm1 r2, fm1 r1])⟩)



abbrev FourL := List (Nat × Nat × Nat × Nat)
def rCells (E : FourL) : List Value := E.flatMap fun e => [.float .f64 e.1, .float .f64 e.2.1, .float .f64 e.2.2.1, .float .f64 e.2.2.2]
theorem rCells_get {E : FourL} {k : Nat} {e : Nat × Nat × Nat × Nat} (h : E[k]? = some e) (j : Nat) (hj : j < 4) : (rCells E)[k * 4 + j]? = ([.float .f64 e.1, .float .f64 e.2.1, .float .f64 e.2.2.1, .float .f64 e.2.2.2] : List Value)[j]? := by
  induction E generalizing k with
  | nil => cases h
  | cons x r ih =>
    cases k with
    | zero =>
      simp only [List.getElem?_cons_zero, Option.some.injEq] at h
      subst h
      rw [Nat.zero_mul, Nat.zero_add, rCells, List.flatMap_cons, List.getElem?_append_left (by simpa using hj)]
    | succ k =>
      rw [List.getElem?_cons_succ] at h
      rw [rCells, List.flatMap_cons, List.getElem?_append_right (by simp; omega)]
      have := ih h
      rw [show (k + 1) * 4 + j - ([.float .f64 x.1, .float .f64 x.2.1, .float .f64 x.2.2.1, .float .f64 x.2.2.2] : List Value).length = k * 4 + j by simp; omega]
      exact this
theorem ld49 {w0 : World} {mt dyn : List Nat} (cs : List Value) (o : Nat) : loadL (cx w0 mt dyn) 49 cs o = cond (Nat.ble (o + 4) cs.length) (some (.agg ⟨(cs.drop o).take 4⟩)) none := by kernel_rfl
theorem loads49 {w0 : World} {dyn : List Nat} {loc : Tn.Loc} {own : Own} {a : Option Addr} {ad : Addr} {E : FourL} {k : Nat} {e : Nat × Nat × Nat × Nat} (h : Arr w0 a (rCells E)) (ha : a = some ad) (he : E[k]? = some e) :
    LoadsTo (cx w0 [] dyn) loc own 49 (ad.add (k * 4)) (.agg ⟨[.float .f64 e.1, .float .f64 e.2.1, .float .f64 e.2.2.1, .float .f64 e.2.2.2]⟩) := by
  rcases h with h | ⟨b, o, cs, ty, fr, ha', hb, hvs⟩
  · have := rCells_get he 0 (by omega)
    rw [h] at this; simp at this
  · rw [ha] at ha'; cases ha'
    rw [Tn.add_none]
    refine loads_keep (mt := []) hb List.not_mem_nil ?_
    obtain ⟨h1, h2⟩ := take4 (cs := cs) (o := o + k * 4) (by have := hvs _ _ (rCells_get he 0 (by omega)); rw [Nat.add_zero] at this; exact this) (by have := hvs _ _ (rCells_get he 1 (by omega)); rw [← Nat.add_assoc] at this; exact this) (by have := hvs _ _ (rCells_get he 2 (by omega)); rw [← Nat.add_assoc] at this; exact this) (by have := hvs _ _ (rCells_get he 3 (by omega)); rw [← Nat.add_assoc] at this; exact this)
    rw [ld49, h1, Nat.ble_eq_true_of_le h2, cond_true]

-- tarn/tarnlaw13.FluxQuanta
def loc5_0 (k4 : Nat) (x16_0 : Nat) (x16_1 : Nat) (x16_2 : Nat) (x16_3 : Nat) : Tn.Loc := [⟨k4, 49, [.float .f64 x16_0, .float .f64 x16_1, .float .f64 x16_2, .float .f64 x16_3], []⟩]
def an5 : Ann := (.seq .leaf (.seq (.seq .leaf (.cond (.seq .leaf .leaf) .leaf)) (.seq (.seq .leaf (.block (.loop [(3, .one (.int .i64))] [] (.seq (.seq .leaf (.cond .leaf .leaf)) (.seq (.block (.seq .leaf (.seq (.draw [0, 1, 2, 3, 4, 5, 6, 7, 8, 9, 10, 11, 12, 13, 14, 15, 16, 17, 18]) (.cond (.seq .leaf .leaf) .leaf)))) .leaf))))) (.seq .leaf .leaf))))
noncomputable def q5 (w0 : World) (list_a : Option Addr) (list_n : Nat) (list_c : Nat) (R : Value → World → Prop) : Prop :=
  (∃ b5 : Bool, CallV (cx w0 [] []) [] [] 40 [] (.bool b5) ∧ (cond (!b5) (Fin (cx w0 [] []) R (.bool false) []) ((∃ (I3 : Int → Own → Prop) (μ3 : Int → Own → Nat), I3 (0 : Int) [] ∧ ∀ n3 : Int, ∀ own3 : Own, I3 n3 own3 → (cond (decide (n3 < ((list_n : Nat) : Int))) ((∃ ad15 : Addr, list_a = some ad15 ∧ (0 ≤ n3 ∧ n3 < ((list_n : Nat) : Int)) ∧ (∃ x16_0 : Nat, ∃ x16_1 : Nat, ∃ x16_2 : Nat, ∃ x16_3 : Nat, LoadsTo (cx w0 [] []) [] own3 49 (Addr.add ad15 (Int.toNat n3 * 4)) (.agg ⟨[.float .f64 x16_0, .float .f64 x16_1, .float .f64 x16_2, .float .f64 x16_3]⟩) ∧ (∀ k4 : Nat, (∃ n25 : Int, CallV (cx w0 [] []) (loc5_0 k4 x16_0 x16_1 x16_2 x16_3) own3 41 [.float .f64 x16_0, .float .f64 x16_1, .float .f64 x16_2, .float .f64 x16_3] (.int .i64 n25) ∧ (∃ n34 : Int, CallV (cx w0 [] []) (loc5_0 k4 x16_0 x16_1 x16_2 x16_3) own3 42 [.float .f64 x16_0, .float .f64 x16_1, .float .f64 x16_2, .float .f64 x16_3] (.int .i64 n34) ∧ (cond (n25 != n34) (Fin (cx w0 [] []) R (.bool false) own3) (I3 (IntKind.wrap .i64 (n3 + (1 : Int))) own3 ∧ μ3 (IntKind.wrap .i64 (n3 + (1 : Int))) own3 < μ3 n3 own3)))))))) (Fin (cx w0 [] []) R (.bool true) own3))))))
theorem q5_eq (w0 : World) (list_a : Option Addr) (list_n : Nat) (list_c : Nat) (R : Value → World → Prop) : funT (cx w0 [] []) Tryz.f5 an5 [.slice list_a list_n list_c] [] R = q5 w0 list_a list_n list_c R := by kernel_rfl
theorem d5 (W : World) (list_a : Option Addr) (list_n : Nat) (list_c : Nat) {R : Value → World → Prop} (h : q5 W list_a list_n list_c R) : Does Tryz.prog 5 [.slice list_a list_n list_c] W R :=
  does_of_T (fn := Tryz.f5) (x := an5) (dyn := []) (by kernel_rfl) (by kernel_rfl) (sep_self W) (Eq.mpr (q5_eq W list_a list_n list_c R) h)

theorem p5 (l : FourL) (a : Option Addr) (c : Nat) (hl : l.length < 9223372036854775808) : On (fun W => Laid W ∧ Arr W a (rCells l)) 5 [.slice a l.length c] (.bool true) := fun W ⟨hL, hA⟩ => d5 W a l.length c ⟨_, p40.callL hL, cond_split (fun h => absurd h (by decide)) fun _ => by
  refine ⟨fun i own => ∃ k : Nat, i = (k : Int) ∧ k ≤ l.length ∧ own = [], fun i _ => ((l.length : Int) - i).toNat, ⟨0, rfl, Nat.zero_le _, rfl⟩, ?_⟩
  rintro i own ⟨k, rfl, hk, rfl⟩
  refine cond_split (fun h => ?_) fun h => fin_ext rfl
  have hk' : k < l.length := by have := of_decide_eq_true h; omega
  obtain ⟨x, hx⟩ : ∃ x, l[k]? = some x := ⟨_, List.getElem?_eq_getElem hk'⟩
  have h0 := rCells_get hx 0 (by omega)
  obtain ⟨ad, had⟩ := arr_addr hA h0
  have hsucc : IntKind.wrap .i64 ((k : Int) + 1) = ((k + 1 : Nat) : Int) := by rw [wi _ (by omega)]; omega
  have hmu : ((l.length : Int) - IntKind.wrap .i64 ((k : Int) + 1)).toNat < ((l.length : Int) - k).toNat := by rw [hsucc]; omega
  refine ⟨_, had, ⟨by omega, by omega⟩, x.1, x.2.1, x.2.2.1, x.2.2.2, loads49 hA had hx, fun k4 => ⟨_, (p41 _ _ _ _).callL hL, _, (p42 _ _ _ _).callL hL, cond_split (fun h => absurd h (by simp)) fun _ => ⟨⟨k + 1, hsucc, hk', rfl⟩, hmu⟩⟩⟩⟩


end Go.Proofs.YtnljcdplcloedaaGreatDoor
end
section
namespace Go.Proofs.YtnljcdplcloedaaGreatDoor
open Go Go.Tn Go.RowKit Go.ChangeShapes Go.WideShapes Go.ChangeAt Go.Deep
set_option linter.unusedVariables false
set_option linter.unusedSimpArgs false
set_option maxRecDepth 100000
section
variable {H : Type} {enc : TypeId × Value → H} {W : World} {base : Nat} {spare : Nat → Bool} {held : Bool} {fuel : Nat} {t : TypeId} {cs : List Value} {x : DataW H × List MemPlace}
theorem u47 : Tryz.prog.underlying 47 = some (.slice 49) := by kernel_rfl
theorem c49 : Tryz.prog.cellsOf 49 = 4 := by kernel_rfl
theorem rCells_len (l : FourL) : (rCells l).length = l.length * 4 := by
  induction l with
  | nil => rfl
  | cons x r ih => rw [rCells, List.flatMap_cons, List.length_append]; unfold rCells at ih; rw [ih]; simp; omega
theorem dec_fours (h : DataW.trod enc Tryz.prog W base spare held fuel 47 cs = some x) :
    ∃ (l : FourL) (a : Option Addr) (c : Nat), cs = [.slice a l.length c] ∧ Arr W a (rCells l) ∧ l.length ≤ c ∧ c ≤ maxLen := by
  rcases open_slice u47 h with ⟨h1, _⟩ | ⟨a, len, cap, m, n, D, Pl, h1, hb, hl, hm, hmm, hx, hV⟩
  · exact ⟨[], none, 0, h1, .inl rfl, Nat.le_refl _, Nat.zero_le _⟩
  · have hlm : len ≤ m := by rw [hmm]; split <;> omega
    rw [c49] at hV
    obtain ⟨V, hV2⟩ := choose_lt (α := Nat × Nat × Nat × Nat) (p := fun i e => ∀ j, j < 4 → W.cell? ((a.add (i * 4)).add j) = ([.float .f64 e.1, .float .f64 e.2.1, .float .f64 e.2.2.1, .float .f64 e.2.2.2] : List Value)[j]?) (n := len) (fun i hi => by
      obtain ⟨cs', h2, h3⟩ := hV i (by omega)
      obtain ⟨p, q, r, s, rfl, _⟩ := dec_four h3
      exact ⟨(p, q, r, s), (World.cells?_some h2).2.2⟩)
    refine ⟨(List.range len).map V, some a, cap, by simp [h1], arr_of_cells fun i v hv => ?_, by simpa using hl, hm⟩
    have hi : i < len * 4 := by
      have := (List.getElem?_eq_some_iff.1 hv).1
      rw [rCells_len] at this; simpa using this
    have hk : ((List.range len).map V)[i / 4]? = some (V (i / 4)) := by rw [List.getElem?_map, List.getElem?_range (by omega)]; rfl
    have h4 := rCells_get hk (i % 4) (Nat.mod_lt _ (by decide))
    have e4 : i / 4 * 4 + i % 4 = i := by omega
    rw [e4, hv] at h4
    have h5 := hV2 (i / 4) (by omega) (i % 4) (Nat.mod_lt _ (by decide))
    rw [← h4] at h5
    rw [← h5, Addr.add_add, e4]
end
end Go.Proofs.YtnljcdplcloedaaGreatDoor
end
