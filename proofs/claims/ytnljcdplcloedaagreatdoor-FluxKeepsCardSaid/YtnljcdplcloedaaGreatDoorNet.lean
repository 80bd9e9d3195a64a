/- Walks of the net: points, neighbours, and the tables of a new grid, for every side from 1 to 32. -/
import Derived.Test.YtnljcdplcloedaaGreatDoorCube
import Derived.Test.YtnljcdplcloedaaGreatDoorMem
section
namespace Go.Proofs.YtnljcdplcloedaaGreatDoor
open Go Go.Tn Go.RowKit
set_option linter.unusedVariables false
set_option linter.unusedSimpArgs false
set_option maxRecDepth 100000
set_option maxHeartbeats 2000000

/-- 1, p or q -/
def prt (p q : Nat) (i : Nat) : Nat := ([4607182418800017408, p, q] : List Nat).getD i 0
theorem prt0 {p q : Nat} : prt p q 0 = 4607182418800017408 := rfl
theorem prt1 {p q : Nat} : prt p q 1 = p := rfl
theorem prt2 {p q : Nat} : prt p q 2 = q := rfl
/-- what the i-th part gives to the component a -/
def stp (face : Int) (p q a i v : Nat) : Nat := cond (fR face (i * 3 + a) == 1) (s146 (prt p q i)) (cond (fR face (i * 3 + a) == -1) (s146 (Op.negFloat .f64 (prt p q i))) v)
def cmp3 (face : Int) (p q a : Nat) : Nat := stp face p q a 2 (stp face p q a 1 (stp face p q a 0 0))
def s241 (face : Int) (p q : Nat) : Nat × Nat × Nat := s274 (cmp3 face p q 0) (cmp3 face p q 1) (cmp3 face p q 2)

-- tarn/geom.point
def loc241_0 (k6 : Nat) : Tn.Loc := [⟨k6, 198, [.float .f64 0, .float .f64 0, .float .f64 0], []⟩]
def an241 : Ann := (.seq .leaf (.seq .leaf (.seq (.seq .leaf (.block (.loop [(11, .one (.int .i64))] [] (.seq .leaf (.seq (.cond .leaf .leaf) (.seq (.block (.seq .leaf (.seq .leaf (.block (.loop [(17, .one (.int .i64))] [] (.seq .leaf (.seq (.cond .leaf .leaf) (.seq (.block (.seq .leaf (.seq .leaf (.block (.seq .leaf (.cond .leaf (.seq .leaf (.cond .leaf .leaf)))))))) .leaf)))))))) .leaf)))))) (.seq .leaf .leaf))))
noncomputable def q241 (w0 : World) (face : Int) (p : Nat) (q : Nat) (R : Value → World → Prop) : Prop :=
  (∀ k6 : Nat, (∀ k7 : Nat, (∃ (I11 : Int → Own → Prop) (μ11 : Int → Own → Nat), I11 (0 : Int) ((k7, .cells ⟨[.float .f64 0, .float .f64 0, .float .f64 0]⟩ 276) :: []) ∧ ∀ n11 : Int, ∀ own11 : Own, I11 n11 own11 → (cond (decide (n11 < (3 : Int))) ((∃ (I17 : Int → Own → Prop) (μ17 : Int → Own → Nat), I17 (0 : Int) own11 ∧ ∀ n17 : Int, ∀ own17 : Own, I17 n17 own17 → (cond (decide (n17 < (3 : Int))) ((∃ x20 : Nat, ((0 ≤ n17 ∧ n17 < ((3 : Nat) : Int)) ∧ partX (cx w0 [] [7]) 44 [.float .f64 4607182418800017408, .float .f64 p, .float .f64 q] (Int.toNat n17 * 1) = some (.float .f64 x20)) ∧ (0 ≤ face ∧ face < ((6 : Nat) : Int)) ∧ (0 ≤ n17 ∧ n17 < ((3 : Nat) : Int)) ∧ (0 ≤ n11 ∧ n11 < ((3 : Nat) : Int)) ∧ (∃ n27 : Int, LoadsTo (cx w0 [] [7]) (loc241_0 k6) own17 3 (Addr.add (Addr.add (Addr.add ⟨2, 0, none⟩ (Int.toNat face * 9)) (Int.toNat n17 * 3)) (Int.toNat n11 * 1)) (.int .i64 n27) ∧ (cond (n27 == (1 : Int)) ((∃ x32 : Nat, CallV (cx w0 [] [7]) (loc241_0 k6) own17 146 [.float .f64 x20] (.float .f64 x32) ∧ (0 ≤ n11 ∧ n11 < ((3 : Nat) : Int)) ∧ (∃ own16 : Own, StoresTo (cx w0 [] [7]) (loc241_0 k6) own17 44 (Addr.add ⟨k7, 0, none⟩ (Int.toNat n11 * 1)) (.float .f64 x32) own16 ∧ I17 (IntKind.wrap .i64 (n17 + (1 : Int))) own16 ∧ μ17 (IntKind.wrap .i64 (n17 + (1 : Int))) own16 < μ17 n17 own17))) ((cond (n27 == ((-1) : Int)) ((∃ x39 : Nat, CallV (cx w0 [] [7]) (loc241_0 k6) own17 146 [.float .f64 (Op.negFloat .f64 x20)] (.float .f64 x39) ∧ (0 ≤ n11 ∧ n11 < ((3 : Nat) : Int)) ∧ (∃ own16 : Own, StoresTo (cx w0 [] [7]) (loc241_0 k6) own17 44 (Addr.add ⟨k7, 0, none⟩ (Int.toNat n11 * 1)) (.float .f64 x39) own16 ∧ I17 (IntKind.wrap .i64 (n17 + (1 : Int))) own16 ∧ μ17 (IntKind.wrap .i64 (n17 + (1 : Int))) own16 < μ17 n17 own17))) (I17 (IntKind.wrap .i64 (n17 + (1 : Int))) own17 ∧ μ17 (IntKind.wrap .i64 (n17 + (1 : Int))) own17 < μ17 n17 own17))))))) (I11 (IntKind.wrap .i64 (n11 + (1 : Int))) own17 ∧ μ11 (IntKind.wrap .i64 (n11 + (1 : Int))) own17 < μ11 n11 own11)))) ((0 ≤ (0 : Int) ∧ (0 : Int) < ((3 : Nat) : Int)) ∧ (∃ x44 : Nat, LoadsTo (cx w0 [] [7]) (loc241_0 k6) own11 44 (Addr.add ⟨k7, 0, none⟩ (Int.toNat (0 : Int) * 1)) (.float .f64 x44) ∧ (0 ≤ (1 : Int) ∧ (1 : Int) < ((3 : Nat) : Int)) ∧ (∃ x46 : Nat, LoadsTo (cx w0 [] [7]) (loc241_0 k6) own11 44 (Addr.add ⟨k7, 0, none⟩ (Int.toNat (1 : Int) * 1)) (.float .f64 x46) ∧ (0 ≤ (2 : Int) ∧ (2 : Int) < ((3 : Nat) : Int)) ∧ (∃ x48 : Nat, LoadsTo (cx w0 [] [7]) (loc241_0 k6) own11 44 (Addr.add ⟨k7, 0, none⟩ (Int.toNat (2 : Int) * 1)) (.float .f64 x48) ∧ (∃ x50_0 : Nat, ∃ x50_1 : Nat, ∃ x50_2 : Nat, CallV (cx w0 [] [7]) (loc241_0 k6) own11 274 [.agg ⟨[.float .f64 x44, .float .f64 x46, .float .f64 x48]⟩] (.agg ⟨[.float .f64 x50_0, .float .f64 x50_1, .float .f64 x50_2]⟩) ∧ Fin (cx w0 [] [7]) R (.agg ⟨[.float .f64 x50_0, .float .f64 x50_1, .float .f64 x50_2]⟩) own11)))))))))
theorem q241_eq (w0 : World) (face : Int) (p : Nat) (q : Nat) (R : Value → World → Prop) : funT (cx w0 [] [7]) Tryz.f241 an241 [.int .i64 face, .float .f64 p, .float .f64 q] [] R = q241 w0 face p q R := by kernel_rfl
theorem d241 (W : World) (face : Int) (p : Nat) (q : Nat) {R : Value → World → Prop} (h : q241 W face p q R) : Does Tryz.prog 241 [.int .i64 face, .float .f64 p, .float .f64 q] W R :=
  does_of_T (fn := Tryz.f241) (x := an241) (dyn := [7]) (by kernel_rfl) (by kernel_rfl) (sep_self W) (Eq.mpr (q241_eq W face p q R) h)

theorem p241 (face : Int) (p q : Nat) (hf : 0 ≤ face ∧ face < 6) : Pu 241 [.int .i64 face, .float .f64 p, .float .f64 q] (.agg ⟨[.float .f64 (s241 face p q).1, .float .f64 (s241 face p q).2.1, .float .f64 (s241 face p q).2.2]⟩) := fun W hL => d241 W face p q fun k6 k7 => by
  refine ⟨fun n own => (n = 0 ∧ own = [(k7, arr3 (0, 0, 0) 276)]) ∨ (n = 1 ∧ own = [(k7, arr3 ((cmp3 face p q 0), 0, 0) 276)]) ∨ (n = 2 ∧ own = [(k7, arr3 ((cmp3 face p q 0), (cmp3 face p q 1), 0) 276)]) ∨ (n = 3 ∧ own = [(k7, arr3 ((cmp3 face p q 0), (cmp3 face p q 1), (cmp3 face p q 2)) 276)]), fun n _ => (3 - n).toNat, .inl ⟨rfl, rfl⟩, ?_⟩
  rintro n own (⟨rfl, rfl⟩ | ⟨rfl, rfl⟩ | ⟨rfl, rfl⟩ | ⟨rfl, rfl⟩)
  · refine cond_split (fun _ => ?_) fun h => absurd h (by decide)
    refine ⟨fun n own => (n = 0 ∧ own = [(k7, arr3 (0, 0, 0) 276)]) ∨ (n = 1 ∧ own = [(k7, arr3 ((stp face p q 0 0 0), 0, 0) 276)]) ∨ (n = 2 ∧ own = [(k7, arr3 ((stp face p q 0 1 (stp face p q 0 0 0)), 0, 0) 276)]) ∨ (n = 3 ∧ own = [(k7, arr3 ((stp face p q 0 2 (stp face p q 0 1 (stp face p q 0 0 0))), 0, 0) 276)]), fun n _ => (3 - n).toNat, .inl ⟨rfl, rfl⟩, ?_⟩
    rintro n own (⟨rfl, rfl⟩ | ⟨rfl, rfl⟩ | ⟨rfl, rfl⟩ | ⟨rfl, rfl⟩)
    · refine cond_split (fun _ => ⟨_, ⟨⟨by decide, by decide⟩, rfl⟩, hf, by decide, by decide, _, ldG1 hL List.not_mem_nil hf (by decide) (by decide), cond_split (fun h1 => ⟨_, (p146 _).callL hL, by decide, _, stores_own (pre := []) (post := []) rfl (ltr rfl) rfl rfl ⟨_, rfl, rfl⟩, .inr (.inl ⟨rfl, ?_⟩), ltr rfl⟩) fun h1 => cond_split (fun h2 => ⟨_, (p146 _).callL hL, by decide, _, stores_own (pre := []) (post := []) rfl (ltr rfl) rfl rfl ⟨_, rfl, rfl⟩, .inr (.inl ⟨rfl, ?_⟩), ltr rfl⟩) fun h2 => ⟨.inr (.inl ⟨rfl, ?_⟩), ltr rfl⟩⟩) fun h => absurd h (by decide)
      · have h1' : (fR face 0 == 1) = true := h1
        simp only [stp]; rw [h1', cond_true, prt0]; exact rfl
      · have h1' : (fR face 0 == 1) = false := h1
        have h2' : (fR face 0 == -1) = true := h2
        simp only [stp]; rw [h1', h2', cond_false, cond_true, prt0]; exact rfl
      · have h1' : (fR face 0 == 1) = false := h1
        have h2' : (fR face 0 == -1) = false := h2
        simp only [stp]; rw [h1', h2']; exact rfl
    · refine cond_split (fun _ => ⟨_, ⟨⟨by decide, by decide⟩, rfl⟩, hf, by decide, by decide, _, ldG1 hL List.not_mem_nil hf (by decide) (by decide), cond_split (fun h1 => ⟨_, (p146 _).callL hL, by decide, _, stores_own (pre := []) (post := []) rfl (ltr rfl) rfl rfl ⟨_, rfl, rfl⟩, .inr (.inr (.inl ⟨rfl, ?_⟩)), ltr rfl⟩) fun h1 => cond_split (fun h2 => ⟨_, (p146 _).callL hL, by decide, _, stores_own (pre := []) (post := []) rfl (ltr rfl) rfl rfl ⟨_, rfl, rfl⟩, .inr (.inr (.inl ⟨rfl, ?_⟩)), ltr rfl⟩) fun h2 => ⟨.inr (.inr (.inl ⟨rfl, ?_⟩)), ltr rfl⟩⟩) fun h => absurd h (by decide)
      · have h1' : (fR face 3 == 1) = true := h1
        simp only [stp]; rw [h1', cond_true, prt1]; exact rfl
      · have h1' : (fR face 3 == 1) = false := h1
        have h2' : (fR face 3 == -1) = true := h2
        simp only [stp]; rw [h1', h2', cond_false, cond_true, prt1]; exact rfl
      · have h1' : (fR face 3 == 1) = false := h1
        have h2' : (fR face 3 == -1) = false := h2
        simp only [stp]; rw [h1', h2']; exact rfl
    · refine cond_split (fun _ => ⟨_, ⟨⟨by decide, by decide⟩, rfl⟩, hf, by decide, by decide, _, ldG1 hL List.not_mem_nil hf (by decide) (by decide), cond_split (fun h1 => ⟨_, (p146 _).callL hL, by decide, _, stores_own (pre := []) (post := []) rfl (ltr rfl) rfl rfl ⟨_, rfl, rfl⟩, .inr (.inr (.inr (⟨rfl, ?_⟩))), ltr rfl⟩) fun h1 => cond_split (fun h2 => ⟨_, (p146 _).callL hL, by decide, _, stores_own (pre := []) (post := []) rfl (ltr rfl) rfl rfl ⟨_, rfl, rfl⟩, .inr (.inr (.inr (⟨rfl, ?_⟩))), ltr rfl⟩) fun h2 => ⟨.inr (.inr (.inr (⟨rfl, ?_⟩))), ltr rfl⟩⟩) fun h => absurd h (by decide)
      · have h1' : (fR face 6 == 1) = true := h1
        simp only [stp]; rw [h1', cond_true, prt2]; exact rfl
      · have h1' : (fR face 6 == 1) = false := h1
        have h2' : (fR face 6 == -1) = true := h2
        simp only [stp]; rw [h1', h2', cond_false, cond_true, prt2]; exact rfl
      · have h1' : (fR face 6 == 1) = false := h1
        have h2' : (fR face 6 == -1) = false := h2
        simp only [stp]; rw [h1', h2']; exact rfl
    · exact cond_split (fun h => absurd h (by decide)) fun _ => ⟨.inr (.inl ⟨rfl, rfl⟩), ltr rfl⟩
  · refine cond_split (fun _ => ?_) fun h => absurd h (by decide)
    refine ⟨fun n own => (n = 0 ∧ own = [(k7, arr3 ((cmp3 face p q 0), 0, 0) 276)]) ∨ (n = 1 ∧ own = [(k7, arr3 ((cmp3 face p q 0), (stp face p q 1 0 0), 0) 276)]) ∨ (n = 2 ∧ own = [(k7, arr3 ((cmp3 face p q 0), (stp face p q 1 1 (stp face p q 1 0 0)), 0) 276)]) ∨ (n = 3 ∧ own = [(k7, arr3 ((cmp3 face p q 0), (stp face p q 1 2 (stp face p q 1 1 (stp face p q 1 0 0))), 0) 276)]), fun n _ => (3 - n).toNat, .inl ⟨rfl, rfl⟩, ?_⟩
    rintro n own (⟨rfl, rfl⟩ | ⟨rfl, rfl⟩ | ⟨rfl, rfl⟩ | ⟨rfl, rfl⟩)
    · refine cond_split (fun _ => ⟨_, ⟨⟨by decide, by decide⟩, rfl⟩, hf, by decide, by decide, _, ldG1 hL List.not_mem_nil hf (by decide) (by decide), cond_split (fun h1 => ⟨_, (p146 _).callL hL, by decide, _, stores_own (pre := []) (post := []) rfl (ltr rfl) rfl rfl ⟨_, rfl, rfl⟩, .inr (.inl ⟨rfl, ?_⟩), ltr rfl⟩) fun h1 => cond_split (fun h2 => ⟨_, (p146 _).callL hL, by decide, _, stores_own (pre := []) (post := []) rfl (ltr rfl) rfl rfl ⟨_, rfl, rfl⟩, .inr (.inl ⟨rfl, ?_⟩), ltr rfl⟩) fun h2 => ⟨.inr (.inl ⟨rfl, ?_⟩), ltr rfl⟩⟩) fun h => absurd h (by decide)
      · have h1' : (fR face 1 == 1) = true := h1
        simp only [stp]; rw [h1', cond_true, prt0]; exact rfl
      · have h1' : (fR face 1 == 1) = false := h1
        have h2' : (fR face 1 == -1) = true := h2
        simp only [stp]; rw [h1', h2', cond_false, cond_true, prt0]; exact rfl
      · have h1' : (fR face 1 == 1) = false := h1
        have h2' : (fR face 1 == -1) = false := h2
        simp only [stp]; rw [h1', h2']; exact rfl
    · refine cond_split (fun _ => ⟨_, ⟨⟨by decide, by decide⟩, rfl⟩, hf, by decide, by decide, _, ldG1 hL List.not_mem_nil hf (by decide) (by decide), cond_split (fun h1 => ⟨_, (p146 _).callL hL, by decide, _, stores_own (pre := []) (post := []) rfl (ltr rfl) rfl rfl ⟨_, rfl, rfl⟩, .inr (.inr (.inl ⟨rfl, ?_⟩)), ltr rfl⟩) fun h1 => cond_split (fun h2 => ⟨_, (p146 _).callL hL, by decide, _, stores_own (pre := []) (post := []) rfl (ltr rfl) rfl rfl ⟨_, rfl, rfl⟩, .inr (.inr (.inl ⟨rfl, ?_⟩)), ltr rfl⟩) fun h2 => ⟨.inr (.inr (.inl ⟨rfl, ?_⟩)), ltr rfl⟩⟩) fun h => absurd h (by decide)
      · have h1' : (fR face 4 == 1) = true := h1
        simp only [stp]; rw [h1', cond_true, prt1]; exact rfl
      · have h1' : (fR face 4 == 1) = false := h1
        have h2' : (fR face 4 == -1) = true := h2
        simp only [stp]; rw [h1', h2', cond_false, cond_true, prt1]; exact rfl
      · have h1' : (fR face 4 == 1) = false := h1
        have h2' : (fR face 4 == -1) = false := h2
        simp only [stp]; rw [h1', h2']; exact rfl
    · refine cond_split (fun _ => ⟨_, ⟨⟨by decide, by decide⟩, rfl⟩, hf, by decide, by decide, _, ldG1 hL List.not_mem_nil hf (by decide) (by decide), cond_split (fun h1 => ⟨_, (p146 _).callL hL, by decide, _, stores_own (pre := []) (post := []) rfl (ltr rfl) rfl rfl ⟨_, rfl, rfl⟩, .inr (.inr (.inr (⟨rfl, ?_⟩))), ltr rfl⟩) fun h1 => cond_split (fun h2 => ⟨_, (p146 _).callL hL, by decide, _, stores_own (pre := []) (post := []) rfl (ltr rfl) rfl rfl ⟨_, rfl, rfl⟩, .inr (.inr (.inr (⟨rfl, ?_⟩))), ltr rfl⟩) fun h2 => ⟨.inr (.inr (.inr (⟨rfl, ?_⟩))), ltr rfl⟩⟩) fun h => absurd h (by decide)
      · have h1' : (fR face 7 == 1) = true := h1
        simp only [stp]; rw [h1', cond_true, prt2]; exact rfl
      · have h1' : (fR face 7 == 1) = false := h1
        have h2' : (fR face 7 == -1) = true := h2
        simp only [stp]; rw [h1', h2', cond_false, cond_true, prt2]; exact rfl
      · have h1' : (fR face 7 == 1) = false := h1
        have h2' : (fR face 7 == -1) = false := h2
        simp only [stp]; rw [h1', h2']; exact rfl
    · exact cond_split (fun h => absurd h (by decide)) fun _ => ⟨.inr (.inr (.inl ⟨rfl, rfl⟩)), ltr rfl⟩
  · refine cond_split (fun _ => ?_) fun h => absurd h (by decide)
    refine ⟨fun n own => (n = 0 ∧ own = [(k7, arr3 ((cmp3 face p q 0), (cmp3 face p q 1), 0) 276)]) ∨ (n = 1 ∧ own = [(k7, arr3 ((cmp3 face p q 0), (cmp3 face p q 1), (stp face p q 2 0 0)) 276)]) ∨ (n = 2 ∧ own = [(k7, arr3 ((cmp3 face p q 0), (cmp3 face p q 1), (stp face p q 2 1 (stp face p q 2 0 0))) 276)]) ∨ (n = 3 ∧ own = [(k7, arr3 ((cmp3 face p q 0), (cmp3 face p q 1), (stp face p q 2 2 (stp face p q 2 1 (stp face p q 2 0 0)))) 276)]), fun n _ => (3 - n).toNat, .inl ⟨rfl, rfl⟩, ?_⟩
    rintro n own (⟨rfl, rfl⟩ | ⟨rfl, rfl⟩ | ⟨rfl, rfl⟩ | ⟨rfl, rfl⟩)
    · refine cond_split (fun _ => ⟨_, ⟨⟨by decide, by decide⟩, rfl⟩, hf, by decide, by decide, _, ldG1 hL List.not_mem_nil hf (by decide) (by decide), cond_split (fun h1 => ⟨_, (p146 _).callL hL, by decide, _, stores_own (pre := []) (post := []) rfl (ltr rfl) rfl rfl ⟨_, rfl, rfl⟩, .inr (.inl ⟨rfl, ?_⟩), ltr rfl⟩) fun h1 => cond_split (fun h2 => ⟨_, (p146 _).callL hL, by decide, _, stores_own (pre := []) (post := []) rfl (ltr rfl) rfl rfl ⟨_, rfl, rfl⟩, .inr (.inl ⟨rfl, ?_⟩), ltr rfl⟩) fun h2 => ⟨.inr (.inl ⟨rfl, ?_⟩), ltr rfl⟩⟩) fun h => absurd h (by decide)
      · have h1' : (fR face 2 == 1) = true := h1
        simp only [stp]; rw [h1', cond_true, prt0]; exact rfl
      · have h1' : (fR face 2 == 1) = false := h1
        have h2' : (fR face 2 == -1) = true := h2
        simp only [stp]; rw [h1', h2', cond_false, cond_true, prt0]; exact rfl
      · have h1' : (fR face 2 == 1) = false := h1
        have h2' : (fR face 2 == -1) = false := h2
        simp only [stp]; rw [h1', h2']; exact rfl
    · refine cond_split (fun _ => ⟨_, ⟨⟨by decide, by decide⟩, rfl⟩, hf, by decide, by decide, _, ldG1 hL List.not_mem_nil hf (by decide) (by decide), cond_split (fun h1 => ⟨_, (p146 _).callL hL, by decide, _, stores_own (pre := []) (post := []) rfl (ltr rfl) rfl rfl ⟨_, rfl, rfl⟩, .inr (.inr (.inl ⟨rfl, ?_⟩)), ltr rfl⟩) fun h1 => cond_split (fun h2 => ⟨_, (p146 _).callL hL, by decide, _, stores_own (pre := []) (post := []) rfl (ltr rfl) rfl rfl ⟨_, rfl, rfl⟩, .inr (.inr (.inl ⟨rfl, ?_⟩)), ltr rfl⟩) fun h2 => ⟨.inr (.inr (.inl ⟨rfl, ?_⟩)), ltr rfl⟩⟩) fun h => absurd h (by decide)
      · have h1' : (fR face 5 == 1) = true := h1
        simp only [stp]; rw [h1', cond_true, prt1]; exact rfl
      · have h1' : (fR face 5 == 1) = false := h1
        have h2' : (fR face 5 == -1) = true := h2
        simp only [stp]; rw [h1', h2', cond_false, cond_true, prt1]; exact rfl
      · have h1' : (fR face 5 == 1) = false := h1
        have h2' : (fR face 5 == -1) = false := h2
        simp only [stp]; rw [h1', h2']; exact rfl
    · refine cond_split (fun _ => ⟨_, ⟨⟨by decide, by decide⟩, rfl⟩, hf, by decide, by decide, _, ldG1 hL List.not_mem_nil hf (by decide) (by decide), cond_split (fun h1 => ⟨_, (p146 _).callL hL, by decide, _, stores_own (pre := []) (post := []) rfl (ltr rfl) rfl rfl ⟨_, rfl, rfl⟩, .inr (.inr (.inr (⟨rfl, ?_⟩))), ltr rfl⟩) fun h1 => cond_split (fun h2 => ⟨_, (p146 _).callL hL, by decide, _, stores_own (pre := []) (post := []) rfl (ltr rfl) rfl rfl ⟨_, rfl, rfl⟩, .inr (.inr (.inr (⟨rfl, ?_⟩))), ltr rfl⟩) fun h2 => ⟨.inr (.inr (.inr (⟨rfl, ?_⟩))), ltr rfl⟩⟩) fun h => absurd h (by decide)
      · have h1' : (fR face 8 == 1) = true := h1
        simp only [stp]; rw [h1', cond_true, prt2]; exact rfl
      · have h1' : (fR face 8 == 1) = false := h1
        have h2' : (fR face 8 == -1) = true := h2
        simp only [stp]; rw [h1', h2', cond_false, cond_true, prt2]; exact rfl
      · have h1' : (fR face 8 == 1) = false := h1
        have h2' : (fR face 8 == -1) = false := h2
        simp only [stp]; rw [h1', h2']; exact rfl
    · exact cond_split (fun h => absurd h (by decide)) fun _ => ⟨.inr (.inr (.inr (⟨rfl, rfl⟩))), ltr rfl⟩
  · exact cond_split (fun h => absurd h (by decide)) fun _ => ⟨by decide, _, loads_own (.tail _ (.head _)) (ld44 _ _), by decide, _, loads_own (.tail _ (.head _)) (ld44 _ _), by decide, _, loads_own (.tail _ (.head _)) (ld44 _ _), _, _, _, (p274 _ _ _).callL hL, fin_ext rfl⟩


end Go.Proofs.YtnljcdplcloedaaGreatDoor
end
section
namespace Go.Proofs.YtnljcdplcloedaaGreatDoor
open Go Go.Tn Go.RowKit
set_option linter.unusedVariables false
set_option linter.unusedSimpArgs false
set_option maxRecDepth 100000
set_option maxHeartbeats 2000000

theorem wrap_lt (n : Int) : -18446744073709551616 < IntKind.wrap .i64 n ∧ IntKind.wrap .i64 n < 18446744073709551616 := by
  have := IntKind.wrap_i64 n
  omega
theorem fr242 {k n : Int} {r : Nat} (hn : Side n) (h : FRes (s242 (IntKind.wrap .i64 k) n) r) : r = fr (s242 (IntKind.wrap .i64 k) n) := by
  unfold Side at hn
  exact fres_of_some h (div_int (wrap_lt k) (by omega) (by omega))

-- tarn/geom.Corner
def loc240_0 (k8 : Nat) : Tn.Loc := [⟨k8, 198, [.float .f64 0, .float .f64 0, .float .f64 0], []⟩]
def an240 : Ann := (.seq .leaf (.seq (.seq .leaf (.cond (.seq .leaf .leaf) .leaf)) (.seq .leaf .leaf)))
noncomputable def q240 (w0 : World) (side : Int) (face : Int) (i : Int) (j : Int) (R : Value → World → Prop) : Prop :=
  (∀ k8 : Nat, (∃ n11 : Int, CallV (cx w0 [] []) (loc240_0 k8) [] 95 [.int .i64 side] (.int .i64 n11) ∧ (cond (n11 == (0 : Int)) (Fin (cx w0 [] []) R (.tuple ⟨[.agg ⟨[.float .f64 0, .float .f64 0, .float .f64 0]⟩, .bool false]⟩) []) ((cond (decide (face < (0 : Int))) (Fin (cx w0 [] []) R (.tuple ⟨[.agg ⟨[.float .f64 0, .float .f64 0, .float .f64 0]⟩, .bool false]⟩) []) ((cond (decide (face > (5 : Int))) (Fin (cx w0 [] []) R (.tuple ⟨[.agg ⟨[.float .f64 0, .float .f64 0, .float .f64 0]⟩, .bool false]⟩) []) ((cond (decide (i < (0 : Int))) (Fin (cx w0 [] []) R (.tuple ⟨[.agg ⟨[.float .f64 0, .float .f64 0, .float .f64 0]⟩, .bool false]⟩) []) ((cond (decide (i > side)) (Fin (cx w0 [] []) R (.tuple ⟨[.agg ⟨[.float .f64 0, .float .f64 0, .float .f64 0]⟩, .bool false]⟩) []) ((cond (decide (j < (0 : Int))) (Fin (cx w0 [] []) R (.tuple ⟨[.agg ⟨[.float .f64 0, .float .f64 0, .float .f64 0]⟩, .bool false]⟩) []) ((cond (decide (j > side)) (Fin (cx w0 [] []) R (.tuple ⟨[.agg ⟨[.float .f64 0, .float .f64 0, .float .f64 0]⟩, .bool false]⟩) []) ((∃ Φ46 : Value → Prop, CallR (cx w0 [] []) (loc240_0 k8) [] 242 [.int .i64 (IntKind.wrap .i64 ((IntKind.wrap .i64 ((2 : Int) * i)) - side)), .int .i64 side] (.val (.one .float)) Φ46 ∧ ∀ x46 : Nat, Φ46 (.float .f64 x46) → (∃ Φ52 : Value → Prop, CallR (cx w0 [] []) (loc240_0 k8) [] 242 [.int .i64 (IntKind.wrap .i64 ((IntKind.wrap .i64 ((2 : Int) * j)) - side)), .int .i64 side] (.val (.one .float)) Φ52 ∧ ∀ x52 : Nat, Φ52 (.float .f64 x52) → (∃ x53_0 : Nat, ∃ x53_1 : Nat, ∃ x53_2 : Nat, CallV (cx w0 [] []) (loc240_0 k8) [] 241 [.int .i64 face, .float .f64 x46, .float .f64 x52] (.agg ⟨[.float .f64 x53_0, .float .f64 x53_1, .float .f64 x53_2]⟩) ∧ Fin (cx w0 [] []) R (.tuple ⟨[.agg ⟨[.float .f64 x53_0, .float .f64 x53_1, .float .f64 x53_2]⟩, .bool true]⟩) [])))))))))))))))))))
theorem q240_eq (w0 : World) (side : Int) (face : Int) (i : Int) (j : Int) (R : Value → World → Prop) : funT (cx w0 [] []) Tryz.f240 an240 [.int .i64 side, .int .i64 face, .int .i64 i, .int .i64 j] [] R = q240 w0 side face i j R := by kernel_rfl
theorem d240 (W : World) (side : Int) (face : Int) (i : Int) (j : Int) {R : Value → World → Prop} (h : q240 W side face i j R) : Does Tryz.prog 240 [.int .i64 side, .int .i64 face, .int .i64 i, .int .i64 j] W R :=
  does_of_T (fn := Tryz.f240) (x := an240) (dyn := []) (by kernel_rfl) (by kernel_rfl) (sep_self W) (Eq.mpr (q240_eq W side face i j R) h)

def s240 (side face i j : Int) : Nat × Nat × Nat × Bool :=
  cond (s95 side == 0) (0, 0, 0, false) (cond (decide (face < 0)) (0, 0, 0, false) (cond (decide (face > 5)) (0, 0, 0, false) (cond (decide (i < 0)) (0, 0, 0, false) (cond (decide (i > side)) (0, 0, 0, false)
  (cond (decide (j < 0)) (0, 0, 0, false) (cond (decide (j > side)) (0, 0, 0, false) (
    let v := s241 face (fr (s242 (IntKind.wrap .i64 ((IntKind.wrap .i64 (2 * i)) - side)) side)) (fr (s242 (IntKind.wrap .i64 ((IntKind.wrap .i64 (2 * j)) - side)) side))
    (v.1, v.2.1, v.2.2, true))))))))
theorem p240 (side face i j : Int) : Pu 240 [.int .i64 side, .int .i64 face, .int .i64 i, .int .i64 j] (.tuple ⟨[.agg ⟨[.float .f64 (s240 side face i j).1, .float .f64 (s240 side face i j).2.1, .float .f64 (s240 side face i j).2.2.1]⟩, .bool (s240 side face i j).2.2.2]⟩) := fun W hL => d240 W side face i j fun k8 => ⟨_, (p95 _).callL hL, cond_split (fun h0 => fin_ext (by simp only [s240, h0, cond_true, cond_false])) fun h0 => cond_split (fun h1 => fin_ext (by simp only [s240, h0, h1, cond_true, cond_false])) fun h1 => cond_split (fun h2 => fin_ext (by simp only [s240, h0, h1, h2, cond_true, cond_false])) fun h2 => cond_split (fun h3 => fin_ext (by simp only [s240, h0, h1, h2, h3, cond_true, cond_false])) fun h3 => cond_split (fun h4 => fin_ext (by simp only [s240, h0, h1, h2, h3, h4, cond_true, cond_false])) fun h4 => cond_split (fun h5 => fin_ext (by simp only [s240, h0, h1, h2, h3, h4, h5, cond_true, cond_false])) fun h5 => cond_split (fun h6 => fin_ext (by simp only [s240, h0, h1, h2, h3, h4, h5, h6, cond_true, cond_false])) fun h6 => by
  have hs : Side side := by
    rcases Decidable.em (Side side) with h | h
    · exact h
    · rw [s95_out h] at h0; cases h0
  have hf : 0 ≤ face ∧ face < 6 := by simp at h1 h2; omega
  refine ⟨_, (p242 _ _).callL hL, fun x h => floatOf h fun hr => ?_⟩
  rw [fr242 hs hr]
  refine ⟨_, (p242 _ _).callL hL, fun y h => floatOf h fun hq => ?_⟩
  rw [fr242 hs hq]
  exact ⟨_, _, _, (p241 _ _ _ hf).callL hL, fin_ext (by simp only [s240, h0, h1, h2, h3, h4, h5, h6, cond_true, cond_false])⟩⟩


-- tarn/geom.Middle
def loc180_0 (k4 : Nat) : Tn.Loc := [⟨k4, 198, [.float .f64 0, .float .f64 0, .float .f64 0], []⟩]
def an180 : Ann := (.seq .leaf (.seq .leaf (.seq (.seq .leaf (.cond (.seq .leaf .leaf) .leaf)) (.seq .leaf .leaf))))
noncomputable def q180 (w0 : World) (side : Int) (cell : Int) (R : Value → World → Prop) : Prop :=
  (∀ k4 : Nat, (∃ n13a : Int, ∃ n13b : Int, ∃ n13c : Int, ∃ b13d : Bool, CallV (cx w0 [] []) (loc180_0 k4) [] 120 [.int .i64 side, .int .i64 cell] (.tuple ⟨[.int .i64 n13a, .int .i64 n13b, .int .i64 n13c, .bool b13d]⟩) ∧ (cond (!b13d) (Fin (cx w0 [] []) R (.tuple ⟨[.agg ⟨[.float .f64 0, .float .f64 0, .float .f64 0]⟩, .bool false]⟩) []) ((∃ Φ28 : Value → Prop, CallR (cx w0 [] []) (loc180_0 k4) [] 242 [.int .i64 (IntKind.wrap .i64 ((IntKind.wrap .i64 ((IntKind.wrap .i64 ((2 : Int) * n13b)) + (1 : Int))) - side)), .int .i64 side] (.val (.one .float)) Φ28 ∧ ∀ x28 : Nat, Φ28 (.float .f64 x28) → (∃ Φ35 : Value → Prop, CallR (cx w0 [] []) (loc180_0 k4) [] 242 [.int .i64 (IntKind.wrap .i64 ((IntKind.wrap .i64 ((IntKind.wrap .i64 ((2 : Int) * n13c)) + (1 : Int))) - side)), .int .i64 side] (.val (.one .float)) Φ35 ∧ ∀ x35 : Nat, Φ35 (.float .f64 x35) → (∃ x36_0 : Nat, ∃ x36_1 : Nat, ∃ x36_2 : Nat, CallV (cx w0 [] []) (loc180_0 k4) [] 241 [.int .i64 n13a, .float .f64 x28, .float .f64 x35] (.agg ⟨[.float .f64 x36_0, .float .f64 x36_1, .float .f64 x36_2]⟩) ∧ Fin (cx w0 [] []) R (.tuple ⟨[.agg ⟨[.float .f64 x36_0, .float .f64 x36_1, .float .f64 x36_2]⟩, .bool true]⟩) [])))))))
theorem q180_eq (w0 : World) (side : Int) (cell : Int) (R : Value → World → Prop) : funT (cx w0 [] []) Tryz.f180 an180 [.int .i64 side, .int .i64 cell] [] R = q180 w0 side cell R := by kernel_rfl
theorem d180 (W : World) (side : Int) (cell : Int) {R : Value → World → Prop} (h : q180 W side cell R) : Does Tryz.prog 180 [.int .i64 side, .int .i64 cell] W R :=
  does_of_T (fn := Tryz.f180) (x := an180) (dyn := []) (by kernel_rfl) (by kernel_rfl) (sep_self W) (Eq.mpr (q180_eq W side cell R) h)

def s180 (side cell : Int) : Nat × Nat × Nat × Bool :=
  let p := s120 side cell
  cond (!p.2.2.2) (0, 0, 0, false) (
    let v := s241 p.1 (fr (s242 (IntKind.wrap .i64 ((IntKind.wrap .i64 ((IntKind.wrap .i64 (2 * p.2.1)) + 1)) - side)) side)) (fr (s242 (IntKind.wrap .i64 ((IntKind.wrap .i64 ((IntKind.wrap .i64 (2 * p.2.2.1)) + 1)) - side)) side))
    (v.1, v.2.1, v.2.2, true))
theorem s120_ok {n c : Int} (h : (!(s120 n c).2.2.2) = false) : Side n ∧ 0 ≤ c ∧ c < 6 * (n * n) := by
  rcases Decidable.em (Side n ∧ 0 ≤ c ∧ c < 6 * (n * n)) with h1 | h1
  · exact h1
  · rw [s120_out h1] at h; cases h
theorem s120_face {n c : Int} (h : (!(s120 n c).2.2.2) = false) : 0 ≤ (s120 n c).1 ∧ (s120 n c).1 < 6 := by
  obtain ⟨h1, h2, h3⟩ := s120_ok h
  rw [s120_in h1 h2 h3]
  have hq := side_sq h1
  unfold Side at h1
  exact ⟨Int.ediv_nonneg h2 (by omega), Int.ediv_lt_of_lt_mul (by omega) h3⟩
theorem p180 (side cell : Int) : Pu 180 [.int .i64 side, .int .i64 cell] (.tuple ⟨[.agg ⟨[.float .f64 (s180 side cell).1, .float .f64 (s180 side cell).2.1, .float .f64 (s180 side cell).2.2.1]⟩, .bool (s180 side cell).2.2.2]⟩) := fun W hL => d180 W side cell fun k4 => ⟨_, _, _, _, (p120 _ _).callL hL, cond_split (fun h0 => fin_ext (by simp only [s180, h0, cond_true, cond_false])) fun h0 => by
  have hs := (s120_ok h0).1
  refine ⟨_, (p242 _ _).callL hL, fun x h => floatOf h fun hr => ?_⟩
  rw [fr242 hs hr]
  refine ⟨_, (p242 _ _).callL hL, fun y h => floatOf h fun hq => ?_⟩
  rw [fr242 hs hq]
  exact ⟨_, _, _, (p241 _ _ _ (s120_face h0)).callL hL, fin_ext (by simp only [s180, h0, cond_true, cond_false])⟩⟩



def cdI (k : Nat) : Int := ([0, 1, 1, 0] : List Int).getD k 0
def cdJ (k : Nat) : Int := ([0, 0, 1, 1] : List Int).getD k 0
/-- the k-th corner of a cell -/
def crn0 (side cell : Int) (k : Nat) : Nat × Nat × Nat :=
  let c := s240 side (s120 side cell).1 (IntKind.wrap .i64 ((s120 side cell).2.1 + cdI k)) (IntKind.wrap .i64 ((s120 side cell).2.2.1 + cdJ k))
  (c.1, c.2.1, c.2.2.1)
def crn (side cell : Int) (k : Nat) : Nat × Nat × Nat := cond (!(s120 side cell).2.2.2) (0, 0, 0) (crn0 side cell k)
def s178 (side cell : Int) : Nat × Nat × Nat × Nat × Nat × Nat × Nat × Nat × Nat × Nat × Nat × Nat × Bool :=
  ((crn side cell 0).1, (crn side cell 0).2.1, (crn side cell 0).2.2, (crn side cell 1).1, (crn side cell 1).2.1, (crn side cell 1).2.2, (crn side cell 2).1, (crn side cell 2).2.1, (crn side cell 2).2.2, (crn side cell 3).1, (crn side cell 3).2.1, (crn side cell 3).2.2, (s120 side cell).2.2.2)

-- tarn/geom.corners
def loc178_0 (k4 : Nat) : Tn.Loc := [⟨k4, 199, [.float .f64 0, .float .f64 0, .float .f64 0, .float .f64 0, .float .f64 0, .float .f64 0, .float .f64 0, .float .f64 0, .float .f64 0, .float .f64 0, .float .f64 0, .float .f64 0], []⟩]
def loc178_1 (k4 : Nat) (k12 : Nat) (n32_0 : Int) (n32_1 : Int) : Tn.Loc := [⟨k4, 199, [.float .f64 0, .float .f64 0, .float .f64 0, .float .f64 0, .float .f64 0, .float .f64 0, .float .f64 0, .float .f64 0, .float .f64 0, .float .f64 0, .float .f64 0, .float .f64 0], []⟩, ⟨k12, 130, [.int .i64 n32_0, .int .i64 n32_1], []⟩]
def an178 : Ann := (.seq .leaf (.seq .leaf (.seq (.seq .leaf (.cond (.seq .leaf .leaf) .leaf)) (.seq .leaf (.seq (.seq .leaf (.block (.loop [(29, .one (.int .i64))] [] (.seq .leaf (.seq (.cond .leaf .leaf) (.seq (.block (.seq .leaf .leaf)) .leaf)))))) (.seq .leaf .leaf))))))
noncomputable def q178 (w0 : World) (side : Int) (cell : Int) (R : Value → World → Prop) : Prop :=
  (∀ k4 : Nat, (∃ n16a : Int, ∃ n16b : Int, ∃ n16c : Int, ∃ b16d : Bool, CallV (cx w0 [] [10]) (loc178_0 k4) [] 120 [.int .i64 side, .int .i64 cell] (.tuple ⟨[.int .i64 n16a, .int .i64 n16b, .int .i64 n16c, .bool b16d]⟩) ∧ (cond (!b16d) (Fin (cx w0 [] [10]) R (.tuple ⟨[.agg ⟨[.float .f64 0, .float .f64 0, .float .f64 0, .float .f64 0, .float .f64 0, .float .f64 0, .float .f64 0, .float .f64 0, .float .f64 0, .float .f64 0, .float .f64 0, .float .f64 0]⟩, .bool false]⟩) []) ((∀ k10 : Nat, (∃ (I29 : Int → Own → Prop) (μ29 : Int → Own → Nat), I29 (0 : Int) ((k10, .cells ⟨[.float .f64 0, .float .f64 0, .float .f64 0, .float .f64 0, .float .f64 0, .float .f64 0, .float .f64 0, .float .f64 0, .float .f64 0, .float .f64 0, .float .f64 0, .float .f64 0]⟩ 199) :: []) ∧ ∀ n29 : Int, ∀ own29 : Own, I29 n29 own29 → (cond (decide (n29 < (4 : Int))) ((∃ n32_0 : Int, ∃ n32_1 : Int, ((0 ≤ n29 ∧ n29 < ((4 : Nat) : Int)) ∧ partX (cx w0 [] [10]) 130 [.int .i64 (0 : Int), .int .i64 (0 : Int), .int .i64 (1 : Int), .int .i64 (0 : Int), .int .i64 (1 : Int), .int .i64 (1 : Int), .int .i64 (0 : Int), .int .i64 (1 : Int)] (Int.toNat n29 * 2) = some (.agg ⟨[.int .i64 n32_0, .int .i64 n32_1]⟩)) ∧ (∀ k12 : Nat, (0 ≤ (0 : Int) ∧ (0 : Int) < ((2 : Nat) : Int)) ∧ (0 ≤ (1 : Int) ∧ (1 : Int) < ((2 : Nat) : Int)) ∧ (∃ x45a_0 : Nat, ∃ x45a_1 : Nat, ∃ x45a_2 : Nat, ∃ b45b : Bool, CallV (cx w0 [] [10]) (loc178_1 k4 k12 n32_0 n32_1) own29 240 [.int .i64 side, .int .i64 n16a, .int .i64 (IntKind.wrap .i64 (n16b + n32_0)), .int .i64 (IntKind.wrap .i64 (n16c + n32_1))] (.tuple ⟨[.agg ⟨[.float .f64 x45a_0, .float .f64 x45a_1, .float .f64 x45a_2]⟩, .bool b45b]⟩) ∧ (0 ≤ n29 ∧ n29 < ((4 : Nat) : Int)) ∧ (∃ own19 : Own, StoresTo (cx w0 [] [10]) (loc178_1 k4 k12 n32_0 n32_1) own29 198 (Addr.add ⟨k10, 0, none⟩ (Int.toNat n29 * 3)) (.agg ⟨[.float .f64 x45a_0, .float .f64 x45a_1, .float .f64 x45a_2]⟩) own19 ∧ I29 (IntKind.wrap .i64 (n29 + (1 : Int))) own19 ∧ μ29 (IntKind.wrap .i64 (n29 + (1 : Int))) own19 < μ29 n29 own29))))) ((∃ x50_0 : Nat, ∃ x50_1 : Nat, ∃ x50_2 : Nat, ∃ x50_3 : Nat, ∃ x50_4 : Nat, ∃ x50_5 : Nat, ∃ x50_6 : Nat, ∃ x50_7 : Nat, ∃ x50_8 : Nat, ∃ x50_9 : Nat, ∃ x50_10 : Nat, ∃ x50_11 : Nat, LoadsTo (cx w0 [] [10]) (loc178_0 k4) own29 199 ⟨k10, 0, none⟩ (.agg ⟨[.float .f64 x50_0, .float .f64 x50_1, .float .f64 x50_2, .float .f64 x50_3, .float .f64 x50_4, .float .f64 x50_5, .float .f64 x50_6, .float .f64 x50_7, .float .f64 x50_8, .float .f64 x50_9, .float .f64 x50_10, .float .f64 x50_11]⟩) ∧ Fin (cx w0 [] [10]) R (.tuple ⟨[.agg ⟨[.float .f64 x50_0, .float .f64 x50_1, .float .f64 x50_2, .float .f64 x50_3, .float .f64 x50_4, .float .f64 x50_5, .float .f64 x50_6, .float .f64 x50_7, .float .f64 x50_8, .float .f64 x50_9, .float .f64 x50_10, .float .f64 x50_11]⟩, .bool true]⟩) own29)))))))))
theorem q178_eq (w0 : World) (side : Int) (cell : Int) (R : Value → World → Prop) : funT (cx w0 [] [10]) Tryz.f178 an178 [.int .i64 side, .int .i64 cell] [] R = q178 w0 side cell R := by kernel_rfl
theorem d178 (W : World) (side : Int) (cell : Int) {R : Value → World → Prop} (h : q178 W side cell R) : Does Tryz.prog 178 [.int .i64 side, .int .i64 cell] W R :=
  does_of_T (fn := Tryz.f178) (x := an178) (dyn := [10]) (by kernel_rfl) (by kernel_rfl) (sep_self W) (Eq.mpr (q178_eq W side cell R) h)

theorem p178a (side cell : Int) : Pu 178 [.int .i64 side, .int .i64 cell] (.tuple ⟨[.agg ⟨[.float .f64 (crn side cell 0).1, .float .f64 (crn side cell 0).2.1, .float .f64 (crn side cell 0).2.2, .float .f64 (crn side cell 1).1, .float .f64 (crn side cell 1).2.1, .float .f64 (crn side cell 1).2.2, .float .f64 (crn side cell 2).1, .float .f64 (crn side cell 2).2.1, .float .f64 (crn side cell 2).2.2, .float .f64 (crn side cell 3).1, .float .f64 (crn side cell 3).2.1, .float .f64 (crn side cell 3).2.2]⟩, .bool (s120 side cell).2.2.2]⟩) := fun W hL => d178 W side cell fun k4 => ⟨_, _, _, _, (p120 _ _).callL hL, cond_split (fun h0 => fin_ext (by
    have e : ∀ k, crn side cell k = (0, 0, 0) := fun k => by simp only [crn, h0, cond_true]
    have e2 : (s120 side cell).2.2.2 = false := by simpa using h0
    simp only [e, e2])) fun h0 k10 => by
  have ec : ∀ k, k < 4 → crn side cell k = crn0 side cell k := fun k _ => by simp only [crn, h0, cond_false]
  have e2 : (s120 side cell).2.2.2 = true := by simpa using h0
  refine ⟨fun n own => (n = 0 ∧ own = [(k10, .cells ⟨[.float .f64 0, .float .f64 0, .float .f64 0, .float .f64 0, .float .f64 0, .float .f64 0, .float .f64 0, .float .f64 0, .float .f64 0, .float .f64 0, .float .f64 0, .float .f64 0]⟩ 199)]) ∨ (n = 1 ∧ own = [(k10, .cells ⟨[.float .f64 (crn side cell 0).1, .float .f64 (crn side cell 0).2.1, .float .f64 (crn side cell 0).2.2, .float .f64 0, .float .f64 0, .float .f64 0, .float .f64 0, .float .f64 0, .float .f64 0, .float .f64 0, .float .f64 0, .float .f64 0]⟩ 199)]) ∨ (n = 2 ∧ own = [(k10, .cells ⟨[.float .f64 (crn side cell 0).1, .float .f64 (crn side cell 0).2.1, .float .f64 (crn side cell 0).2.2, .float .f64 (crn side cell 1).1, .float .f64 (crn side cell 1).2.1, .float .f64 (crn side cell 1).2.2, .float .f64 0, .float .f64 0, .float .f64 0, .float .f64 0, .float .f64 0, .float .f64 0]⟩ 199)]) ∨ (n = 3 ∧ own = [(k10, .cells ⟨[.float .f64 (crn side cell 0).1, .float .f64 (crn side cell 0).2.1, .float .f64 (crn side cell 0).2.2, .float .f64 (crn side cell 1).1, .float .f64 (crn side cell 1).2.1, .float .f64 (crn side cell 1).2.2, .float .f64 (crn side cell 2).1, .float .f64 (crn side cell 2).2.1, .float .f64 (crn side cell 2).2.2, .float .f64 0, .float .f64 0, .float .f64 0]⟩ 199)]) ∨ (n = 4 ∧ own = [(k10, .cells ⟨[.float .f64 (crn side cell 0).1, .float .f64 (crn side cell 0).2.1, .float .f64 (crn side cell 0).2.2, .float .f64 (crn side cell 1).1, .float .f64 (crn side cell 1).2.1, .float .f64 (crn side cell 1).2.2, .float .f64 (crn side cell 2).1, .float .f64 (crn side cell 2).2.1, .float .f64 (crn side cell 2).2.2, .float .f64 (crn side cell 3).1, .float .f64 (crn side cell 3).2.1, .float .f64 (crn side cell 3).2.2]⟩ 199)]), fun n _ => (4 - n).toNat, .inl ⟨rfl, rfl⟩, ?_⟩
  rintro n own (⟨rfl, rfl⟩ | ⟨rfl, rfl⟩ | ⟨rfl, rfl⟩ | ⟨rfl, rfl⟩ | ⟨rfl, rfl⟩)
  · exact cond_split (fun _ => ⟨_, _, ⟨⟨by decide, by decide⟩, rfl⟩, fun k12 => ⟨by decide, by decide, _, _, _, _, (p240 _ _ _ _).callL hL, by decide, _, stores_agg (pre := []) (post := []) (vs := [.float .f64 (crn side cell 0).1, .float .f64 (crn side cell 0).2.1, .float .f64 (crn side cell 0).2.2]) rfl (by rw [ec 0 (ltr rfl)]; exact rfl) (ltr rfl) rfl ⟨_, rfl, rfl⟩, .inr (.inl ⟨rfl, rfl⟩), ltr rfl⟩⟩) fun h => absurd h (by decide)
  · exact cond_split (fun _ => ⟨_, _, ⟨⟨by decide, by decide⟩, rfl⟩, fun k12 => ⟨by decide, by decide, _, _, _, _, (p240 _ _ _ _).callL hL, by decide, _, stores_agg (pre := []) (post := []) (vs := [.float .f64 (crn side cell 1).1, .float .f64 (crn side cell 1).2.1, .float .f64 (crn side cell 1).2.2]) rfl (by rw [ec 1 (ltr rfl)]; exact rfl) (ltr rfl) rfl ⟨_, rfl, rfl⟩, .inr (.inr (.inl ⟨rfl, rfl⟩)), ltr rfl⟩⟩) fun h => absurd h (by decide)
  · exact cond_split (fun _ => ⟨_, _, ⟨⟨by decide, by decide⟩, rfl⟩, fun k12 => ⟨by decide, by decide, _, _, _, _, (p240 _ _ _ _).callL hL, by decide, _, stores_agg (pre := []) (post := []) (vs := [.float .f64 (crn side cell 2).1, .float .f64 (crn side cell 2).2.1, .float .f64 (crn side cell 2).2.2]) rfl (by rw [ec 2 (ltr rfl)]; exact rfl) (ltr rfl) rfl ⟨_, rfl, rfl⟩, .inr (.inr (.inr (.inl ⟨rfl, rfl⟩))), ltr rfl⟩⟩) fun h => absurd h (by decide)
  · exact cond_split (fun _ => ⟨_, _, ⟨⟨by decide, by decide⟩, rfl⟩, fun k12 => ⟨by decide, by decide, _, _, _, _, (p240 _ _ _ _).callL hL, by decide, _, stores_agg (pre := []) (post := []) (vs := [.float .f64 (crn side cell 3).1, .float .f64 (crn side cell 3).2.1, .float .f64 (crn side cell 3).2.2]) rfl (by rw [ec 3 (ltr rfl)]; exact rfl) (ltr rfl) rfl ⟨_, rfl, rfl⟩, .inr (.inr (.inr (.inr (⟨rfl, rfl⟩)))), ltr rfl⟩⟩) fun h => absurd h (by decide)
  · exact cond_split (fun h => absurd h (by decide)) fun _ => ⟨_, _, _, _, _, _, _, _, _, _, _, _, loads_own (.tail _ (.head _)) rfl, fin_ext (by rw [e2])⟩⟩
theorem p178 (side cell : Int) : Pu 178 [.int .i64 side, .int .i64 cell] (.tuple ⟨[.agg ⟨[.float .f64 (s178 side cell).1, .float .f64 (s178 side cell).2.1, .float .f64 (s178 side cell).2.2.1, .float .f64 (s178 side cell).2.2.2.1, .float .f64 (s178 side cell).2.2.2.2.1, .float .f64 (s178 side cell).2.2.2.2.2.1, .float .f64 (s178 side cell).2.2.2.2.2.2.1, .float .f64 (s178 side cell).2.2.2.2.2.2.2.1, .float .f64 (s178 side cell).2.2.2.2.2.2.2.2.1, .float .f64 (s178 side cell).2.2.2.2.2.2.2.2.2.1, .float .f64 (s178 side cell).2.2.2.2.2.2.2.2.2.2.1, .float .f64 (s178 side cell).2.2.2.2.2.2.2.2.2.2.2.1]⟩, .bool (s178 side cell).2.2.2.2.2.2.2.2.2.2.2.2]⟩) := p178a side cell



/-- the length of the cross product of the diagonals -/
def dgA (side cell : Int) : Nat × Nat × Nat := s238 (crn side cell 2).1 (crn side cell 2).2.1 (crn side cell 2).2.2 (crn side cell 0).1 (crn side cell 0).2.1 (crn side cell 0).2.2
def dgB (side cell : Int) : Nat × Nat × Nat := s238 (crn side cell 3).1 (crn side cell 3).2.1 (crn side cell 3).2.2 (crn side cell 1).1 (crn side cell 1).2.1 (crn side cell 1).2.2
def crsX (side cell : Int) : Nat × Nat × Nat := s237 (dgA side cell).1 (dgA side cell).2.1 (dgA side cell).2.2 (dgB side cell).1 (dgB side cell).2.1 (dgB side cell).2.2
def areaX (side cell : Int) : Nat := s236 (crsX side cell).1 (crsX side cell).2.1 (crsX side cell).2.2
def areaI (x : Nat) : Int := if (1 : Int) > (s239 (fr (f64.mul (fr (f64.mul x 4602678819172646912)) 4742290407621132288))).1 then 1 else (s239 (fr (f64.mul (fr (f64.mul x 4602678819172646912)) 4742290407621132288))).1
def s176 (side cell : Int) : Int := cond (!(s120 side cell).2.2.2) 0 (areaI (areaX side cell))
theorem areaI_of {x r s : Nat} (h1 : FRes (f64.mul x 4602678819172646912) r) (h2 : FRes (f64.mul r 4742290407621132288) s) : (if (1 : Int) > (s239 s).1 then (1 : Int) else (s239 s).1) = areaI x := by
  rw [fm1 h1] at h2
  rw [c239_0 h2]; rfl

-- tarn/geom.Area
def loc176_0 (k5 : Nat) (x14a_0 : Nat) (x14a_1 : Nat) (x14a_2 : Nat) (x14a_3 : Nat) (x14a_4 : Nat) (x14a_5 : Nat) (x14a_6 : Nat) (x14a_7 : Nat) (x14a_8 : Nat) (x14a_9 : Nat) (x14a_10 : Nat) (x14a_11 : Nat) : Tn.Loc := [⟨k5, 199, [.float .f64 x14a_0, .float .f64 x14a_1, .float .f64 x14a_2, .float .f64 x14a_3, .float .f64 x14a_4, .float .f64 x14a_5, .float .f64 x14a_6, .float .f64 x14a_7, .float .f64 x14a_8, .float .f64 x14a_9, .float .f64 x14a_10, .float .f64 x14a_11], []⟩]
def an176 : Ann := (.seq .leaf (.seq .leaf (.seq (.seq .leaf (.cond (.seq .leaf .leaf) .leaf)) (.seq (.draw [0, 1, 2, 3, 4, 5, 6, 7, 8, 9, 10, 11, 12]) (.seq .leaf (.seq .leaf (.seq .leaf .leaf)))))))
noncomputable def q176 (w0 : World) (side : Int) (cell : Int) (R : Value → World → Prop) : Prop :=
  (∃ x14a_0 : Nat, ∃ x14a_1 : Nat, ∃ x14a_2 : Nat, ∃ x14a_3 : Nat, ∃ x14a_4 : Nat, ∃ x14a_5 : Nat, ∃ x14a_6 : Nat, ∃ x14a_7 : Nat, ∃ x14a_8 : Nat, ∃ x14a_9 : Nat, ∃ x14a_10 : Nat, ∃ x14a_11 : Nat, ∃ b14b : Bool, CallV (cx w0 [] []) [] [] 178 [.int .i64 side, .int .i64 cell] (.tuple ⟨[.agg ⟨[.float .f64 x14a_0, .float .f64 x14a_1, .float .f64 x14a_2, .float .f64 x14a_3, .float .f64 x14a_4, .float .f64 x14a_5, .float .f64 x14a_6, .float .f64 x14a_7, .float .f64 x14a_8, .float .f64 x14a_9, .float .f64 x14a_10, .float .f64 x14a_11]⟩, .bool b14b]⟩) ∧ (∀ k5 : Nat, (cond (!b14b) (Fin (cx w0 [] []) R (.int .i64 (0 : Int)) []) ((0 ≤ (2 : Int) ∧ (2 : Int) < ((4 : Nat) : Int)) ∧ (0 ≤ (0 : Int) ∧ (0 : Int) < ((4 : Nat) : Int)) ∧ (∃ x23_0 : Nat, ∃ x23_1 : Nat, ∃ x23_2 : Nat, CallV (cx w0 [] []) (loc176_0 k5 x14a_0 x14a_1 x14a_2 x14a_3 x14a_4 x14a_5 x14a_6 x14a_7 x14a_8 x14a_9 x14a_10 x14a_11) [] 238 [.agg ⟨[.float .f64 x14a_6, .float .f64 x14a_7, .float .f64 x14a_8]⟩, .agg ⟨[.float .f64 x14a_0, .float .f64 x14a_1, .float .f64 x14a_2]⟩] (.agg ⟨[.float .f64 x23_0, .float .f64 x23_1, .float .f64 x23_2]⟩) ∧ (0 ≤ (3 : Int) ∧ (3 : Int) < ((4 : Nat) : Int)) ∧ (0 ≤ (1 : Int) ∧ (1 : Int) < ((4 : Nat) : Int)) ∧ (∃ x28_0 : Nat, ∃ x28_1 : Nat, ∃ x28_2 : Nat, CallV (cx w0 [] []) (loc176_0 k5 x14a_0 x14a_1 x14a_2 x14a_3 x14a_4 x14a_5 x14a_6 x14a_7 x14a_8 x14a_9 x14a_10 x14a_11) [] 238 [.agg ⟨[.float .f64 x14a_9, .float .f64 x14a_10, .float .f64 x14a_11]⟩, .agg ⟨[.float .f64 x14a_3, .float .f64 x14a_4, .float .f64 x14a_5]⟩] (.agg ⟨[.float .f64 x28_0, .float .f64 x28_1, .float .f64 x28_2]⟩) ∧ (∃ x29_0 : Nat, ∃ x29_1 : Nat, ∃ x29_2 : Nat, CallV (cx w0 [] []) (loc176_0 k5 x14a_0 x14a_1 x14a_2 x14a_3 x14a_4 x14a_5 x14a_6 x14a_7 x14a_8 x14a_9 x14a_10 x14a_11) [] 237 [.agg ⟨[.float .f64 x23_0, .float .f64 x23_1, .float .f64 x23_2]⟩, .agg ⟨[.float .f64 x28_0, .float .f64 x28_1, .float .f64 x28_2]⟩] (.agg ⟨[.float .f64 x29_0, .float .f64 x29_1, .float .f64 x29_2]⟩) ∧ (∃ x30 : Nat, CallV (cx w0 [] []) (loc176_0 k5 x14a_0 x14a_1 x14a_2 x14a_3 x14a_4 x14a_5 x14a_6 x14a_7 x14a_8 x14a_9 x14a_10 x14a_11) [] 236 [.agg ⟨[.float .f64 x29_0, .float .f64 x29_1, .float .f64 x29_2]⟩] (.float .f64 x30) ∧ (∀ r32 : Nat, FRes (f64.mul x30 4602678819172646912) r32 → (∀ r35 : Nat, FRes (f64.mul r32 4742290407621132288) r35 → (∃ n36a : Int, ∃ b36b : Bool, CallV (cx w0 [] []) (loc176_0 k5 x14a_0 x14a_1 x14a_2 x14a_3 x14a_4 x14a_5 x14a_6 x14a_7 x14a_8 x14a_9 x14a_10 x14a_11) [] 239 [.float .f64 r35] (.tuple ⟨[.int .i64 n36a, .bool b36b]⟩) ∧ Fin (cx w0 [] []) R (.int .i64 (if (1 : Int) > n36a then (1 : Int) else n36a)) [])))))))))))
theorem q176_eq (w0 : World) (side : Int) (cell : Int) (R : Value → World → Prop) : funT (cx w0 [] []) Tryz.f176 an176 [.int .i64 side, .int .i64 cell] [] R = q176 w0 side cell R := by kernel_rfl
theorem d176 (W : World) (side : Int) (cell : Int) {R : Value → World → Prop} (h : q176 W side cell R) : Does Tryz.prog 176 [.int .i64 side, .int .i64 cell] W R :=
  does_of_T (fn := Tryz.f176) (x := an176) (dyn := []) (by kernel_rfl) (by kernel_rfl) (sep_self W) (Eq.mpr (q176_eq W side cell R) h)

theorem p176 (side cell : Int) : Pu 176 [.int .i64 side, .int .i64 cell] (.int .i64 (s176 side cell)) := fun W hL => d176 W side cell (by
  refine ⟨_, _, _, _, _, _, _, _, _, _, _, _, _, (p178a _ _).callL hL, fun k5 => cond_split (fun h0 => fin_ext (by simp only [s176, h0, cond_true])) fun h0 => ⟨by decide, by decide, (dgA side cell).1, (dgA side cell).2.1, (dgA side cell).2.2, (p238 (crn side cell 2).1 (crn side cell 2).2.1 (crn side cell 2).2.2 (crn side cell 0).1 (crn side cell 0).2.1 (crn side cell 0).2.2).callL hL, by decide, by decide, (dgB side cell).1, (dgB side cell).2.1, (dgB side cell).2.2, (p238 (crn side cell 3).1 (crn side cell 3).2.1 (crn side cell 3).2.2 (crn side cell 1).1 (crn side cell 1).2.1 (crn side cell 1).2.2).callL hL, (crsX side cell).1, (crsX side cell).2.1, (crsX side cell).2.2, (p237 (dgA side cell).1 (dgA side cell).2.1 (dgA side cell).2.2 (dgB side cell).1 (dgB side cell).2.1 (dgB side cell).2.2).callL hL, areaX side cell, (p236 (crsX side cell).1 (crsX side cell).2.1 (crsX side cell).2.2).callL hL, ?_⟩⟩
  have e : s176 side cell = areaI (areaX side cell) := by simp only [s176, h0, cond_false]
  rw [e]
  generalize areaX side cell = x
  intro r h1 q h2
  refine ⟨_, _, (p239 _).callL hL, fin_ext ?_⟩
  rw [← areaI_of h1 h2])


-- tarn/geom.Gap
def loc100_0 (k9 : Nat) (x23a_0 : Nat) (x23a_1 : Nat) (x23a_2 : Nat) : Tn.Loc := [⟨k9, 198, [.float .f64 x23a_0, .float .f64 x23a_1, .float .f64 x23a_2], []⟩]
def loc100_1 (k9 : Nat) (x23a_0 : Nat) (x23a_1 : Nat) (x23a_2 : Nat) (k11 : Nat) (x29a_0 : Nat) (x29a_1 : Nat) (x29a_2 : Nat) : Tn.Loc := [⟨k9, 198, [.float .f64 x23a_0, .float .f64 x23a_1, .float .f64 x23a_2], []⟩, ⟨k11, 198, [.float .f64 x29a_0, .float .f64 x29a_1, .float .f64 x29a_2], []⟩]
def an100 : Ann := (.seq .leaf (.seq .leaf (.seq .leaf (.seq .leaf (.seq (.seq .leaf (.cond (.seq .leaf .leaf) .leaf)) (.seq .leaf .leaf))))))
noncomputable def q100 (w0 : World) (side : Int) (cell : Int) (over : Int) (R : Value → World → Prop) : Prop :=
  (∃ n17a : Int, ∃ n17b : Int, CallV (cx w0 [] []) [] [] 98 [.int .i64 side, .int .i64 cell, .int .i64 over] (.tuple ⟨[.int .i64 n17a, .int .i64 n17b]⟩) ∧ (∃ x23a_0 : Nat, ∃ x23a_1 : Nat, ∃ x23a_2 : Nat, ∃ b23b : Bool, CallV (cx w0 [] []) [] [] 180 [.int .i64 side, .int .i64 cell] (.tuple ⟨[.agg ⟨[.float .f64 x23a_0, .float .f64 x23a_1, .float .f64 x23a_2]⟩, .bool b23b]⟩) ∧ (∀ k9 : Nat, (∃ x29a_0 : Nat, ∃ x29a_1 : Nat, ∃ x29a_2 : Nat, ∃ b29b : Bool, CallV (cx w0 [] []) (loc100_0 k9 x23a_0 x23a_1 x23a_2) [] 180 [.int .i64 side, .int .i64 n17a] (.tuple ⟨[.agg ⟨[.float .f64 x29a_0, .float .f64 x29a_1, .float .f64 x29a_2]⟩, .bool b29b]⟩) ∧ (∀ k11 : Nat, (cond (!b23b) (Fin (cx w0 [] []) R (.float .f64 0) []) ((cond (!b29b) (Fin (cx w0 [] []) R (.float .f64 0) []) ((∃ x40 : Nat, CallV (cx w0 [] []) (loc100_1 k9 x23a_0 x23a_1 x23a_2 k11 x29a_0 x29a_1 x29a_2) [] 179 [.agg ⟨[.float .f64 x23a_0, .float .f64 x23a_1, .float .f64 x23a_2]⟩, .agg ⟨[.float .f64 x29a_0, .float .f64 x29a_1, .float .f64 x29a_2]⟩] (.float .f64 x40) ∧ Fin (cx w0 [] []) R (.float .f64 x40) []))))))))))
theorem q100_eq (w0 : World) (side : Int) (cell : Int) (over : Int) (R : Value → World → Prop) : funT (cx w0 [] []) Tryz.f100 an100 [.int .i64 side, .int .i64 cell, .int .i64 over] [] R = q100 w0 side cell over R := by kernel_rfl
theorem d100 (W : World) (side : Int) (cell : Int) (over : Int) {R : Value → World → Prop} (h : q100 W side cell over R) : Does Tryz.prog 100 [.int .i64 side, .int .i64 cell, .int .i64 over] W R :=
  does_of_T (fn := Tryz.f100) (x := an100) (dyn := []) (by kernel_rfl) (by kernel_rfl) (sep_self W) (Eq.mpr (q100_eq W side cell over R) h)
def s100 (side : Int) (cell : Int) (over : Int) : Nat := (cond (!((s180 side cell).2.2.2)) 0 (cond (!((s180 side ((s98 side cell over).1)).2.2.2)) 0 (s179 ((s180 side cell).1) ((s180 side cell).2.1) ((s180 side cell).2.2.1) ((s180 side ((s98 side cell over).1)).1) ((s180 side ((s98 side cell over).1)).2.1) ((s180 side ((s98 side cell over).1)).2.2.1))))
theorem p100 (side : Int) (cell : Int) (over : Int) : Pu 100 [.int .i64 side, .int .i64 cell, .int .i64 over] (.float .f64 (s100 side cell over)) := fun W hL => d100 W side cell over (⟨_, _, (p98 _ _ _).callL hL, ⟨_, _, _, _, (p180 _ _).callL hL, fun k9 => ⟨_, _, _, _, (p180 _ _).callL hL, fun k11 => cond_split (fun h2 => fin_ext (by first | (unfold s100; simp only [h2, cond_true, cond_false]; done) | (exfalso; simp_all; done) | (unfold s100; simp [h2, cond_true, cond_false]; done))) (fun h2 => cond_split (fun h1 => fin_ext (by first | (unfold s100; simp only [h1, h2, cond_true, cond_false]; done) | (exfalso; simp_all; done) | (unfold s100; simp [h1, h2, cond_true, cond_false]; done))) (fun h1 => ⟨_, (p179 _ _ _ _ _ _).callL hL, fin_ext (by first | (unfold s100; simp only [h1, h2, cond_true, cond_false]; done) | (exfalso; simp_all; done) | (unfold s100; simp [h1, h2, cond_true, cond_false]; done))⟩))⟩⟩⟩)


def lnA (over : Int) : Nat := ([1, 3, 0, 0] : List Nat).getD over.toNat 0
def lnB (over : Int) : Nat := ([2, 2, 3, 1] : List Nat).getD over.toNat 0
def s99 (side cell over : Int) : Nat :=
  cond (!(s120 side cell).2.2.2) 0 (cond (decide (over < 0)) 0 (cond (decide (over > 3)) 0
    (s179 (crn side cell (lnA over)).1 (crn side cell (lnA over)).2.1 (crn side cell (lnA over)).2.2 (crn side cell (lnB over)).1 (crn side cell (lnB over)).2.1 (crn side cell (lnB over)).2.2)))

-- tarn/geom.Length
def loc99_0 (k9 : Nat) (n32_0 : Int) (n32_1 : Int) : Tn.Loc := [⟨k9, 130, [.int .i64 n32_0, .int .i64 n32_1], []⟩]
def an99 : Ann := (.seq .leaf (.seq .leaf (.seq (.seq .leaf (.cond (.seq .leaf .leaf) .leaf)) (.seq .leaf (.seq (.draw [0, 1, 2, 3, 4, 5, 6, 7, 8, 9]) .leaf)))))
noncomputable def q99 (w0 : World) (side : Int) (cell : Int) (over : Int) (R : Value → World → Prop) : Prop :=
  (∃ x13a_0 : Nat, ∃ x13a_1 : Nat, ∃ x13a_2 : Nat, ∃ x13a_3 : Nat, ∃ x13a_4 : Nat, ∃ x13a_5 : Nat, ∃ x13a_6 : Nat, ∃ x13a_7 : Nat, ∃ x13a_8 : Nat, ∃ x13a_9 : Nat, ∃ x13a_10 : Nat, ∃ x13a_11 : Nat, ∃ b13b : Bool, CallV (cx w0 [] [7]) [] [] 178 [.int .i64 side, .int .i64 cell] (.tuple ⟨[.agg ⟨[.float .f64 x13a_0, .float .f64 x13a_1, .float .f64 x13a_2, .float .f64 x13a_3, .float .f64 x13a_4, .float .f64 x13a_5, .float .f64 x13a_6, .float .f64 x13a_7, .float .f64 x13a_8, .float .f64 x13a_9, .float .f64 x13a_10, .float .f64 x13a_11]⟩, .bool b13b]⟩) ∧ (∀ k7 : Nat, (∃ own17 : Own, StoresTo (cx w0 [] [7]) [] ((k7, .cells ⟨[.float .f64 0, .float .f64 0, .float .f64 0, .float .f64 0, .float .f64 0, .float .f64 0, .float .f64 0, .float .f64 0, .float .f64 0, .float .f64 0, .float .f64 0, .float .f64 0]⟩ 199) :: []) 199 ⟨k7, 0, none⟩ (.agg ⟨[.float .f64 x13a_0, .float .f64 x13a_1, .float .f64 x13a_2, .float .f64 x13a_3, .float .f64 x13a_4, .float .f64 x13a_5, .float .f64 x13a_6, .float .f64 x13a_7, .float .f64 x13a_8, .float .f64 x13a_9, .float .f64 x13a_10, .float .f64 x13a_11]⟩) own17 ∧ (cond (!b13b) (Fin (cx w0 [] [7]) R (.float .f64 0) own17) ((cond (decide (over < (0 : Int))) (Fin (cx w0 [] [7]) R (.float .f64 0) own17) ((cond (decide (over > (3 : Int))) (Fin (cx w0 [] [7]) R (.float .f64 0) own17) ((∃ n32_0 : Int, ∃ n32_1 : Int, ((0 ≤ over ∧ over < ((4 : Nat) : Int)) ∧ partX (cx w0 [] [7]) 130 [.int .i64 (1 : Int), .int .i64 (2 : Int), .int .i64 (3 : Int), .int .i64 (2 : Int), .int .i64 (0 : Int), .int .i64 (3 : Int), .int .i64 (0 : Int), .int .i64 (1 : Int)] (Int.toNat over * 2) = some (.agg ⟨[.int .i64 n32_0, .int .i64 n32_1]⟩)) ∧ (∀ k9 : Nat, (0 ≤ (0 : Int) ∧ (0 : Int) < ((2 : Nat) : Int)) ∧ (0 ≤ n32_0 ∧ n32_0 < ((4 : Nat) : Int)) ∧ (∃ x36_0 : Nat, ∃ x36_1 : Nat, ∃ x36_2 : Nat, LoadsTo (cx w0 [] [7]) (loc99_0 k9 n32_0 n32_1) own17 198 (Addr.add ⟨k7, 0, none⟩ (Int.toNat n32_0 * 3)) (.agg ⟨[.float .f64 x36_0, .float .f64 x36_1, .float .f64 x36_2]⟩) ∧ (0 ≤ (1 : Int) ∧ (1 : Int) < ((2 : Nat) : Int)) ∧ (0 ≤ n32_1 ∧ n32_1 < ((4 : Nat) : Int)) ∧ (∃ x40_0 : Nat, ∃ x40_1 : Nat, ∃ x40_2 : Nat, LoadsTo (cx w0 [] [7]) (loc99_0 k9 n32_0 n32_1) own17 198 (Addr.add ⟨k7, 0, none⟩ (Int.toNat n32_1 * 3)) (.agg ⟨[.float .f64 x40_0, .float .f64 x40_1, .float .f64 x40_2]⟩) ∧ (∃ x41 : Nat, CallV (cx w0 [] [7]) (loc99_0 k9 n32_0 n32_1) own17 179 [.agg ⟨[.float .f64 x36_0, .float .f64 x36_1, .float .f64 x36_2]⟩, .agg ⟨[.float .f64 x40_0, .float .f64 x40_1, .float .f64 x40_2]⟩] (.float .f64 x41) ∧ Fin (cx w0 [] [7]) R (.float .f64 x41) own17))))))))))))))
theorem q99_eq (w0 : World) (side : Int) (cell : Int) (over : Int) (R : Value → World → Prop) : funT (cx w0 [] [7]) Tryz.f99 an99 [.int .i64 side, .int .i64 cell, .int .i64 over] [] R = q99 w0 side cell over R := by kernel_rfl
theorem d99 (W : World) (side : Int) (cell : Int) (over : Int) {R : Value → World → Prop} (h : q99 W side cell over R) : Does Tryz.prog 99 [.int .i64 side, .int .i64 cell, .int .i64 over] W R :=
  does_of_T (fn := Tryz.f99) (x := an99) (dyn := [7]) (by kernel_rfl) (by kernel_rfl) (sep_self W) (Eq.mpr (q99_eq W side cell over R) h)

theorem p99 (side cell over : Int) : Pu 99 [.int .i64 side, .int .i64 cell, .int .i64 over] (.float .f64 (s99 side cell over)) := fun W hL => d99 W side cell over (by
  refine ⟨_, _, _, _, _, _, _, _, _, _, _, _, _, (p178a _ _).callL hL, fun k7 => ⟨_, stores_agg (o := 0) (pre := []) (post := []) (vs := [.float .f64 (crn side cell 0).1, .float .f64 (crn side cell 0).2.1, .float .f64 (crn side cell 0).2.2, .float .f64 (crn side cell 1).1, .float .f64 (crn side cell 1).2.1, .float .f64 (crn side cell 1).2.2, .float .f64 (crn side cell 2).1, .float .f64 (crn side cell 2).2.1, .float .f64 (crn side cell 2).2.2, .float .f64 (crn side cell 3).1, .float .f64 (crn side cell 3).2.1, .float .f64 (crn side cell 3).2.2]) rfl rfl (ltr rfl) rfl ⟨_, rfl, rfl⟩, cond_split (fun h0 => fin_ext (by simp only [s99, h0, cond_true])) fun h0 => cond_split (fun h1 => fin_ext (by simp only [s99, h0, h1, cond_true, cond_false])) fun h1 => cond_split (fun h2 => fin_ext (by simp only [s99, h0, h1, h2, cond_true, cond_false])) fun h2 => ?_⟩⟩
  have ho : over = 0 ∨ over = 1 ∨ over = 2 ∨ over = 3 := by simp at h1 h2; omega
  have e : s99 side cell over = s179 (crn side cell (lnA over)).1 (crn side cell (lnA over)).2.1 (crn side cell (lnA over)).2.2 (crn side cell (lnB over)).1 (crn side cell (lnB over)).2.1 (crn side cell (lnB over)).2.2 := by simp only [s99, h0, h1, h2, cond_false]
  rw [e]
  rcases ho with rfl | rfl | rfl | rfl
  all_goals exact ⟨_, _, ⟨⟨by decide, by decide⟩, rfl⟩, fun k9 => ⟨by decide, by decide, _, _, _, loads_own (.tail _ (.head _)) rfl, by decide, by decide, _, _, _, loads_own (.tail _ (.head _)) rfl, _, (p179 _ _ _ _ _ _).callL hL, fin_ext rfl⟩⟩)


end Go.Proofs.YtnljcdplcloedaaGreatDoor
end
section
namespace Go.Proofs.YtnljcdplcloedaaGreatDoor
open Go Go.Tn Go.RowKit
set_option linter.unusedVariables false
set_option linter.unusedSimpArgs false
set_option maxRecDepth 100000
set_option maxHeartbeats 2000000

abbrev EdgeL := List (Int × Int × Int × Int)
def eCells (E : EdgeL) : List Value := E.flatMap fun e => [.int .i64 e.1, .int .i64 e.2.1, .int .i64 e.2.2.1, .int .i64 e.2.2.2]
def iCells (A : List Int) : List Value := A.map (Value.int .i64)
def fCells (A : List Nat) : List Value := A.map (Value.float .f64)
def pCells (B : List (Int × Int)) : List Value := B.flatMap fun b => [.int .i64 b.1, .int .i64 b.2]
theorem el124 : ElT 124 63 4 32 := elT (by kernel_rfl)
theorem el23 : ElT 23 2 1 8 := elT (by kernel_rfl)
theorem el125 : ElT 125 130 2 16 := elT (by kernel_rfl)
theorem el22 : ElT 22 44 1 8 := elT (by kernel_rfl)
/-- what a net is made of -/
structure Net where
  n : Int
  E : EdgeL
  M : PM
  B : List (Int × Int)
  A : List Int
  L : List Nat
  P : List Nat
/-- the blocks in which a net stands -/
def GP (g : Net) (kg km : Nat) (X : Own) : Prop :=
  ∃ mo ve be vb bb va ba vl bl vp bp, X = (kg, .cells ⟨[.int .i64 g.n, ve, .map (some km), vb, va, vl, vp]⟩ 127) :: (km, mo) :: (be ++ (bb ++ (ba ++ (bl ++ bp)))) ∧ IsMap mo g.M ∧
    GS ve be 63 4 g.E.length (eCells g.E) ∧ GS vb bb 130 2 g.B.length (pCells g.B) ∧ GS va ba 2 1 g.A.length (iCells g.A) ∧ GS vl bl 44 1 g.L.length (fCells g.L) ∧ GS vp bp 44 1 g.P.length (fCells g.P)
theorem gs_slice {v : Value} {blk : Own} {e : TypeId} {sz n : Nat} {xs : List Value} (h : GS v blk e sz n xs) : ∃ a c, v = .slice a n c := by
  rcases h.2 with ⟨h1, h2, _⟩ | ⟨g, cap, cur, h1, _⟩
  · exact ⟨none, 0, by rw [h1, h2]⟩
  · exact ⟨_, _, h1⟩
theorem ld127 {w0 : World} {mt dyn : List Nat} (cs : List Value) (o : Nat) : loadL (cx w0 mt dyn) 22 cs o = cs[o]? ∧ loadL (cx w0 mt dyn) 23 cs o = cs[o]? ∧ loadL (cx w0 mt dyn) 123 cs o = cs[o]? ∧ loadL (cx w0 mt dyn) 124 cs o = cs[o]? ∧ loadL (cx w0 mt dyn) 125 cs o = cs[o]? := by
  refine ⟨?_, ?_, ?_, ?_, ?_⟩ <;> kernel_rfl
theorem ml48 {n : Nat} (h : n ≤ 100000) : n ≤ maxLen := by unfold maxLen; omega

-- (*tarn/grid.Grid).addArea
def an97 : Ann := (.draw [0, 1, 2, 3, 4, 5, 6, 7, 8, 9, 10, 11, 12, 13, 14, 15])
noncomputable def q97 (w0 : World) (g : Addr) (cell : Int) (own0 : Own) (mt0 : List Nat) (R : Value → World → Prop) : Prop :=
  (∃ ad6 : Addr, (some g) = some ad6 ∧ (∃ a8 : Option Addr, ∃ l8 : Nat, ∃ c8 : Nat, LoadsTo (cx w0 mt0 []) [] own0 23 (Addr.add ad6 4) (.slice a8 l8 c8) ∧ (∃ ad10 : Addr, (some g) = some ad10 ∧ (∃ n12 : Int, LoadsTo (cx w0 mt0 []) [] own0 3 (Addr.add ad10 0) (.int .i64 n12) ∧ (∃ n14 : Int, CallV (cx w0 mt0 []) [] own0 176 [.int .i64 n12, .int .i64 cell] (.int .i64 n14) ∧ (∀ k15 : Nat, (∃ Φ16 : Value → Own → Prop, OpG (cx w0 mt0 []) [] ((k15, .cells ⟨[.int .i64 n14]⟩ 2) :: own0) (Builtin.append_ #[23, 23] 23 ⟨[.slice a8 l8 c8, .slice (some ⟨k15, 0, none⟩) 1 1]⟩) (.val (.one .slice)) Φ16 ∧ ∀ a16 : Option Addr, ∀ l16 : Nat, ∀ c16 : Nat, ∀ own16 : Own, Φ16 (.slice a16 l16 c16) own16 → (∃ ad17 : Addr, (some g) = some ad17 ∧ (∃ own18 : Own, StoresTo (cx w0 mt0 []) [] own16 23 (Addr.add ad17 4) (.slice a16 l16 c16) own18 ∧ Fin (cx w0 mt0 []) R (.tuple ⟨[]⟩) own18)))))))))
theorem q97_eq (w0 : World) (g : Addr) (cell : Int) (own0 : Own) (mt0 : List Nat) (R : Value → World → Prop) : funT (cx w0 mt0 []) Tryz.f97 an97 [.pointer (some g), .int .i64 cell] own0 R = q97 w0 g cell own0 mt0 R := by kernel_rfl
theorem d97 (W : World) (g : Addr) (cell : Int) (own0 : Own) (mt0 : List Nat) (hS : Sep W mt0 own0 W) {R : Value → World → Prop} (h : q97 W g cell own0 mt0 R) : Does Tryz.prog 97 [.pointer (some g), .int .i64 cell] W R :=
  does_of_T (fn := Tryz.f97) (x := an97) (dyn := []) (by kernel_rfl) (by kernel_rfl) hS (Eq.mpr (q97_eq W g cell own0 mt0 R) h)

/-- one area more -/
theorem p97 (g : Net) (kg km : Nat) (c : Int) (X : Own) (hX : GP g kg km X) (hA : g.A.length < 90000) : MutG 97 [.pointer (some ⟨kg, 0, none⟩), .int .i64 c] X fun v X' => v = .tuple ⟨[]⟩ ∧ GP { g with A := g.A ++ [s176 g.n c] } kg km X' := by
  intro W hL hS h0 h2
  refine d97 W ⟨kg, 0, none⟩ c X (X.map Prod.fst) hS ?_
  obtain ⟨mo, ve, be, vb, bb, va, ba, vl, bl, vp, bp, rfl, hM, hE, hB, hA', hLn, hP⟩ := hX
  obtain ⟨aa, ca, rfl⟩ := gs_slice hA'
  unfold q97
  refine ⟨_, rfl, _, _, _, loads_own (.head _) (ld127 _ _).2.1, _, rfl, _, loads_own (.head _) (ld3 _ _), _, (p176 _ _).call fun W' hS' => hL.sep hS' h0 h2, fun k15 => ?_⟩
  refine ⟨_, append_gs (pre := (k15, .cells ⟨[.int .i64 (s176 g.n c)]⟩ 2) :: (kg, .cells ⟨[.int .i64 g.n, ve, .map (some km), vb, .slice aa g.A.length ca, vl, vp]⟩ 127) :: (km, mo) :: (be ++ bb)) (post := bl ++ bp) el23 hA' (by simp) (news := [.int .i64 (s176 g.n c)]) rfl (by decide) (by simp; rfl)
    (fun W' hS' j u hu => cell_own hS' (.head _) j u hu) (ml48 (by omega)) (by omega), fun a16 l16 c16 own16 h16 => ?_⟩
  obtain ⟨ba', rfl, hA2⟩ := h16
  have hl : l16 = g.A.length + 1 := by obtain ⟨a, c, e⟩ := gs_slice hA2; cases e; rfl
  subst hl
  refine ⟨_, rfl, _, stores_sub (stores_own (pre := [(k15, .cells ⟨[.int .i64 (s176 g.n c)]⟩ 2)]) (post := (km, mo) :: (be ++ (bb ++ (ba' ++ (bl ++ bp))))) (cs := [.int .i64 g.n, ve, .map (some km), vb, .slice aa g.A.length ca, vl, vp]) (ty := 127) (by simp) (ltr rfl) rfl rfl ⟨_, rfl, rfl⟩)
    (own'' := (kg, .cells ⟨[.int .i64 g.n, ve, .map (some km), vb, .slice a16 (g.A.length + 1) c16, vl, vp]⟩ 127) :: (km, mo) :: (be ++ (bb ++ (ba' ++ (bl ++ bp))))) (List.sublist_cons_self _ _), fun W' hS' => ⟨_, ⟨rfl, mo, ve, be, vb, bb, _, ba', vl, bl, vp, bp, rfl, hM, hE, hB, ?_, hLn, hP⟩, hS'⟩⟩
  simpa [iCells] using hA2


/-- what a side of a cell adds: its edge, if the cell is the lesser one -/
def eStep (n c s : Int) (st : EdgeL × PM) : EdgeL × PM :=
  cond (decide (c > (s98 n c s).1)) st (st.1 ++ [(c, s, (s98 n c s).1, (s98 n c s).2)], updP (updP st.2 (c, s) (st.1.length : Int)) ((s98 n c s).1, (s98 n c s).2) (st.1.length : Int))
def eUp (n c : Int) : Nat → EdgeL × PM → EdgeL × PM
  | 0, st => st
  | j + 1, st => eStep n c j (eUp n c j st)
theorem eUp_len (n c : Int) (j : Nat) (st : EdgeL × PM) : (eUp n c j st).1.length ≤ st.1.length + j := by
  induction j with
  | zero => exact Nat.le_refl _
  | succ j ih =>
    rw [eUp, eStep]
    cases decide (c > (s98 n c j).1)
    · simp only [cond_false, List.length_append, List.length_cons, List.length_nil]; omega
    · simp only [cond_true]; omega

-- (*tarn/grid.Grid).addEdges
def an96 : Ann := (.seq .leaf (.block (.loop [(7, .one (.int .i64))] [] (.seq .leaf (.seq (.cond .leaf .leaf) (.seq (.block (.seq .leaf (.seq .leaf (.seq (.seq .leaf (.cond .leaf .leaf)) (.seq (.draw [0, 1, 2, 3, 4, 5, 6, 7, 8, 9, 10, 11, 12]) (.seq (.draw [0, 1, 2, 3, 4, 5, 6, 7, 8, 9, 10, 11, 12]) .leaf)))))) .leaf))))))
noncomputable def q96 (w0 : World) (g : Addr) (cell : Int) (own0 : Own) (mt0 : List Nat) (R : Value → World → Prop) : Prop :=
  (∃ (I7 : Int → Own → Prop) (μ7 : Int → Own → Nat), I7 (0 : Int) own0 ∧ ∀ n7 : Int, ∀ own7 : Own, I7 n7 own7 → (cond (decide (n7 < (4 : Int))) ((∃ ad12 : Addr, (some g) = some ad12 ∧ (∃ n14 : Int, LoadsTo (cx w0 mt0 []) [] own7 3 (Addr.add ad12 0) (.int .i64 n14) ∧ (∃ n17a : Int, ∃ n17b : Int, CallV (cx w0 mt0 []) [] own7 98 [.int .i64 n14, .int .i64 cell, .int .i64 n7] (.tuple ⟨[.int .i64 n17a, .int .i64 n17b]⟩) ∧ (cond (decide (cell > n17a)) (I7 (IntKind.wrap .i64 (n7 + (1 : Int))) own7 ∧ μ7 (IntKind.wrap .i64 (n7 + (1 : Int))) own7 < μ7 n7 own7) ((∃ ad24 : Addr, (some g) = some ad24 ∧ (∃ m26 : Option Nat, LoadsTo (cx w0 mt0 []) [] own7 123 (Addr.add ad24 2) (.map m26) ∧ (∃ ad31 : Addr, (some g) = some ad31 ∧ (∃ a33 : Option Addr, ∃ l33 : Nat, ∃ c33 : Nat, LoadsTo (cx w0 mt0 []) [] own7 124 (Addr.add ad31 1) (.slice a33 l33 c33) ∧ (∃ own18 : Own, (∀ W, Sep (Ctx.w0 (cx w0 mt0 [])) (Ctx.mt (cx w0 mt0 [])) (ents [] own7) W → ∃ W', (Instr.mapUpdate 123 (.map m26) (.agg ⟨[.int .i64 cell, .int .i64 n7]⟩) (.int .i64 ((l33 : Nat) : Int))).run (Ctx.P (cx w0 mt0 [])) W = .ok () W' ∧ Sep (Ctx.w0 (cx w0 mt0 [])) (Ctx.mt (cx w0 mt0 [])) (ents [] own18) W') ∧ (∃ ad36 : Addr, (some g) = some ad36 ∧ (∃ m38 : Option Nat, LoadsTo (cx w0 mt0 []) [] own18 123 (Addr.add ad36 2) (.map m38) ∧ (∃ ad43 : Addr, (some g) = some ad43 ∧ (∃ a45 : Option Addr, ∃ l45 : Nat, ∃ c45 : Nat, LoadsTo (cx w0 mt0 []) [] own18 124 (Addr.add ad43 1) (.slice a45 l45 c45) ∧ (∃ own25 : Own, (∀ W, Sep (Ctx.w0 (cx w0 mt0 [])) (Ctx.mt (cx w0 mt0 [])) (ents [] own18) W → ∃ W', (Instr.mapUpdate 123 (.map m38) (.agg ⟨[.int .i64 n17a, .int .i64 n17b]⟩) (.int .i64 ((l45 : Nat) : Int))).run (Ctx.P (cx w0 mt0 [])) W = .ok () W' ∧ Sep (Ctx.w0 (cx w0 mt0 [])) (Ctx.mt (cx w0 mt0 [])) (ents [] own25) W') ∧ (∃ ad49 : Addr, (some g) = some ad49 ∧ (∃ a51 : Option Addr, ∃ l51 : Nat, ∃ c51 : Nat, LoadsTo (cx w0 mt0 []) [] own25 124 (Addr.add ad49 1) (.slice a51 l51 c51) ∧ (∀ k57 : Nat, (∃ Φ58 : Value → Own → Prop, OpG (cx w0 mt0 []) [] ((k57, .cells ⟨[.int .i64 cell, .int .i64 n7, .int .i64 n17a, .int .i64 n17b]⟩ 63) :: own25) (Builtin.append_ #[124, 124] 124 ⟨[.slice a51 l51 c51, .slice (some ⟨k57, 0, none⟩) 1 1]⟩) (.val (.one .slice)) Φ58 ∧ ∀ a58 : Option Addr, ∀ l58 : Nat, ∀ c58 : Nat, ∀ own58 : Own, Φ58 (.slice a58 l58 c58) own58 → (∃ ad59 : Addr, (some g) = some ad59 ∧ (∃ own37 : Own, StoresTo (cx w0 mt0 []) [] own58 124 (Addr.add ad59 1) (.slice a58 l58 c58) own37 ∧ I7 (IntKind.wrap .i64 (n7 + (1 : Int))) own37 ∧ μ7 (IntKind.wrap .i64 (n7 + (1 : Int))) own37 < μ7 n7 own7)))))))))))))))))))))) (Fin (cx w0 mt0 []) R (.tuple ⟨[]⟩) own7)))
theorem q96_eq (w0 : World) (g : Addr) (cell : Int) (own0 : Own) (mt0 : List Nat) (R : Value → World → Prop) : funT (cx w0 mt0 []) Tryz.f96 an96 [.pointer (some g), .int .i64 cell] own0 R = q96 w0 g cell own0 mt0 R := by kernel_rfl
theorem d96 (W : World) (g : Addr) (cell : Int) (own0 : Own) (mt0 : List Nat) (hS : Sep W mt0 own0 W) {R : Value → World → Prop} (h : q96 W g cell own0 mt0 R) : Does Tryz.prog 96 [.pointer (some g), .int .i64 cell] W R :=
  does_of_T (fn := Tryz.f96) (x := an96) (dyn := []) (by kernel_rfl) (by kernel_rfl) hS (Eq.mpr (q96_eq W g cell own0 mt0 R) h)

/-- a cell's edges -/
theorem p96 (g : Net) (kg km : Nat) (c : Int) (X : Own) (hX : GP g kg km X) (hA : g.E.length < 90000) : MutG 96 [.pointer (some ⟨kg, 0, none⟩), .int .i64 c] X fun v X' => v = .tuple ⟨[]⟩ ∧ GP { g with E := (eUp g.n c 4 (g.E, g.M)).1, M := (eUp g.n c 4 (g.E, g.M)).2 } kg km X' := by
  intro W hL hS h0 h2
  refine d96 W ⟨kg, 0, none⟩ c X (X.map Prod.fst) hS ?_
  unfold q96
  refine ⟨fun s own => ∃ j : Nat, s = (j : Int) ∧ j ≤ 4 ∧ GP { g with E := (eUp g.n c j (g.E, g.M)).1, M := (eUp g.n c j (g.E, g.M)).2 } kg km own, fun s _ => (4 - s).toNat, ⟨0, rfl, by omega, hX⟩, ?_⟩
  rintro s own ⟨j, rfl, hj, hown⟩
  have hlen := eUp_len g.n c j (g.E, g.M)
  generalize hst : eUp g.n c j (g.E, g.M) = st at *
  obtain ⟨E, M⟩ := st
  refine cond_split (fun hlt => ?_) fun hge => ?_
  · have hlt : (j : Int) < 4 := of_decide_eq_true hlt
    obtain ⟨mo, ve, be, vb, bb, va, ba, vl, bl, vp, bp, rfl, hM, hE, hB, hA', hLn, hP⟩ := hown
    obtain ⟨ae, ce, rfl⟩ := gs_slice hE
    have hmu : ((4 : Int) - (IntKind.wrap .i64 ((j : Int) + 1))).toNat < (4 - (j : Int)).toNat := by rw [wi _ (by omega)]; omega
    have hj1 : IntKind.wrap .i64 ((j : Int) + 1) = ((j + 1 : Nat) : Int) := by rw [wi _ (by omega)]; omega
    refine ⟨_, rfl, _, loads_own (.head _) (ld3 _ _), _, _, (p98 _ _ _).call fun W' hS' => hL.sep hS' h0 h2, cond_split (fun hgt => ⟨⟨j + 1, hj1, by omega, ?_⟩, hmu⟩) fun hle => ?_⟩
    · have e : eUp g.n c (j + 1) (g.E, g.M) = (E, M) := by
        rw [eUp, hst, eStep]
        have hgt : decide (c > (s98 g.n c j).1) = true := hgt
        rw [hgt, cond_true]
      rw [e]
      exact ⟨mo, _, be, vb, bb, va, ba, vl, bl, vp, bp, rfl, hM, hE, hB, hA', hLn, hP⟩
    · have e : eUp g.n c (j + 1) (g.E, g.M) = (E ++ [(c, (j : Int), (s98 g.n c j).1, (s98 g.n c j).2)], updP (updP M (c, (j : Int)) (E.length : Int)) ((s98 g.n c j).1, (s98 g.n c j).2) (E.length : Int)) := by
        rw [eUp, hst, eStep]
        have hle : decide (c > (s98 g.n c j).1) = false := hle
        rw [hle, cond_false]
      obtain ⟨mo1, hM1, hr1⟩ := upd_map (w0 := W) (mt := (X.map Prod.fst)) (dyn := []) (loc := []) (pre := [_]) (post := _) rfl hM (c, (j : Int)) (E.length : Int)
      obtain ⟨mo2, hM2, hr2⟩ := upd_map (w0 := W) (mt := (X.map Prod.fst)) (dyn := []) (loc := []) (pre := [_]) (post := _) rfl hM1 ((s98 g.n c j).1, (s98 g.n c j).2) (E.length : Int)
      refine ⟨_, rfl, _, loads_own (.head _) (ld127 _ _).2.2.1, _, rfl, _, _, _, loads_own (.head _) (ld127 _ _).2.2.2.1, _, hr1, _, rfl, _, loads_own (.head _) (ld127 _ _).2.2.1, _, rfl, _, _, _, loads_own (.head _) (ld127 _ _).2.2.2.1, _, hr2, _, rfl, _, _, _, loads_own (.head _) (ld127 _ _).2.2.2.1, fun k57 => ?_⟩
      refine ⟨_, append_gs (pre := (k57, .cells ⟨[.int .i64 c, .int .i64 j, .int .i64 (s98 g.n c j).1, .int .i64 (s98 g.n c j).2]⟩ 63) :: (kg, .cells ⟨[.int .i64 g.n, .slice ae E.length ce, .map (some km), vb, va, vl, vp]⟩ 127) :: (km, mo2) :: []) (post := (bb ++ (ba ++ (bl ++ bp)))) el124 hE (by simp) (news := [.int .i64 c, .int .i64 j, .int .i64 (s98 g.n c j).1, .int .i64 (s98 g.n c j).2]) rfl (by decide) (by simp [Tn.isOne])
        (fun W' hS' j u hu => cell_own hS' (.head _) j u hu) (ml48 (by show E.length + 1 ≤ 100000; simp only at hlen; omega)) (by show (E.length + 1) * 32 ≤ _; simp only at hlen; omega), fun a16 l16 c16 own16 h16 => ?_⟩
      obtain ⟨be', rfl, hE2⟩ := h16
      have hl : l16 = E.length + 1 := by obtain ⟨a, c, e⟩ := gs_slice hE2; cases e; rfl
      subst hl
      refine ⟨_, rfl, _, stores_sub (stores_own (pre := [(k57, .cells ⟨[.int .i64 c, .int .i64 j, .int .i64 (s98 g.n c j).1, .int .i64 (s98 g.n c j).2]⟩ 63)]) (post := (km, mo2) :: (be' ++ (bb ++ (ba ++ (bl ++ bp))))) (cs := [.int .i64 g.n, .slice ae E.length ce, .map (some km), vb, va, vl, vp]) (ty := 127) (by simp) (ltr rfl) rfl rfl ⟨_, rfl, rfl⟩)
        (own'' := (kg, .cells ⟨[.int .i64 g.n, .slice a16 (E.length + 1) c16, .map (some km), vb, va, vl, vp]⟩ 127) :: (km, mo2) :: (be' ++ (bb ++ (ba ++ (bl ++ bp))))) (List.sublist_cons_self _ _), ⟨j + 1, hj1, by omega, ?_⟩, hmu⟩
      rw [e]
      exact ⟨mo2, _, be', vb, bb, va, ba, vl, bl, vp, bp, rfl, hM2, by simpa [eCells] using hE2, hB, hA', hLn, hP⟩
  · have hge : ¬ (j : Int) < 4 := of_decide_eq_false hge
    have : j = 4 := by omega
    subst this
    rw [hst]
    exact fun W' hS' => ⟨_, ⟨rfl, hown⟩, hS'⟩

end Go.Proofs.YtnljcdplcloedaaGreatDoor
end
section
namespace Go.Proofs.YtnljcdplcloedaaGreatDoor
open Go Go.Tn Go.RowKit
set_option linter.unusedVariables false
set_option linter.unusedSimpArgs false
set_option maxRecDepth 100000
set_option maxHeartbeats 2000000

def eAll (n : Int) : Nat → EdgeL × PM
  | 0 => ([], [])
  | k + 1 => eUp n k 4 (eAll n k)
theorem eAll_len (n : Int) (k : Nat) : (eAll n k).1.length ≤ 4 * k := by
  induction k with
  | zero => exact Nat.le_refl _
  | succ k ih => rw [eAll]; have := eUp_len n k 4 (eAll n k); omega
def cellsN (n : Int) : Nat := (6 * (n * n)).toNat
def bOf (n : Int) (e : Int × Int × Int × Int) : Int × Int := ((s98 n e.1 (Int.tmod (IntKind.wrap .i64 (e.2.1 + 2)) 4)).1, (s98 n e.2.2.1 (Int.tmod (IntKind.wrap .i64 (e.2.2.2 + 2)) 4)).1)
def lOf (n : Int) (e : Int × Int × Int × Int) : Nat := s99 n e.1 e.2.1
def gOf (n : Int) (e : Int × Int × Int × Int) : Nat := s100 n e.1 e.2.1
def areasN (n : Int) (k : Nat) : List Int := (List.range k).map fun c : Nat => s176 n (c : Int)
/-- the net of a side -/
def netOf (n : Int) : Net := ⟨n, (eAll n (cellsN n)).1, (eAll n (cellsN n)).2, (eAll n (cellsN n)).1.map (bOf n), areasN n (cellsN n), (eAll n (cellsN n)).1.map (lOf n), (eAll n (cellsN n)).1.map (gOf n)⟩
theorem cellsN_le {n : Int} (h : Side n) : cellsN n ≤ 6144 ∧ ((cellsN n : Nat) : Int) = 6 * (n * n) := by
  have := side_sq h
  unfold Side at h
  unfold cellsN
  omega
theorem areasN_len (n : Int) (k : Nat) : (areasN n k).length = k := by simp [areasN]
theorem areasN_succ (n : Int) (k : Nat) : areasN n (k + 1) = areasN n k ++ [s176 n (k : Int)] := by simp [areasN, List.range_succ]
theorem eCells_get {E : EdgeL} {k : Nat} {e : Int × Int × Int × Int} (h : E[k]? = some e) (j : Nat) (hj : j < 4) : (eCells E)[k * 4 + j]? = ([.int .i64 e.1, .int .i64 e.2.1, .int .i64 e.2.2.1, .int .i64 e.2.2.2] : List Value)[j]? := by
  induction E generalizing k with
  | nil => cases h
  | cons x r ih =>
    cases k with
    | zero =>
      simp only [List.getElem?_cons_zero, Option.some.injEq] at h
      subst h
      rw [Nat.zero_mul, Nat.zero_add, eCells, List.flatMap_cons, List.getElem?_append_left (by simpa using hj)]
    | succ k =>
      rw [List.getElem?_cons_succ] at h
      rw [eCells, List.flatMap_cons, List.getElem?_append_right (by simp; omega)]
      have := ih h
      rw [show (k + 1) * 4 + j - ([.int .i64 x.1, .int .i64 x.2.1, .int .i64 x.2.2.1, .int .i64 x.2.2.2] : List Value).length = k * 4 + j by simp; omega]
      exact this
theorem eCells_len (E : EdgeL) : (eCells E).length = E.length * 4 := by
  induction E with
  | nil => rfl
  | cons x r ih => rw [eCells, List.flatMap_cons, List.length_append]; have : (eCells r).length = _ := ih; unfold eCells at this; rw [this]; simp; omega
theorem take4 {cs : List Value} {o : Nat} {a b c d : Value} (h0 : cs[o]? = some a) (h1 : cs[o + 1]? = some b) (h2 : cs[o + 2]? = some c) (h3 : cs[o + 3]? = some d) : (cs.drop o).take 4 = [a, b, c, d] ∧ o + 4 ≤ cs.length := by
  have hl : o + 3 < cs.length := (List.getElem?_eq_some_iff.1 h3).1
  refine ⟨?_, by omega⟩
  rw [List.getElem?_eq_getElem (by omega)] at h0 h1 h2 h3
  cases h0; cases h1; cases h2; cases h3
  rw [List.drop_eq_getElem_cons (by omega), List.drop_eq_getElem_cons (by omega), List.drop_eq_getElem_cons (by omega), List.drop_eq_getElem_cons (by omega)]
  rfl
theorem ld63 {w0 : World} {mt dyn : List Nat} (cs : List Value) (o : Nat) : loadL (cx w0 mt dyn) 63 cs o = cond (Nat.ble (o + 4) cs.length) (some (.agg ⟨(cs.drop o).take 4⟩)) none := by kernel_rfl
theorem ld128 {w0 : World} {mt dyn : List Nat} (cs : List Value) (o : Nat) : loadL (cx w0 mt dyn) 128 cs o = cs[o]? := by kernel_rfl
theorem load63 {w0 : World} {mt dyn : List Nat} {cs : List Value} {E : EdgeL} {k : Nat} {e : Int × Int × Int × Int} (hc : ∀ (j : Nat) (u : Value), (eCells E)[j]? = some u → cs[j]? = some u) (h : E[k]? = some e) :
    loadL (cx w0 mt dyn) 63 cs (k * 4) = some (.agg ⟨[.int .i64 e.1, .int .i64 e.2.1, .int .i64 e.2.2.1, .int .i64 e.2.2.2]⟩) := by
  obtain ⟨h1, h2⟩ := take4 (hc _ _ (eCells_get h 0 (by omega))) (hc _ _ (eCells_get h 1 (by omega))) (hc _ _ (eCells_get h 2 (by omega))) (hc _ _ (eCells_get h 3 (by omega)))
  simp only [Nat.add_zero] at h1 h2
  rw [ld63, h1, Nat.ble_eq_true_of_le h2, cond_true]

-- tarn/grid.New
def loc30_0 (k10 : Nat) (n52_0 : Int) (n52_1 : Int) (n52_2 : Int) (n52_3 : Int) : Tn.Loc := [⟨k10, 63, [.int .i64 n52_0, .int .i64 n52_1, .int .i64 n52_2, .int .i64 n52_3], []⟩]
def an30 : Ann := (.seq .leaf (.seq .leaf (.seq (.seq .leaf (.cond (.seq .leaf .leaf) .leaf)) (.seq .leaf (.seq (.seq .leaf (.block (.loop [(31, .one (.int .i64))] [] (.seq .leaf (.seq (.cond .leaf .leaf) (.seq (.block (.seq .leaf (.seq .leaf (.block (.loop [(36, .one (.int .i64))] [] (.seq .leaf (.seq (.cond .leaf .leaf) (.seq (.block (.seq .leaf .leaf)) .leaf)))))))) .leaf)))))) (.seq (.seq .leaf (.block (.loop [(49, .one (.int .i64))] [] (.seq .leaf (.seq (.cond .leaf .leaf) (.seq (.block (.seq .leaf (.seq .leaf (.seq .leaf (.seq .leaf (.seq (.draw [0, 1, 2, 3, 4, 5, 6, 7, 8, 9, 10, 11, 12, 13, 14, 15]) (.draw [0, 1, 2, 3, 4, 5, 6, 7, 8, 9, 10, 11, 12, 13, 14, 15]))))))) .leaf)))))) (.seq .leaf .leaf)))))))
noncomputable def q30 (w0 : World) (side : Int) (R : Value → World → Prop) : Prop :=
  (∃ n16 : Int, CallV (cx w0 [] [24]) [] [] 95 [.int .i64 side] (.int .i64 n16) ∧ (cond (n16 == (0 : Int)) (Fin (cx w0 [] [24]) R (.tuple ⟨[.pointer none, .int .i64 (10 : Int)]⟩) []) ((∀ k22 : Nat, (∀ k24 : Nat, (∀ k29 : Nat, (∃ (I31 : Int → Own → Prop) (μ31 : Int → Own → Nat), I31 (0 : Int) ((k29, .cells ⟨[.func (.func 96) ⟨[.pointer (some ⟨k24, 0, none⟩)]⟩ ⟨[]⟩, .func (.func 97) ⟨[.pointer (some ⟨k24, 0, none⟩)]⟩ ⟨[]⟩]⟩ 128) :: ((k24, .cells ⟨[.int .i64 side, .slice none 0 0, .map (some k22), .slice none 0 0, .slice none 0 0, .slice none 0 0, .slice none 0 0]⟩ 127) :: ((k22, .map #[] 0) :: []))) ∧ ∀ n31 : Int, ∀ own31 : Own, I31 n31 own31 → (cond (decide (n31 < ((2 : Nat) : Int))) ((∃ ad33 : Addr, (some ⟨k29, 0, none⟩) = some ad33 ∧ (0 ≤ n31 ∧ n31 < ((2 : Nat) : Int)) ∧ ((∃ af34 : Addr, LoadsTo (cx w0 [] [24]) [] own31 128 (Addr.add ad33 (Int.toNat n31 * 1)) (.func (.func 96) ⟨[.pointer (some af34)]⟩ ⟨[]⟩) ∧ (∃ (I36 : Int → Own → Prop) (μ36 : Int → Own → Nat), I36 (0 : Int) own31 ∧ ∀ n36 : Int, ∀ own36 : Own, I36 n36 own36 → (cond (decide (n36 < n16)) ((∃ Φ41 : Value → Own → Prop, CallG (cx w0 [] [24]) [] own36 96 [.pointer (some af34), .int .i64 n36] (.tup []) Φ41 ∧ ∀ own41 : Own, Φ41 (.tuple ⟨[]⟩) own41 → I36 (IntKind.wrap .i64 (n36 + (1 : Int))) own41 ∧ μ36 (IntKind.wrap .i64 (n36 + (1 : Int))) own41 < μ36 n36 own36)) (I31 (IntKind.wrap .i64 (n31 + (1 : Int))) own36 ∧ μ31 (IntKind.wrap .i64 (n31 + (1 : Int))) own36 < μ31 n31 own31)))) ∨ (∃ af34 : Addr, LoadsTo (cx w0 [] [24]) [] own31 128 (Addr.add ad33 (Int.toNat n31 * 1)) (.func (.func 97) ⟨[.pointer (some af34)]⟩ ⟨[]⟩) ∧ (∃ (I36 : Int → Own → Prop) (μ36 : Int → Own → Nat), I36 (0 : Int) own31 ∧ ∀ n36 : Int, ∀ own36 : Own, I36 n36 own36 → (cond (decide (n36 < n16)) ((∃ Φ41 : Value → Own → Prop, CallG (cx w0 [] [24]) [] own36 97 [.pointer (some af34), .int .i64 n36] (.tup []) Φ41 ∧ ∀ own41 : Own, Φ41 (.tuple ⟨[]⟩) own41 → I36 (IntKind.wrap .i64 (n36 + (1 : Int))) own41 ∧ μ36 (IntKind.wrap .i64 (n36 + (1 : Int))) own41 < μ36 n36 own36)) (I31 (IntKind.wrap .i64 (n31 + (1 : Int))) own36 ∧ μ31 (IntKind.wrap .i64 (n31 + (1 : Int))) own36 < μ31 n31 own31))))))) ((∃ ad45 : Addr, (some ⟨k24, 0, none⟩) = some ad45 ∧ (∃ a47 : Option Addr, ∃ l47 : Nat, ∃ c47 : Nat, LoadsTo (cx w0 [] [24]) [] own31 124 (Addr.add ad45 1) (.slice a47 l47 c47) ∧ (∃ (I49 : Int → Own → Prop) (μ49 : Int → Own → Nat), I49 (0 : Int) own31 ∧ ∀ n49 : Int, ∀ own49 : Own, I49 n49 own49 → (cond (decide (n49 < ((l47 : Nat) : Int))) ((∃ ad51 : Addr, a47 = some ad51 ∧ (0 ≤ n49 ∧ n49 < ((l47 : Nat) : Int)) ∧ (∃ n52_0 : Int, ∃ n52_1 : Int, ∃ n52_2 : Int, ∃ n52_3 : Int, LoadsTo (cx w0 [] [24]) [] own49 63 (Addr.add ad51 (Int.toNat n49 * 4)) (.agg ⟨[.int .i64 n52_0, .int .i64 n52_1, .int .i64 n52_2, .int .i64 n52_3]⟩) ∧ (∀ k10 : Nat, ((4 : Int) ≠ 0) ∧ (∃ n61a : Int, ∃ n61b : Int, CallV (cx w0 [] [24]) (loc30_0 k10 n52_0 n52_1 n52_2 n52_3) own49 98 [.int .i64 side, .int .i64 n52_0, .int .i64 (Int.tmod (IntKind.wrap .i64 (n52_1 + (2 : Int))) (4 : Int))] (.tuple ⟨[.int .i64 n61a, .int .i64 n61b]⟩) ∧ ((4 : Int) ≠ 0) ∧ (∃ n72a : Int, ∃ n72b : Int, CallV (cx w0 [] [24]) (loc30_0 k10 n52_0 n52_1 n52_2 n52_3) own49 98 [.int .i64 side, .int .i64 n52_2, .int .i64 (Int.tmod (IntKind.wrap .i64 (n52_3 + (2 : Int))) (4 : Int))] (.tuple ⟨[.int .i64 n72a, .int .i64 n72b]⟩) ∧ (∃ ad77 : Addr, (some ⟨k24, 0, none⟩) = some ad77 ∧ (∃ a79 : Option Addr, ∃ l79 : Nat, ∃ c79 : Nat, LoadsTo (cx w0 [] [24]) (loc30_0 k10 n52_0 n52_1 n52_2 n52_3) own49 125 (Addr.add ad77 3) (.slice a79 l79 c79) ∧ (∀ k83 : Nat, (∃ Φ84 : Value → Own → Prop, OpG (cx w0 [] [24]) (loc30_0 k10 n52_0 n52_1 n52_2 n52_3) ((k83, .cells ⟨[.int .i64 n61a, .int .i64 n72a]⟩ 130) :: own49) (Builtin.append_ #[125, 125] 125 ⟨[.slice a79 l79 c79, .slice (some ⟨k83, 0, none⟩) 1 1]⟩) (.val (.one .slice)) Φ84 ∧ ∀ a84 : Option Addr, ∀ l84 : Nat, ∀ c84 : Nat, ∀ own84 : Own, Φ84 (.slice a84 l84 c84) own84 → (∃ ad85 : Addr, (some ⟨k24, 0, none⟩) = some ad85 ∧ (∃ own38 : Own, StoresTo (cx w0 [] [24]) (loc30_0 k10 n52_0 n52_1 n52_2 n52_3) own84 125 (Addr.add ad85 3) (.slice a84 l84 c84) own38 ∧ (∃ ad89 : Addr, (some ⟨k24, 0, none⟩) = some ad89 ∧ (∃ a91 : Option Addr, ∃ l91 : Nat, ∃ c91 : Nat, LoadsTo (cx w0 [] [24]) (loc30_0 k10 n52_0 n52_1 n52_2 n52_3) own38 22 (Addr.add ad89 5) (.slice a91 l91 c91) ∧ (∃ x97 : Nat, CallV (cx w0 [] [24]) (loc30_0 k10 n52_0 n52_1 n52_2 n52_3) own38 99 [.int .i64 side, .int .i64 n52_0, .int .i64 n52_1] (.float .f64 x97) ∧ (∀ k98 : Nat, (∃ Φ99 : Value → Own → Prop, OpG (cx w0 [] [24]) (loc30_0 k10 n52_0 n52_1 n52_2 n52_3) ((k98, .cells ⟨[.float .f64 x97]⟩ 44) :: own38) (Builtin.append_ #[22, 22] 22 ⟨[.slice a91 l91 c91, .slice (some ⟨k98, 0, none⟩) 1 1]⟩) (.val (.one .slice)) Φ99 ∧ ∀ a99 : Option Addr, ∀ l99 : Nat, ∀ c99 : Nat, ∀ own99 : Own, Φ99 (.slice a99 l99 c99) own99 → (∃ ad100 : Addr, (some ⟨k24, 0, none⟩) = some ad100 ∧ (∃ own51 : Own, StoresTo (cx w0 [] [24]) (loc30_0 k10 n52_0 n52_1 n52_2 n52_3) own99 22 (Addr.add ad100 5) (.slice a99 l99 c99) own51 ∧ (∃ ad104 : Addr, (some ⟨k24, 0, none⟩) = some ad104 ∧ (∃ a106 : Option Addr, ∃ l106 : Nat, ∃ c106 : Nat, LoadsTo (cx w0 [] [24]) (loc30_0 k10 n52_0 n52_1 n52_2 n52_3) own51 22 (Addr.add ad104 6) (.slice a106 l106 c106) ∧ (∃ x112 : Nat, CallV (cx w0 [] [24]) (loc30_0 k10 n52_0 n52_1 n52_2 n52_3) own51 100 [.int .i64 side, .int .i64 n52_0, .int .i64 n52_1] (.float .f64 x112) ∧ (∀ k113 : Nat, (∃ Φ114 : Value → Own → Prop, OpG (cx w0 [] [24]) (loc30_0 k10 n52_0 n52_1 n52_2 n52_3) ((k113, .cells ⟨[.float .f64 x112]⟩ 44) :: own51) (Builtin.append_ #[22, 22] 22 ⟨[.slice a106 l106 c106, .slice (some ⟨k113, 0, none⟩) 1 1]⟩) (.val (.one .slice)) Φ114 ∧ ∀ a114 : Option Addr, ∀ l114 : Nat, ∀ c114 : Nat, ∀ own114 : Own, Φ114 (.slice a114 l114 c114) own114 → (∃ ad115 : Addr, (some ⟨k24, 0, none⟩) = some ad115 ∧ (∃ own64 : Own, StoresTo (cx w0 [] [24]) (loc30_0 k10 n52_0 n52_1 n52_2 n52_3) own114 22 (Addr.add ad115 6) (.slice a114 l114 c114) own64 ∧ I49 (IntKind.wrap .i64 (n49 + (1 : Int))) own64 ∧ μ49 (IntKind.wrap .i64 (n49 + (1 : Int))) own64 < μ49 n49 own49)))))))))))))))))))))))))) (Fin (cx w0 [] [24]) R (.tuple ⟨[.pointer (some ⟨k24, 0, none⟩), .int .i64 (0 : Int)]⟩) own49))))))))))))))
theorem q30_eq (w0 : World) (side : Int) (R : Value → World → Prop) : funT (cx w0 [] [24]) Tryz.f30 an30 [.int .i64 side] [] R = q30 w0 side R := by kernel_rfl
theorem d30 (W : World) (side : Int) {R : Value → World → Prop} (h : q30 W side R) : Does Tryz.prog 30 [.int .i64 side] W R :=
  does_of_T (fn := Tryz.f30) (x := an30) (dyn := [24]) (by kernel_rfl) (by kernel_rfl) (sep_self W) (Eq.mpr (q30_eq W side R) h)

theorem p30 (n : Int) : MutG 30 [.int .i64 n] [] fun v X' => (Side n ∧ ∃ kg km, v = .tuple ⟨[.pointer (some ⟨kg, 0, none⟩), .int .i64 0]⟩ ∧ GP (netOf n) kg km X') ∨ (¬ Side n ∧ v = .tuple ⟨[.pointer none, .int .i64 10]⟩ ∧ X' = []) := by
  intro W hL hS _ _
  refine d30 W n ⟨_, (p95 _).callL hL, cond_split (fun h0 => ?_) fun h0 k22 k24 k29 => ?_⟩
  · refine fun W' hS' => ⟨[], .inr ⟨fun hs => ?_, rfl, rfl⟩, hS'⟩
    have := side_sq hs
    rw [s95_in hs] at h0
    unfold Side at hs
    have := eq_of_beq h0
    omega
  have hs : Side n := by
    rcases Decidable.em (Side n) with h | h
    · exact h
    · rw [s95_out h] at h0; cases h0
  obtain ⟨hN, hN2⟩ := cellsN_le hs
  have e95 : s95 n = (cellsN n : Int) := by rw [s95_in hs, hN2]
  rw [e95]
  have hm : 0 ∉ ([] : List Nat) ∧ 2 ∉ ([] : List Nat) := ⟨List.not_mem_nil, List.not_mem_nil⟩
  generalize hF : (.cells ⟨[.func (.func 96) ⟨[.pointer (some ⟨k24, 0, none⟩)]⟩ ⟨[]⟩, .func (.func 97) ⟨[.pointer (some ⟨k24, 0, none⟩)]⟩ ⟨[]⟩]⟩ 128 : Obj) = F
  refine ⟨fun i own => ∃ X, own = (k29, F) :: X ∧ ((i = 0 ∧ GP ⟨n, [], [], [], [], [], []⟩ k24 k22 X) ∨ (i = 1 ∧ GP ⟨n, (eAll n (cellsN n)).1, (eAll n (cellsN n)).2, [], [], [], []⟩ k24 k22 X) ∨ (i = 2 ∧ GP ⟨n, (eAll n (cellsN n)).1, (eAll n (cellsN n)).2, [], areasN n (cellsN n), [], []⟩ k24 k22 X)), fun i _ => (2 - i).toNat, ⟨_, rfl, .inl ⟨rfl, ?_⟩⟩, ?_⟩
  · exact ⟨.map #[] 0, .slice none 0 0, [], .slice none 0 0, [], .slice none 0 0, [], .slice none 0 0, [], .slice none 0 0, [], rfl, ⟨_, _, rfl, rfl⟩, gs_nil _ _, gs_nil _ _, gs_nil _ _, gs_nil _ _, gs_nil _ _⟩
  rintro i own ⟨X, rfl, ⟨rfl, hX⟩ | ⟨rfl, hX⟩ | ⟨rfl, hX⟩⟩
  · -- the edges
    refine cond_split (fun _ => ?_) fun h => absurd h (by decide)
    refine ⟨_, rfl, ⟨by decide, by decide⟩, .inl ⟨⟨k24, 0, none⟩, by subst hF; exact loads_own (.head _) (ld128 _ _), ?_⟩⟩
    refine ⟨fun c own => ∃ k : Nat, c = (k : Int) ∧ k ≤ cellsN n ∧ ∃ X, own = (k29, F) :: X ∧ GP ⟨n, (eAll n k).1, (eAll n k).2, [], [], [], []⟩ k24 k22 X, fun c _ => (cellsN n - c).toNat, ⟨0, rfl, Nat.zero_le _, X, rfl, hX⟩, ?_⟩
    rintro c own ⟨k, rfl, hk, X, rfl, hX⟩
    refine cond_split (fun h => ?_) fun h => ?_
    · have hk' : k < cellsN n := by have := of_decide_eq_true h; omega
      have hlen := eAll_len n k
      refine ⟨_, (p96 _ k24 k22 k X hX (by show (eAll n k).1.length < 90000; omega)).callG hL hm (B := [(k29, F)]) (g := fun X' => (k29, F) :: X') (List.perm_append_comm (l₁ := [(k29, F)])) (fun X' => List.perm_append_comm (l₁ := [(k29, F)])) (by rintro v X' ⟨rfl, _⟩; exact ⟨[], rfl, rfl⟩), ?_⟩
      rintro own' ⟨X', ⟨_, hX'⟩, rfl⟩
      refine ⟨⟨k + 1, by rw [wi _ (by omega)]; omega, hk', X', rfl, hX'⟩, ?_⟩
      show ((cellsN n : Int) - IntKind.wrap .i64 ((k : Int) + 1)).toNat < ((cellsN n : Int) - k).toNat
      rw [wi _ (by omega)]; omega
    · have hk' : k = cellsN n := by have := of_decide_eq_false h; omega
      subst hk'
      exact ⟨⟨X, rfl, .inr (.inl ⟨rfl, hX⟩)⟩, ltr rfl⟩
  · -- the areas
    refine cond_split (fun _ => ?_) fun h => absurd h (by decide)
    refine ⟨_, rfl, ⟨by decide, by decide⟩, .inr ⟨⟨k24, 0, none⟩, by subst hF; exact loads_own (.head _) (ld128 _ _), ?_⟩⟩
    refine ⟨fun c own => ∃ k : Nat, c = (k : Int) ∧ k ≤ cellsN n ∧ ∃ X, own = (k29, F) :: X ∧ GP ⟨n, (eAll n (cellsN n)).1, (eAll n (cellsN n)).2, [], areasN n k, [], []⟩ k24 k22 X, fun c _ => (cellsN n - c).toNat, ⟨0, rfl, Nat.zero_le _, X, rfl, hX⟩, ?_⟩
    rintro c own ⟨k, rfl, hk, X, rfl, hX⟩
    refine cond_split (fun h => ?_) fun h => ?_
    · have hk' : k < cellsN n := by have := of_decide_eq_true h; omega
      refine ⟨_, (p97 _ k24 k22 k X hX (by show (areasN n k).length < 90000; rw [areasN_len]; omega)).callG hL hm (B := [(k29, F)]) (g := fun X' => (k29, F) :: X') (List.perm_append_comm (l₁ := [(k29, F)])) (fun X' => List.perm_append_comm (l₁ := [(k29, F)])) (by rintro v X' ⟨rfl, _⟩; exact ⟨[], rfl, rfl⟩), ?_⟩
      rintro own' ⟨X', ⟨_, hX'⟩, rfl⟩
      refine ⟨⟨k + 1, by rw [wi _ (by omega)]; omega, hk', X', rfl, by rw [areasN_succ]; exact hX'⟩, ?_⟩
      show ((cellsN n : Int) - IntKind.wrap .i64 ((k : Int) + 1)).toNat < ((cellsN n : Int) - k).toNat
      rw [wi _ (by omega)]; omega
    · have hk' : k = cellsN n := by have := of_decide_eq_false h; omega
      subst hk'
      exact ⟨⟨X, rfl, .inr (.inr ⟨rfl, hX⟩)⟩, ltr rfl⟩
  · -- what is behind, the lengths, the gaps
    refine cond_split (fun h => absurd h (by decide)) fun _ => ?_
    obtain ⟨mo, ve, be, vb, bb, va, ba, vl, bl, vp, bp, rfl, hM, hE, hB, hA', hLn, hP⟩ := hX
    have hlen := eAll_len n (cellsN n)
    unfold netOf
    generalize hEE : (eAll n (cellsN n)).1 = E at *
    generalize (eAll n (cellsN n)).2 = M at *
    obtain ⟨ae, ce, rfl⟩ := gs_slice hE
    refine ⟨_, rfl, _, _, _, loads_own (.tail _ (.head _)) (ld127 _ _).2.2.2.1, ?_⟩
    refine ⟨fun i own => ∃ k : Nat, i = (k : Int) ∧ k ≤ E.length ∧ ∃ vb bb vl bl vp bp, own = (k29, F) :: (k24, .cells ⟨[.int .i64 n, .slice ae E.length ce, .map (some k22), vb, va, vl, vp]⟩ 127) :: (k22, mo) :: (be ++ (bb ++ (ba ++ (bl ++ bp)))) ∧
      GS vb bb 130 2 k (pCells ((E.take k).map (bOf n))) ∧ GS vl bl 44 1 k (fCells ((E.take k).map (lOf n))) ∧ GS vp bp 44 1 k (fCells ((E.take k).map (gOf n))), fun i _ => (E.length - i).toNat, ⟨0, rfl, Nat.zero_le _, vb, bb, vl, bl, vp, bp, rfl, hB, hLn, hP⟩, ?_⟩
    rintro i own ⟨k, rfl, hk, vb, bb, vl, bl, vp, bp, rfl, hB, hLn, hP⟩
    refine cond_split (fun h => ?_) fun h => ?_
    · have hk' : k < E.length := by have := of_decide_eq_true h; simp only at this; omega
      have hke : E[k]? = some E[k] := List.getElem?_eq_getElem hk'
      generalize E[k] = x at hke
      have htk : ∀ {α : Type} (f : Int × Int × Int × Int → α), (E.take (k + 1)).map f = (E.take k).map f ++ [f x] := fun f => by
        rw [List.take_add_one, hke, List.map_append]; rfl
      obtain ⟨g, cap, cur, e1, rfl, hcur⟩ := gs_has hE (i := k * 4) (by rw [eCells_len]; show k * 4 < E.length * 4; omega)
      have e1 : (Value.slice ae E.length ce) = .slice (some ⟨g, 0, none⟩) E.length cap := e1
      injection e1 with e2 e3 e4
      subst e2; subst e4
      obtain ⟨avb, cvb, rfl⟩ := gs_slice hB
      obtain ⟨avl, cvl, rfl⟩ := gs_slice hLn
      obtain ⟨avp, cvp, rfl⟩ := gs_slice hP
      refine ⟨_, rfl, ⟨by omega, by show (k : Int) < (E.length : Int); omega⟩, x.1, x.2.1, x.2.2.1, x.2.2.2, ?_, fun k10 => ⟨by decide, _, _, (p98 _ _ _).callL hL, by decide, _, _, (p98 _ _ _).callL hL, _, rfl, _, _, _, loads_own (.tail _ (.tail _ (.head _))) (ld127 _ _).2.2.2.2, fun k83 => ?_⟩⟩
      · rw [Tn.add_none, Nat.zero_add]
        exact loads_own (cs := cur) (ty := 63) (by simp [ents]) (load63 hcur hke)
      refine ⟨_, append_gs (pre := (k83, .cells ⟨[.int .i64 (bOf n x).1, .int .i64 (bOf n x).2]⟩ 130) :: (k29, F) :: (k24, .cells ⟨[.int .i64 n, .slice (some ⟨g, 0, none⟩) E.length ce, .map (some k22), .slice avb k cvb, va, .slice avl k cvl, .slice avp k cvp]⟩ 127) :: (k22, mo) :: [(g, .cells ⟨cur⟩ 63)]) (post := (ba ++ (bl ++ bp))) el125 hB (by simp [bOf]) (news := [.int .i64 (bOf n x).1, .int .i64 (bOf n x).2]) rfl (by decide) (by simp [Tn.isOne])
        (fun W' hS' j u hu => cell_own hS' (.tail _ (.head _)) j u hu) (ml48 (by omega)) (by omega), fun a84 l84 c84 own84 h84 => ?_⟩
      obtain ⟨bb', rfl, hB2⟩ := h84
      have hl : l84 = k + 1 := by obtain ⟨a, c, e⟩ := gs_slice hB2; cases e; rfl
      subst hl
      refine ⟨_, rfl, _, stores_sub (stores_own (pre := [(k83, .cells ⟨[.int .i64 (bOf n x).1, .int .i64 (bOf n x).2]⟩ 130), (k29, F)]) (post := (k22, mo) :: ([(g, .cells ⟨cur⟩ 63)] ++ (bb' ++ (ba ++ (bl ++ bp))))) (cs := [.int .i64 n, .slice (some ⟨g, 0, none⟩) E.length ce, .map (some k22), .slice avb k cvb, va, .slice avl k cvl, .slice avp k cvp]) (ty := 127) (by simp) (ltr rfl) rfl rfl ⟨_, rfl, rfl⟩)
        (own'' := (k29, F) :: (k24, .cells ⟨[.int .i64 n, .slice (some ⟨g, 0, none⟩) E.length ce, .map (some k22), .slice a84 (k + 1) c84, va, .slice avl k cvl, .slice avp k cvp]⟩ 127) :: (k22, mo) :: ([(g, .cells ⟨cur⟩ 63)] ++ (bb' ++ (ba ++ (bl ++ bp))))) (List.sublist_cons_self _ _), ?_⟩
      refine ⟨_, rfl, _, _, _, loads_own (.tail _ (.tail _ (.head _))) (ld127 _ _).1, _, (p99 _ _ _).callL hL, fun k98 => ?_⟩
      refine ⟨_, append_gs (pre := (k98, .cells ⟨[.float .f64 (lOf n x)]⟩ 44) :: (k29, F) :: (k24, .cells ⟨[.int .i64 n, .slice (some ⟨g, 0, none⟩) E.length ce, .map (some k22), .slice a84 (k + 1) c84, va, .slice avl k cvl, .slice avp k cvp]⟩ 127) :: (k22, mo) :: ([(g, .cells ⟨cur⟩ 63)] ++ (bb' ++ ba))) (post := bp) el22 hLn (by simp [lOf]) (news := [.float .f64 (lOf n x)]) rfl (by decide) (by simp [Tn.isOne])
        (fun W' hS' j u hu => cell_own hS' (.tail _ (.head _)) j u hu) (ml48 (by omega)) (by omega), fun a99 l99 c99 own99 h99 => ?_⟩
      obtain ⟨bl', rfl, hL2⟩ := h99
      have hl : l99 = k + 1 := by obtain ⟨a, c, e⟩ := gs_slice hL2; cases e; rfl
      subst hl
      refine ⟨_, rfl, _, stores_sub (stores_own (pre := [(k98, .cells ⟨[.float .f64 (lOf n x)]⟩ 44), (k29, F)]) (post := (k22, mo) :: ([(g, .cells ⟨cur⟩ 63)] ++ (bb' ++ (ba ++ (bl' ++ bp))))) (cs := [.int .i64 n, .slice (some ⟨g, 0, none⟩) E.length ce, .map (some k22), .slice a84 (k + 1) c84, va, .slice avl k cvl, .slice avp k cvp]) (ty := 127) (by simp) (ltr rfl) rfl rfl ⟨_, rfl, rfl⟩)
        (own'' := (k29, F) :: (k24, .cells ⟨[.int .i64 n, .slice (some ⟨g, 0, none⟩) E.length ce, .map (some k22), .slice a84 (k + 1) c84, va, .slice a99 (k + 1) c99, .slice avp k cvp]⟩ 127) :: (k22, mo) :: ([(g, .cells ⟨cur⟩ 63)] ++ (bb' ++ (ba ++ (bl' ++ bp))))) (List.sublist_cons_self _ _), ?_⟩
      refine ⟨_, rfl, _, _, _, loads_own (.tail _ (.tail _ (.head _))) (ld127 _ _).1, _, (p100 _ _ _).callL hL, fun k113 => ?_⟩
      refine ⟨_, append_gs (pre := (k113, .cells ⟨[.float .f64 (gOf n x)]⟩ 44) :: (k29, F) :: (k24, .cells ⟨[.int .i64 n, .slice (some ⟨g, 0, none⟩) E.length ce, .map (some k22), .slice a84 (k + 1) c84, va, .slice a99 (k + 1) c99, .slice avp k cvp]⟩ 127) :: (k22, mo) :: ([(g, .cells ⟨cur⟩ 63)] ++ (bb' ++ (ba ++ bl')))) (post := []) el22 hP (by simp [gOf]) (news := [.float .f64 (gOf n x)]) rfl (by decide) (by simp [Tn.isOne])
        (fun W' hS' j u hu => cell_own hS' (.tail _ (.head _)) j u hu) (ml48 (by omega)) (by omega), fun a114 l114 c114 own114 h114 => ?_⟩
      obtain ⟨bp', rfl, hP2⟩ := h114
      have hl : l114 = k + 1 := by obtain ⟨a, c, e⟩ := gs_slice hP2; cases e; rfl
      subst hl
      refine ⟨_, rfl, _, stores_sub (stores_own (pre := [(k113, .cells ⟨[.float .f64 (gOf n x)]⟩ 44), (k29, F)]) (post := (k22, mo) :: ([(g, .cells ⟨cur⟩ 63)] ++ (bb' ++ (ba ++ (bl' ++ bp'))))) (cs := [.int .i64 n, .slice (some ⟨g, 0, none⟩) E.length ce, .map (some k22), .slice a84 (k + 1) c84, va, .slice a99 (k + 1) c99, .slice avp k cvp]) (ty := 127) (by simp) (ltr rfl) rfl rfl ⟨_, rfl, rfl⟩)
        (own'' := (k29, F) :: (k24, .cells ⟨[.int .i64 n, .slice (some ⟨g, 0, none⟩) E.length ce, .map (some k22), .slice a84 (k + 1) c84, va, .slice a99 (k + 1) c99, .slice a114 (k + 1) c114]⟩ 127) :: (k22, mo) :: ([(g, .cells ⟨cur⟩ 63)] ++ (bb' ++ (ba ++ (bl' ++ bp'))))) (List.sublist_cons_self _ _), ⟨k + 1, by rw [wi _ (by omega)]; omega, hk', _, bb', _, bl', _, bp', rfl, ?_, ?_, ?_⟩, ?_⟩
      · rw [htk]; simpa [pCells] using hB2
      · rw [htk]; simpa [fCells] using hL2
      · rw [htk]; simpa [fCells] using hP2
      · show ((E.length : Int) - IntKind.wrap .i64 ((k : Int) + 1)).toNat < ((E.length : Int) - k).toNat
        rw [wi _ (by omega)]; omega
    · have hk' : k = E.length := by have := of_decide_eq_false h; simp only at this; omega
      subst hk'
      rw [List.take_length] at hB hLn hP
      refine fun W' hS' => ⟨_, .inl ⟨hs, k24, k22, rfl, mo, _, be, vb, bb, va, ba, vl, bl, vp, bp, rfl, hM, hE, ?_, hA', ?_, ?_⟩, hS'.sub (List.sublist_cons_self _ _)⟩
      · show GS vb bb 130 2 (E.map (bOf n)).length _
        rw [List.length_map]; exact hB
      · show GS vl bl 44 1 (E.map (lOf n)).length _
        rw [List.length_map]; exact hLn
      · show GS vp bp 44 1 (E.map (gOf n)).length _
        rw [List.length_map]; exact hP


end Go.Proofs.YtnljcdplcloedaaGreatDoor
end
