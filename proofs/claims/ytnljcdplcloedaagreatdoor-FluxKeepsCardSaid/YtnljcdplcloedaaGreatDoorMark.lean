/- Walk of copied: four new lists with a mark behind each, for lists of at most 65536 cells. -/
import Derived.Test.YtnljcdplcloedaaGreatDoorCopy
import Derived.Test.YtnljcdplcloedaaGreatDoorKeep
section
namespace Go.Proofs.YtnljcdplcloedaaGreatDoor
open Go Go.Tn Go.RowKit
set_option linter.unusedVariables false
set_option linter.unusedSimpArgs false
set_option maxRecDepth 100000
theorem append_nothing {w0 : World} {mt dyn : List Nat} {loc : Tn.Loc} {own : Own} {t ty e : TypeId} {bytes k cap c : Nat} {a : Option Addr} (hE : ElT t e 1 bytes) :
    OpG0 (cx w0 mt dyn) loc own (Builtin.append_ #[t, t] ty ⟨[.slice (some ⟨k, 0, none⟩) 0 cap, .slice a 0 c]⟩) (.val (.one .slice)) fun v' own' => v' = .slice (some ⟨k, 0, none⟩) 0 cap ∧ own' = own := by
  intro W hS
  obtain ⟨ht, ⟨i, z, hi, hz, hsz1, rfl, hzs⟩, hsz⟩ := hE
  refine ⟨_, W, ?_, ⟨_, _, _, rfl⟩, own, ⟨rfl, rfl⟩, hS⟩
  show (Builtin.append_ #[t, t] ty #[.slice (some ⟨k, 0, none⟩) 0 cap, .slice a 0 c]).run Tryz.prog W = _
  have hl : ∀ (x : Addr), (loadCells x 0).run Tryz.prog W = .ok #[] W := fun x => by simpa using run_loadCells_list (P := Tryz.prog) W x [] (by simp)
  cases a <;> simp [Builtin.append_, run_underlying ht, Builtin.lenOf, Builtin.firstCells, sizeOf, typeInfo, hi, hsz1, storeCells, hl]
theorem append_first {w0 : World} {mt dyn : List Nat} {loc : Tn.Loc} {own : Own} {t e : TypeId} {k n c : Nat} {a : Option Addr} {xs : List Value} {z : Value} (hE : ElT t e 1 8) (hx : xs.length = n) (hn : n ≤ 65536) (h1 : xs.all Tn.isOne = true)
    (ha : ∀ W, Sep w0 mt (ents loc ((k, .cells ⟨List.replicate (n + 9) z⟩ e) :: own)) W → Arr W a xs) :
    OpG (cx w0 mt dyn) loc ((k, .cells ⟨List.replicate (n + 9) z⟩ e) :: own) (Builtin.append_ #[t, t] t ⟨[.slice (some ⟨k, 0, none⟩) 0 (n + 9), .slice a n c]⟩) (.val (.one .slice)) fun v' own' => ∃ blk, own' = blk ++ own ∧ GS v' blk e 1 n xs := by
  have g0 : GS (.slice (some ⟨k, 0, none⟩) 0 (n + 9)) [(k, .cells ⟨List.replicate (n + 9) z⟩ e)] e 1 0 [] := ⟨rfl, .inr ⟨k, n + 9, _, rfl, rfl, Nat.zero_le _, by unfold maxLen; omega, by simp, by simp⟩⟩
  by_cases h0 : n = 0
  · subst h0
    have e2 : xs = [] := List.eq_nil_of_length_eq_zero hx
    subst e2
    refine opg_of0 fun fr => opg0_mono (append_nothing hE) fun v o ⟨e1, e2⟩ => ⟨_, ⟨[(k, .cells ⟨List.replicate (0 + 9) z⟩ e)], rfl, ?_⟩, e2⟩
    subst e1; exact g0
  · intro fr W hS
    have hA := ha W (sep_less hS)
    obtain ⟨v0, hv0⟩ : ∃ v, xs[0]? = some v := ⟨_, List.getElem?_eq_getElem (by omega)⟩
    obtain ⟨ad, rfl⟩ := arr_addr hA hv0
    have h := append_gs (w0 := w0) (mt := mt) (dyn := dyn) (loc := loc) (own := (k, .cells ⟨List.replicate (n + 9) z⟩ e) :: own) (pre := []) (post := own) (ty := t) (c := c) (a := ad) (m := n) (news := xs) hE g0 rfl (by omega) (by omega) (fun u hu => List.all_eq_true.1 h1 u hu)
      (fun W' hS' j u hu => arr_cells (ha W' hS') hu) (by unfold maxLen; omega) (by omega)
    simp only [List.nil_append, Nat.zero_add] at h
    exact h fr W hS
theorem append_mark {w0 : World} {mt dyn : List Nat} {loc : Tn.Loc} {own blk : Own} {t e : TypeId} {k n : Nat} {v u : Value} {xs : List Value} (hE : ElT t e 1 8) (hg : GS v blk e 1 n xs) (hn : n ≤ 65536) (h1 : Tn.isOne u = true) :
    OpG (cx w0 mt dyn) loc ((k, .cells ⟨[u]⟩ e) :: (blk ++ own)) (Builtin.append_ #[t, t] t ⟨[v, .slice (some ⟨k, 0, none⟩) 1 1]⟩) (.val (.one .slice)) fun v' own' => ∃ g cap cur, v' = .slice (some ⟨g, 0, none⟩) (n + 1) cap ∧ n + 1 ≤ cap ∧ own' = (g, .cells ⟨cur⟩ e) :: own ∧ ∀ (j : Nat) (w : Value), (xs ++ [u])[j]? = some w → cur[j]? = some w := by
  have h := append_gs (w0 := w0) (mt := mt) (dyn := dyn) (loc := loc) (own := (k, .cells ⟨[u]⟩ e) :: (blk ++ own)) (pre := [(k, .cells ⟨[u]⟩ e)]) (blk := blk) (post := own) (ty := t) (c := 1) (a := ⟨k, 0, none⟩) (m := 1) (news := [u]) hE hg (by simp) rfl (by omega) (fun w hw => by simp at hw; subst hw; exact h1)
    (fun W' hS' j w hw => cell_own hS' (cs := [u]) (t := e) (by simp [ents]) j w hw) (by unfold maxLen; omega) (by omega)
  refine opg_sub h ?_
  rintro v' own' ⟨blk', rfl, hg'⟩
  obtain ⟨hl, h | ⟨g, cap, cur, h1, h2, h3, h4, h5, h6⟩⟩ := hg'
  · have := h.1; omega
  · subst h2
    refine ⟨(g, .cells ⟨cur⟩ e) :: own, ⟨g, cap, cur, h1, h3, rfl, fun j w hw => ?_⟩, ?_⟩
    · rw [← h6, List.getElem?_take] at hw
      split at hw
      · exact hw
      · cases hw
    · exact List.sublist_cons_self _ _
end Go.Proofs.YtnljcdplcloedaaGreatDoor
end
section
namespace Go.Proofs.YtnljcdplcloedaaGreatDoor
open Go Go.Tn Go.RowKit
set_option linter.unusedVariables false
set_option linter.unusedSimpArgs false
set_option maxRecDepth 100000
set_option maxHeartbeats 2000000

def markF : Value := .float .f64 4635118810238550016
def markI : Value := .int .i64 77
def Has (r : List Value) (xs : List Value) : Prop := ∀ (j : Nat) (w : Value), xs[j]? = some w → r[j]? = some w
theorem w9 {n : Nat} (h : n ≤ 65536) : IntKind.wrap .i64 ((n : Int) + 9) = ((n + 9 : Nat) : Int) := by rw [wi _ (by omega)]; omega
theorem iCells_one (l : List Int) : (iCells l).all Tn.isOne = true := by rw [List.all_eq_true]; intro v hv; obtain ⟨x, _, rfl⟩ := List.mem_map.1 hv; rfl

-- tarn/tarnlaw13.copied
def loc51_0 (k1 : Nat) (s_0_a : Option Addr) (s_0_n : Nat) (s_0_c : Nat) (s_1_a : Option Addr) (s_1_n : Nat) (s_1_c : Nat) (s_2_a : Option Addr) (s_2_n : Nat) (s_2_c : Nat) (s_3_a : Option Addr) (s_3_n : Nat) (s_3_c : Nat) (s_4 : Int) (s_5 : Int) (k2 : Nat) (k3 : Nat) : Tn.Loc := [⟨k1, 25, [.slice s_0_a s_0_n s_0_c, .slice s_1_a s_1_n s_1_c, .slice s_2_a s_2_n s_2_c, .slice s_3_a s_3_n s_3_c, .int .i64 s_4, .int .i64 s_5], []⟩, ⟨k2, 25, [.slice none 0 0, .slice none 0 0, .slice none 0 0, .slice none 0 0, .int .i64 0, .int .i64 0], []⟩, ⟨k3, 25, [.slice s_0_a s_0_n s_0_c, .slice s_1_a s_1_n s_1_c, .slice s_2_a s_2_n s_2_c, .slice s_3_a s_3_n s_3_c, .int .i64 s_4, .int .i64 s_5], []⟩]
def loc51_1 (k1 : Nat) (s_0_a : Option Addr) (s_0_n : Nat) (s_0_c : Nat) (s_1_a : Option Addr) (s_1_n : Nat) (s_1_c : Nat) (s_2_a : Option Addr) (s_2_n : Nat) (s_2_c : Nat) (s_3_a : Option Addr) (s_3_n : Nat) (s_3_c : Nat) (s_4 : Int) (s_5 : Int) (k2 : Nat) (k3 : Nat) (c14 : Nat) (a14 : Option Addr) : Tn.Loc := [⟨k1, 25, [.slice s_0_a s_0_n s_0_c, .slice s_1_a s_1_n s_1_c, .slice s_2_a s_2_n s_2_c, .slice s_3_a s_3_n s_3_c, .int .i64 s_4, .int .i64 s_5], []⟩, ⟨k2, 25, [.slice none 0 0, .slice none 0 0, .slice none 0 0, .slice none 0 0, .int .i64 0, .int .i64 0], []⟩, ⟨k3, 25, [.slice (if Int.toNat ((c14 : Nat) : Int) = Int.toNat (0 : Int) then a14 else Option.map (fun q => Addr.add q (Int.toNat (0 : Int) * 1)) a14) (Int.toNat ((s_0_n : Nat) : Int) - Int.toNat (0 : Int)) (Int.toNat ((c14 : Nat) : Int) - Int.toNat (0 : Int)), .slice s_1_a s_1_n s_1_c, .slice s_2_a s_2_n s_2_c, .slice s_3_a s_3_n s_3_c, .int .i64 s_4, .int .i64 s_5], []⟩]
def loc51_2 (k1 : Nat) (s_0_a : Option Addr) (s_0_n : Nat) (s_0_c : Nat) (s_1_a : Option Addr) (s_1_n : Nat) (s_1_c : Nat) (s_2_a : Option Addr) (s_2_n : Nat) (s_2_c : Nat) (s_3_a : Option Addr) (s_3_n : Nat) (s_3_c : Nat) (s_4 : Int) (s_5 : Int) (k2 : Nat) (k3 : Nat) (c14 : Nat) (a14 : Option Addr) (c29 : Nat) (a29 : Option Addr) : Tn.Loc := [⟨k1, 25, [.slice s_0_a s_0_n s_0_c, .slice s_1_a s_1_n s_1_c, .slice s_2_a s_2_n s_2_c, .slice s_3_a s_3_n s_3_c, .int .i64 s_4, .int .i64 s_5], []⟩, ⟨k2, 25, [.slice none 0 0, .slice none 0 0, .slice none 0 0, .slice none 0 0, .int .i64 0, .int .i64 0], []⟩, ⟨k3, 25, [.slice (if Int.toNat ((c14 : Nat) : Int) = Int.toNat (0 : Int) then a14 else Option.map (fun q => Addr.add q (Int.toNat (0 : Int) * 1)) a14) (Int.toNat ((s_0_n : Nat) : Int) - Int.toNat (0 : Int)) (Int.toNat ((c14 : Nat) : Int) - Int.toNat (0 : Int)), .slice s_1_a s_1_n s_1_c, .slice s_2_a s_2_n s_2_c, .slice (if Int.toNat ((c29 : Nat) : Int) = Int.toNat (0 : Int) then a29 else Option.map (fun q => Addr.add q (Int.toNat (0 : Int) * 1)) a29) (Int.toNat ((s_3_n : Nat) : Int) - Int.toNat (0 : Int)) (Int.toNat ((c29 : Nat) : Int) - Int.toNat (0 : Int)), .int .i64 s_4, .int .i64 s_5], []⟩]
def loc51_3 (k1 : Nat) (s_0_a : Option Addr) (s_0_n : Nat) (s_0_c : Nat) (s_1_a : Option Addr) (s_1_n : Nat) (s_1_c : Nat) (s_2_a : Option Addr) (s_2_n : Nat) (s_2_c : Nat) (s_3_a : Option Addr) (s_3_n : Nat) (s_3_c : Nat) (s_4 : Int) (s_5 : Int) (k2 : Nat) (k3 : Nat) (c14 : Nat) (a14 : Option Addr) (c44 : Nat) (a44 : Option Addr) (c29 : Nat) (a29 : Option Addr) : Tn.Loc := [⟨k1, 25, [.slice s_0_a s_0_n s_0_c, .slice s_1_a s_1_n s_1_c, .slice s_2_a s_2_n s_2_c, .slice s_3_a s_3_n s_3_c, .int .i64 s_4, .int .i64 s_5], []⟩, ⟨k2, 25, [.slice none 0 0, .slice none 0 0, .slice none 0 0, .slice none 0 0, .int .i64 0, .int .i64 0], []⟩, ⟨k3, 25, [.slice (if Int.toNat ((c14 : Nat) : Int) = Int.toNat (0 : Int) then a14 else Option.map (fun q => Addr.add q (Int.toNat (0 : Int) * 1)) a14) (Int.toNat ((s_0_n : Nat) : Int) - Int.toNat (0 : Int)) (Int.toNat ((c14 : Nat) : Int) - Int.toNat (0 : Int)), .slice (if Int.toNat ((c44 : Nat) : Int) = Int.toNat (0 : Int) then a44 else Option.map (fun q => Addr.add q (Int.toNat (0 : Int) * 1)) a44) (Int.toNat ((s_1_n : Nat) : Int) - Int.toNat (0 : Int)) (Int.toNat ((c44 : Nat) : Int) - Int.toNat (0 : Int)), .slice s_2_a s_2_n s_2_c, .slice (if Int.toNat ((c29 : Nat) : Int) = Int.toNat (0 : Int) then a29 else Option.map (fun q => Addr.add q (Int.toNat (0 : Int) * 1)) a29) (Int.toNat ((s_3_n : Nat) : Int) - Int.toNat (0 : Int)) (Int.toNat ((c29 : Nat) : Int) - Int.toNat (0 : Int)), .int .i64 s_4, .int .i64 s_5], []⟩]
def an51 : Ann := (.seq .leaf (.seq .leaf (.seq (.draw [0, 1, 2, 3, 5, 6, 10, 11, 12, 4, 7, 8, 9, 13, 14, 15]) (.seq (.draw [0, 1, 2, 3, 5, 6, 10, 11, 12, 4, 7, 8, 9, 13, 14, 15]) (.seq (.draw [0, 1, 2, 3, 5, 6, 10, 11, 12, 4, 7, 8, 9, 13, 14, 15]) (.seq (.draw [0, 1, 2, 3, 5, 6, 10, 11, 12, 4, 7, 8, 9, 13, 14, 15]) (.seq .leaf .leaf)))))))
noncomputable def q51 (w0 : World) (s_0_a : Option Addr) (s_0_n : Nat) (s_0_c : Nat) (s_1_a : Option Addr) (s_1_n : Nat) (s_1_c : Nat) (s_2_a : Option Addr) (s_2_n : Nat) (s_2_c : Nat) (s_3_a : Option Addr) (s_3_n : Nat) (s_3_c : Nat) (s_4 : Int) (s_5 : Int) (R : Value → World → Prop) : Prop :=
  (∀ k1 : Nat, (∀ k2 : Nat, (∀ k3 : Nat, ((0 ≤ (0 : Int) ∧ (0 : Int) ≤ IntKind.wrap .i64 (((s_0_n : Nat) : Int) + (9 : Int)) ∧ IntKind.wrap .i64 (((s_0_n : Nat) : Int) + (9 : Int)) < 2 ^ 46 ∧ ((8 : Nat) : Int) * (IntKind.wrap .i64 (((s_0_n : Nat) : Int) + (9 : Int))) ≤ 2 ^ 47) ∧ ∀ k9 : Nat, (∃ Φ12 : Value → Own → Prop, OpG (cx w0 [] []) (loc51_0 k1 s_0_a s_0_n s_0_c s_1_a s_1_n s_1_c s_2_a s_2_n s_2_c s_3_a s_3_n s_3_c s_4 s_5 k2 k3) ((k9, .cells ⟨List.replicate (Int.toNat (IntKind.wrap .i64 (((s_0_n : Nat) : Int) + (9 : Int)))) (.float .f64 0)⟩ 44) :: []) (Builtin.append_ #[22, 22] 22 ⟨[.slice (some ⟨k9, 0, none⟩) (Int.toNat (0 : Int)) (Int.toNat (IntKind.wrap .i64 (((s_0_n : Nat) : Int) + (9 : Int)))), .slice s_0_a s_0_n s_0_c]⟩) (.val (.one .slice)) Φ12 ∧ ∀ a12 : Option Addr, ∀ l12 : Nat, ∀ c12 : Nat, ∀ own12 : Own, Φ12 (.slice a12 l12 c12) own12 → (∀ k13 : Nat, (∃ Φ14 : Value → Own → Prop, OpG (cx w0 [] []) (loc51_0 k1 s_0_a s_0_n s_0_c s_1_a s_1_n s_1_c s_2_a s_2_n s_2_c s_3_a s_3_n s_3_c s_4 s_5 k2 k3) ((k13, .cells ⟨[.float .f64 4635118810238550016]⟩ 44) :: own12) (Builtin.append_ #[22, 22] 22 ⟨[.slice a12 l12 c12, .slice (some ⟨k13, 0, none⟩) 1 1]⟩) (.val (.one .slice)) Φ14 ∧ ∀ a14 : Option Addr, ∀ l14 : Nat, ∀ c14 : Nat, ∀ own14 : Own, Φ14 (.slice a14 l14 c14) own14 → (l14 ≤ c14 ∧ 0 ≤ (0 : Int) ∧ (0 : Int) ≤ ((s_0_n : Nat) : Int) ∧ ((s_0_n : Nat) : Int) ≤ ((c14 : Nat) : Int) ∧ ((c14 : Nat) : Int) ≤ ((c14 : Nat) : Int)) ∧ ((0 ≤ (0 : Int) ∧ (0 : Int) ≤ IntKind.wrap .i64 (((s_3_n : Nat) : Int) + (9 : Int)) ∧ IntKind.wrap .i64 (((s_3_n : Nat) : Int) + (9 : Int)) < 2 ^ 46 ∧ ((8 : Nat) : Int) * (IntKind.wrap .i64 (((s_3_n : Nat) : Int) + (9 : Int))) ≤ 2 ^ 47) ∧ ∀ k24 : Nat, (∃ Φ27 : Value → Own → Prop, OpG (cx w0 [] []) (loc51_1 k1 s_0_a s_0_n s_0_c s_1_a s_1_n s_1_c s_2_a s_2_n s_2_c s_3_a s_3_n s_3_c s_4 s_5 k2 k3 c14 a14) ((k24, .cells ⟨List.replicate (Int.toNat (IntKind.wrap .i64 (((s_3_n : Nat) : Int) + (9 : Int)))) (.float .f64 0)⟩ 44) :: own14) (Builtin.append_ #[22, 22] 22 ⟨[.slice (some ⟨k24, 0, none⟩) (Int.toNat (0 : Int)) (Int.toNat (IntKind.wrap .i64 (((s_3_n : Nat) : Int) + (9 : Int)))), .slice s_3_a s_3_n s_3_c]⟩) (.val (.one .slice)) Φ27 ∧ ∀ a27 : Option Addr, ∀ l27 : Nat, ∀ c27 : Nat, ∀ own27 : Own, Φ27 (.slice a27 l27 c27) own27 → (∀ k28 : Nat, (∃ Φ29 : Value → Own → Prop, OpG (cx w0 [] []) (loc51_1 k1 s_0_a s_0_n s_0_c s_1_a s_1_n s_1_c s_2_a s_2_n s_2_c s_3_a s_3_n s_3_c s_4 s_5 k2 k3 c14 a14) ((k28, .cells ⟨[.float .f64 4635118810238550016]⟩ 44) :: own27) (Builtin.append_ #[22, 22] 22 ⟨[.slice a27 l27 c27, .slice (some ⟨k28, 0, none⟩) 1 1]⟩) (.val (.one .slice)) Φ29 ∧ ∀ a29 : Option Addr, ∀ l29 : Nat, ∀ c29 : Nat, ∀ own29 : Own, Φ29 (.slice a29 l29 c29) own29 → (l29 ≤ c29 ∧ 0 ≤ (0 : Int) ∧ (0 : Int) ≤ ((s_3_n : Nat) : Int) ∧ ((s_3_n : Nat) : Int) ≤ ((c29 : Nat) : Int) ∧ ((c29 : Nat) : Int) ≤ ((c29 : Nat) : Int)) ∧ ((0 ≤ (0 : Int) ∧ (0 : Int) ≤ IntKind.wrap .i64 (((s_1_n : Nat) : Int) + (9 : Int)) ∧ IntKind.wrap .i64 (((s_1_n : Nat) : Int) + (9 : Int)) < 2 ^ 46 ∧ ((8 : Nat) : Int) * (IntKind.wrap .i64 (((s_1_n : Nat) : Int) + (9 : Int))) ≤ 2 ^ 47) ∧ ∀ k39 : Nat, (∃ Φ42 : Value → Own → Prop, OpG (cx w0 [] []) (loc51_2 k1 s_0_a s_0_n s_0_c s_1_a s_1_n s_1_c s_2_a s_2_n s_2_c s_3_a s_3_n s_3_c s_4 s_5 k2 k3 c14 a14 c29 a29) ((k39, .cells ⟨List.replicate (Int.toNat (IntKind.wrap .i64 (((s_1_n : Nat) : Int) + (9 : Int)))) (.int .i64 0)⟩ 2) :: own29) (Builtin.append_ #[23, 23] 23 ⟨[.slice (some ⟨k39, 0, none⟩) (Int.toNat (0 : Int)) (Int.toNat (IntKind.wrap .i64 (((s_1_n : Nat) : Int) + (9 : Int)))), .slice s_1_a s_1_n s_1_c]⟩) (.val (.one .slice)) Φ42 ∧ ∀ a42 : Option Addr, ∀ l42 : Nat, ∀ c42 : Nat, ∀ own42 : Own, Φ42 (.slice a42 l42 c42) own42 → (∀ k43 : Nat, (∃ Φ44 : Value → Own → Prop, OpG (cx w0 [] []) (loc51_2 k1 s_0_a s_0_n s_0_c s_1_a s_1_n s_1_c s_2_a s_2_n s_2_c s_3_a s_3_n s_3_c s_4 s_5 k2 k3 c14 a14 c29 a29) ((k43, .cells ⟨[.int .i64 (77 : Int)]⟩ 2) :: own42) (Builtin.append_ #[23, 23] 23 ⟨[.slice a42 l42 c42, .slice (some ⟨k43, 0, none⟩) 1 1]⟩) (.val (.one .slice)) Φ44 ∧ ∀ a44 : Option Addr, ∀ l44 : Nat, ∀ c44 : Nat, ∀ own44 : Own, Φ44 (.slice a44 l44 c44) own44 → (l44 ≤ c44 ∧ 0 ≤ (0 : Int) ∧ (0 : Int) ≤ ((s_1_n : Nat) : Int) ∧ ((s_1_n : Nat) : Int) ≤ ((c44 : Nat) : Int) ∧ ((c44 : Nat) : Int) ≤ ((c44 : Nat) : Int)) ∧ ((0 ≤ (0 : Int) ∧ (0 : Int) ≤ IntKind.wrap .i64 (((s_2_n : Nat) : Int) + (9 : Int)) ∧ IntKind.wrap .i64 (((s_2_n : Nat) : Int) + (9 : Int)) < 2 ^ 46 ∧ ((8 : Nat) : Int) * (IntKind.wrap .i64 (((s_2_n : Nat) : Int) + (9 : Int))) ≤ 2 ^ 47) ∧ ∀ k54 : Nat, (∃ Φ57 : Value → Own → Prop, OpG (cx w0 [] []) (loc51_3 k1 s_0_a s_0_n s_0_c s_1_a s_1_n s_1_c s_2_a s_2_n s_2_c s_3_a s_3_n s_3_c s_4 s_5 k2 k3 c14 a14 c44 a44 c29 a29) ((k54, .cells ⟨List.replicate (Int.toNat (IntKind.wrap .i64 (((s_2_n : Nat) : Int) + (9 : Int)))) (.int .i64 0)⟩ 2) :: own44) (Builtin.append_ #[23, 23] 23 ⟨[.slice (some ⟨k54, 0, none⟩) (Int.toNat (0 : Int)) (Int.toNat (IntKind.wrap .i64 (((s_2_n : Nat) : Int) + (9 : Int)))), .slice s_2_a s_2_n s_2_c]⟩) (.val (.one .slice)) Φ57 ∧ ∀ a57 : Option Addr, ∀ l57 : Nat, ∀ c57 : Nat, ∀ own57 : Own, Φ57 (.slice a57 l57 c57) own57 → (∀ k58 : Nat, (∃ Φ59 : Value → Own → Prop, OpG (cx w0 [] []) (loc51_3 k1 s_0_a s_0_n s_0_c s_1_a s_1_n s_1_c s_2_a s_2_n s_2_c s_3_a s_3_n s_3_c s_4 s_5 k2 k3 c14 a14 c44 a44 c29 a29) ((k58, .cells ⟨[.int .i64 (77 : Int)]⟩ 2) :: own57) (Builtin.append_ #[23, 23] 23 ⟨[.slice a57 l57 c57, .slice (some ⟨k58, 0, none⟩) 1 1]⟩) (.val (.one .slice)) Φ59 ∧ ∀ a59 : Option Addr, ∀ l59 : Nat, ∀ c59 : Nat, ∀ own59 : Own, Φ59 (.slice a59 l59 c59) own59 → (l59 ≤ c59 ∧ 0 ≤ (0 : Int) ∧ (0 : Int) ≤ ((s_2_n : Nat) : Int) ∧ ((s_2_n : Nat) : Int) ≤ ((c59 : Nat) : Int) ∧ ((c59 : Nat) : Int) ≤ ((c59 : Nat) : Int)) ∧ Fin (cx w0 [] []) R (.agg ⟨[.slice (if Int.toNat ((c14 : Nat) : Int) = Int.toNat (0 : Int) then a14 else Option.map (fun q => Addr.add q (Int.toNat (0 : Int) * 1)) a14) (Int.toNat ((s_0_n : Nat) : Int) - Int.toNat (0 : Int)) (Int.toNat ((c14 : Nat) : Int) - Int.toNat (0 : Int)), .slice (if Int.toNat ((c44 : Nat) : Int) = Int.toNat (0 : Int) then a44 else Option.map (fun q => Addr.add q (Int.toNat (0 : Int) * 1)) a44) (Int.toNat ((s_1_n : Nat) : Int) - Int.toNat (0 : Int)) (Int.toNat ((c44 : Nat) : Int) - Int.toNat (0 : Int)), .slice (if Int.toNat ((c59 : Nat) : Int) = Int.toNat (0 : Int) then a59 else Option.map (fun q => Addr.add q (Int.toNat (0 : Int) * 1)) a59) (Int.toNat ((s_2_n : Nat) : Int) - Int.toNat (0 : Int)) (Int.toNat ((c59 : Nat) : Int) - Int.toNat (0 : Int)), .slice (if Int.toNat ((c29 : Nat) : Int) = Int.toNat (0 : Int) then a29 else Option.map (fun q => Addr.add q (Int.toNat (0 : Int) * 1)) a29) (Int.toNat ((s_3_n : Nat) : Int) - Int.toNat (0 : Int)) (Int.toNat ((c29 : Nat) : Int) - Int.toNat (0 : Int)), .int .i64 s_4, .int .i64 s_5]⟩) own59)))))))))))))))))))
theorem q51_eq (w0 : World) (s_0_a : Option Addr) (s_0_n : Nat) (s_0_c : Nat) (s_1_a : Option Addr) (s_1_n : Nat) (s_1_c : Nat) (s_2_a : Option Addr) (s_2_n : Nat) (s_2_c : Nat) (s_3_a : Option Addr) (s_3_n : Nat) (s_3_c : Nat) (s_4 : Int) (s_5 : Int) (R : Value → World → Prop) : funT (cx w0 [] []) Tryz.f51 an51 [.agg ⟨[.slice s_0_a s_0_n s_0_c, .slice s_1_a s_1_n s_1_c, .slice s_2_a s_2_n s_2_c, .slice s_3_a s_3_n s_3_c, .int .i64 s_4, .int .i64 s_5]⟩] [] R = q51 w0 s_0_a s_0_n s_0_c s_1_a s_1_n s_1_c s_2_a s_2_n s_2_c s_3_a s_3_n s_3_c s_4 s_5 R := by kernel_rfl
theorem d51 (W : World) (s_0_a : Option Addr) (s_0_n : Nat) (s_0_c : Nat) (s_1_a : Option Addr) (s_1_n : Nat) (s_1_c : Nat) (s_2_a : Option Addr) (s_2_n : Nat) (s_2_c : Nat) (s_3_a : Option Addr) (s_3_n : Nat) (s_3_c : Nat) (s_4 : Int) (s_5 : Int) {R : Value → World → Prop} (h : q51 W s_0_a s_0_n s_0_c s_1_a s_1_n s_1_c s_2_a s_2_n s_2_c s_3_a s_3_n s_3_c s_4 s_5 R) : Does Tryz.prog 51 [.agg ⟨[.slice s_0_a s_0_n s_0_c, .slice s_1_a s_1_n s_1_c, .slice s_2_a s_2_n s_2_c, .slice s_3_a s_3_n s_3_c, .int .i64 s_4, .int .i64 s_5]⟩] W R :=
  does_of_T (fn := Tryz.f51) (x := an51) (dyn := []) (by kernel_rfl) (by kernel_rfl) (sep_self W) (Eq.mpr (q51_eq W s_0_a s_0_n s_0_c s_1_a s_1_n s_1_c s_2_a s_2_n s_2_c s_3_a s_3_n s_3_c s_4 s_5 R) h)

theorem p51 (s : SeaA) (h1 : s.bed.length ≤ 65536) (h2 : s.water.length ≤ 65536) (h3 : s.tracer.length ≤ 65536) (h4 : s.speed.length ≤ 65536) : NewP (fun W => Laid W ∧ SeaAt W s) 51 [s.v] fun v X' =>
    ∃ b1 c1 r1 b2 c2 r2 b3 c3 r3 b4 c4 r4, v = .agg ⟨[.slice (some ⟨b1, 0, none⟩) s.bed.length c1, .slice (some ⟨b2, 0, none⟩) s.water.length c2, .slice (some ⟨b3, 0, none⟩) s.tracer.length c3, .slice (some ⟨b4, 0, none⟩) s.speed.length c4, .int .i64 s.sky, .int .i64 s.step]⟩ ∧
      X' = [(b3, .cells ⟨r3⟩ 2), (b2, .cells ⟨r2⟩ 2), (b4, .cells ⟨r4⟩ 44), (b1, .cells ⟨r1⟩ 44)] ∧ (s.bed.length + 1 ≤ c1 ∧ s.water.length + 1 ≤ c2 ∧ s.tracer.length + 1 ≤ c3 ∧ s.speed.length + 1 ≤ c4) ∧
      Has r1 (fCells s.bed ++ [markF]) ∧ Has r2 (iCells s.water ++ [markI]) ∧ Has r3 (iCells s.tracer ++ [markI]) ∧ Has r4 (fCells s.speed ++ [markF]) := by
  intro W ⟨hL, hS⟩
  refine d51 W s.ba s.bed.length s.bc s.wa s.water.length s.wc s.ta s.tracer.length s.tc s.ua s.speed.length s.uc s.sky s.step fun k1 k2 k3 => ?_
  rw [w9 h1, w9 h2, w9 h3, w9 h4]
  simp only [toNat_nat, Int.toNat_zero, Nat.sub_zero]
  refine ⟨⟨by omega, by omega, by omega, by omega⟩, fun ka1 => ⟨_, append_first el22 (fCells_len _) h1 (fCells_one _) (fun W' hS' => (hS.1).sep hS'), ?_⟩⟩
  rintro a l c own ⟨blk, rfl, hg⟩ kb1
  refine ⟨_, append_mark el22 hg h1 rfl, ?_⟩
  rintro a1 l1 c1 own1 ⟨g1, cap1, cur1, e, hc1, rfl, hr1⟩
  cases e
  refine ⟨⟨by omega, by omega, by omega, by omega, by omega⟩, ?_⟩
  refine ⟨⟨by omega, by omega, by omega, by omega⟩, fun ka4 => ⟨_, append_first el22 (fCells_len _) h4 (fCells_one _) (fun W' hS' => (hS.2.2.2).sep hS'), ?_⟩⟩
  rintro a l c own ⟨blk, rfl, hg⟩ kb4
  refine ⟨_, append_mark el22 hg h4 rfl, ?_⟩
  rintro a4 l4 c4 own4 ⟨g4, cap4, cur4, e, hc4, rfl, hr4⟩
  cases e
  refine ⟨⟨by omega, by omega, by omega, by omega, by omega⟩, ?_⟩
  refine ⟨⟨by omega, by omega, by omega, by omega⟩, fun ka2 => ⟨_, append_first el23 (iCells_len _) h2 (iCells_one _) (fun W' hS' => (hS.2.1).sep hS'), ?_⟩⟩
  rintro a l c own ⟨blk, rfl, hg⟩ kb2
  refine ⟨_, append_mark el23 hg h2 rfl, ?_⟩
  rintro a2 l2 c2 own2 ⟨g2, cap2, cur2, e, hc2, rfl, hr2⟩
  cases e
  refine ⟨⟨by omega, by omega, by omega, by omega, by omega⟩, ?_⟩
  refine ⟨⟨by omega, by omega, by omega, by omega⟩, fun ka3 => ⟨_, append_first el23 (iCells_len _) h3 (iCells_one _) (fun W' hS' => (hS.2.2.1).sep hS'), ?_⟩⟩
  rintro a l c own ⟨blk, rfl, hg⟩ kb3
  refine ⟨_, append_mark el23 hg h3 rfl, ?_⟩
  rintro a3 l3 c3 own3 ⟨g3, cap3, cur3, e, hc3, rfl, hr3⟩
  cases e
  refine ⟨⟨by omega, by omega, by omega, by omega, by omega⟩, ?_⟩
  refine fun W' hS' => ⟨_, ⟨g1, c1, cur1, g2, c2, cur2, g3, c3, cur3, g4, c4, cur4, ?_, rfl, ⟨hc1, hc2, hc3, hc4⟩, hr1, hr2, hr3, hr4⟩, hS'⟩
  have es : ∀ (k : Nat) (c : Prop) [Decidable c], (if c then some (⟨k, 0, none⟩ : Addr) else Option.map (fun q => Addr.add q (0 * 1)) (some (⟨k, 0, none⟩ : Addr))) = some ⟨k, 0, none⟩ := fun k c _ => by split <;> rfl
  simp only [es]


-- tarn/tarnlaw13.long
def an46 : Ann := (.seq .leaf (.seq .leaf .leaf))
noncomputable def q46 (w0 : World) (s_0_a : Option Addr) (s_0_n : Nat) (s_0_c : Nat) (s_1_a : Option Addr) (s_1_n : Nat) (s_1_c : Nat) (s_2_a : Option Addr) (s_2_n : Nat) (s_2_c : Nat) (s_3_a : Option Addr) (s_3_n : Nat) (s_3_c : Nat) (s_4 : Int) (s_5 : Int) (R : Value → World → Prop) : Prop :=
  (∀ k1 : Nat, (cond (decide (((s_0_n : Nat) : Int) > (65536 : Int))) (Fin (cx w0 [] []) R (.bool true) []) ((cond (decide (((s_1_n : Nat) : Int) > (65536 : Int))) (Fin (cx w0 [] []) R (.bool true) []) ((cond (decide (((s_2_n : Nat) : Int) > (65536 : Int))) (Fin (cx w0 [] []) R (.bool true) []) (Fin (cx w0 [] []) R (.bool (decide (((s_3_n : Nat) : Int) > (65536 : Int)))) [])))))))
theorem q46_eq (w0 : World) (s_0_a : Option Addr) (s_0_n : Nat) (s_0_c : Nat) (s_1_a : Option Addr) (s_1_n : Nat) (s_1_c : Nat) (s_2_a : Option Addr) (s_2_n : Nat) (s_2_c : Nat) (s_3_a : Option Addr) (s_3_n : Nat) (s_3_c : Nat) (s_4 : Int) (s_5 : Int) (R : Value → World → Prop) : funT (cx w0 [] []) Tryz.f46 an46 [.agg ⟨[.slice s_0_a s_0_n s_0_c, .slice s_1_a s_1_n s_1_c, .slice s_2_a s_2_n s_2_c, .slice s_3_a s_3_n s_3_c, .int .i64 s_4, .int .i64 s_5]⟩] [] R = q46 w0 s_0_a s_0_n s_0_c s_1_a s_1_n s_1_c s_2_a s_2_n s_2_c s_3_a s_3_n s_3_c s_4 s_5 R := by kernel_rfl
theorem d46 (W : World) (s_0_a : Option Addr) (s_0_n : Nat) (s_0_c : Nat) (s_1_a : Option Addr) (s_1_n : Nat) (s_1_c : Nat) (s_2_a : Option Addr) (s_2_n : Nat) (s_2_c : Nat) (s_3_a : Option Addr) (s_3_n : Nat) (s_3_c : Nat) (s_4 : Int) (s_5 : Int) {R : Value → World → Prop} (h : q46 W s_0_a s_0_n s_0_c s_1_a s_1_n s_1_c s_2_a s_2_n s_2_c s_3_a s_3_n s_3_c s_4 s_5 R) : Does Tryz.prog 46 [.agg ⟨[.slice s_0_a s_0_n s_0_c, .slice s_1_a s_1_n s_1_c, .slice s_2_a s_2_n s_2_c, .slice s_3_a s_3_n s_3_c, .int .i64 s_4, .int .i64 s_5]⟩] W R :=
  does_of_T (fn := Tryz.f46) (x := an46) (dyn := []) (by kernel_rfl) (by kernel_rfl) (sep_self W) (Eq.mpr (q46_eq W s_0_a s_0_n s_0_c s_1_a s_1_n s_1_c s_2_a s_2_n s_2_c s_3_a s_3_n s_3_c s_4 s_5 R) h)
def s46 (s_0_a : Option Addr) (s_0_n : Nat) (s_0_c : Nat) (s_1_a : Option Addr) (s_1_n : Nat) (s_1_c : Nat) (s_2_a : Option Addr) (s_2_n : Nat) (s_2_c : Nat) (s_3_a : Option Addr) (s_3_n : Nat) (s_3_c : Nat) (s_4 : Int) (s_5 : Int) : Bool := (cond (decide (((s_0_n : Nat) : Int) > (65536 : Int))) true (cond (decide (((s_1_n : Nat) : Int) > (65536 : Int))) true (cond (decide (((s_2_n : Nat) : Int) > (65536 : Int))) true (decide (((s_3_n : Nat) : Int) > (65536 : Int))))))
theorem p46 (s_0_a : Option Addr) (s_0_n : Nat) (s_0_c : Nat) (s_1_a : Option Addr) (s_1_n : Nat) (s_1_c : Nat) (s_2_a : Option Addr) (s_2_n : Nat) (s_2_c : Nat) (s_3_a : Option Addr) (s_3_n : Nat) (s_3_c : Nat) (s_4 : Int) (s_5 : Int) : Pu 46 [.agg ⟨[.slice s_0_a s_0_n s_0_c, .slice s_1_a s_1_n s_1_c, .slice s_2_a s_2_n s_2_c, .slice s_3_a s_3_n s_3_c, .int .i64 s_4, .int .i64 s_5]⟩] (.bool (s46 s_0_a s_0_n s_0_c s_1_a s_1_n s_1_c s_2_a s_2_n s_2_c s_3_a s_3_n s_3_c s_4 s_5)) := fun W hL => d46 W s_0_a s_0_n s_0_c s_1_a s_1_n s_1_c s_2_a s_2_n s_2_c s_3_a s_3_n s_3_c s_4 s_5 (fun k1 => cond_split (fun h3 => fin_ext (by first | (unfold s46; simp only [h3, cond_true, cond_false]; done) | (exfalso; simp_all; done) | (unfold s46; simp [h3, cond_true, cond_false]; done))) (fun h3 => cond_split (fun h2 => fin_ext (by first | (unfold s46; simp only [h2, h3, cond_true, cond_false]; done) | (exfalso; simp_all; done) | (unfold s46; simp [h2, h3, cond_true, cond_false]; done))) (fun h2 => cond_split (fun h1 => fin_ext (by first | (unfold s46; simp only [h1, h2, h3, cond_true, cond_false]; done) | (exfalso; simp_all; done) | (unfold s46; simp [h1, h2, h3, cond_true, cond_false]; done))) (fun h1 => fin_ext (by first | (unfold s46; simp only [h1, h2, h3, cond_true, cond_false]; done) | (exfalso; simp_all; done) | (unfold s46; simp [h1, h2, h3, cond_true, cond_false]; done))))))

end Go.Proofs.YtnljcdplcloedaaGreatDoor
end
