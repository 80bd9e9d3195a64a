/- Walk of Copied; the number of edges of the nets of sides 1 to 8; lists that are filled step by step. -/
import Derived.Test.YtnljcdplcloedaaGreatDoorSea
import Derived.Laws.IdiomCopy
import Derived.Test.YtnljcdplcloedaaGreatDoorAwake
section
namespace Go.Proofs.YtnljcdplcloedaaGreatDoor
open Go Go.Tn Go.RowKit
set_option linter.unusedVariables false
set_option linter.unusedSimpArgs false
set_option maxRecDepth 100000
theorem arr_cells {W : World} {a : Addr} {vs : List Value} (h : Arr W (some a) vs) {j : Nat} {v : Value} (hj : vs[j]? = some v) : W.cell? (a.add j) = some v := by
  rcases h with h | ⟨b, o, cs, ty, fr, ha, hb, hv⟩
  · rw [h] at hj; cases hj
  · cases ha
    rw [Tn.add_none, Tn.cell_of_obj (cs := cs) hb]
    exact hv j v hj
theorem copy_own0 {w0 : World} {mt dyn : List Nat} {loc : Tn.Loc} {own pre post : Own} {t r e : TypeId} {bytes k n cap c : Nat} {a : Option Addr} {cur xs : List Value} {ty : TypeId} (hE : ElT t e 1 bytes)
    (ho : own = pre ++ (k, .cells ⟨cur⟩ ty) :: post) (hc : cur.length = n) (hx : xs.length = n) (ha : ∀ W, Sep w0 mt (ents loc own) W → Arr W a xs) (h1 : xs.all Tn.isOne = true) :
    OpG0 (cx w0 mt dyn) loc own (Builtin.copy_ #[t, t] r ⟨[.slice (some ⟨k, 0, none⟩) n cap, .slice a n c]⟩) (.val (.one (.int .i64))) fun v' own' => v' = .int .i64 n ∧ own' = pre ++ (k, .cells ⟨xs⟩ ty) :: post := by
  intro W hS
  have hA := ha W hS
  obtain ⟨ht, ⟨i, z, hi, hz, hsz1, rfl, hzs⟩, hsz⟩ := hE
  have hq : (Tryz.prog.info? e).map (·.size) = some 1 := by rw [hi]; simp [hsz1]
  subst ho
  by_cases h0 : n = 0
  · subst h0
    have e1 : cur = [] := List.eq_nil_of_length_eq_zero hc
    have e2 : xs = [] := List.eq_nil_of_length_eq_zero hx
    subst e1 e2
    exact ⟨_, W, run_copy_none (P := Tryz.prog) W t t r e _ a 0 cap 0 c ht hq rfl, ⟨_, rfl⟩, _, ⟨rfl, rfl⟩, hS⟩
  · obtain ⟨v0, hv0⟩ : ∃ v, xs[0]? = some v := ⟨_, List.getElem?_eq_getElem (by omega)⟩
    obtain ⟨ad, rfl⟩ := arr_addr hA hv0
    have e1 : ents loc (pre ++ (k, .cells ⟨cur⟩ ty) :: post) = (loc.map LB.ent ++ pre) ++ (k, .cells ⟨cur⟩ ty) :: post := by simp [ents]
    have e2 : ents loc (pre ++ (k, .cells ⟨xs⟩ ty) :: post) = (loc.map LB.ent ++ pre) ++ (k, .cells ⟨xs⟩ ty) :: post := by simp [ents]
    rw [e1] at hS
    have hh : W.heap[k]? = some (.cells ⟨cur⟩ ty) := hS.own _ _ (by simp)
    obtain ⟨W', hr, q1, q2, q3, q4, q5, q6⟩ := run_storeCells (P := Tryz.prog) (k := k) (t := ty) xs W cur 0 0 hh (by omega) h1
    have hl := run_loadCells_list (P := Tryz.prog) W ad xs (fun j v hj => arr_cells hA hj)
    rw [hx] at hl
    refine ⟨.int .i64 n, W', ?_, ⟨_, rfl⟩, _, ⟨rfl, rfl⟩, ?_⟩
    · show (Builtin.copy_ #[t, t] r #[.slice (some ⟨k, 0, none⟩) n cap, .slice (some ad) n c]).run Tryz.prog W = _
      simp [Builtin.copy_, run_underlying ht, Builtin.lenOf, Builtin.firstCells, sizeOf, typeInfo, hi, hsz1, Nat.min_self, hl, hr]
      rfl
    · rw [e2]
      refine Sep.store (a := loc.map LB.ent ++ pre) (b := post) (o := .cells ⟨cur⟩ ty) (W' := W') (k := k) hS ?_ q2 q3 q4 q5 q6
      rw [q1]
      simp [hx, ← hc]
theorem copy_own {w0 : World} {mt dyn : List Nat} {loc : Tn.Loc} {own pre post : Own} {t r e : TypeId} {bytes k n cap c : Nat} {a : Option Addr} {cur xs : List Value} {ty : TypeId} (hE : ElT t e 1 bytes)
    (ho : own = pre ++ (k, .cells ⟨cur⟩ ty) :: post) (hc : cur.length = n) (hx : xs.length = n) (ha : ∀ W, Sep w0 mt (ents loc own) W → Arr W a xs) (h1 : xs.all Tn.isOne = true) :
    OpG (cx w0 mt dyn) loc own (Builtin.copy_ #[t, t] r ⟨[.slice (some ⟨k, 0, none⟩) n cap, .slice a n c]⟩) (.val (.one (.int .i64))) fun v' own' => v' = .int .i64 n ∧ own' = pre ++ (k, .cells ⟨xs⟩ ty) :: post :=
  opg_of0 fun fr => opg0_mono (copy_own0 (own := own ++ fr) (pre := pre) (post := post ++ fr) (ty := ty) hE (by rw [ho]; simp) hc hx (fun W hS => ha W (sep_less hS)) h1) fun v o h => ⟨_, ⟨h.1, rfl⟩, by rw [h.2]; simp⟩
end Go.Proofs.YtnljcdplcloedaaGreatDoor
end
section
namespace Go.Proofs.YtnljcdplcloedaaGreatDoor
open Go Go.Tn Go.RowKit
set_option linter.unusedVariables false
set_option linter.unusedSimpArgs false
set_option maxRecDepth 100000
set_option maxHeartbeats 2000000

theorem fCells_one (l : List Nat) : (fCells l).all Tn.isOne = true := by rw [List.all_eq_true]; intro v hv; obtain ⟨x, _, rfl⟩ := List.mem_map.1 hv; rfl
theorem fCells_len (l : List Nat) : (fCells l).length = l.length := by simp [fCells]
theorem iCells_len (l : List Int) : (iCells l).length = l.length := by simp [iCells]

-- tarn/tarnraw.Copied
def an38 : Ann := (.seq .leaf (.seq .leaf (.seq .leaf (.seq .leaf .leaf))))
noncomputable def q38 (w0 : World) (l_a : Option Addr) (l_n : Nat) (l_c : Nat) (R : Value → World → Prop) : Prop :=
  ((0 ≤ ((l_n : Nat) : Int) ∧ ((l_n : Nat) : Int) ≤ ((l_n : Nat) : Int) ∧ ((l_n : Nat) : Int) < 2 ^ 46 ∧ ((8 : Nat) : Int) * ((l_n : Nat) : Int) ≤ 2 ^ 47) ∧ ∀ k6 : Nat, (∃ Φ9 : Value → Own → Prop, OpG (cx w0 [] []) [] ((k6, .cells ⟨List.replicate (Int.toNat ((l_n : Nat) : Int)) (.float .f64 0)⟩ 44) :: []) (Builtin.copy_ #[22, 22] 3 ⟨[.slice (some ⟨k6, 0, none⟩) (Int.toNat ((l_n : Nat) : Int)) (Int.toNat ((l_n : Nat) : Int)), .slice l_a l_n l_c]⟩) (.val (.one (.int .i64))) Φ9 ∧ ∀ n9 : Int, ∀ own9 : Own, Φ9 (.int .i64 n9) own9 → Fin (cx w0 [] []) R (.slice (some ⟨k6, 0, none⟩) (Int.toNat ((l_n : Nat) : Int)) (Int.toNat ((l_n : Nat) : Int))) own9))
theorem q38_eq (w0 : World) (l_a : Option Addr) (l_n : Nat) (l_c : Nat) (R : Value → World → Prop) : funT (cx w0 [] []) Tryz.f38 an38 [.slice l_a l_n l_c] [] R = q38 w0 l_a l_n l_c R := by kernel_rfl
theorem d38 (W : World) (l_a : Option Addr) (l_n : Nat) (l_c : Nat) {R : Value → World → Prop} (h : q38 W l_a l_n l_c R) : Does Tryz.prog 38 [.slice l_a l_n l_c] W R :=
  does_of_T (fn := Tryz.f38) (x := an38) (dyn := []) (by kernel_rfl) (by kernel_rfl) (sep_self W) (Eq.mpr (q38_eq W l_a l_n l_c R) h)

theorem p38 (l : List Nat) (a : Option Addr) (c : Nat) (hl : l.length ≤ 17592186044416) : NewP (fun W => Laid W ∧ Arr W a (fCells l)) 38 [.slice a l.length c] fun v X' => ∃ k, v = .slice (some ⟨k, 0, none⟩) l.length l.length ∧ X' = [(k, .cells ⟨fCells l⟩ 44)] := by
  intro W ⟨hL, hA⟩
  refine d38 W a l.length c ⟨⟨by omega, by omega, by omega, by omega⟩, fun k6 => ?_⟩
  rw [toNat_nat]
  refine ⟨_, copy_own (pre := []) (post := []) (xs := fCells l) el22 rfl (by simp) (fCells_len l) (fun W' hS => hA.sep hS) (fCells_one l), fun n9 own9 h => ?_⟩
  obtain ⟨_, rfl⟩ := h
  exact fun W' hS' => ⟨_, ⟨k6, rfl, rfl⟩, hS'⟩



/-! ### how many edges there are -/
def cUp (n c : Int) : Nat → Nat
  | 0 => 0
  | j + 1 => cUp n c j + cond (decide (c > (s98 n c j).1)) 0 1
def cAll (n : Int) : Nat → Nat
  | 0 => 0
  | k + 1 => cAll n k + cUp n k 4
theorem eUp_count (n c : Int) (j : Nat) (st : EdgeL × PM) : (eUp n c j st).1.length = st.1.length + cUp n c j := by
  induction j with
  | zero => rfl
  | succ j ih =>
    rw [eUp, eStep, cUp]
    cases decide (c > (s98 n c j).1)
    · simp only [cond_false, List.length_append, List.length_cons, List.length_nil, ih]; omega
    · simp only [cond_true, ih]; omega
theorem eAll_count (n : Int) (k : Nat) : (eAll n k).1.length = cAll n k := by
  induction k with
  | zero => rfl
  | succ k ih => rw [eAll, eUp_count, ih]; rfl
theorem two1 : Nat.beq (cAll 1 6) 12 = true := by kernel_rfl
theorem two2 : Nat.beq (cAll 2 24) 48 = true := by kernel_rfl
theorem two3 : Nat.beq (cAll 3 54) 108 = true := by kernel_rfl
theorem two4 : Nat.beq (cAll 4 96) 192 = true := by kernel_rfl
theorem two5 : Nat.beq (cAll 5 150) 300 = true := by kernel_rfl
theorem two6 : Nat.beq (cAll 6 216) 432 = true := by kernel_rfl
theorem two7 : Nat.beq (cAll 7 294) 588 = true := by kernel_rfl
theorem two8 : Nat.beq (cAll 8 384) 768 = true := by kernel_rfl
theorem net8 {n : Int} (h : Side n) (h8 : n ≤ 8) : (netOf n).E.length = 2 * (netOf n).A.length ∧ (netOf n).A.length ≤ 384 := by
  have h1 := h.1
  have hA : (netOf n).A.length = cellsN n := areasN_len n _
  have hE : (netOf n).E.length = cAll n (cellsN n) := eAll_count n _
  rw [hA, hE]
  obtain rfl | rfl | rfl | rfl | rfl | rfl | rfl | rfl : n = 1 ∨ n = 2 ∨ n = 3 ∨ n = 4 ∨ n = 5 ∨ n = 6 ∨ n = 7 ∨ n = 8 := by omega
  · exact ⟨Nat.eq_of_beq_eq_true two1, by decide⟩
  · exact ⟨Nat.eq_of_beq_eq_true two2, by decide⟩
  · exact ⟨Nat.eq_of_beq_eq_true two3, by decide⟩
  · exact ⟨Nat.eq_of_beq_eq_true two4, by decide⟩
  · exact ⟨Nat.eq_of_beq_eq_true two5, by decide⟩
  · exact ⟨Nat.eq_of_beq_eq_true two6, by decide⟩
  · exact ⟨Nat.eq_of_beq_eq_true two7, by decide⟩
  · exact ⟨Nat.eq_of_beq_eq_true two8, by decide⟩
/-! ### lists that are filled step by step -/
section
variable {α : Type}
/-- the first k cells are as they shall be, the others as they were -/
def fl (fin : Nat → α) (z : α) (k i : Nat) : α := if i < k then fin i else z
def flL (fin : Nat → α) (z : α) (N k : Nat) : List α := (List.range N).map (fl fin z k)
theorem flL_len (fin : Nat → α) (z : α) (N k : Nat) : (flL fin z N k).length = N := by simp [flL]
theorem flL_zero (fin : Nat → α) (z : α) (N : Nat) : flL fin z N 0 = List.replicate N z := by
  refine List.ext_getElem? fun i => ?_
  by_cases h : i < N
  · rw [flL, List.getElem?_map, List.getElem?_range h, List.getElem?_replicate, if_pos h]; rfl
  · rw [List.getElem?_eq_none (by rw [flL_len]; omega), List.getElem?_eq_none (by simp; omega)]
theorem flL_past {fin : Nat → α} {z : α} {N k : Nat} (h : N ≤ k) : flL fin z N (k + 1) = flL fin z N k := by
  refine List.map_congr_left fun i hi => ?_
  have := List.mem_range.1 hi
  unfold fl; rw [if_pos (by omega), if_pos (by omega)]
theorem flL_set {fin : Nat → α} {z v : α} {N k : Nat} (h : v = fin k) : (flL fin z N k).set k v = flL fin z N (k + 1) := by
  subst h
  refine List.ext_getElem? fun i => ?_
  by_cases hi : i < N
  · by_cases hk : k = i
    · subst hk
      rw [List.getElem?_set_self (by rw [flL_len]; exact hi), flL, List.getElem?_map, List.getElem?_range hi]
      simp [fl]
    · rw [List.getElem?_set_ne hk, flL, flL, List.getElem?_map, List.getElem?_map, List.getElem?_range hi]
      simp only [Option.map_some, fl]
      by_cases h1 : i < k
      · rw [if_pos h1, if_pos (by omega)]
      · rw [if_neg h1, if_neg (by omega)]
  · rw [List.getElem?_eq_none (by rw [List.length_set, flL_len]; omega), List.getElem?_eq_none (by rw [flL_len]; omega)]
theorem flL_get {fin : Nat → α} {z : α} {N k i : Nat} (h : i < N) (hk : N ≤ k) : (flL fin z N k)[i]? = some (fin i) := by
  rw [flL, List.getElem?_map, List.getElem?_range h]; simp [fl]; omega
end

end Go.Proofs.YtnljcdplcloedaaGreatDoor
end
