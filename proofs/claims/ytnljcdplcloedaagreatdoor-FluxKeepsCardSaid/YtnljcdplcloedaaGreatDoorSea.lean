/- Walks of a grid laid from a sea, of its depths and of the flows of a turn, for every sea. -/
import Derived.Test.YtnljcdplcloedaaGreatDoorNet
section
namespace Go.Proofs.YtnljcdplcloedaaGreatDoor
open Go Go.Tn Go.RowKit
set_option linter.unusedVariables false
set_option linter.unusedSimpArgs false
set_option maxRecDepth 100000
set_option maxHeartbeats 2000000

/-- the lists of a net fit one another -/
structure GOk (g : Net) : Prop where
  b : g.B.length = g.E.length
  l : g.L.length = g.E.length
  p : g.P.length = g.E.length
  m : ∀ q ∈ g.M, 0 ≤ q.2 ∧ q.2 < (g.E.length : Int)
  el : g.E.length ≤ 100000
  al : g.A.length ≤ 100000
  er : ∀ x ∈ g.E, (0 ≤ x.1 ∧ x.1 < (g.A.length : Int)) ∧ 0 ≤ x.2.2.1 ∧ x.2.2.1 < (g.A.length : Int)
  br : ∀ x ∈ g.B, (0 ≤ x.1 ∧ x.1 < (g.A.length : Int)) ∧ 0 ≤ x.2 ∧ x.2 < (g.A.length : Int)
/-- A net stands in memory. -/
def GridAt (W : World) (p : Addr) (g : Net) : Prop :=
  ∃ kg km mo ae ce ab cb aa ca al cl ap cp ft, p = ⟨kg, 0, none⟩ ∧ W.heap[kg]? = some (.cells ⟨[.int .i64 g.n, .slice ae g.E.length ce, .map (some km), .slice ab g.B.length cb, .slice aa g.A.length ca, .slice al g.L.length cl, .slice ap g.P.length cp]⟩ 127 ft) ∧ W.heap[km]? = some mo ∧ IsMap mo g.M ∧
    Arr W ae (eCells g.E) ∧ Arr W ab (pCells g.B) ∧ Arr W aa (iCells g.A) ∧ Arr W al (fCells g.L) ∧ Arr W ap (fCells g.P) ∧ GOk g
theorem GridAt.keep {W W' : World} {p : Addr} {g : Net} (h : GridAt W p g) (hk : ∀ b, b < W.heap.size → W'.heap[b]? = W.heap[b]?) : GridAt W' p g := by
  obtain ⟨kg, km, mo, ae, ce, ab, cb, aa, ca, al, cl, ap, cp, ft, h1, h2, h3, h4, a1, a2, a3, a4, a5, h5⟩ := h
  exact ⟨kg, km, mo, ae, ce, ab, cb, aa, ca, al, cl, ap, cp, ft, h1, by rw [hk _ (lt_of_heap h2)]; exact h2, by rw [hk _ (lt_of_heap h3)]; exact h3, h4, a1.keep fun _ _ _ hb => hk _ hb, a2.keep fun _ _ _ hb => hk _ hb, a3.keep fun _ _ _ hb => hk _ hb, a4.keep fun _ _ _ hb => hk _ hb, a5.keep fun _ _ _ hb => hk _ hb, h5⟩
theorem GridAt.ext {W W' : World} {p : Addr} {g : Net} (h : GridAt W p g) (he : Ext W W') : GridAt W' p g := h.keep fun b hb => he.block b hb
theorem arr_gs {W : World} {v : Value} {blk : Own} {e : TypeId} {sz n : Nat} {xs : List Value} (h : GS v blk e sz n xs) (hb : ∀ b o, (b, o) ∈ blk → W.heap[b]? = some o) : ∃ a c, v = .slice a n c ∧ Arr W a xs := by
  obtain ⟨hl, ⟨h1, h2, h3⟩ | ⟨g, cap, cur, h1, h2, h3, h4, h5, h6⟩⟩ := h
  · subst h2
    exact ⟨none, 0, h1, .inl (List.eq_nil_of_length_eq_zero (by simpa using hl))⟩
  · refine ⟨_, _, h1, .inr ⟨g, 0, cur, e, _, rfl, hb _ _ (by rw [h2]; exact .head _), fun i v hv => ?_⟩⟩
    rw [← h6, List.getElem?_take] at hv
    rw [Nat.zero_add]
    split at hv
    · exact hv
    · cases hv
theorem gridAt_of {W : World} {g : Net} {kg km : Nat} {X : Own} (h : GP g kg km X) (hb : ∀ b o, (b, o) ∈ X → W.heap[b]? = some o) (hg : GOk g) : GridAt W ⟨kg, 0, none⟩ g := by
  obtain ⟨mo, ve, be, vb, bb, va, ba, vl, bl, vp, bp, rfl, hM, hE, hB, hA, hLn, hP⟩ := h
  obtain ⟨ae, ce, rfl, q1⟩ := arr_gs (W := W) hE fun b o hm => hb b o (by simp [hm])
  obtain ⟨ab, cb, rfl, q2⟩ := arr_gs (W := W) hB fun b o hm => hb b o (by simp [hm])
  obtain ⟨aa, ca, rfl, q3⟩ := arr_gs (W := W) hA fun b o hm => hb b o (by simp [hm])
  obtain ⟨al, cl, rfl, q4⟩ := arr_gs (W := W) hLn fun b o hm => hb b o (by simp [hm])
  obtain ⟨ap, cp, rfl, q5⟩ := arr_gs (W := W) hP fun b o hm => hb b o (by simp [hm])
  exact ⟨kg, km, mo, ae, ce, ab, cb, aa, ca, al, cl, ap, cp, _, rfl, hb _ _ (.head _), hb _ _ (.tail _ (.head _)), hM, q1, q2, q3, q4, q5, hg⟩
/-- where a net and the tables stand -/
def LG (p : Addr) (g : Net) (W : World) : Prop := Laid W ∧ GridAt W p g
theorem LG.ext {W W' : World} {p : Addr} {g : Net} (h : LG p g W) (he : Ext W W') : LG p g W' := ⟨h.1.ext he, h.2.ext he⟩
theorem On.callG {p : Addr} {g : Net} {f : FuncId} {args : List Value} {v : Value} (h : On (LG p g) f args v) {w0 : World} (hL : LG p g w0) {dyn : List Nat} {loc : Tn.Loc} {own : Own} : CallV (cx w0 [] dyn) loc own f args v :=
  h.call fun W hW => hL.ext (Sep.ext0 hW)
theorem load63o {w0 : World} {mt dyn : List Nat} {cs : List Value} {E : EdgeL} {k o : Nat} {e : Int × Int × Int × Int} (hc : ∀ (j : Nat) (u : Value), (eCells E)[j]? = some u → cs[o + j]? = some u) (h : E[k]? = some e) :
    loadL (cx w0 mt dyn) 63 cs (o + k * 4) = some (.agg ⟨[.int .i64 e.1, .int .i64 e.2.1, .int .i64 e.2.2.1, .int .i64 e.2.2.2]⟩) := by
  obtain ⟨h1, h2⟩ := take4 (cs := cs) (o := o + k * 4) (by have := hc _ _ (eCells_get h 0 (by omega)); rw [Nat.add_zero] at this; exact this) (by have := hc _ _ (eCells_get h 1 (by omega)); rw [← Nat.add_assoc] at this; exact this) (by have := hc _ _ (eCells_get h 2 (by omega)); rw [← Nat.add_assoc] at this; exact this) (by have := hc _ _ (eCells_get h 3 (by omega)); rw [← Nat.add_assoc] at this; exact this)
  rw [ld63, h1, Nat.ble_eq_true_of_le h2, cond_true]
theorem loads63 {w0 : World} {dyn : List Nat} {loc : Tn.Loc} {own : Own} {a : Option Addr} {ad : Addr} {E : EdgeL} {k : Nat} {e : Int × Int × Int × Int} (h : Arr w0 a (eCells E)) (ha : a = some ad) (he : E[k]? = some e) :
    LoadsTo (cx w0 [] dyn) loc own 63 (ad.add (k * 4)) (.agg ⟨[.int .i64 e.1, .int .i64 e.2.1, .int .i64 e.2.2.1, .int .i64 e.2.2.2]⟩) := by
  rcases h with h | ⟨b, o, cs, ty, fr, ha', hb, hvs⟩
  · have := eCells_get he 0 (by omega)
    rw [h] at this; simp at this
  · rw [ha] at ha'; cases ha'
    rw [Tn.add_none]
    exact loads_keep (mt := []) hb List.not_mem_nil (load63o hvs he)
theorem pCells_get {B : List (Int × Int)} {k : Nat} {e : Int × Int} (h : B[k]? = some e) (j : Nat) (hj : j < 2) : (pCells B)[k * 2 + j]? = ([.int .i64 e.1, .int .i64 e.2] : List Value)[j]? := by
  induction B generalizing k with
  | nil => cases h
  | cons x r ih =>
    cases k with
    | zero =>
      simp only [List.getElem?_cons_zero, Option.some.injEq] at h
      subst h
      rw [Nat.zero_mul, Nat.zero_add, pCells, List.flatMap_cons, List.getElem?_append_left (by simpa using hj)]
    | succ k =>
      rw [List.getElem?_cons_succ] at h
      rw [pCells, List.flatMap_cons, List.getElem?_append_right (by simp; omega)]
      have := ih h
      rw [show (k + 1) * 2 + j - ([.int .i64 x.1, .int .i64 x.2] : List Value).length = k * 2 + j by simp; omega]
      exact this
theorem arr_addr {W : World} {a : Option Addr} {vs : List Value} {i : Nat} {v : Value} (h : Arr W a vs) (hi : vs[i]? = some v) : ∃ ad, a = some ad := by
  obtain ⟨b, o, e⟩ := arr_some h (i := i) (by rcases Nat.lt_or_ge i vs.length with h | h; exact h; rw [List.getElem?_eq_none h] at hi; cases hi)
  exact ⟨_, e⟩
theorem getElem?_int {α : Type} {l : List α} {e : Int} (h0 : 0 ≤ e) (h1 : e < (l.length : Int)) : ∃ x, l[e.toNat]? = some x := ⟨_, List.getElem?_eq_getElem (by omega)⟩
def Net.is (g : Net) (e : Int) : Bool := cond (decide (e ≥ 0)) (decide (e < (g.E.length : Int))) false
def Net.edge (g : Net) (e : Int) : Int × Int × Int × Int := cond (g.is e) (g.E.getD e.toNat (0, 0, 0, 0)) (0, 0, 0, 0)
def Net.behind (g : Net) (e : Int) : Int × Int := cond (g.is e) (g.B.getD e.toNat (0, 0)) (0, 0)
def Net.len (g : Net) (e : Int) : Nat := cond (g.is e) (g.L.getD e.toNat 0) 0
def Net.area (g : Net) (c : Int) : Int := cond (decide (c < 0)) 0 (cond (decide (c ≥ (g.A.length : Int))) 0 (g.A.getD c.toNat 0))
def Net.around (g : Net) (c o : Int) : Int × Int := match findP (c, o) g.M 0 with | none => (0, 0) | some q => cond ((g.E.getD q.2.toNat (0, 0, 0, 0)).1 == c) (q.2, 1) (q.2, -1)
theorem Net.is_iff {g : Net} {e : Int} : g.is e = true ↔ 0 ≤ e ∧ e < (g.E.length : Int) := by
  unfold Net.is
  by_cases h : e ≥ 0
  · rw [decide_eq_true h, cond_true, decide_eq_true_eq]; omega
  · rw [decide_eq_false h, cond_false]; constructor
    · intro h; cases h
    · intro h'; omega
theorem cell_at {w0 : World} {dyn : List Nat} {loc : Tn.Loc} {own : Own} {t : TypeId} {k : Nat} {cs : List Value} {ty : TypeId} {ft : Nat × Nat} (h : w0.heap[k]? = some (.cells ⟨cs⟩ ty ft)) (o : Nat) {v : Value} (hl : ∀ (cs : List Value) (o : Nat), loadL (cx w0 [] dyn) t cs o = cs[o]?) (hv : cs[o]? = some v) :
    LoadsTo (cx w0 [] dyn) loc own t (Addr.add ⟨k, 0, none⟩ o) v := by
  rw [Tn.add_none, Nat.zero_add]
  exact loads_keep (mt := []) h List.not_mem_nil (by rw [hl]; exact hv)

-- (*tarn/grid.Grid).Cells
def an36 : Ann := (.seq .leaf (.seq (.seq .leaf (.cond (.seq .leaf .leaf) .leaf)) (.seq .leaf .leaf)))
noncomputable def q36 (w0 : World) (g : Addr) (R : Value → World → Prop) : Prop :=
  (cond (Option.isNone (some g)) (Fin (cx w0 [] []) R (.int .i64 (0 : Int)) []) ((∃ ad6 : Addr, (some g) = some ad6 ∧ (∃ a8 : Option Addr, ∃ l8 : Nat, ∃ c8 : Nat, LoadsTo (cx w0 [] []) [] [] 23 (Addr.add ad6 4) (.slice a8 l8 c8) ∧ Fin (cx w0 [] []) R (.int .i64 ((l8 : Nat) : Int)) []))))
theorem q36_eq (w0 : World) (g : Addr) (R : Value → World → Prop) : funT (cx w0 [] []) Tryz.f36 an36 [.pointer (some g)] [] R = q36 w0 g R := by kernel_rfl
theorem d36 (W : World) (g : Addr) {R : Value → World → Prop} (h : q36 W g R) : Does Tryz.prog 36 [.pointer (some g)] W R :=
  does_of_T (fn := Tryz.f36) (x := an36) (dyn := []) (by kernel_rfl) (by kernel_rfl) (sep_self W) (Eq.mpr (q36_eq W g R) h)

theorem p36 (p : Addr) (g : Net) : On (LG p g) 36 [.pointer (some p)] (.int .i64 (g.A.length : Int)) := fun W ⟨hL, hG⟩ => by
  obtain ⟨kg, km, mo, ae, ce, ab, cb, aa, ca, al, cl, ap, cp, ft, rfl, h2, h3, h4, a1, a2, a3, a4, a5, h5⟩ := hG
  exact d36 W _ (cond_split (fun h => by cases h) fun _ => ⟨_, rfl, _, _, _, cell_at h2 4 (fun cs o => (ld127 cs o).2.1) rfl, fin_ext rfl⟩)


-- (*tarn/grid.Grid).Edges
def an37 : Ann := (.seq .leaf (.seq (.seq .leaf (.cond (.seq .leaf .leaf) .leaf)) (.seq .leaf .leaf)))
noncomputable def q37 (w0 : World) (g : Addr) (R : Value → World → Prop) : Prop :=
  (cond (Option.isNone (some g)) (Fin (cx w0 [] []) R (.int .i64 (0 : Int)) []) ((∃ ad6 : Addr, (some g) = some ad6 ∧ (∃ a8 : Option Addr, ∃ l8 : Nat, ∃ c8 : Nat, LoadsTo (cx w0 [] []) [] [] 124 (Addr.add ad6 1) (.slice a8 l8 c8) ∧ Fin (cx w0 [] []) R (.int .i64 ((l8 : Nat) : Int)) []))))
theorem q37_eq (w0 : World) (g : Addr) (R : Value → World → Prop) : funT (cx w0 [] []) Tryz.f37 an37 [.pointer (some g)] [] R = q37 w0 g R := by kernel_rfl
theorem d37 (W : World) (g : Addr) {R : Value → World → Prop} (h : q37 W g R) : Does Tryz.prog 37 [.pointer (some g)] W R :=
  does_of_T (fn := Tryz.f37) (x := an37) (dyn := []) (by kernel_rfl) (by kernel_rfl) (sep_self W) (Eq.mpr (q37_eq W g R) h)

theorem p37 (p : Addr) (g : Net) : On (LG p g) 37 [.pointer (some p)] (.int .i64 (g.E.length : Int)) := fun W ⟨hL, hG⟩ => by
  obtain ⟨kg, km, mo, ae, ce, ab, cb, aa, ca, al, cl, ap, cp, ft, rfl, h2, h3, h4, a1, a2, a3, a4, a5, h5⟩ := hG
  exact d37 W _ (cond_split (fun h => by cases h) fun _ => ⟨_, rfl, _, _, _, cell_at h2 1 (fun cs o => (ld127 cs o).2.2.2.1) rfl, fin_ext rfl⟩)


-- (*tarn/grid.Grid).Side
def an35 : Ann := (.seq .leaf (.seq (.seq .leaf (.cond (.seq .leaf .leaf) .leaf)) (.seq .leaf .leaf)))
noncomputable def q35 (w0 : World) (g : Addr) (R : Value → World → Prop) : Prop :=
  (cond (Option.isNone (some g)) (Fin (cx w0 [] []) R (.int .i64 (0 : Int)) []) ((∃ ad6 : Addr, (some g) = some ad6 ∧ (∃ n8 : Int, LoadsTo (cx w0 [] []) [] [] 3 (Addr.add ad6 0) (.int .i64 n8) ∧ Fin (cx w0 [] []) R (.int .i64 n8) []))))
theorem q35_eq (w0 : World) (g : Addr) (R : Value → World → Prop) : funT (cx w0 [] []) Tryz.f35 an35 [.pointer (some g)] [] R = q35 w0 g R := by kernel_rfl
theorem d35 (W : World) (g : Addr) {R : Value → World → Prop} (h : q35 W g R) : Does Tryz.prog 35 [.pointer (some g)] W R :=
  does_of_T (fn := Tryz.f35) (x := an35) (dyn := []) (by kernel_rfl) (by kernel_rfl) (sep_self W) (Eq.mpr (q35_eq W g R) h)

theorem p35 (p : Addr) (g : Net) : On (LG p g) 35 [.pointer (some p)] (.int .i64 g.n) := fun W ⟨hL, hG⟩ => by
  obtain ⟨kg, km, mo, ae, ce, ab, cb, aa, ca, al, cl, ap, cp, ft, rfl, h2, h3, h4, a1, a2, a3, a4, a5, h5⟩ := hG
  exact d35 W _ (cond_split (fun h => by cases h) fun _ => ⟨_, rfl, _, cell_at h2 0 ld3 rfl, fin_ext rfl⟩)


-- (*tarn/grid.Grid).is
def an113 : Ann := (.seq .leaf (.seq .leaf .leaf))
noncomputable def q113 (w0 : World) (g : Addr) (e : Int) (R : Value → World → Prop) : Prop :=
  (cond (!(Option.isNone (some g))) ((cond (decide (e ≥ (0 : Int))) ((∃ ad14 : Addr, (some g) = some ad14 ∧ (∃ a16 : Option Addr, ∃ l16 : Nat, ∃ c16 : Nat, LoadsTo (cx w0 [] []) [] [] 124 (Addr.add ad14 1) (.slice a16 l16 c16) ∧ Fin (cx w0 [] []) R (.bool (decide (e < ((l16 : Nat) : Int)))) []))) (Fin (cx w0 [] []) R (.bool false) []))) (Fin (cx w0 [] []) R (.bool false) []))
theorem q113_eq (w0 : World) (g : Addr) (e : Int) (R : Value → World → Prop) : funT (cx w0 [] []) Tryz.f113 an113 [.pointer (some g), .int .i64 e] [] R = q113 w0 g e R := by kernel_rfl
theorem d113 (W : World) (g : Addr) (e : Int) {R : Value → World → Prop} (h : q113 W g e R) : Does Tryz.prog 113 [.pointer (some g), .int .i64 e] W R :=
  does_of_T (fn := Tryz.f113) (x := an113) (dyn := []) (by kernel_rfl) (by kernel_rfl) (sep_self W) (Eq.mpr (q113_eq W g e R) h)

theorem p113 (p : Addr) (g : Net) (e : Int) : On (LG p g) 113 [.pointer (some p), .int .i64 e] (.bool (g.is e)) := fun W ⟨hL, hG⟩ => by
  obtain ⟨kg, km, mo, ae, ce, ab, cb, aa, ca, al, cl, ap, cp, ft, rfl, h2, h3, h4, a1, a2, a3, a4, a5, h5⟩ := hG
  refine d113 W _ e (cond_split (fun _ => cond_split (fun h => ⟨_, rfl, _, _, _, cell_at h2 1 (fun cs o => (ld127 cs o).2.2.2.1) rfl, fin_ext (by simp only [Net.is, h, cond_true])⟩) fun h => fin_ext (by simp only [Net.is, h, cond_false])) fun h => by cases h)


-- (*tarn/grid.Grid).Edge
def loc47_0 (k4 : Nat) : Tn.Loc := [⟨k4, 63, [.int .i64 0, .int .i64 0, .int .i64 0, .int .i64 0], []⟩]
def an47 : Ann := (.seq .leaf (.seq (.seq .leaf (.cond (.seq .leaf .leaf) .leaf)) (.seq .leaf .leaf)))
noncomputable def q47 (w0 : World) (g : Addr) (e : Int) (R : Value → World → Prop) : Prop :=
  (∀ k4 : Nat, (∃ b8 : Bool, CallV (cx w0 [] []) (loc47_0 k4) [] 113 [.pointer (some g), .int .i64 e] (.bool b8) ∧ (cond (!b8) (Fin (cx w0 [] []) R (.tuple ⟨[.agg ⟨[.int .i64 0, .int .i64 0, .int .i64 0, .int .i64 0]⟩, .bool false]⟩) []) ((∃ ad12 : Addr, (some g) = some ad12 ∧ (∃ a14 : Option Addr, ∃ l14 : Nat, ∃ c14 : Nat, LoadsTo (cx w0 [] []) (loc47_0 k4) [] 124 (Addr.add ad12 1) (.slice a14 l14 c14) ∧ (∃ ad16 : Addr, a14 = some ad16 ∧ (0 ≤ e ∧ e < ((l14 : Nat) : Int)) ∧ (∃ n17_0 : Int, ∃ n17_1 : Int, ∃ n17_2 : Int, ∃ n17_3 : Int, LoadsTo (cx w0 [] []) (loc47_0 k4) [] 63 (Addr.add ad16 (Int.toNat e * 4)) (.agg ⟨[.int .i64 n17_0, .int .i64 n17_1, .int .i64 n17_2, .int .i64 n17_3]⟩) ∧ Fin (cx w0 [] []) R (.tuple ⟨[.agg ⟨[.int .i64 n17_0, .int .i64 n17_1, .int .i64 n17_2, .int .i64 n17_3]⟩, .bool true]⟩) []))))))))
theorem q47_eq (w0 : World) (g : Addr) (e : Int) (R : Value → World → Prop) : funT (cx w0 [] []) Tryz.f47 an47 [.pointer (some g), .int .i64 e] [] R = q47 w0 g e R := by kernel_rfl
theorem d47 (W : World) (g : Addr) (e : Int) {R : Value → World → Prop} (h : q47 W g e R) : Does Tryz.prog 47 [.pointer (some g), .int .i64 e] W R :=
  does_of_T (fn := Tryz.f47) (x := an47) (dyn := []) (by kernel_rfl) (by kernel_rfl) (sep_self W) (Eq.mpr (q47_eq W g e R) h)

theorem p47 (p : Addr) (g : Net) (e : Int) : On (LG p g) 47 [.pointer (some p), .int .i64 e] (.tuple ⟨[.agg ⟨[.int .i64 (g.edge e).1, .int .i64 (g.edge e).2.1, .int .i64 (g.edge e).2.2.1, .int .i64 (g.edge e).2.2.2]⟩, .bool (g.is e)]⟩) := fun W hLG => by
  refine d47 W _ e fun k4 => ⟨_, (p113 p g e).callG hLG, cond_split (fun h => fin_ext ?_) fun h => ?_⟩
  · have h : g.is e = false := by simpa using h
    simp only [Net.edge, h, cond_false]
  · have h : g.is e = true := by simpa using h
    obtain ⟨hL, hG⟩ := hLG
    obtain ⟨kg, km, mo, ae, ce, ab, cb, aa, ca, al, cl, ap, cp, ft, rfl, h2, h3, h4, a1, a2, a3, a4, a5, h5⟩ := hG
    have hi := Net.is_iff.1 h
    obtain ⟨x, hx⟩ := getElem?_int hi.1 hi.2
    obtain ⟨ad, rfl⟩ := arr_addr a1 (eCells_get hx 0 (by omega))
    refine ⟨_, rfl, _, _, _, cell_at h2 1 (fun cs o => (ld127 cs o).2.2.2.1) rfl, _, rfl, hi, _, _, _, _, loads63 a1 rfl hx, fin_ext ?_⟩
    simp only [Net.edge, h, cond_true, List.getD_eq_getElem?_getD, hx, Option.getD_some]


-- (*tarn/grid.Grid).Behind
def an48 : Ann := (.seq .leaf (.seq (.seq .leaf (.cond (.seq .leaf .leaf) .leaf)) (.seq (.draw [0, 1, 2, 3, 4, 5, 6, 7, 8, 9, 10, 11, 12, 13, 14, 15, 16, 17, 18]) .leaf)))
noncomputable def q48 (w0 : World) (g : Addr) (e : Int) (R : Value → World → Prop) : Prop :=
  (∃ b9 : Bool, CallV (cx w0 [] []) [] [] 113 [.pointer (some g), .int .i64 e] (.bool b9) ∧ (cond (!b9) (Fin (cx w0 [] []) R (.tuple ⟨[.int .i64 (0 : Int), .int .i64 (0 : Int), .bool false]⟩) []) ((∃ ad12 : Addr, (some g) = some ad12 ∧ (∃ a14 : Option Addr, ∃ l14 : Nat, ∃ c14 : Nat, LoadsTo (cx w0 [] []) [] [] 125 (Addr.add ad12 3) (.slice a14 l14 c14) ∧ (∃ ad16 : Addr, a14 = some ad16 ∧ (0 ≤ e ∧ e < ((l14 : Nat) : Int)) ∧ (0 ≤ (0 : Int) ∧ (0 : Int) < ((2 : Nat) : Int)) ∧ (∃ n18 : Int, LoadsTo (cx w0 [] []) [] [] 3 (Addr.add (Addr.add ad16 (Int.toNat e * 2)) (Int.toNat (0 : Int) * 1)) (.int .i64 n18) ∧ (∃ ad20 : Addr, (some g) = some ad20 ∧ (∃ a22 : Option Addr, ∃ l22 : Nat, ∃ c22 : Nat, LoadsTo (cx w0 [] []) [] [] 125 (Addr.add ad20 3) (.slice a22 l22 c22) ∧ (∃ ad24 : Addr, a22 = some ad24 ∧ (0 ≤ e ∧ e < ((l22 : Nat) : Int)) ∧ (0 ≤ (1 : Int) ∧ (1 : Int) < ((2 : Nat) : Int)) ∧ (∃ n26 : Int, LoadsTo (cx w0 [] []) [] [] 3 (Addr.add (Addr.add ad24 (Int.toNat e * 2)) (Int.toNat (1 : Int) * 1)) (.int .i64 n26) ∧ Fin (cx w0 [] []) R (.tuple ⟨[.int .i64 n18, .int .i64 n26, .bool true]⟩) [])))))))))))
theorem q48_eq (w0 : World) (g : Addr) (e : Int) (R : Value → World → Prop) : funT (cx w0 [] []) Tryz.f48 an48 [.pointer (some g), .int .i64 e] [] R = q48 w0 g e R := by kernel_rfl
theorem d48 (W : World) (g : Addr) (e : Int) {R : Value → World → Prop} (h : q48 W g e R) : Does Tryz.prog 48 [.pointer (some g), .int .i64 e] W R :=
  does_of_T (fn := Tryz.f48) (x := an48) (dyn := []) (by kernel_rfl) (by kernel_rfl) (sep_self W) (Eq.mpr (q48_eq W g e R) h)

theorem p48 (p : Addr) (g : Net) (e : Int) : On (LG p g) 48 [.pointer (some p), .int .i64 e] (.tuple ⟨[.int .i64 (g.behind e).1, .int .i64 (g.behind e).2, .bool (g.is e)]⟩) := fun W hLG => by
  refine d48 W _ e ⟨_, (p113 p g e).callG hLG, cond_split (fun h => fin_ext ?_) fun h => ?_⟩
  · have h : g.is e = false := by simpa using h
    simp only [Net.behind, h, cond_false]
  · have h : g.is e = true := by simpa using h
    obtain ⟨hL, hG⟩ := hLG
    obtain ⟨kg, km, mo, ae, ce, ab, cb, aa, ca, al, cl, ap, cp, ft, rfl, h2, h3, h4, a1, a2, a3, a4, a5, h5⟩ := hG
    have hi := Net.is_iff.1 h
    rw [← h5.b] at hi
    obtain ⟨x, hx⟩ := getElem?_int hi.1 hi.2
    obtain ⟨ad, rfl⟩ := arr_addr a2 (pCells_get hx 0 (by omega))
    have ea : ∀ j, (ad.add (e.toNat * 2)).add j = ad.add (e.toNat * 2 + j) := fun j => by
      obtain ⟨b, o, e⟩ := arr_some a2 (i := e.toNat * 2 + 0) (by have := pCells_get hx 0 (by omega); rcases Nat.lt_or_ge (e.toNat * 2 + 0) (pCells g.B).length with h | h; exact h; rw [List.getElem?_eq_none h] at this; simp at this)
      cases e
      rw [Tn.add_none, Tn.add_none, Tn.add_none, Nat.add_assoc]
    refine ⟨_, rfl, _, _, _, cell_at h2 3 (fun cs o => (ld127 cs o).2.2.2.2) rfl, _, rfl, hi, by decide, _, (by rw [ea]; exact loads_arr a2 rfl (pCells_get hx 0 (by omega)) ld3), _, rfl, _, _, _, cell_at h2 3 (fun cs o => (ld127 cs o).2.2.2.2) rfl, _, rfl, hi, by decide, _, (by rw [ea]; exact loads_arr a2 rfl (pCells_get hx 1 (by omega)) ld3), fin_ext ?_⟩
    simp only [Net.behind, h, cond_true, List.getD_eq_getElem?_getD, hx, Option.getD_some]


-- (*tarn/grid.Grid).Length
def an50 : Ann := (.seq .leaf (.seq (.seq .leaf (.cond (.seq .leaf .leaf) .leaf)) (.seq .leaf .leaf)))
noncomputable def q50 (w0 : World) (g : Addr) (e : Int) (R : Value → World → Prop) : Prop :=
  (∃ b7 : Bool, CallV (cx w0 [] []) [] [] 113 [.pointer (some g), .int .i64 e] (.bool b7) ∧ (cond (!b7) (Fin (cx w0 [] []) R (.float .f64 0) []) ((∃ ad10 : Addr, (some g) = some ad10 ∧ (∃ a12 : Option Addr, ∃ l12 : Nat, ∃ c12 : Nat, LoadsTo (cx w0 [] []) [] [] 22 (Addr.add ad10 5) (.slice a12 l12 c12) ∧ (∃ ad14 : Addr, a12 = some ad14 ∧ (0 ≤ e ∧ e < ((l12 : Nat) : Int)) ∧ (∃ x15 : Nat, LoadsTo (cx w0 [] []) [] [] 44 (Addr.add ad14 (Int.toNat e * 1)) (.float .f64 x15) ∧ Fin (cx w0 [] []) R (.float .f64 x15) [])))))))
theorem q50_eq (w0 : World) (g : Addr) (e : Int) (R : Value → World → Prop) : funT (cx w0 [] []) Tryz.f50 an50 [.pointer (some g), .int .i64 e] [] R = q50 w0 g e R := by kernel_rfl
theorem d50 (W : World) (g : Addr) (e : Int) {R : Value → World → Prop} (h : q50 W g e R) : Does Tryz.prog 50 [.pointer (some g), .int .i64 e] W R :=
  does_of_T (fn := Tryz.f50) (x := an50) (dyn := []) (by kernel_rfl) (by kernel_rfl) (sep_self W) (Eq.mpr (q50_eq W g e R) h)

theorem fCells_get {A : List Nat} {k : Nat} {x : Nat} (h : A[k]? = some x) : (fCells A)[k]? = some (.float .f64 x) := by rw [fCells, List.getElem?_map, h]; rfl
theorem iCells_get {A : List Int} {k : Nat} {x : Int} (h : A[k]? = some x) : (iCells A)[k]? = some (.int .i64 x) := by rw [iCells, List.getElem?_map, h]; rfl
theorem p50 (p : Addr) (g : Net) (e : Int) : On (LG p g) 50 [.pointer (some p), .int .i64 e] (.float .f64 (g.len e)) := fun W hLG => by
  refine d50 W _ e ⟨_, (p113 p g e).callG hLG, cond_split (fun h => fin_ext ?_) fun h => ?_⟩
  · have h : g.is e = false := by simpa using h
    simp only [Net.len, h, cond_false]
  · have h : g.is e = true := by simpa using h
    obtain ⟨hL, hG⟩ := hLG
    obtain ⟨kg, km, mo, ae, ce, ab, cb, aa, ca, al, cl, ap, cp, ft, rfl, h2, h3, h4, a1, a2, a3, a4, a5, h5⟩ := hG
    have hi := Net.is_iff.1 h
    rw [← h5.l] at hi
    obtain ⟨x, hx⟩ := getElem?_int hi.1 hi.2
    obtain ⟨ad, rfl⟩ := arr_addr a4 (fCells_get hx)
    refine ⟨_, rfl, _, _, _, cell_at h2 5 (fun cs o => (ld127 cs o).1) rfl, _, rfl, hi, _, (by rw [Nat.mul_one]; exact loads_arr a4 rfl (fCells_get hx) ld44), fin_ext ?_⟩
    simp only [Net.len, h, cond_true, List.getD_eq_getElem?_getD, hx, Option.getD_some]


-- (*tarn/grid.Grid).Area
def an74 : Ann := (.seq .leaf (.seq (.seq .leaf (.cond (.seq .leaf .leaf) .leaf)) (.seq .leaf .leaf)))
noncomputable def q74 (w0 : World) (g : Addr) (cell : Int) (R : Value → World → Prop) : Prop :=
  (cond (Option.isNone (some g)) (Fin (cx w0 [] []) R (.int .i64 (0 : Int)) []) ((cond (decide (cell < (0 : Int))) (Fin (cx w0 [] []) R (.int .i64 (0 : Int)) []) ((∃ ad14 : Addr, (some g) = some ad14 ∧ (∃ a16 : Option Addr, ∃ l16 : Nat, ∃ c16 : Nat, LoadsTo (cx w0 [] []) [] [] 23 (Addr.add ad14 4) (.slice a16 l16 c16) ∧ (cond (decide (cell ≥ ((l16 : Nat) : Int))) (Fin (cx w0 [] []) R (.int .i64 (0 : Int)) []) ((∃ ad21 : Addr, (some g) = some ad21 ∧ (∃ a23 : Option Addr, ∃ l23 : Nat, ∃ c23 : Nat, LoadsTo (cx w0 [] []) [] [] 23 (Addr.add ad21 4) (.slice a23 l23 c23) ∧ (∃ ad25 : Addr, a23 = some ad25 ∧ (0 ≤ cell ∧ cell < ((l23 : Nat) : Int)) ∧ (∃ n26 : Int, LoadsTo (cx w0 [] []) [] [] 2 (Addr.add ad25 (Int.toNat cell * 1)) (.int .i64 n26) ∧ Fin (cx w0 [] []) R (.int .i64 n26) []))))))))))))
theorem q74_eq (w0 : World) (g : Addr) (cell : Int) (R : Value → World → Prop) : funT (cx w0 [] []) Tryz.f74 an74 [.pointer (some g), .int .i64 cell] [] R = q74 w0 g cell R := by kernel_rfl
theorem d74 (W : World) (g : Addr) (cell : Int) {R : Value → World → Prop} (h : q74 W g cell R) : Does Tryz.prog 74 [.pointer (some g), .int .i64 cell] W R :=
  does_of_T (fn := Tryz.f74) (x := an74) (dyn := []) (by kernel_rfl) (by kernel_rfl) (sep_self W) (Eq.mpr (q74_eq W g cell R) h)

theorem p74 (p : Addr) (g : Net) (c : Int) : On (LG p g) 74 [.pointer (some p), .int .i64 c] (.int .i64 (g.area c)) := fun W ⟨hL, hG⟩ => by
  obtain ⟨kg, km, mo, ae, ce, ab, cb, aa, ca, al, cl, ap, cp, ft, rfl, h2, h3, h4, a1, a2, a3, a4, a5, h5⟩ := hG
  refine d74 W _ c (cond_split (fun h => by cases h) fun _ => cond_split (fun h => fin_ext (by simp only [Net.area, h, cond_true])) fun h => ⟨_, rfl, _, _, _, cell_at h2 4 (fun cs o => (ld127 cs o).2.1) rfl, cond_split (fun h' => fin_ext (by simp only [Net.area, h, h', cond_true, cond_false])) fun h' => ?_⟩)
  have hi : 0 ≤ c ∧ c < (g.A.length : Int) := by have := of_decide_eq_false h; have := of_decide_eq_false h'; omega
  obtain ⟨x, hx⟩ := getElem?_int hi.1 hi.2
  obtain ⟨ad, rfl⟩ := arr_addr a3 (iCells_get hx)
  refine ⟨_, rfl, _, _, _, cell_at h2 4 (fun cs o => (ld127 cs o).2.1) rfl, _, rfl, hi, _, (by rw [Nat.mul_one]; exact loads_arr a3 rfl (iCells_get hx) ld2), fin_ext ?_⟩
  simp only [Net.area, h, h', cond_false, List.getD_eq_getElem?_getD, hx, Option.getD_some]


-- (*tarn/grid.Grid).Around
def an56 : Ann := (.seq .leaf (.seq (.seq .leaf (.cond (.seq .leaf .leaf) .leaf)) (.seq .leaf (.seq (.block (.seq .leaf (.cond (.seq .leaf .leaf) (.seq .leaf (.cond (.seq .leaf .leaf) .leaf))))) (.seq .leaf .leaf)))))
noncomputable def q56 (w0 : World) (g : Addr) (cell : Int) (over : Int) (R : Value → World → Prop) : Prop :=
  (cond (Option.isNone (some g)) (Fin (cx w0 [] []) R (.tuple ⟨[.int .i64 (0 : Int), .int .i64 (0 : Int)]⟩) []) ((∃ ad14 : Addr, (some g) = some ad14 ∧ (∃ m16 : Option Nat, LoadsTo (cx w0 [] []) [] [] 123 (Addr.add ad14 2) (.map m16) ∧ (∃ n20a : Int, ∃ b20b : Bool, OpV (cx w0 [] []) [] [] (Instr.lookup 123 (.map m16) (.agg ⟨[.int .i64 cell, .int .i64 over]⟩) true) (.tuple ⟨[.int .i64 n20a, .bool b20b]⟩) ∧ (cond (!b20b) (Fin (cx w0 [] []) R (.tuple ⟨[.int .i64 (0 : Int), .int .i64 (0 : Int)]⟩) []) ((∃ ad28 : Addr, (some g) = some ad28 ∧ (∃ a30 : Option Addr, ∃ l30 : Nat, ∃ c30 : Nat, LoadsTo (cx w0 [] []) [] [] 124 (Addr.add ad28 1) (.slice a30 l30 c30) ∧ (∃ ad32 : Addr, a30 = some ad32 ∧ (0 ≤ n20a ∧ n20a < ((l30 : Nat) : Int)) ∧ (∃ n34 : Int, LoadsTo (cx w0 [] []) [] [] 3 (Addr.add (Addr.add ad32 (Int.toNat n20a * 4)) 0) (.int .i64 n34) ∧ (cond (n34 == cell) (Fin (cx w0 [] []) R (.tuple ⟨[.int .i64 n20a, .int .i64 (1 : Int)]⟩) []) (Fin (cx w0 [] []) R (.tuple ⟨[.int .i64 n20a, .int .i64 ((-1) : Int)]⟩) [])))))))))))))
theorem q56_eq (w0 : World) (g : Addr) (cell : Int) (over : Int) (R : Value → World → Prop) : funT (cx w0 [] []) Tryz.f56 an56 [.pointer (some g), .int .i64 cell, .int .i64 over] [] R = q56 w0 g cell over R := by kernel_rfl
theorem d56 (W : World) (g : Addr) (cell : Int) (over : Int) {R : Value → World → Prop} (h : q56 W g cell over R) : Does Tryz.prog 56 [.pointer (some g), .int .i64 cell, .int .i64 over] W R :=
  does_of_T (fn := Tryz.f56) (x := an56) (dyn := []) (by kernel_rfl) (by kernel_rfl) (sep_self W) (Eq.mpr (q56_eq W g cell over R) h)

theorem findP_mem {k : Int × Int} {l : PM} {i j : Nat} {n : Int} (h : findP k l i = some (j, n)) : ∃ q ∈ l, q.2 = n := by
  obtain ⟨_, h2⟩ := findP_le h
  exact ⟨(k, n), List.mem_of_getElem? h2, rfl⟩
theorem p56 (p : Addr) (g : Net) (c o : Int) : On (LG p g) 56 [.pointer (some p), .int .i64 c, .int .i64 o] (.tuple ⟨[.int .i64 (g.around c o).1, .int .i64 (g.around c o).2]⟩) := fun W ⟨hL, hG⟩ => by
  obtain ⟨kg, km, mo, ae, ce, ab, cb, aa, ca, al, cl, ap, cp, ft, rfl, h2, h3, h4, a1, a2, a3, a4, a5, h5⟩ := hG
  refine d56 W _ c o (cond_split (fun h => by cases h) fun _ => ⟨_, rfl, _, cell_at h2 2 (fun cs o => (ld127 cs o).2.2.1) rfl, _, _, look_map (mt := []) (fun W' hS => by rw [hS.keep _ (lt_of_heap h3) List.not_mem_nil]; exact h3) h4 (c, o), ?_⟩)
  unfold Net.around
  cases hf : findP (c, o) g.M 0 with
  | none => exact cond_split (fun _ => fin_ext rfl) fun h => by cases h
  | some q =>
    obtain ⟨i, n⟩ := q
    obtain ⟨q, hq, rfl⟩ := findP_mem hf
    have hi := h5.m q hq
    refine cond_split (fun h => by cases h) fun _ => ?_
    obtain ⟨x, hx⟩ := getElem?_int hi.1 hi.2
    obtain ⟨ad, rfl⟩ := arr_addr a1 (eCells_get hx 0 (by omega))
    refine ⟨_, rfl, _, _, _, cell_at h2 1 (fun cs o => (ld127 cs o).2.2.2.1) rfl, _, rfl, hi, x.1, ?_, ?_⟩
    · have ea : ∀ j, (ad.add (q.2.toNat * 4)).add j = ad.add (q.2.toNat * 4 + j) := fun j => by
        obtain ⟨b, o, e⟩ := arr_some a1 (i := q.2.toNat * 4 + 0) (by have := eCells_get hx 0 (by omega); rcases Nat.lt_or_ge (q.2.toNat * 4 + 0) (eCells g.E).length with h | h; exact h; rw [List.getElem?_eq_none h] at this; simp at this)
        cases e
        rw [Tn.add_none, Tn.add_none, Tn.add_none, Nat.add_assoc]
      show LoadsTo _ _ _ 3 ((ad.add (q.2.toNat * 4)).add 0) _
      rw [ea]
      exact loads_arr a1 rfl (eCells_get hx 0 (by omega)) ld3
    · have e : (g.E.getD q.2.toNat (0, 0, 0, 0)).1 = x.1 := by rw [List.getD_eq_getElem?_getD, hx]; rfl
      show cond (x.1 == c) _ _
      simp only [e]
      exact cond_split (fun h => fin_ext (by rw [h]; rfl)) fun h => fin_ext (by rw [h]; rfl)


end Go.Proofs.YtnljcdplcloedaaGreatDoor
end
section
namespace Go.Proofs.YtnljcdplcloedaaGreatDoor
open Go Go.Tn Go.RowKit
set_option linter.unusedVariables false
set_option linter.unusedSimpArgs false
set_option maxRecDepth 100000
set_option maxHeartbeats 2000000

theorem cond_pick {α : Type} {b : Bool} {x y z : α} (h1 : b = true → x = z) (h2 : b = false → y = z) : cond b x y = z := by cases b; exact h2 rfl; exact h1 rfl
theorem s125_in {n f i j : Int} (hs : Side n) (hf : 0 ≤ f ∧ f < 6) (hi : 0 ≤ i ∧ i < n) (hj : 0 ≤ j ∧ j < n) : s125 n f i j = (f * n + j) * n + i ∧ 0 ≤ (f * n + j) * n + i ∧ (f * n + j) * n + i < 6 * (n * n) := by
  have hq := side_sq hs
  have h1 : 0 ≤ f * n := Int.mul_nonneg hf.1 (by omega)
  have h2 : f * n ≤ 5 * n := Int.mul_le_mul_of_nonneg_right (by omega) (by omega)
  have h3 : 0 ≤ (f * n + j) * n := Int.mul_nonneg (by omega) (by omega)
  have h4 : (f * n + j) * n ≤ (6 * n - 1) * n := Int.mul_le_mul_of_nonneg_right (by omega) (by omega)
  rw [Int.sub_mul, Int.mul_assoc] at h4
  have h5 : n * n ≤ 1024 := by omega
  refine ⟨?_, by omega, by omega⟩
  unfold s125
  rw [s175_eq, decide_eq_true hs, decide_eq_false (by omega), decide_eq_false (by omega), decide_eq_false (by omega), decide_eq_false (by omega), decide_eq_false (by omega), decide_eq_false (by omega)]
  simp only [Bool.not_true, cond_false]
  unfold Side at hs
  rw [wi (f * n) (by omega), wi (f * n + j) (by omega), wi ((f * n + j) * n) (by omega), wi _ (by omega)]
theorem s125_out {n f i j : Int} (h : ¬ (Side n ∧ (0 ≤ f ∧ f < 6) ∧ (0 ≤ i ∧ i < n) ∧ 0 ≤ j ∧ j < n)) : s125 n f i j = -1 := by
  unfold s125
  rw [s175_eq]
  refine cond_pick (fun h0 => rfl) fun h0 => cond_pick (fun h1 => rfl) fun h1 => cond_pick (fun h2 => rfl) fun h2 => cond_pick (fun h3 => rfl) fun h3 => cond_pick (fun h4 => rfl) fun h4 => cond_pick (fun h5 => rfl) fun h5 => cond_pick (fun h6 => rfl) fun h6 => ?_
  have h0 : Side n := by simpa using h0
  have h1 := of_decide_eq_false h1
  have h2 := of_decide_eq_false h2
  have h3 := of_decide_eq_false h3
  have h4 := of_decide_eq_false h4
  have h5 := of_decide_eq_false h5
  have h6 := of_decide_eq_false h6
  exact (h ⟨h0, by omega, by omega, by omega⟩).elim
theorem s126_in {n a : Int} (hs : Side n) (ha : -1000000 ≤ a ∧ a ≤ 1000000) : s126 n a = min (max ((a + n - 1).tdiv 2) 0) (n - 1) := by
  unfold Side at hs
  unfold s126
  have ht := Int.natAbs_tdiv_le_natAbs (a + n - 1) 2
  rw [wi (n - 1) (by omega), wi (a + n) (by omega), wi (a + n - 1) (by omega), wi ((a + n - 1).tdiv 2) (by omega)]
  generalize (a + n - 1).tdiv 2 = t
  split <;> split <;> omega
theorem s126_range {n a : Int} (hs : Side n) : 0 ≤ s126 n a ∧ s126 n a < n := by
  unfold Side at hs
  unfold s126
  rw [wi (n - 1) (by omega)]
  generalize IntKind.wrap .i64 (Int.tdiv (IntKind.wrap .i64 ((IntKind.wrap .i64 (a + n)) - (1 : Int))) (2 : Int)) = t
  split <;> split <;> omega
theorem back_ok {f o : Int} (hf : 0 ≤ f ∧ f < 6) (ho : 0 ≤ o ∧ o < 4) : ∃ s, backFrom (toF f o) f 4 = some s ∧ 0 ≤ s ∧ s < 4 := by
  rcases face_cases hf with rfl | rfl | rfl | rfl | rfl | rfl <;> rcases four_cases ho with rfl | rfl | rfl | rfl <;> exact ⟨_, rfl, by decide, by decide⟩
theorem place_in {n c : Int} (hs : Side n) (h0 : 0 ≤ c) (h1 : c < 6 * (n * n)) : (0 ≤ c / (n * n) ∧ c / (n * n) < 6) ∧ (0 ≤ c % n ∧ c % n < n) ∧ 0 ≤ c / n % n ∧ c / n % n < n := by
  have hq := side_sq hs
  unfold Side at hs
  exact ⟨⟨Int.ediv_nonneg h0 (by omega), Int.ediv_lt_of_lt_mul (by omega) h1⟩, ⟨Int.emod_nonneg _ (by omega), Int.emod_lt_of_pos _ (by omega)⟩, Int.emod_nonneg _ (by omega), Int.emod_lt_of_pos _ (by omega)⟩
theorem s98_range {n c o : Int} (hs : Side n) (h0 : 0 ≤ c) (h1 : c < 6 * (n * n)) (ho : 0 ≤ o ∧ o < 4) : (0 ≤ (s98 n c o).1 ∧ (s98 n c o).1 < 6 * (n * n)) ∧ 0 ≤ (s98 n c o).2 ∧ (s98 n c o).2 < 4 := by
  obtain ⟨hf, hi, hj⟩ := place_in hs h0 h1
  unfold s98
  rw [s120_in hs h0 h1]
  simp only [Bool.not_true, cond_false]
  rw [decide_eq_false (by omega), decide_eq_false (by omega), cond_false, cond_false]
  have hn := hs
  unfold Side at hn
  have e1 : IntKind.wrap .i64 (c % n + stI o) = c % n + stI o := wi _ (by rcases four_cases ho with rfl | rfl | rfl | rfl <;> simp [stI] <;> omega)
  have e2 : IntKind.wrap .i64 (c / n % n + stJ o) = c / n % n + stJ o := wi _ (by rcases four_cases ho with rfl | rfl | rfl | rfl <;> simp [stJ] <;> omega)
  rw [e1, e2]
  by_cases hin : (0 ≤ c % n + stI o ∧ c % n + stI o < n) ∧ 0 ≤ c / n % n + stJ o ∧ c / n % n + stJ o < n
  · obtain ⟨q1, q2, q3⟩ := s125_in hs hf hin.1 hin.2
    rw [q1, decide_eq_true (by omega), cond_true]
    refine ⟨⟨q2, q3⟩, ?_⟩
    show 0 ≤ Int.tmod (IntKind.wrap .i64 (o + 2)) 4 ∧ Int.tmod (IntKind.wrap .i64 (o + 2)) 4 < 4
    rcases four_cases ho with rfl | rfl | rfl | rfl <;> decide
  · rw [s125_out (fun h => hin h.2.2), decide_eq_false (by omega), cond_false]
    obtain ⟨s, hb, hs4⟩ := back_ok hf ho
    unfold overE
    simp only [hb]
    obtain ⟨q1, q2, q3⟩ := s125_in hs (toF_ok hf ho) (s126_range (a := s127 _ _ _ (fR (toF (c / (n * n)) o) 3) (fR (toF (c / (n * n)) o) 4) (fR (toF (c / (n * n)) o) 5)) hs) (s126_range (a := s127 _ _ _ (fR (toF (c / (n * n)) o) 6) (fR (toF (c / (n * n)) o) 7) (fR (toF (c / (n * n)) o) 8)) hs)
    rw [q1]
    exact ⟨⟨q2, q3⟩, hs4⟩
/-- what is known of each edge and of the map -/
structure EOk (n : Int) (st : EdgeL × PM) : Prop where
  e : ∀ x ∈ st.1, (0 ≤ x.1 ∧ x.1 < 6 * (n * n)) ∧ (0 ≤ x.2.1 ∧ x.2.1 < 4) ∧ (0 ≤ x.2.2.1 ∧ x.2.2.1 < 6 * (n * n)) ∧ 0 ≤ x.2.2.2 ∧ x.2.2.2 < 4
  m : ∀ q ∈ st.2, 0 ≤ q.2 ∧ q.2 < (st.1.length : Int)
theorem updP_mem {l : PM} {k : Int × Int} {v : Int} {q : (Int × Int) × Int} (h : q ∈ updP l k v) : q = (k, v) ∨ q ∈ l := by
  unfold updP at h
  split at h
  · rename_i i v' _
    rcases List.mem_or_eq_of_mem_set h with h | h
    · exact .inr h
    · exact .inl h
  · rcases List.mem_append.1 h with h | h
    · exact .inr h
    · exact .inl (by simpa using h)
theorem eStep_ok {n c s : Int} (hs : Side n) (h0 : 0 ≤ c) (h1 : c < 6 * (n * n)) (ho : 0 ≤ s ∧ s < 4) {st : EdgeL × PM} (h : EOk n st) : EOk n (eStep n c s st) := by
  unfold eStep
  cases decide (c > (s98 n c s).1)
  · rw [cond_false]
    obtain ⟨r1, r2⟩ := s98_range hs h0 h1 ho
    constructor
    · intro x hx
      rcases List.mem_append.1 hx with hx | hx
      · exact h.e x hx
      · simp only [List.mem_singleton] at hx
        subst hx
        exact ⟨⟨h0, h1⟩, ho, r1, r2⟩
    · intro q hq
      simp only [List.length_append, List.length_cons, List.length_nil]
      rcases updP_mem hq with rfl | hq
      · exact ⟨by simp only; omega, by simp only; omega⟩
      · rcases updP_mem hq with rfl | hq
        · exact ⟨by simp only; omega, by simp only; omega⟩
        · have := h.m q hq; omega
  · rw [cond_true]; exact h
theorem eUp_ok {n c : Int} (hs : Side n) (h0 : 0 ≤ c) (h1 : c < 6 * (n * n)) {st : EdgeL × PM} (h : EOk n st) (j : Nat) (hj : j ≤ 4) : EOk n (eUp n c j st) := by
  induction j with
  | zero => exact h
  | succ j ih => exact eStep_ok hs h0 h1 (by omega) (ih (by omega))
theorem eAll_ok {n : Int} (hs : Side n) (k : Nat) (hk : k ≤ cellsN n) : EOk n (eAll n k) := by
  induction k with
  | zero => exact ⟨fun x hx => (by cases hx), fun x hx => (by cases hx)⟩
  | succ k ih =>
    have := (cellsN_le hs).2
    exact eUp_ok hs (by omega) (by omega) (ih (by omega)) 4 (Nat.le_refl _)
theorem netOf_ok {n : Int} (hs : Side n) : GOk (netOf n) := by
  have hE := eAll_ok hs (cellsN n) (Nat.le_refl _)
  have hN := (cellsN_le hs).2
  refine ⟨by simp [netOf], by simp [netOf], by simp [netOf], hE.m, ?_, ?_, fun x hx => ?_, fun x hx => ?_⟩
  · have h1 := eAll_len n (cellsN n)
    have h2 := (cellsN_le hs).1
    show (eAll n (cellsN n)).1.length ≤ 100000
    omega
  · show (areasN n (cellsN n)).length ≤ 100000
    rw [areasN_len]; have h2 := (cellsN_le hs).1; omega
  · have h := hE.e x hx
    have hl : ((netOf n).A.length : Int) = 6 * (n * n) := by show ((areasN n (cellsN n)).length : Int) = _; rw [areasN_len, hN]
    rw [hl]
    exact ⟨h.1, h.2.2.1⟩
  · have hl : ((netOf n).A.length : Int) = 6 * (n * n) := by show ((areasN n (cellsN n)).length : Int) = _; rw [areasN_len, hN]
    rw [hl]
    obtain ⟨e, he, rfl⟩ := List.mem_map.1 hx
    obtain ⟨a, b, c, d⟩ := hE.e e he
    have t1 : ∀ s : Int, 0 ≤ s ∧ s < 4 → 0 ≤ Int.tmod (IntKind.wrap .i64 (s + 2)) 4 ∧ Int.tmod (IntKind.wrap .i64 (s + 2)) 4 < 4 := fun s hs => by
      rcases four_cases hs with rfl | rfl | rfl | rfl <;> decide
    exact ⟨(s98_range hs a.1 a.2 (t1 _ b)).1, (s98_range hs c.1 c.2 (t1 _ d)).1⟩

end Go.Proofs.YtnljcdplcloedaaGreatDoor
end
section
namespace Go.Proofs.YtnljcdplcloedaaGreatDoor
open Go Go.Tn Go.RowKit
set_option linter.unusedVariables false
set_option linter.unusedSimpArgs false
set_option maxRecDepth 100000
set_option maxHeartbeats 2000000
-- tarn/limit.Valid
def an94 : Ann := (.seq .leaf (.seq .leaf .leaf))
noncomputable def q94 (w0 : World) (kind : Int) (R : Value → World → Prop) : Prop :=
  (cond (decide (kind ≥ (0 : Int))) (Fin (cx w0 [] []) R (.bool (decide (kind ≤ (3 : Int)))) []) (Fin (cx w0 [] []) R (.bool false) []))
theorem q94_eq (w0 : World) (kind : Int) (R : Value → World → Prop) : funT (cx w0 [] []) Tryz.f94 an94 [.int .i64 kind] [] R = q94 w0 kind R := by kernel_rfl
theorem d94 (W : World) (kind : Int) {R : Value → World → Prop} (h : q94 W kind R) : Does Tryz.prog 94 [.int .i64 kind] W R :=
  does_of_T (fn := Tryz.f94) (x := an94) (dyn := []) (by kernel_rfl) (by kernel_rfl) (sep_self W) (Eq.mpr (q94_eq W kind R) h)
def s94 (kind : Int) : Bool := (cond (decide (kind ≥ (0 : Int))) (decide (kind ≤ (3 : Int))) false)
theorem p94 (kind : Int) : Pu 94 [.int .i64 kind] (.bool (s94 kind)) := fun W hL => d94 W kind (cond_split (fun h1 => fin_ext (by first | (unfold s94; simp only [h1, cond_true, cond_false]; done) | (exfalso; simp_all; done) | (unfold s94; simp [h1, cond_true, cond_false]; done))) (fun h1 => fin_ext (by first | (unfold s94; simp only [h1, cond_true, cond_false]; done) | (exfalso; simp_all; done) | (unfold s94; simp [h1, cond_true, cond_false]; done))))

-- tarn/limit.limiters$1
def an250 : Ann := (.seq .leaf (.seq .leaf .leaf))
noncomputable def q250 (w0 : World) (a0 : Nat) (a1 : Nat) (R : Value → World → Prop) : Prop :=
  Fin (cx w0 [] []) R (.float .f64 0) []
theorem q250_eq (w0 : World) (a0 : Nat) (a1 : Nat) (R : Value → World → Prop) : funT (cx w0 [] []) Tryz.f250 an250 [.float .f64 a0, .float .f64 a1] [] R = q250 w0 a0 a1 R := by kernel_rfl
theorem d250 (W : World) (a0 : Nat) (a1 : Nat) {R : Value → World → Prop} (h : q250 W a0 a1 R) : Does Tryz.prog 250 [.float .f64 a0, .float .f64 a1] W R :=
  does_of_T (fn := Tryz.f250) (x := an250) (dyn := []) (by kernel_rfl) (by kernel_rfl) (sep_self W) (Eq.mpr (q250_eq W a0 a1 R) h)

/-- no slope (told so that the kernel does not reckon with it) -/
def s250 (a b : Nat) : Nat := cond (Nat.beq a b) 0 0
theorem s250_eq (a b : Nat) : s250 a b = 0 := by unfold s250; cases Nat.beq a b <;> rfl
theorem p250 (a b : Nat) : Pu 250 [.float .f64 a, .float .f64 b] (.float .f64 (s250 a b)) := fun W hL => d250 W a b (fin_ext (by rw [s250_eq]))



theorem nan_neq {r : Nat} (h : Nn r) : (f64.order r r != some .eq) = true := by rw [nan_order h]; rfl
theorem nan118_0 {r : Nat} (h : Nn r) (y : Nat) : s118 r y = s199 := by
  unfold s118; rw [nan_neq h, cond_true]
theorem nan118_1 {r : Nat} (h : Nn r) (y : Nat) : s118 y r = s199 := by
  unfold s118; rw [nan_neq h]; cases (f64.order y y != some .eq) <;> rfl
theorem c118_0 {o : Option Nat} {r : Nat} (h : FRes o r) {y : Nat} : s118 r y = s118 (fr o) y := by
  rcases fres_cases h with e | ⟨e, e'⟩
  · rw [← e]
  · rw [nan118_0 e, nan118_0 e']
theorem c118_1 {o : Option Nat} {r : Nat} (h : FRes o r) {y : Nat} : s118 y r = s118 y (fr o) := by
  rcases fres_cases h with e | ⟨e, e'⟩
  · rw [← e]
  · rw [nan118_1 e, nan118_1 e']

-- tarn/limit.limiters$2
def an251 : Ann := (.seq .leaf (.seq .leaf .leaf))
noncomputable def q251 (w0 : World) (a : Nat) (b : Nat) (R : Value → World → Prop) : Prop :=
  (∀ r6 : Nat, FRes (f64.mul 4611686018427387904 a) r6 → (∃ x8 : Nat, CallV (cx w0 [] []) [] [] 118 [.float .f64 r6, .float .f64 b] (.float .f64 x8) ∧ (∀ r11 : Nat, FRes (f64.mul 4611686018427387904 b) r11 → (∃ x12 : Nat, CallV (cx w0 [] []) [] [] 118 [.float .f64 a, .float .f64 r11] (.float .f64 x12) ∧ (∃ x13 : Nat, CallV (cx w0 [] []) [] [] 117 [.float .f64 x8, .float .f64 x12] (.float .f64 x13) ∧ Fin (cx w0 [] []) R (.float .f64 x13) [])))))
theorem q251_eq (w0 : World) (a : Nat) (b : Nat) (R : Value → World → Prop) : funT (cx w0 [] []) Tryz.f251 an251 [.float .f64 a, .float .f64 b] [] R = q251 w0 a b R := by kernel_rfl
theorem d251 (W : World) (a : Nat) (b : Nat) {R : Value → World → Prop} (h : q251 W a b R) : Does Tryz.prog 251 [.float .f64 a, .float .f64 b] W R :=
  does_of_T (fn := Tryz.f251) (x := an251) (dyn := []) (by kernel_rfl) (by kernel_rfl) (sep_self W) (Eq.mpr (q251_eq W a b R) h)
def s251 (a : Nat) (b : Nat) : Nat := (s117 (s118 (fr (f64.mul 4611686018427387904 a)) b) (s118 a (fr (f64.mul 4611686018427387904 b))))
theorem p251 (a : Nat) (b : Nat) : Pu 251 [.float .f64 a, .float .f64 b] (.float .f64 (s251 a b)) := fun W hL => d251 W a b (fun _ r1 => ⟨_, (p118 _ _).callL hL, fun _ r2 => ⟨_, (p118 _ _).callL hL, ⟨_, (p117 _ _).callL hL, fin_ext (by first | (unfold s251; simp only [c118_1 r2, c118_0 r1, cond_true, cond_false]; done) | (exfalso; simp_all; done) | (unfold s251; simp [c118_1 r2, c118_0 r1, cond_true, cond_false]; done))⟩⟩⟩)

-- tarn/limit.limiters$3
def an252 : Ann := (.seq .leaf (.seq .leaf (.seq (.seq .leaf (.cond (.seq .leaf .leaf) .leaf)) (.seq .leaf .leaf))))
noncomputable def q252 (w0 : World) (a : Nat) (b : Nat) (R : Value → World → Prop) : Prop :=
  (∀ r7 : Nat, FRes (f64.mul 4611686018427387904 a) r7 → (∀ r9 : Nat, FRes (f64.mul r7 b) r9 → (∀ r12 : Nat, FRes (f64.add a b) r12 → (∀ r13 : Nat, FRes (f64.div r9 r12) r13 → (cond (f64.order r13 r13 != some .eq) (Fin (cx w0 [] []) R (.float .f64 0) []) ((∃ b19 : Bool, CallV (cx w0 [] []) [] [] 253 [.float .f64 r13, .int .i64 (0 : Int)] (.bool b19) ∧ (cond b19 (Fin (cx w0 [] []) R (.float .f64 0) []) (Fin (cx w0 [] []) R (.float .f64 r13) [])))))))))
theorem q252_eq (w0 : World) (a : Nat) (b : Nat) (R : Value → World → Prop) : funT (cx w0 [] []) Tryz.f252 an252 [.float .f64 a, .float .f64 b] [] R = q252 w0 a b R := by kernel_rfl
theorem d252 (W : World) (a : Nat) (b : Nat) {R : Value → World → Prop} (h : q252 W a b R) : Does Tryz.prog 252 [.float .f64 a, .float .f64 b] W R :=
  does_of_T (fn := Tryz.f252) (x := an252) (dyn := []) (by kernel_rfl) (by kernel_rfl) (sep_self W) (Eq.mpr (q252_eq W a b R) h)

/-- the slope of Leer's -/
def s252 (a b : Nat) : Nat :=
  let q := fr (f64.div (fr (f64.mul (fr (f64.mul 4611686018427387904 a)) b)) (fr (f64.add a b)))
  cond (f64.order q q != some .eq) 0 (cond (s253 q 0) 0 q)
theorem p252 (a b : Nat) : Pu 252 [.float .f64 a, .float .f64 b] (.float .f64 (s252 a b)) := fun W hL => d252 W a b fun r1 h1 r2 h2 r3 h3 r4 h4 => by
  rw [fm1 h1] at h2
  rw [fd1 h2, fd2 h3] at h4
  unfold s252
  generalize f64.div (fr (f64.mul (fr (f64.mul 4611686018427387904 a)) b)) (fr (f64.add a b)) = Q at h4
  rcases fres_cases h4 with rfl | ⟨e, e2⟩
  · exact cond_split (fun h => fin_ext (by simp only [h, cond_true])) fun h => ⟨_, (p253 _ _).callL hL, cond_split (fun h5 => fin_ext (by simp only [h, h5, cond_true, cond_false])) fun h5 => fin_ext (by simp only [h, h5, cond_false])⟩
  · exact cond_split (fun h => fin_ext (by simp only [nan_neq e2, cond_true])) fun h => by rw [nan_neq e] at h; cases h



theorem ld218 {w0 : World} {mt dyn : List Nat} (cs : List Value) (o : Nat) : loadL (cx w0 mt dyn) 218 cs o = cs[o]? := by kernel_rfl
theorem ld32 {w0 : World} {mt dyn : List Nat} (cs : List Value) (o : Nat) : loadL (cx w0 mt dyn) 32 cs o = cs[o]? := by kernel_rfl
def limCells : List Value := [.func (.func 250) ⟨[]⟩ ⟨[]⟩, .func (.func 118) ⟨[]⟩ ⟨[]⟩, .func (.func 251) ⟨[]⟩ ⟨[]⟩, .func (.func 252) ⟨[]⟩ ⟨[]⟩]

-- tarn/limit.limiters
def an198 : Ann := (.seq .leaf (.seq .leaf .leaf))
noncomputable def q198 (w0 : World)  (R : Value → World → Prop) : Prop :=
  (∀ k1 : Nat, Fin (cx w0 [] []) R (.slice (some ⟨k1, 0, none⟩) 4 4) ((k1, .cells ⟨[.func (.func 250) ⟨[]⟩ ⟨[]⟩, .func (.func 118) ⟨[]⟩ ⟨[]⟩, .func (.func 251) ⟨[]⟩ ⟨[]⟩, .func (.func 252) ⟨[]⟩ ⟨[]⟩]⟩ 218) :: []))
theorem q198_eq (w0 : World)  (R : Value → World → Prop) : funT (cx w0 [] []) Tryz.f198 an198 [] [] R = q198 w0  R := by kernel_rfl
theorem d198 (W : World)  {R : Value → World → Prop} (h : q198 W  R) : Does Tryz.prog 198 [] W R :=
  does_of_T (fn := Tryz.f198) (x := an198) (dyn := []) (by kernel_rfl) (by kernel_rfl) (sep_self W) (Eq.mpr (q198_eq W  R) h)

theorem p198 : MutG 198 [] [] fun v X' => ∃ k, v = .slice (some ⟨k, 0, none⟩) 4 4 ∧ X' = [(k, .cells ⟨limCells⟩ 218)] := fun W hL hS _ _ => d198 W fun k1 W' hS' => ⟨_, ⟨k1, rfl, rfl⟩, hS'⟩


-- tarn/limit.Slope
def an116 : Ann := (.seq .leaf (.seq (.seq .leaf (.cond (.seq .leaf .leaf) .leaf)) (.seq .leaf (.seq (.block (.seq .leaf (.cond (.seq .leaf .leaf) (.seq .leaf (.cond (.seq .leaf .leaf) .leaf))))) (.seq .leaf .leaf)))))
noncomputable def q116 (w0 : World) (kind : Int) (a : Nat) (b : Nat) (R : Value → World → Prop) : Prop :=
  (∃ b9 : Bool, CallV (cx w0 [] []) [] [] 94 [.int .i64 kind] (.bool b9) ∧ (cond (!b9) (Fin (cx w0 [] []) R (.float .f64 0) []) ((∃ Φ11 : Value → Own → Prop, CallG (cx w0 [] []) [] [] 198 [] (.val (.one .slice)) Φ11 ∧ ∀ a11 : Option Addr, ∀ l11 : Nat, ∀ c11 : Nat, ∀ own11 : Own, Φ11 (.slice a11 l11 c11) own11 → (∃ ad13 : Addr, a11 = some ad13 ∧ (0 ≤ kind ∧ kind < ((l11 : Nat) : Int)) ∧ ((LoadsTo (cx w0 [] []) [] own11 218 (Addr.add ad13 (Int.toNat kind * 1)) (.func (.func 250) ⟨[]⟩ ⟨[]⟩) ∧ (cond (f64.order a 0 == some .gt) ((cond (f64.order b 0 == some .gt) ((∃ x25 : Nat, CallV (cx w0 [] []) [] own11 250 [.float .f64 a, .float .f64 b] (.float .f64 x25) ∧ (∃ x26 : Nat, CallV (cx w0 [] []) [] own11 146 [.float .f64 x25] (.float .f64 x26) ∧ Fin (cx w0 [] []) R (.float .f64 x26) own11))) ((cond (f64.order a 0 == some .lt) ((cond (f64.order b 0 == some .lt) ((∃ x39 : Nat, CallV (cx w0 [] []) [] own11 250 [.float .f64 (Op.negFloat .f64 a), .float .f64 (Op.negFloat .f64 b)] (.float .f64 x39) ∧ (∃ x41 : Nat, CallV (cx w0 [] []) [] own11 146 [.float .f64 (Op.negFloat .f64 x39)] (.float .f64 x41) ∧ Fin (cx w0 [] []) R (.float .f64 x41) own11))) (Fin (cx w0 [] []) R (.float .f64 0) own11))) (Fin (cx w0 [] []) R (.float .f64 0) own11))))) ((cond (f64.order a 0 == some .lt) ((cond (f64.order b 0 == some .lt) ((∃ x39 : Nat, CallV (cx w0 [] []) [] own11 250 [.float .f64 (Op.negFloat .f64 a), .float .f64 (Op.negFloat .f64 b)] (.float .f64 x39) ∧ (∃ x41 : Nat, CallV (cx w0 [] []) [] own11 146 [.float .f64 (Op.negFloat .f64 x39)] (.float .f64 x41) ∧ Fin (cx w0 [] []) R (.float .f64 x41) own11))) (Fin (cx w0 [] []) R (.float .f64 0) own11))) (Fin (cx w0 [] []) R (.float .f64 0) own11))))) ∨ ((LoadsTo (cx w0 [] []) [] own11 218 (Addr.add ad13 (Int.toNat kind * 1)) (.func (.func 118) ⟨[]⟩ ⟨[]⟩) ∧ (cond (f64.order a 0 == some .gt) ((cond (f64.order b 0 == some .gt) ((∃ x25 : Nat, CallV (cx w0 [] []) [] own11 118 [.float .f64 a, .float .f64 b] (.float .f64 x25) ∧ (∃ x26 : Nat, CallV (cx w0 [] []) [] own11 146 [.float .f64 x25] (.float .f64 x26) ∧ Fin (cx w0 [] []) R (.float .f64 x26) own11))) ((cond (f64.order a 0 == some .lt) ((cond (f64.order b 0 == some .lt) ((∃ x39 : Nat, CallV (cx w0 [] []) [] own11 118 [.float .f64 (Op.negFloat .f64 a), .float .f64 (Op.negFloat .f64 b)] (.float .f64 x39) ∧ (∃ x41 : Nat, CallV (cx w0 [] []) [] own11 146 [.float .f64 (Op.negFloat .f64 x39)] (.float .f64 x41) ∧ Fin (cx w0 [] []) R (.float .f64 x41) own11))) (Fin (cx w0 [] []) R (.float .f64 0) own11))) (Fin (cx w0 [] []) R (.float .f64 0) own11))))) ((cond (f64.order a 0 == some .lt) ((cond (f64.order b 0 == some .lt) ((∃ x39 : Nat, CallV (cx w0 [] []) [] own11 118 [.float .f64 (Op.negFloat .f64 a), .float .f64 (Op.negFloat .f64 b)] (.float .f64 x39) ∧ (∃ x41 : Nat, CallV (cx w0 [] []) [] own11 146 [.float .f64 (Op.negFloat .f64 x39)] (.float .f64 x41) ∧ Fin (cx w0 [] []) R (.float .f64 x41) own11))) (Fin (cx w0 [] []) R (.float .f64 0) own11))) (Fin (cx w0 [] []) R (.float .f64 0) own11))))) ∨ ((LoadsTo (cx w0 [] []) [] own11 218 (Addr.add ad13 (Int.toNat kind * 1)) (.func (.func 251) ⟨[]⟩ ⟨[]⟩) ∧ (cond (f64.order a 0 == some .gt) ((cond (f64.order b 0 == some .gt) ((∃ x25 : Nat, CallV (cx w0 [] []) [] own11 251 [.float .f64 a, .float .f64 b] (.float .f64 x25) ∧ (∃ x26 : Nat, CallV (cx w0 [] []) [] own11 146 [.float .f64 x25] (.float .f64 x26) ∧ Fin (cx w0 [] []) R (.float .f64 x26) own11))) ((cond (f64.order a 0 == some .lt) ((cond (f64.order b 0 == some .lt) ((∃ x39 : Nat, CallV (cx w0 [] []) [] own11 251 [.float .f64 (Op.negFloat .f64 a), .float .f64 (Op.negFloat .f64 b)] (.float .f64 x39) ∧ (∃ x41 : Nat, CallV (cx w0 [] []) [] own11 146 [.float .f64 (Op.negFloat .f64 x39)] (.float .f64 x41) ∧ Fin (cx w0 [] []) R (.float .f64 x41) own11))) (Fin (cx w0 [] []) R (.float .f64 0) own11))) (Fin (cx w0 [] []) R (.float .f64 0) own11))))) ((cond (f64.order a 0 == some .lt) ((cond (f64.order b 0 == some .lt) ((∃ x39 : Nat, CallV (cx w0 [] []) [] own11 251 [.float .f64 (Op.negFloat .f64 a), .float .f64 (Op.negFloat .f64 b)] (.float .f64 x39) ∧ (∃ x41 : Nat, CallV (cx w0 [] []) [] own11 146 [.float .f64 (Op.negFloat .f64 x39)] (.float .f64 x41) ∧ Fin (cx w0 [] []) R (.float .f64 x41) own11))) (Fin (cx w0 [] []) R (.float .f64 0) own11))) (Fin (cx w0 [] []) R (.float .f64 0) own11))))) ∨ (LoadsTo (cx w0 [] []) [] own11 218 (Addr.add ad13 (Int.toNat kind * 1)) (.func (.func 252) ⟨[]⟩ ⟨[]⟩) ∧ (cond (f64.order a 0 == some .gt) ((cond (f64.order b 0 == some .gt) ((∃ x25 : Nat, CallV (cx w0 [] []) [] own11 252 [.float .f64 a, .float .f64 b] (.float .f64 x25) ∧ (∃ x26 : Nat, CallV (cx w0 [] []) [] own11 146 [.float .f64 x25] (.float .f64 x26) ∧ Fin (cx w0 [] []) R (.float .f64 x26) own11))) ((cond (f64.order a 0 == some .lt) ((cond (f64.order b 0 == some .lt) ((∃ x39 : Nat, CallV (cx w0 [] []) [] own11 252 [.float .f64 (Op.negFloat .f64 a), .float .f64 (Op.negFloat .f64 b)] (.float .f64 x39) ∧ (∃ x41 : Nat, CallV (cx w0 [] []) [] own11 146 [.float .f64 (Op.negFloat .f64 x39)] (.float .f64 x41) ∧ Fin (cx w0 [] []) R (.float .f64 x41) own11))) (Fin (cx w0 [] []) R (.float .f64 0) own11))) (Fin (cx w0 [] []) R (.float .f64 0) own11))))) ((cond (f64.order a 0 == some .lt) ((cond (f64.order b 0 == some .lt) ((∃ x39 : Nat, CallV (cx w0 [] []) [] own11 252 [.float .f64 (Op.negFloat .f64 a), .float .f64 (Op.negFloat .f64 b)] (.float .f64 x39) ∧ (∃ x41 : Nat, CallV (cx w0 [] []) [] own11 146 [.float .f64 (Op.negFloat .f64 x39)] (.float .f64 x41) ∧ Fin (cx w0 [] []) R (.float .f64 x41) own11))) (Fin (cx w0 [] []) R (.float .f64 0) own11))) (Fin (cx w0 [] []) R (.float .f64 0) own11)))))))))))))
theorem q116_eq (w0 : World) (kind : Int) (a : Nat) (b : Nat) (R : Value → World → Prop) : funT (cx w0 [] []) Tryz.f116 an116 [.int .i64 kind, .float .f64 a, .float .f64 b] [] R = q116 w0 kind a b R := by kernel_rfl
theorem d116 (W : World) (kind : Int) (a : Nat) (b : Nat) {R : Value → World → Prop} (h : q116 W kind a b R) : Does Tryz.prog 116 [.int .i64 kind, .float .f64 a, .float .f64 b] W R :=
  does_of_T (fn := Tryz.f116) (x := an116) (dyn := []) (by kernel_rfl) (by kernel_rfl) (sep_self W) (Eq.mpr (q116_eq W kind a b R) h)

def lim (kind : Int) (a b : Nat) : Nat := cond (kind == 0) (s250 a b) (cond (kind == 1) (s118 a b) (cond (kind == 2) (s251 a b) (s252 a b)))
theorem lim0 {a b : Nat} : lim 0 a b = s250 a b := rfl
theorem lim1 {a b : Nat} : lim 1 a b = s118 a b := rfl
theorem lim2 {a b : Nat} : lim 2 a b = s251 a b := rfl
theorem lim3 {a b : Nat} : lim 3 a b = s252 a b := by simp only [lim, (by decide : ((3 : Int) == 0) = false), (by decide : ((3 : Int) == 1) = false), (by decide : ((3 : Int) == 2) = false), cond_false]
/-- the slope between two differences -/
def s116 (kind : Int) (a b : Nat) : Nat :=
  cond (!(s94 kind)) 0 (cond (f64.order a 0 == some .gt)
    (cond (f64.order b 0 == some .gt) (s146 (lim kind a b)) (cond (f64.order a 0 == some .lt) (cond (f64.order b 0 == some .lt) (s146 (Op.negFloat .f64 (lim kind (Op.negFloat .f64 a) (Op.negFloat .f64 b)))) 0) 0))
    (cond (f64.order a 0 == some .lt) (cond (f64.order b 0 == some .lt) (s146 (Op.negFloat .f64 (lim kind (Op.negFloat .f64 a) (Op.negFloat .f64 b)))) 0) 0))
theorem s94_kind {k : Int} (h : (!(s94 k)) = false) : k = 0 ∨ k = 1 ∨ k = 2 ∨ k = 3 := by
  have h : s94 k = true := by simpa using h
  unfold s94 at h
  by_cases h1 : k ≥ 0
  · rw [decide_eq_true h1] at h
    simp only [cond_true, decide_eq_true_eq] at h
    omega
  · rw [decide_eq_false h1] at h
    cases h
theorem p116 (kind : Int) (a b : Nat) : Pu 116 [.int .i64 kind, .float .f64 a, .float .f64 b] (.float .f64 (s116 kind a b)) := fun W hL => d116 W kind a b ⟨_, (p94 _).callL hL, cond_split (fun h0 => fin_ext (by simp only [s116, h0, cond_true])) fun h0 => by
  refine ⟨_, p198.newG hL ⟨List.not_mem_nil, List.not_mem_nil⟩ (by rintro v X' ⟨k, rfl, _⟩; exact ⟨_, _, _, rfl⟩), fun a11 l11 c11 own11 h11 => ?_⟩
  obtain ⟨X', ⟨k, e, rfl⟩, rfl⟩ := h11
  cases e
  rcases s94_kind h0 with rfl | rfl | rfl | rfl
  · exact ⟨_, rfl, ⟨by decide, by decide⟩, .inl ⟨loads_own (.head _) (ld218 _ _), cond_split (fun h1 => cond_split (fun h2 => ⟨_, (p250 _ _).callL hL, _, (p146 _).callL hL, fin_ext (by simp only [s116, lim0, h0, h1, h2, cond_true, cond_false])⟩) fun h2 => cond_split (fun h3 => cond_split (fun h4 => ⟨_, (p250 _ _).callL hL, _, (p146 _).callL hL, fin_ext (by simp only [s116, lim0, h0, h1, h2, h3, h4, cond_true, cond_false])⟩) fun h4 => fin_ext (by simp only [s116, h0, h1, h2, h3, h4, cond_true, cond_false])) fun h3 => fin_ext (by simp only [s116, h0, h1, h2, h3, cond_true, cond_false])) fun h1 => cond_split (fun h3 => cond_split (fun h4 => ⟨_, (p250 _ _).callL hL, _, (p146 _).callL hL, fin_ext (by simp only [s116, lim0, h0, h1, h3, h4, cond_true, cond_false])⟩) fun h4 => fin_ext (by simp only [s116, h0, h1, h3, h4, cond_true, cond_false])) fun h3 => fin_ext (by simp only [s116, h0, h1, h3, cond_true, cond_false])⟩⟩
  · exact ⟨_, rfl, ⟨by decide, by decide⟩, .inr (.inl ⟨loads_own (.head _) (ld218 _ _), cond_split (fun h1 => cond_split (fun h2 => ⟨_, (p118 _ _).callL hL, _, (p146 _).callL hL, fin_ext (by simp only [s116, lim1, h0, h1, h2, cond_true, cond_false])⟩) fun h2 => cond_split (fun h3 => cond_split (fun h4 => ⟨_, (p118 _ _).callL hL, _, (p146 _).callL hL, fin_ext (by simp only [s116, lim1, h0, h1, h2, h3, h4, cond_true, cond_false])⟩) fun h4 => fin_ext (by simp only [s116, h0, h1, h2, h3, h4, cond_true, cond_false])) fun h3 => fin_ext (by simp only [s116, h0, h1, h2, h3, cond_true, cond_false])) fun h1 => cond_split (fun h3 => cond_split (fun h4 => ⟨_, (p118 _ _).callL hL, _, (p146 _).callL hL, fin_ext (by simp only [s116, lim1, h0, h1, h3, h4, cond_true, cond_false])⟩) fun h4 => fin_ext (by simp only [s116, h0, h1, h3, h4, cond_true, cond_false])) fun h3 => fin_ext (by simp only [s116, h0, h1, h3, cond_true, cond_false])⟩)⟩
  · exact ⟨_, rfl, ⟨by decide, by decide⟩, .inr (.inr (.inl ⟨loads_own (.head _) (ld218 _ _), cond_split (fun h1 => cond_split (fun h2 => ⟨_, (p251 _ _).callL hL, _, (p146 _).callL hL, fin_ext (by simp only [s116, lim2, h0, h1, h2, cond_true, cond_false])⟩) fun h2 => cond_split (fun h3 => cond_split (fun h4 => ⟨_, (p251 _ _).callL hL, _, (p146 _).callL hL, fin_ext (by simp only [s116, lim2, h0, h1, h2, h3, h4, cond_true, cond_false])⟩) fun h4 => fin_ext (by simp only [s116, h0, h1, h2, h3, h4, cond_true, cond_false])) fun h3 => fin_ext (by simp only [s116, h0, h1, h2, h3, cond_true, cond_false])) fun h1 => cond_split (fun h3 => cond_split (fun h4 => ⟨_, (p251 _ _).callL hL, _, (p146 _).callL hL, fin_ext (by simp only [s116, lim2, h0, h1, h3, h4, cond_true, cond_false])⟩) fun h4 => fin_ext (by simp only [s116, h0, h1, h3, h4, cond_true, cond_false])) fun h3 => fin_ext (by simp only [s116, h0, h1, h3, cond_true, cond_false])⟩))⟩
  · exact ⟨_, rfl, ⟨by decide, by decide⟩, .inr (.inr (.inr ⟨loads_own (.head _) (ld218 _ _), cond_split (fun h1 => cond_split (fun h2 => ⟨_, (p252 _ _).callL hL, _, (p146 _).callL hL, fin_ext (by simp only [s116, lim3, h0, h1, h2, cond_true, cond_false])⟩) fun h2 => cond_split (fun h3 => cond_split (fun h4 => ⟨_, (p252 _ _).callL hL, _, (p146 _).callL hL, fin_ext (by simp only [s116, lim3, h0, h1, h2, h3, h4, cond_true, cond_false])⟩) fun h4 => fin_ext (by simp only [s116, h0, h1, h2, h3, h4, cond_true, cond_false])) fun h3 => fin_ext (by simp only [s116, h0, h1, h2, h3, cond_true, cond_false])) fun h1 => cond_split (fun h3 => cond_split (fun h4 => ⟨_, (p252 _ _).callL hL, _, (p146 _).callL hL, fin_ext (by simp only [s116, lim3, h0, h1, h3, h4, cond_true, cond_false])⟩) fun h4 => fin_ext (by simp only [s116, h0, h1, h3, h4, cond_true, cond_false])) fun h3 => fin_ext (by simp only [s116, h0, h1, h3, cond_true, cond_false])⟩))⟩⟩



theorem nan116_0 {k : Int} {r : Nat} (h : Nn r) (y : Nat) : s116 k r y = 0 := by
  unfold s116
  rw [nan_order h]
  cases (!(s94 k)) <;> rfl
theorem nan116_1 {k : Int} {r : Nat} (h : Nn r) (y : Nat) : s116 k y r = 0 := by
  unfold s116
  rw [nan_order h]
  cases (!(s94 k)) <;> cases (f64.order y 0 == some .gt) <;> cases (f64.order y 0 == some .lt) <;> rfl
theorem c116_0 {o : Option Nat} {r : Nat} (h : FRes o r) {k : Int} {y : Nat} : s116 k r y = s116 k (fr o) y := by
  rcases fres_cases h with e | ⟨e, e'⟩
  · rw [← e]
  · rw [nan116_0 e, nan116_0 e']
theorem c116_1 {o : Option Nat} {r : Nat} (h : FRes o r) {k : Int} {y : Nat} : s116 k y r = s116 k y (fr o) := by
  rcases fres_cases h with e | ⟨e, e'⟩
  · rw [← e]
  · rw [nan116_1 e, nan116_1 e']
/-- a sea, and where its lists stand -/
structure SeaA where
  ba : Option Addr
  bc : Nat
  wa : Option Addr
  wc : Nat
  ta : Option Addr
  tc : Nat
  ua : Option Addr
  uc : Nat
  bed : List Nat
  water : List Int
  tracer : List Int
  speed : List Nat
  sky : Int
  step : Int
def SeaA.v (s : SeaA) : Value := .agg ⟨[.slice s.ba s.bed.length s.bc, .slice s.wa s.water.length s.wc, .slice s.ta s.tracer.length s.tc, .slice s.ua s.speed.length s.uc, .int .i64 s.sky, .int .i64 s.step]⟩
def SeaAt (W : World) (s : SeaA) : Prop := Arr W s.ba (fCells s.bed) ∧ Arr W s.wa (iCells s.water) ∧ Arr W s.ta (iCells s.tracer) ∧ Arr W s.ua (fCells s.speed)
theorem SeaAt.ext {W W' : World} {s : SeaA} (h : SeaAt W s) (he : Ext W W') : SeaAt W' s := ⟨h.1.ext he, h.2.1.ext he, h.2.2.1.ext he, h.2.2.2.ext he⟩
def LS (p : Addr) (g : Net) (s : SeaA) (W : World) : Prop := LG p g W ∧ SeaAt W s
theorem LS.ext {W W' : World} {p : Addr} {g : Net} {s : SeaA} (h : LS p g s W) (he : Ext W W') : LS p g s W' := ⟨h.1.ext he, h.2.ext he⟩
theorem On.callS {p : Addr} {g : Net} {s : SeaA} {f : FuncId} {args : List Value} {v : Value} (h : On (LS p g s) f args v) {w0 : World} (hL : LS p g s w0) {dyn : List Nat} {loc : Tn.Loc} {own : Own} : CallV (cx w0 [] dyn) loc own f args v :=
  h.call fun W hW => hL.ext (Sep.ext0 hW)
theorem On.callG0 {f : FuncId} {args : List Value} {v : Value} (h : On Laid f args v) {w0 : World} (hL : Laid w0) {dyn : List Nat} {loc : Tn.Loc} {own : Own} : CallV (cx w0 [] dyn) loc own f args v := h.callL hL
/-- a call whose answer is a float or any NaN, in a world of which something is known -/
def OnR (p : World → Prop) (f : FuncId) (args : List Value) (o : Option Nat) : Prop := ∀ W, p W → Does Tryz.prog f args W fun v' W' => (∃ r, v' = .float .f64 r ∧ FRes o r) ∧ Ext W W'
theorem OnR.call {P : World → Prop} {f : FuncId} {args : List Value} {o : Option Nat} (h : OnR P f args o) {w0 : World} {mt dyn : List Nat} {loc : Tn.Loc} {own : Own} (hp : ∀ W, Sep w0 mt (ents loc own) W → P W) :
    CallR (cx w0 mt dyn) loc own f args (.val (.one .float)) fun v' => ∃ r, v' = .float .f64 r ∧ FRes o r := fun W hW =>
  (h W (hp W hW)).mono fun v' W' ⟨⟨r, e, hr⟩, he⟩ => ⟨⟨r, e⟩, ⟨r, e, hr⟩, he⟩

-- tarn/recon.Depth$1
def an114 : Ann := (.seq .leaf (.seq (.draw [0, 1, 2, 3, 4, 5, 6, 7, 8, 9]) .leaf))
noncomputable def q114 (w0 : World) (c : Int) (ps : Addr) (pg : Addr) (R : Value → World → Prop) : Prop :=
  (∃ a6 : Option Addr, ∃ l6 : Nat, ∃ c6 : Nat, LoadsTo (cx w0 [] []) [] [] 23 (Addr.add ps 1) (.slice a6 l6 c6) ∧ (∃ ad8 : Addr, a6 = some ad8 ∧ (0 ≤ c ∧ c < ((l6 : Nat) : Int)) ∧ (∃ n9 : Int, LoadsTo (cx w0 [] []) [] [] 2 (Addr.add ad8 (Int.toNat c * 1)) (.int .i64 n9) ∧ (∃ p10 : Option Addr, LoadsTo (cx w0 [] []) [] [] 32 pg (.pointer p10) ∧ (∃ n12 : Int, CallV (cx w0 [] []) [] [] 74 [.pointer p10, .int .i64 c] (.int .i64 n12) ∧ (∃ Φ13 : Value → Prop, CallR (cx w0 [] []) [] [] 115 [.int .i64 n9, .int .i64 n12] (.val (.one .float)) Φ13 ∧ ∀ x13 : Nat, Φ13 (.float .f64 x13) → Fin (cx w0 [] []) R (.float .f64 x13) []))))))
theorem q114_eq (w0 : World) (c : Int) (ps : Addr) (pg : Addr) (R : Value → World → Prop) : funT (cx w0 [] []) Tryz.f114 an114 [.int .i64 c, .pointer (some ps), .pointer (some pg)] [] R = q114 w0 c ps pg R := by kernel_rfl
theorem d114 (W : World) (c : Int) (ps : Addr) (pg : Addr) {R : Value → World → Prop} (h : q114 W c ps pg R) : Does Tryz.prog 114 [.int .i64 c, .pointer (some ps), .pointer (some pg)] W R :=
  does_of_T (fn := Tryz.f114) (x := an114) (dyn := []) (by kernel_rfl) (by kernel_rfl) (sep_self W) (Eq.mpr (q114_eq W c ps pg R) h)

theorem p114 (p : Addr) (g : Net) (s : SeaA) (ks kg : Nat) (f1 f2 : Nat × Nat) (c : Int) (hc : 0 ≤ c ∧ c < (s.water.length : Int)) :
    OnR (fun W => LS p g s W ∧ W.heap[ks]? = some (.cells ⟨[.slice s.ba s.bed.length s.bc, .slice s.wa s.water.length s.wc, .slice s.ta s.tracer.length s.tc, .slice s.ua s.speed.length s.uc, .int .i64 s.sky, .int .i64 s.step]⟩ 25 f1) ∧ W.heap[kg]? = some (.cells ⟨[.pointer (some p)]⟩ 32 f2)) 114
      [.int .i64 c, .pointer (some ⟨ks, 0, none⟩), .pointer (some ⟨kg, 0, none⟩)] (s115 (s.water.getD c.toNat 0) (g.area c)) := fun W ⟨hS, hs, hg⟩ => by
  obtain ⟨x, hx⟩ := getElem?_int hc.1 hc.2
  obtain ⟨ad, had⟩ := arr_addr hS.2.2.1 (iCells_get hx)
  refine d114 W c _ _ ⟨_, _, _, cell_at hs 1 (fun cs o => (ld127 cs o).2.1) rfl, _, had, hc, x, (by rw [Nat.mul_one]; exact loads_arr hS.2.2.1 had (iCells_get hx) ld2), _, loads_keep (mt := []) hg List.not_mem_nil (by rw [ld32]; rfl), _, (p74 p g c).callG hS.1, _, (p115 _ _).callL hS.1.1, fun y h => floatOf h fun hr => ?_⟩
  rw [List.getD_eq_getElem?_getD, hx]
  exact fin_rel hr


-- tarn/recon.Depth
def loc49_0 (k5 : Nat) (g : Addr) (k7 : Nat) (s_0_a : Option Addr) (s_0_n : Nat) (s_0_c : Nat) (s_1_a : Option Addr) (s_1_n : Nat) (s_1_c : Nat) (s_2_a : Option Addr) (s_2_n : Nat) (s_2_c : Nat) (s_3_a : Option Addr) (s_3_n : Nat) (s_3_c : Nat) (s_4 : Int) (s_5 : Int) : Tn.Loc := [⟨k5, 32, [.pointer (some g)], []⟩, ⟨k7, 25, [.slice s_0_a s_0_n s_0_c, .slice s_1_a s_1_n s_1_c, .slice s_2_a s_2_n s_2_c, .slice s_3_a s_3_n s_3_c, .int .i64 s_4, .int .i64 s_5], []⟩]
def loc49_1 (k5 : Nat) (g : Addr) (k7 : Nat) (s_0_a : Option Addr) (s_0_n : Nat) (s_0_c : Nat) (s_1_a : Option Addr) (s_1_n : Nat) (s_1_c : Nat) (s_2_a : Option Addr) (s_2_n : Nat) (s_2_c : Nat) (s_3_a : Option Addr) (s_3_n : Nat) (s_3_c : Nat) (s_4 : Int) (s_5 : Int) (k11 : Nat) (n28a_0 : Int) (n28a_1 : Int) (n28a_2 : Int) (n28a_3 : Int) : Tn.Loc := [⟨k5, 32, [.pointer (some g)], []⟩, ⟨k7, 25, [.slice s_0_a s_0_n s_0_c, .slice s_1_a s_1_n s_1_c, .slice s_2_a s_2_n s_2_c, .slice s_3_a s_3_n s_3_c, .int .i64 s_4, .int .i64 s_5], []⟩, ⟨k11, 63, [.int .i64 n28a_0, .int .i64 n28a_1, .int .i64 n28a_2, .int .i64 n28a_3], []⟩]
def an49 : Ann := (.seq .leaf (.seq .leaf (.seq (.seq (.draw [0, 1, 2, 3, 4, 5, 6, 7, 8, 9, 10, 11, 12, 13, 14, 15, 16, 17]) (.cond (.seq .leaf .leaf) .leaf)) (.seq .leaf (.seq (.draw [0, 1, 2, 3, 4, 5, 6, 7]) (.seq (.block (.seq .leaf (.cond .leaf (.seq .leaf (.cond (.draw [0, 1, 2, 3, 4, 5, 6, 7]) (.seq .leaf .leaf)))))) (.seq .leaf (.seq .leaf (.seq .leaf (.seq .leaf (.seq (.draw [0, 1, 2, 3, 4, 5, 6, 7, 8, 9, 10, 11, 12, 13, 14, 15, 16, 17, 18, 19, 20, 21, 22, 23, 24, 25, 26]) (.seq (.seq .leaf (.seq .leaf (.cond (.seq .leaf .leaf) .leaf))) (.seq .leaf .leaf)))))))))))))
noncomputable def q49 (w0 : World) (g : Addr) (limiter : Int) (s_0_a : Option Addr) (s_0_n : Nat) (s_0_c : Nat) (s_1_a : Option Addr) (s_1_n : Nat) (s_1_c : Nat) (s_2_a : Option Addr) (s_2_n : Nat) (s_2_c : Nat) (s_3_a : Option Addr) (s_3_n : Nat) (s_3_c : Nat) (s_4 : Int) (s_5 : Int) (e : Int) (u : Nat) (R : Value → World → Prop) : Prop :=
  (∀ k5 : Nat, (∀ k7 : Nat, (∃ n28a_0 : Int, ∃ n28a_1 : Int, ∃ n28a_2 : Int, ∃ n28a_3 : Int, ∃ b28b : Bool, CallV (cx w0 [] []) (loc49_0 k5 g k7 s_0_a s_0_n s_0_c s_1_a s_1_n s_1_c s_2_a s_2_n s_2_c s_3_a s_3_n s_3_c s_4 s_5) [] 47 [.pointer (some g), .int .i64 e] (.tuple ⟨[.agg ⟨[.int .i64 n28a_0, .int .i64 n28a_1, .int .i64 n28a_2, .int .i64 n28a_3]⟩, .bool b28b]⟩) ∧ (∀ k11 : Nat, (cond (!b28b) (Fin (cx w0 [] []) R (.float .f64 0) []) ((∃ n38 : Int, CallV (cx w0 [] []) (loc49_1 k5 g k7 s_0_a s_0_n s_0_c s_1_a s_1_n s_1_c s_2_a s_2_n s_2_c s_3_a s_3_n s_3_c s_4 s_5 k11 n28a_0 n28a_1 n28a_2 n28a_3) [] 36 [.pointer (some g)] (.int .i64 n38) ∧ (cond (((s_0_n : Nat) : Int) != n38) (Fin (cx w0 [] []) R (.float .f64 0) []) ((∃ n46 : Int, CallV (cx w0 [] []) (loc49_1 k5 g k7 s_0_a s_0_n s_0_c s_1_a s_1_n s_1_c s_2_a s_2_n s_2_c s_3_a s_3_n s_3_c s_4 s_5 k11 n28a_0 n28a_1 n28a_2 n28a_3) [] 36 [.pointer (some g)] (.int .i64 n46) ∧ (cond (((s_1_n : Nat) : Int) != n46) (Fin (cx w0 [] []) R (.float .f64 0) []) ((∃ n52a : Int, ∃ n52b : Int, ∃ b52c : Bool, CallV (cx w0 [] []) (loc49_1 k5 g k7 s_0_a s_0_n s_0_c s_1_a s_1_n s_1_c s_2_a s_2_n s_2_c s_3_a s_3_n s_3_c s_4 s_5 k11 n28a_0 n28a_1 n28a_2 n28a_3) [] 48 [.pointer (some g), .int .i64 e] (.tuple ⟨[.int .i64 n52a, .int .i64 n52b, .bool b52c]⟩) ∧ (cond (f64.order u 0 == some .gt) ((∃ Φ75 : Value → Prop, CallR (cx w0 [] []) (loc49_1 k5 g k7 s_0_a s_0_n s_0_c s_1_a s_1_n s_1_c s_2_a s_2_n s_2_c s_3_a s_3_n s_3_c s_4 s_5 k11 n28a_0 n28a_1 n28a_2 n28a_3) [] 114 [.int .i64 n28a_0, .pointer (some ⟨k7, 0, none⟩), .pointer (some ⟨k5, 0, none⟩)] (.val (.one .float)) Φ75 ∧ ∀ x75 : Nat, Φ75 (.float .f64 x75) → (∃ Φ78 : Value → Prop, CallR (cx w0 [] []) (loc49_1 k5 g k7 s_0_a s_0_n s_0_c s_1_a s_1_n s_1_c s_2_a s_2_n s_2_c s_3_a s_3_n s_3_c s_4 s_5 k11 n28a_0 n28a_1 n28a_2 n28a_3) [] 114 [.int .i64 n52a, .pointer (some ⟨k7, 0, none⟩), .pointer (some ⟨k5, 0, none⟩)] (.val (.one .float)) Φ78 ∧ ∀ x78 : Nat, Φ78 (.float .f64 x78) → (∀ r79 : Nat, FRes (f64.sub x75 x78) r79 → (∃ Φ82 : Value → Prop, CallR (cx w0 [] []) (loc49_1 k5 g k7 s_0_a s_0_n s_0_c s_1_a s_1_n s_1_c s_2_a s_2_n s_2_c s_3_a s_3_n s_3_c s_4 s_5 k11 n28a_0 n28a_1 n28a_2 n28a_3) [] 114 [.int .i64 n28a_2, .pointer (some ⟨k7, 0, none⟩), .pointer (some ⟨k5, 0, none⟩)] (.val (.one .float)) Φ82 ∧ ∀ x82 : Nat, Φ82 (.float .f64 x82) → (∃ Φ85 : Value → Prop, CallR (cx w0 [] []) (loc49_1 k5 g k7 s_0_a s_0_n s_0_c s_1_a s_1_n s_1_c s_2_a s_2_n s_2_c s_3_a s_3_n s_3_c s_4 s_5 k11 n28a_0 n28a_1 n28a_2 n28a_3) [] 114 [.int .i64 n28a_0, .pointer (some ⟨k7, 0, none⟩), .pointer (some ⟨k5, 0, none⟩)] (.val (.one .float)) Φ85 ∧ ∀ x85 : Nat, Φ85 (.float .f64 x85) → (∀ r86 : Nat, FRes (f64.sub x82 x85) r86 → (∃ Φ89 : Value → Prop, CallR (cx w0 [] []) (loc49_1 k5 g k7 s_0_a s_0_n s_0_c s_1_a s_1_n s_1_c s_2_a s_2_n s_2_c s_3_a s_3_n s_3_c s_4 s_5 k11 n28a_0 n28a_1 n28a_2 n28a_3) [] 114 [.int .i64 n28a_0, .pointer (some ⟨k7, 0, none⟩), .pointer (some ⟨k5, 0, none⟩)] (.val (.one .float)) Φ89 ∧ ∀ x89 : Nat, Φ89 (.float .f64 x89) → (∃ x93 : Nat, CallV (cx w0 [] []) (loc49_1 k5 g k7 s_0_a s_0_n s_0_c s_1_a s_1_n s_1_c s_2_a s_2_n s_2_c s_3_a s_3_n s_3_c s_4 s_5 k11 n28a_0 n28a_1 n28a_2 n28a_3) [] 116 [.int .i64 limiter, .float .f64 r79, .float .f64 r86] (.float .f64 x93) ∧ (∀ r94 : Nat, FRes (f64.mul 4602678819172646912 x93) r94 → (∀ r95 : Nat, FRes (f64.add x89 r94) r95 → (∃ ad99 : Addr, s_0_a = some ad99 ∧ (0 ≤ n28a_0 ∧ n28a_0 < ((s_0_n : Nat) : Int)) ∧ (∃ x100 : Nat, LoadsTo (cx w0 [] []) (loc49_1 k5 g k7 s_0_a s_0_n s_0_c s_1_a s_1_n s_1_c s_2_a s_2_n s_2_c s_3_a s_3_n s_3_c s_4 s_5 k11 n28a_0 n28a_1 n28a_2 n28a_3) [] 44 (Addr.add ad99 (Int.toNat n28a_0 * 1)) (.float .f64 x100) ∧ (∃ ad104 : Addr, s_1_a = some ad104 ∧ (0 ≤ n28a_0 ∧ n28a_0 < ((s_1_n : Nat) : Int)) ∧ (∃ n105 : Int, LoadsTo (cx w0 [] []) (loc49_1 k5 g k7 s_0_a s_0_n s_0_c s_1_a s_1_n s_1_c s_2_a s_2_n s_2_c s_3_a s_3_n s_3_c s_4 s_5 k11 n28a_0 n28a_1 n28a_2 n28a_3) [] 2 (Addr.add ad104 (Int.toNat n28a_0 * 1)) (.int .i64 n105) ∧ (∃ n108 : Int, CallV (cx w0 [] []) (loc49_1 k5 g k7 s_0_a s_0_n s_0_c s_1_a s_1_n s_1_c s_2_a s_2_n s_2_c s_3_a s_3_n s_3_c s_4 s_5 k11 n28a_0 n28a_1 n28a_2 n28a_3) [] 74 [.pointer (some g), .int .i64 n28a_0] (.int .i64 n108) ∧ (∃ x109 : Nat, CallV (cx w0 [] []) (loc49_1 k5 g k7 s_0_a s_0_n s_0_c s_1_a s_1_n s_1_c s_2_a s_2_n s_2_c s_3_a s_3_n s_3_c s_4 s_5 k11 n28a_0 n28a_1 n28a_2 n28a_3) [] 92 [.float .f64 x100, .int .i64 n105, .int .i64 n108] (.float .f64 x109) ∧ (∃ ad113 : Addr, s_0_a = some ad113 ∧ (0 ≤ n28a_0 ∧ n28a_0 < ((s_0_n : Nat) : Int)) ∧ (∃ x114 : Nat, LoadsTo (cx w0 [] []) (loc49_1 k5 g k7 s_0_a s_0_n s_0_c s_1_a s_1_n s_1_c s_2_a s_2_n s_2_c s_3_a s_3_n s_3_c s_4 s_5 k11 n28a_0 n28a_1 n28a_2 n28a_3) [] 44 (Addr.add ad113 (Int.toNat n28a_0 * 1)) (.float .f64 x114) ∧ (∃ ad118 : Addr, s_0_a = some ad118 ∧ (0 ≤ n28a_2 ∧ n28a_2 < ((s_0_n : Nat) : Int)) ∧ (∃ x119 : Nat, LoadsTo (cx w0 [] []) (loc49_1 k5 g k7 s_0_a s_0_n s_0_c s_1_a s_1_n s_1_c s_2_a s_2_n s_2_c s_3_a s_3_n s_3_c s_4 s_5 k11 n28a_0 n28a_1 n28a_2 n28a_3) [] 44 (Addr.add ad118 (Int.toNat n28a_2 * 1)) (.float .f64 x119) ∧ (∃ x120 : Nat, CallV (cx w0 [] []) (loc49_1 k5 g k7 s_0_a s_0_n s_0_c s_1_a s_1_n s_1_c s_2_a s_2_n s_2_c s_3_a s_3_n s_3_c s_4 s_5 k11 n28a_0 n28a_1 n28a_2 n28a_3) [] 117 [.float .f64 x114, .float .f64 x119] (.float .f64 x120) ∧ (∀ r121 : Nat, FRes (f64.sub x109 x120) r121 → (∃ x124 : Nat, CallV (cx w0 [] []) (loc49_1 k5 g k7 s_0_a s_0_n s_0_c s_1_a s_1_n s_1_c s_2_a s_2_n s_2_c s_3_a s_3_n s_3_c s_4 s_5 k11 n28a_0 n28a_1 n28a_2 n28a_3) [] 118 [.float .f64 r95, .float .f64 r121] (.float .f64 x124) ∧ (cond (f64.order x124 0 == some .gt) (Fin (cx w0 [] []) R (.float .f64 x124) []) (Fin (cx w0 [] []) R (.float .f64 0) [])))))))))))))))))))))))))) ((cond (f64.order u 0 == some .lt) ((∃ Φ75 : Value → Prop, CallR (cx w0 [] []) (loc49_1 k5 g k7 s_0_a s_0_n s_0_c s_1_a s_1_n s_1_c s_2_a s_2_n s_2_c s_3_a s_3_n s_3_c s_4 s_5 k11 n28a_0 n28a_1 n28a_2 n28a_3) [] 114 [.int .i64 n28a_2, .pointer (some ⟨k7, 0, none⟩), .pointer (some ⟨k5, 0, none⟩)] (.val (.one .float)) Φ75 ∧ ∀ x75 : Nat, Φ75 (.float .f64 x75) → (∃ Φ78 : Value → Prop, CallR (cx w0 [] []) (loc49_1 k5 g k7 s_0_a s_0_n s_0_c s_1_a s_1_n s_1_c s_2_a s_2_n s_2_c s_3_a s_3_n s_3_c s_4 s_5 k11 n28a_0 n28a_1 n28a_2 n28a_3) [] 114 [.int .i64 n52b, .pointer (some ⟨k7, 0, none⟩), .pointer (some ⟨k5, 0, none⟩)] (.val (.one .float)) Φ78 ∧ ∀ x78 : Nat, Φ78 (.float .f64 x78) → (∀ r79 : Nat, FRes (f64.sub x75 x78) r79 → (∃ Φ82 : Value → Prop, CallR (cx w0 [] []) (loc49_1 k5 g k7 s_0_a s_0_n s_0_c s_1_a s_1_n s_1_c s_2_a s_2_n s_2_c s_3_a s_3_n s_3_c s_4 s_5 k11 n28a_0 n28a_1 n28a_2 n28a_3) [] 114 [.int .i64 n28a_0, .pointer (some ⟨k7, 0, none⟩), .pointer (some ⟨k5, 0, none⟩)] (.val (.one .float)) Φ82 ∧ ∀ x82 : Nat, Φ82 (.float .f64 x82) → (∃ Φ85 : Value → Prop, CallR (cx w0 [] []) (loc49_1 k5 g k7 s_0_a s_0_n s_0_c s_1_a s_1_n s_1_c s_2_a s_2_n s_2_c s_3_a s_3_n s_3_c s_4 s_5 k11 n28a_0 n28a_1 n28a_2 n28a_3) [] 114 [.int .i64 n28a_2, .pointer (some ⟨k7, 0, none⟩), .pointer (some ⟨k5, 0, none⟩)] (.val (.one .float)) Φ85 ∧ ∀ x85 : Nat, Φ85 (.float .f64 x85) → (∀ r86 : Nat, FRes (f64.sub x82 x85) r86 → (∃ Φ89 : Value → Prop, CallR (cx w0 [] []) (loc49_1 k5 g k7 s_0_a s_0_n s_0_c s_1_a s_1_n s_1_c s_2_a s_2_n s_2_c s_3_a s_3_n s_3_c s_4 s_5 k11 n28a_0 n28a_1 n28a_2 n28a_3) [] 114 [.int .i64 n28a_2, .pointer (some ⟨k7, 0, none⟩), .pointer (some ⟨k5, 0, none⟩)] (.val (.one .float)) Φ89 ∧ ∀ x89 : Nat, Φ89 (.float .f64 x89) → (∃ x93 : Nat, CallV (cx w0 [] []) (loc49_1 k5 g k7 s_0_a s_0_n s_0_c s_1_a s_1_n s_1_c s_2_a s_2_n s_2_c s_3_a s_3_n s_3_c s_4 s_5 k11 n28a_0 n28a_1 n28a_2 n28a_3) [] 116 [.int .i64 limiter, .float .f64 r79, .float .f64 r86] (.float .f64 x93) ∧ (∀ r94 : Nat, FRes (f64.mul 4602678819172646912 x93) r94 → (∀ r95 : Nat, FRes (f64.add x89 r94) r95 → (∃ ad99 : Addr, s_0_a = some ad99 ∧ (0 ≤ n28a_2 ∧ n28a_2 < ((s_0_n : Nat) : Int)) ∧ (∃ x100 : Nat, LoadsTo (cx w0 [] []) (loc49_1 k5 g k7 s_0_a s_0_n s_0_c s_1_a s_1_n s_1_c s_2_a s_2_n s_2_c s_3_a s_3_n s_3_c s_4 s_5 k11 n28a_0 n28a_1 n28a_2 n28a_3) [] 44 (Addr.add ad99 (Int.toNat n28a_2 * 1)) (.float .f64 x100) ∧ (∃ ad104 : Addr, s_1_a = some ad104 ∧ (0 ≤ n28a_2 ∧ n28a_2 < ((s_1_n : Nat) : Int)) ∧ (∃ n105 : Int, LoadsTo (cx w0 [] []) (loc49_1 k5 g k7 s_0_a s_0_n s_0_c s_1_a s_1_n s_1_c s_2_a s_2_n s_2_c s_3_a s_3_n s_3_c s_4 s_5 k11 n28a_0 n28a_1 n28a_2 n28a_3) [] 2 (Addr.add ad104 (Int.toNat n28a_2 * 1)) (.int .i64 n105) ∧ (∃ n108 : Int, CallV (cx w0 [] []) (loc49_1 k5 g k7 s_0_a s_0_n s_0_c s_1_a s_1_n s_1_c s_2_a s_2_n s_2_c s_3_a s_3_n s_3_c s_4 s_5 k11 n28a_0 n28a_1 n28a_2 n28a_3) [] 74 [.pointer (some g), .int .i64 n28a_2] (.int .i64 n108) ∧ (∃ x109 : Nat, CallV (cx w0 [] []) (loc49_1 k5 g k7 s_0_a s_0_n s_0_c s_1_a s_1_n s_1_c s_2_a s_2_n s_2_c s_3_a s_3_n s_3_c s_4 s_5 k11 n28a_0 n28a_1 n28a_2 n28a_3) [] 92 [.float .f64 x100, .int .i64 n105, .int .i64 n108] (.float .f64 x109) ∧ (∃ ad113 : Addr, s_0_a = some ad113 ∧ (0 ≤ n28a_2 ∧ n28a_2 < ((s_0_n : Nat) : Int)) ∧ (∃ x114 : Nat, LoadsTo (cx w0 [] []) (loc49_1 k5 g k7 s_0_a s_0_n s_0_c s_1_a s_1_n s_1_c s_2_a s_2_n s_2_c s_3_a s_3_n s_3_c s_4 s_5 k11 n28a_0 n28a_1 n28a_2 n28a_3) [] 44 (Addr.add ad113 (Int.toNat n28a_2 * 1)) (.float .f64 x114) ∧ (∃ ad118 : Addr, s_0_a = some ad118 ∧ (0 ≤ n28a_0 ∧ n28a_0 < ((s_0_n : Nat) : Int)) ∧ (∃ x119 : Nat, LoadsTo (cx w0 [] []) (loc49_1 k5 g k7 s_0_a s_0_n s_0_c s_1_a s_1_n s_1_c s_2_a s_2_n s_2_c s_3_a s_3_n s_3_c s_4 s_5 k11 n28a_0 n28a_1 n28a_2 n28a_3) [] 44 (Addr.add ad118 (Int.toNat n28a_0 * 1)) (.float .f64 x119) ∧ (∃ x120 : Nat, CallV (cx w0 [] []) (loc49_1 k5 g k7 s_0_a s_0_n s_0_c s_1_a s_1_n s_1_c s_2_a s_2_n s_2_c s_3_a s_3_n s_3_c s_4 s_5 k11 n28a_0 n28a_1 n28a_2 n28a_3) [] 117 [.float .f64 x114, .float .f64 x119] (.float .f64 x120) ∧ (∀ r121 : Nat, FRes (f64.sub x109 x120) r121 → (∃ x124 : Nat, CallV (cx w0 [] []) (loc49_1 k5 g k7 s_0_a s_0_n s_0_c s_1_a s_1_n s_1_c s_2_a s_2_n s_2_c s_3_a s_3_n s_3_c s_4 s_5 k11 n28a_0 n28a_1 n28a_2 n28a_3) [] 118 [.float .f64 r95, .float .f64 r121] (.float .f64 x124) ∧ (cond (f64.order x124 0 == some .gt) (Fin (cx w0 [] []) R (.float .f64 x124) []) (Fin (cx w0 [] []) R (.float .f64 0) [])))))))))))))))))))))))))) (Fin (cx w0 [] []) R (.float .f64 0) [])))))))))))))))))
theorem q49_eq (w0 : World) (g : Addr) (limiter : Int) (s_0_a : Option Addr) (s_0_n : Nat) (s_0_c : Nat) (s_1_a : Option Addr) (s_1_n : Nat) (s_1_c : Nat) (s_2_a : Option Addr) (s_2_n : Nat) (s_2_c : Nat) (s_3_a : Option Addr) (s_3_n : Nat) (s_3_c : Nat) (s_4 : Int) (s_5 : Int) (e : Int) (u : Nat) (R : Value → World → Prop) : funT (cx w0 [] []) Tryz.f49 an49 [.pointer (some g), .int .i64 limiter, .agg ⟨[.slice s_0_a s_0_n s_0_c, .slice s_1_a s_1_n s_1_c, .slice s_2_a s_2_n s_2_c, .slice s_3_a s_3_n s_3_c, .int .i64 s_4, .int .i64 s_5]⟩, .int .i64 e, .float .f64 u] [] R = q49 w0 g limiter s_0_a s_0_n s_0_c s_1_a s_1_n s_1_c s_2_a s_2_n s_2_c s_3_a s_3_n s_3_c s_4 s_5 e u R := by kernel_rfl
theorem d49 (W : World) (g : Addr) (limiter : Int) (s_0_a : Option Addr) (s_0_n : Nat) (s_0_c : Nat) (s_1_a : Option Addr) (s_1_n : Nat) (s_1_c : Nat) (s_2_a : Option Addr) (s_2_n : Nat) (s_2_c : Nat) (s_3_a : Option Addr) (s_3_n : Nat) (s_3_c : Nat) (s_4 : Int) (s_5 : Int) (e : Int) (u : Nat) {R : Value → World → Prop} (h : q49 W g limiter s_0_a s_0_n s_0_c s_1_a s_1_n s_1_c s_2_a s_2_n s_2_c s_3_a s_3_n s_3_c s_4 s_5 e u R) : Does Tryz.prog 49 [.pointer (some g), .int .i64 limiter, .agg ⟨[.slice s_0_a s_0_n s_0_c, .slice s_1_a s_1_n s_1_c, .slice s_2_a s_2_n s_2_c, .slice s_3_a s_3_n s_3_c, .int .i64 s_4, .int .i64 s_5]⟩, .int .i64 e, .float .f64 u] W R :=
  does_of_T (fn := Tryz.f49) (x := an49) (dyn := []) (by kernel_rfl) (by kernel_rfl) (sep_self W) (Eq.mpr (q49_eq W g limiter s_0_a s_0_n s_0_c s_1_a s_1_n s_1_c s_2_a s_2_n s_2_c s_3_a s_3_n s_3_c s_4 s_5 e u R) h)

/-- the depth over an edge, from 'up' to 'down' -/
def core49 (g : Net) (bed : List Nat) (water : List Int) (limiter up down back : Int) : Nat :=
  let d := fun c : Int => fr (s115 (water.getD c.toNat 0) (g.area c))
  let v := fr (f64.add (d up) (fr (f64.mul 4602678819172646912 (s116 limiter (fr (f64.sub (d up) (d back))) (fr (f64.sub (d down) (d up)))))))
  let gate := fr (f64.sub (s92 (bed.getD up.toNat 0) (water.getD up.toNat 0) (g.area up)) (s117 (bed.getD up.toNat 0) (bed.getD down.toNat 0)))
  cond (f64.order (s118 v gate) 0 == some .gt) (s118 v gate) 0
def s49 (g : Net) (bed : List Nat) (water : List Int) (limiter e : Int) (u : Nat) : Nat :=
  cond (!(g.is e)) 0 (cond ((bed.length : Int) != (g.A.length : Int)) 0 (cond ((water.length : Int) != (g.A.length : Int)) 0
    (cond (f64.order u 0 == some .gt) (core49 g bed water limiter (g.edge e).1 (g.edge e).2.2.1 (g.behind e).1) (cond (f64.order u 0 == some .lt) (core49 g bed water limiter (g.edge e).2.2.1 (g.edge e).1 (g.behind e).2) 0))))
theorem GridAt.ok {W : World} {p : Addr} {g : Net} (h : GridAt W p g) : GOk g := by
  obtain ⟨kg, km, mo, ae, ce, ab, cb, aa, ca, al, cl, ap, cp, ft, rfl, h2, h3, h4, a1, a2, a3, a4, a5, h5⟩ := h
  exact h5
theorem edge_range {g : Net} (hg : GOk g) {e : Int} (h : g.is e = true) : (0 ≤ (g.edge e).1 ∧ (g.edge e).1 < (g.A.length : Int)) ∧ 0 ≤ (g.edge e).2.2.1 ∧ (g.edge e).2.2.1 < (g.A.length : Int) := by
  obtain ⟨h0, h1⟩ := Net.is_iff.1 h
  obtain ⟨x, hx⟩ := getElem?_int h0 h1
  have : g.edge e = x := by simp only [Net.edge, h, cond_true, List.getD_eq_getElem?_getD, hx, Option.getD_some]
  rw [this]
  exact hg.er x (List.mem_of_getElem? hx)
theorem behind_range {g : Net} (hg : GOk g) {e : Int} (h : g.is e = true) : (0 ≤ (g.behind e).1 ∧ (g.behind e).1 < (g.A.length : Int)) ∧ 0 ≤ (g.behind e).2 ∧ (g.behind e).2 < (g.A.length : Int) := by
  obtain ⟨h0, h1⟩ := Net.is_iff.1 h
  rw [← hg.b] at h1
  obtain ⟨x, hx⟩ := getElem?_int h0 h1
  have : g.behind e = x := by simp only [Net.behind, h, cond_true, List.getD_eq_getElem?_getD, hx, Option.getD_some]
  rw [this]
  exact hg.br x (List.mem_of_getElem? hx)
theorem p49 (p : Addr) (g : Net) (s : SeaA) (limiter e : Int) (u : Nat) : On (LS p g s) 49 [.pointer (some p), .int .i64 limiter, s.v, .int .i64 e, .float .f64 u] (.float .f64 (s49 g s.bed s.water limiter e u)) := fun W hLS => by
  have hL := hLS.1.1
  have hLG := hLS.1
  have hS := hLS.2
  refine d49 W p limiter s.ba s.bed.length s.bc s.wa s.water.length s.wc s.ta s.tracer.length s.tc s.ua s.speed.length s.uc s.sky s.step e u fun k5 k7 => ⟨_, _, _, _, _, (p47 p g e).callG hLG, fun k11 => cond_split (fun h0 => fin_ext (by simp only [s49, h0, cond_true])) fun h0 => ⟨_, (p36 p g).callG hLG, cond_split (fun h1 => fin_ext (by simp only [s49, h0, h1, cond_true, cond_false])) fun h1 => ⟨_, (p36 p g).callG hLG, cond_split (fun h2 => fin_ext (by simp only [s49, h0, h1, h2, cond_true, cond_false])) fun h2 => ⟨_, _, _, (p48 p g e).callG hLG, ?_⟩⟩⟩⟩
  have hi : g.is e = true := by simpa using h0
  have eb : (s.bed.length : Int) = (g.A.length : Int) := by simpa using h1
  have ew : (s.water.length : Int) = (g.A.length : Int) := by simpa using h2
  obtain ⟨hl, hr⟩ := edge_range hLG.2.ok hi
  obtain ⟨bl, br⟩ := behind_range hLG.2.ok hi
  have e49 : s49 g s.bed s.water limiter e u = cond (f64.order u 0 == some .gt) (core49 g s.bed s.water limiter (g.edge e).1 (g.edge e).2.2.1 (g.behind e).1) (cond (f64.order u 0 == some .lt) (core49 g s.bed s.water limiter (g.edge e).2.2.1 (g.edge e).1 (g.behind e).2) 0) := by
    simp only [s49, h0, h1, h2, cond_false]
  rw [e49]
  generalize (g.edge e).1 = el at *
  generalize (g.edge e).2.2.1 = er at *
  generalize (g.behind e).1 = bkl at *
  generalize (g.behind e).2 = bkr at *
  have c114 : ∀ (c : Int), 0 ≤ c ∧ c < (s.water.length : Int) → ∀ {q1 q2 q3 : Int}, CallR (cx W [] []) (loc49_1 k5 p k7 s.ba s.bed.length s.bc s.wa s.water.length s.wc s.ta s.tracer.length s.tc s.ua s.speed.length s.uc s.sky s.step k11 q1 (g.edge e).2.1 q2 q3) [] 114 [.int .i64 c, .pointer (some ⟨k7, 0, none⟩), .pointer (some ⟨k5, 0, none⟩)] (.val (.one .float)) fun v' => ∃ r, v' = .float .f64 r ∧ FRes (s115 (s.water.getD c.toNat 0) (g.area c)) r :=
    fun c hc => fun {q1 q2 q3} => (p114 p g s k7 k5 _ _ c hc).call fun W' hS' => ⟨hLS.ext (Sep.ext0 hS'), hS'.own _ _ (.tail _ (.head _)), hS'.own _ _ (.head _)⟩
  refine cond_split (fun hu => ?_) fun hu => cond_split (fun hv => ?_) fun hv => fin_ext (by rw [hu, hv]; rfl)
  · rw [hu, cond_true]
    obtain ⟨xw, hxw⟩ := getElem?_int hl.1 (by rw [ew]; exact hl.2 : el < (s.water.length : Int))
    obtain ⟨xb, hxb⟩ := getElem?_int hl.1 (by rw [eb]; exact hl.2 : el < (s.bed.length : Int))
    obtain ⟨yb, hyb⟩ := getElem?_int hr.1 (by rw [eb]; exact hr.2 : er < (s.bed.length : Int))
    have gw : s.water.getD (el).toNat 0 = xw := by rw [List.getD_eq_getElem?_getD, hxw]; rfl
    have gb : s.bed.getD (el).toNat 0 = xb := by rw [List.getD_eq_getElem?_getD, hxb]; rfl
    have gy : s.bed.getD (er).toNat 0 = yb := by rw [List.getD_eq_getElem?_getD, hyb]; rfl
    obtain ⟨adb, hadb⟩ := arr_addr hS.1 (fCells_get hxb)
    obtain ⟨adw, hadw⟩ := arr_addr hS.2.1 (iCells_get hxw)
    refine ⟨_, c114 el ⟨hl.1, by rw [ew]; exact hl.2⟩, fun x h => floatOf h fun h1 => ⟨_, c114 bkl ⟨bl.1, by rw [ew]; exact bl.2⟩, fun b h => floatOf h fun h2 => fun r79 h3 => ⟨_, c114 er ⟨hr.1, by rw [ew]; exact hr.2⟩, fun y h => floatOf h fun h4 => ⟨_, c114 el ⟨hl.1, by rw [ew]; exact hl.2⟩, fun x' h => floatOf h fun h5 => fun r86 h6 => ⟨_, c114 el ⟨hl.1, by rw [ew]; exact hl.2⟩, fun x'' h => floatOf h fun h7 => ?_⟩⟩⟩⟩⟩
    rw [fs1 h1, fs2 h2] at h3
    rw [fs1 h4, fs2 h5] at h6
    refine ⟨_, (p116 _ _ _).callG0 hL, fun r94 h8 r95 h9 => ?_⟩
    rw [c116_0 h3, c116_1 h6] at h8
    rw [fa1 h7, fa2 h8] at h9
    refine ⟨_, hadb, ⟨hl.1, by rw [eb]; exact hl.2⟩, xb, (by rw [Nat.mul_one]; exact loads_arr hS.1 hadb (fCells_get hxb) ld44), _, hadw, ⟨hl.1, by rw [ew]; exact hl.2⟩, xw, (by rw [Nat.mul_one]; exact loads_arr hS.2.1 hadw (iCells_get hxw) ld2), _, (p74 p g _).callG hLG, _, (p92 _ _ _).callL hL, _, hadb, ⟨hl.1, by rw [eb]; exact hl.2⟩, xb, (by rw [Nat.mul_one]; exact loads_arr hS.1 hadb (fCells_get hxb) ld44), _, hadb, ⟨hr.1, by rw [eb]; exact hr.2⟩, yb, (by rw [Nat.mul_one]; exact loads_arr hS.1 hadb (fCells_get hyb) ld44), _, (p117 _ _).callL hL, fun r121 h10 => ⟨_, (p118 _ _).callL hL, ?_⟩⟩
    rw [c118_0 h9, c118_1 h10, ← gw, ← gb, ← gy]
    refine cond_split (fun h11 => fin_ext ?_) fun h11 => fin_ext ?_
    · simp only [core49, h11, cond_true]
    · simp only [core49, h11, cond_false]
  · rw [hu, hv, cond_false, cond_true]
    obtain ⟨xw, hxw⟩ := getElem?_int hr.1 (by rw [ew]; exact hr.2 : er < (s.water.length : Int))
    obtain ⟨xb, hxb⟩ := getElem?_int hr.1 (by rw [eb]; exact hr.2 : er < (s.bed.length : Int))
    obtain ⟨yb, hyb⟩ := getElem?_int hl.1 (by rw [eb]; exact hl.2 : el < (s.bed.length : Int))
    have gw : s.water.getD (er).toNat 0 = xw := by rw [List.getD_eq_getElem?_getD, hxw]; rfl
    have gb : s.bed.getD (er).toNat 0 = xb := by rw [List.getD_eq_getElem?_getD, hxb]; rfl
    have gy : s.bed.getD (el).toNat 0 = yb := by rw [List.getD_eq_getElem?_getD, hyb]; rfl
    obtain ⟨adb, hadb⟩ := arr_addr hS.1 (fCells_get hxb)
    obtain ⟨adw, hadw⟩ := arr_addr hS.2.1 (iCells_get hxw)
    refine ⟨_, c114 er ⟨hr.1, by rw [ew]; exact hr.2⟩, fun x h => floatOf h fun h1 => ⟨_, c114 bkr ⟨br.1, by rw [ew]; exact br.2⟩, fun b h => floatOf h fun h2 => fun r79 h3 => ⟨_, c114 el ⟨hl.1, by rw [ew]; exact hl.2⟩, fun y h => floatOf h fun h4 => ⟨_, c114 er ⟨hr.1, by rw [ew]; exact hr.2⟩, fun x' h => floatOf h fun h5 => fun r86 h6 => ⟨_, c114 er ⟨hr.1, by rw [ew]; exact hr.2⟩, fun x'' h => floatOf h fun h7 => ?_⟩⟩⟩⟩⟩
    rw [fs1 h1, fs2 h2] at h3
    rw [fs1 h4, fs2 h5] at h6
    refine ⟨_, (p116 _ _ _).callG0 hL, fun r94 h8 r95 h9 => ?_⟩
    rw [c116_0 h3, c116_1 h6] at h8
    rw [fa1 h7, fa2 h8] at h9
    refine ⟨_, hadb, ⟨hr.1, by rw [eb]; exact hr.2⟩, xb, (by rw [Nat.mul_one]; exact loads_arr hS.1 hadb (fCells_get hxb) ld44), _, hadw, ⟨hr.1, by rw [ew]; exact hr.2⟩, xw, (by rw [Nat.mul_one]; exact loads_arr hS.2.1 hadw (iCells_get hxw) ld2), _, (p74 p g _).callG hLG, _, (p92 _ _ _).callL hL, _, hadb, ⟨hr.1, by rw [eb]; exact hr.2⟩, xb, (by rw [Nat.mul_one]; exact loads_arr hS.1 hadb (fCells_get hxb) ld44), _, hadb, ⟨hl.1, by rw [eb]; exact hl.2⟩, yb, (by rw [Nat.mul_one]; exact loads_arr hS.1 hadb (fCells_get hyb) ld44), _, (p117 _ _).callL hL, fun r121 h10 => ⟨_, (p118 _ _).callL hL, ?_⟩⟩
    rw [c118_0 h9, c118_1 h10, ← gw, ← gb, ← gy]
    refine cond_split (fun h11 => fin_ext ?_) fun h11 => fin_ext ?_
    · simp only [core49, h11, cond_true]
    · simp only [core49, h11, cond_false]


end Go.Proofs.YtnljcdplcloedaaGreatDoor
end
section
namespace Go.Proofs.YtnljcdplcloedaaGreatDoor
open Go Go.Tn Go.RowKit
set_option linter.unusedVariables false
set_option linter.unusedSimpArgs false
set_option maxRecDepth 100000
set_option maxHeartbeats 2000000

/-- In a world of which something is known f makes new blocks alone. -/
def NewP (P : World → Prop) (f : FuncId) (args : List Value) (Ψ : Value → Own → Prop) : Prop := ∀ W, P W → Does Tryz.prog f args W fun v' W' => ∃ X', Ψ v' X' ∧ Sep W [] X' W'
theorem NewP.call {P : World → Prop} {f : FuncId} {args : List Value} {Ψ : Value → Own → Prop} (h : NewP P f args Ψ) {w0 : World} {mt dyn : List Nat} {loc : Tn.Loc} {own : Own} {sh : Sh} (hp : ∀ W, Sep w0 mt (ents loc own) W → P W) (hs : ∀ v X', Ψ v X' → isS sh v) :
    CallG (cx w0 mt dyn) loc own f args sh fun v own' => ∃ X', Ψ v X' ∧ own' = X' ++ own := by
  intro W hS
  refine (h W (hp W hS)).mono fun v W' ⟨X', hΨ, hS'⟩ => ⟨hs v X' hΨ, X' ++ own, ⟨X', hΨ, rfl⟩, ?_⟩
  have hS2 := sep_frame (X := []) (B := ents loc own) hS hS'
  refine hS2.perm ?_
  unfold ents
  exact (List.perm_append_comm_assoc _ _ _)
theorem MutG.newP {f : FuncId} {args : List Value} {Ψ : Value → Own → Prop} (h : MutG f args [] Ψ) : NewP Laid f args Ψ := fun W hL => h W hL (sep_self W) List.not_mem_nil List.not_mem_nil
theorem set_fill {α : Type} (A : List α) (z v : α) (m : Nat) : (A ++ List.replicate (m + 1) z).set A.length v = A ++ [v] ++ List.replicate m z := by
  rw [List.set_append_right _ _ (Nat.le_refl _), Nat.sub_self, List.replicate_succ, List.set_cons_zero, List.append_assoc]; rfl
/-- the next cell of a list that is being filled -/
theorem stores_fill {w0 : World} {mt dyn : List Nat} {loc : Tn.Loc} {own pre post : Own} {t : TypeId} {v z : Value} {k i m : Nat} {A : List Value} {ty : TypeId} (ho : own = pre ++ (k, .cells ⟨A ++ List.replicate (m + 1) z⟩ ty) :: post) (hi : i = A.length) (h1 : v.cells.toList = [v]) (hv : Tn.isOne v = true) (hs : ∃ i, tab[t]? = some i ∧ i.size = 1) :
    StoresTo (cx w0 mt dyn) loc own t (Addr.add ⟨k, 0, none⟩ (i * 1)) v (pre ++ (k, .cells ⟨A ++ [v] ++ List.replicate m z⟩ ty) :: post) := by
  have h := stores_own (w0 := w0) (mt := mt) (dyn := dyn) (loc := loc) (o := i) ho (by rw [hi]; simp) h1 hv hs
  rw [hi, set_fill] at h
  rw [Tn.add_none, Nat.zero_add, Nat.mul_one, hi]
  exact h
theorem stores_at {w0 : World} {mt dyn : List Nat} {loc : Tn.Loc} {own pre post : Own} {t : TypeId} {v : Value} {k i : Nat} {cs : List Value} {ty : TypeId} (ho : own = pre ++ (k, .cells ⟨cs⟩ ty) :: post) (hlt : i < cs.length) (h1 : v.cells.toList = [v]) (hv : Tn.isOne v = true) (hs : ∃ i, tab[t]? = some i ∧ i.size = 1) :
    StoresTo (cx w0 mt dyn) loc own t (Addr.add ⟨k, 0, none⟩ (i * 1)) v (pre ++ (k, .cells ⟨cs.set i v⟩ ty) :: post) := by
  rw [Tn.add_none, Nat.zero_add, Nat.mul_one]
  exact stores_own ho hlt h1 hv hs
/-- a plan, and where its rains stand -/
structure PlanA where
  side : Int
  dt : Nat
  gravity : Nat
  drag : Nat
  lim : Int
  rivers : Bool
  ra : Option Addr
  rn : Nat
  rc : Nat
def PlanA.v (p : PlanA) : Value := .agg ⟨[.int .i64 p.side, .float .f64 p.dt, .float .f64 p.gravity, .float .f64 p.drag, .int .i64 p.lim, .bool p.rivers, .slice p.ra p.rn p.rc]⟩
theorem map_range_succ {α : Type} (f : Nat → α) (k : Nat) : (List.range (k + 1)).map f = (List.range k).map f ++ [f k] := by simp [List.range_succ]
theorem mu_lt {n : Nat} {k : Nat} (h : k < n) (hb : n ≤ 100000) : ((n : Int) - IntKind.wrap .i64 ((k : Int) + 1)).toNat < ((n : Int) - k).toNat := by rw [wi _ (by omega)]; omega
theorem wrap_succ {k : Nat} (hb : k ≤ 100000) : IntKind.wrap .i64 ((k : Int) + 1) = ((k + 1 : Nat) : Int) := by rw [wi _ (by omega)]; omega
theorem toNat_nat (k : Nat) : Int.toNat (k : Int) = k := rfl
/-- what goes over edge e -/
def q43e (g : Net) (dt : Nat) (lim : Int) (bed : List Nat) (water : List Int) (speed : List Nat) (e : Nat) : Int :=
  s41 (speed.getD e 0) (s49 g bed water lim (e : Int) (speed.getD e 0)) (g.len (e : Int)) dt
def s43 (g : Net) (dt : Nat) (lim : Int) (bed : List Nat) (water : List Int) (speed : List Nat) : List Int := (List.range g.E.length).map (q43e g dt lim bed water speed)
def ok43 (g : Net) (s : SeaA) : Prop := s.bed.length = g.A.length ∧ s.water.length = g.A.length ∧ s.tracer.length = g.A.length ∧ s.speed.length = g.E.length

-- tarn/flux.All
def loc43_0 (k4 : Nat) (p_0 : Int) (p_1 : Nat) (p_2 : Nat) (p_3 : Nat) (p_4 : Int) (p_5 : Bool) (p_6_a : Option Addr) (p_6_n : Nat) (p_6_c : Nat) (k5 : Nat) (s_0_a : Option Addr) (s_0_n : Nat) (s_0_c : Nat) (s_1_a : Option Addr) (s_1_n : Nat) (s_1_c : Nat) (s_2_a : Option Addr) (s_2_n : Nat) (s_2_c : Nat) (s_3_a : Option Addr) (s_3_n : Nat) (s_3_c : Nat) (s_4 : Int) (s_5 : Int) : Tn.Loc := [⟨k4, 54, [.int .i64 p_0, .float .f64 p_1, .float .f64 p_2, .float .f64 p_3, .int .i64 p_4, .bool p_5, .slice p_6_a p_6_n p_6_c], []⟩, ⟨k5, 25, [.slice s_0_a s_0_n s_0_c, .slice s_1_a s_1_n s_1_c, .slice s_2_a s_2_n s_2_c, .slice s_3_a s_3_n s_3_c, .int .i64 s_4, .int .i64 s_5], []⟩]
def an43 : Ann := (.seq .leaf (.seq (.seq .leaf (.cond (.seq .leaf .leaf) .leaf)) (.seq (.seq (.draw [0, 1, 2, 3, 4, 5, 6, 7, 8, 9, 10, 11, 12, 13, 14, 15, 16, 17, 18, 19, 20, 21, 22, 23, 24, 25, 26, 27, 28, 29]) (.cond (.seq .leaf .leaf) .leaf)) (.seq .leaf (.seq (.seq .leaf (.block (.loop [(48, .one (.int .i64))] [] (.seq .leaf (.seq (.cond .leaf .leaf) (.seq (.block (.seq .leaf (.seq .leaf (.draw [0, 1, 2, 3, 4, 5, 6, 7, 8, 9, 10, 11, 12, 13, 14, 15, 16, 17])))) .leaf)))))) (.seq .leaf .leaf))))))
noncomputable def q43 (w0 : World) (g : Addr) (p_0 : Int) (p_1 : Nat) (p_2 : Nat) (p_3 : Nat) (p_4 : Int) (p_5 : Bool) (p_6_a : Option Addr) (p_6_n : Nat) (p_6_c : Nat) (s_0_a : Option Addr) (s_0_n : Nat) (s_0_c : Nat) (s_1_a : Option Addr) (s_1_n : Nat) (s_1_c : Nat) (s_2_a : Option Addr) (s_2_n : Nat) (s_2_c : Nat) (s_3_a : Option Addr) (s_3_n : Nat) (s_3_c : Nat) (s_4 : Int) (s_5 : Int) (R : Value → World → Prop) : Prop :=
  (∀ k4 : Nat, (∀ k5 : Nat, (cond (Option.isNone (some g)) (Fin (cx w0 [] []) R (.tuple ⟨[.slice none 0 0, .int .i64 (2 : Int)]⟩) []) ((∃ n17 : Int, CallV (cx w0 [] []) (loc43_0 k4 p_0 p_1 p_2 p_3 p_4 p_5 p_6_a p_6_n p_6_c k5 s_0_a s_0_n s_0_c s_1_a s_1_n s_1_c s_2_a s_2_n s_2_c s_3_a s_3_n s_3_c s_4 s_5) [] 36 [.pointer (some g)] (.int .i64 n17) ∧ (cond (((s_0_n : Nat) : Int) != n17) (Fin (cx w0 [] []) R (.tuple ⟨[.slice none 0 0, .int .i64 (1 : Int)]⟩) []) ((∃ n24 : Int, CallV (cx w0 [] []) (loc43_0 k4 p_0 p_1 p_2 p_3 p_4 p_5 p_6_a p_6_n p_6_c k5 s_0_a s_0_n s_0_c s_1_a s_1_n s_1_c s_2_a s_2_n s_2_c s_3_a s_3_n s_3_c s_4 s_5) [] 36 [.pointer (some g)] (.int .i64 n24) ∧ (cond (((s_1_n : Nat) : Int) != n24) (Fin (cx w0 [] []) R (.tuple ⟨[.slice none 0 0, .int .i64 (1 : Int)]⟩) []) ((∃ n32 : Int, CallV (cx w0 [] []) (loc43_0 k4 p_0 p_1 p_2 p_3 p_4 p_5 p_6_a p_6_n p_6_c k5 s_0_a s_0_n s_0_c s_1_a s_1_n s_1_c s_2_a s_2_n s_2_c s_3_a s_3_n s_3_c s_4 s_5) [] 36 [.pointer (some g)] (.int .i64 n32) ∧ (cond (((s_2_n : Nat) : Int) != n32) (Fin (cx w0 [] []) R (.tuple ⟨[.slice none 0 0, .int .i64 (1 : Int)]⟩) []) ((∃ n40 : Int, CallV (cx w0 [] []) (loc43_0 k4 p_0 p_1 p_2 p_3 p_4 p_5 p_6_a p_6_n p_6_c k5 s_0_a s_0_n s_0_c s_1_a s_1_n s_1_c s_2_a s_2_n s_2_c s_3_a s_3_n s_3_c s_4 s_5) [] 37 [.pointer (some g)] (.int .i64 n40) ∧ (cond (((s_3_n : Nat) : Int) != n40) (Fin (cx w0 [] []) R (.tuple ⟨[.slice none 0 0, .int .i64 (1 : Int)]⟩) []) ((∃ n44 : Int, CallV (cx w0 [] []) (loc43_0 k4 p_0 p_1 p_2 p_3 p_4 p_5 p_6_a p_6_n p_6_c k5 s_0_a s_0_n s_0_c s_1_a s_1_n s_1_c s_2_a s_2_n s_2_c s_3_a s_3_n s_3_c s_4 s_5) [] 37 [.pointer (some g)] (.int .i64 n44) ∧ ((0 ≤ n44 ∧ n44 ≤ n44 ∧ n44 < 2 ^ 46 ∧ ((8 : Nat) : Int) * n44 ≤ 2 ^ 47) ∧ ∀ k45 : Nat, (∃ (I48 : Int → Own → Prop) (μ48 : Int → Own → Nat), I48 (0 : Int) ((k45, .cells ⟨List.replicate (Int.toNat n44) (.int .i64 0)⟩ 2) :: []) ∧ ∀ n48 : Int, ∀ own48 : Own, I48 n48 own48 → (cond (decide (n48 < ((Int.toNat n44 : Nat) : Int))) ((∃ ad54 : Addr, s_3_a = some ad54 ∧ (0 ≤ n48 ∧ n48 < ((s_3_n : Nat) : Int)) ∧ (∃ x55 : Nat, LoadsTo (cx w0 [] []) (loc43_0 k4 p_0 p_1 p_2 p_3 p_4 p_5 p_6_a p_6_n p_6_c k5 s_0_a s_0_n s_0_c s_1_a s_1_n s_1_c s_2_a s_2_n s_2_c s_3_a s_3_n s_3_c s_4 s_5) own48 44 (Addr.add ad54 (Int.toNat n48 * 1)) (.float .f64 x55) ∧ (∃ x65 : Nat, CallV (cx w0 [] []) (loc43_0 k4 p_0 p_1 p_2 p_3 p_4 p_5 p_6_a p_6_n p_6_c k5 s_0_a s_0_n s_0_c s_1_a s_1_n s_1_c s_2_a s_2_n s_2_c s_3_a s_3_n s_3_c s_4 s_5) own48 49 [.pointer (some g), .int .i64 p_4, .agg ⟨[.slice s_0_a s_0_n s_0_c, .slice s_1_a s_1_n s_1_c, .slice s_2_a s_2_n s_2_c, .slice s_3_a s_3_n s_3_c, .int .i64 s_4, .int .i64 s_5]⟩, .int .i64 n48, .float .f64 x55] (.float .f64 x65) ∧ (∃ x68 : Nat, CallV (cx w0 [] []) (loc43_0 k4 p_0 p_1 p_2 p_3 p_4 p_5 p_6_a p_6_n p_6_c k5 s_0_a s_0_n s_0_c s_1_a s_1_n s_1_c s_2_a s_2_n s_2_c s_3_a s_3_n s_3_c s_4 s_5) own48 50 [.pointer (some g), .int .i64 n48] (.float .f64 x68) ∧ (∃ n71 : Int, CallV (cx w0 [] []) (loc43_0 k4 p_0 p_1 p_2 p_3 p_4 p_5 p_6_a p_6_n p_6_c k5 s_0_a s_0_n s_0_c s_1_a s_1_n s_1_c s_2_a s_2_n s_2_c s_3_a s_3_n s_3_c s_4 s_5) own48 41 [.float .f64 x55, .float .f64 x65, .float .f64 x68, .float .f64 p_1] (.int .i64 n71) ∧ (∃ ad72 : Addr, (some ⟨k45, 0, none⟩) = some ad72 ∧ (0 ≤ n48 ∧ n48 < ((Int.toNat n44 : Nat) : Int)) ∧ (∃ own42 : Own, StoresTo (cx w0 [] []) (loc43_0 k4 p_0 p_1 p_2 p_3 p_4 p_5 p_6_a p_6_n p_6_c k5 s_0_a s_0_n s_0_c s_1_a s_1_n s_1_c s_2_a s_2_n s_2_c s_3_a s_3_n s_3_c s_4 s_5) own48 2 (Addr.add ad72 (Int.toNat n48 * 1)) (.int .i64 n71) own42 ∧ I48 (IntKind.wrap .i64 (n48 + (1 : Int))) own42 ∧ μ48 (IntKind.wrap .i64 (n48 + (1 : Int))) own42 < μ48 n48 own48)))))))) (Fin (cx w0 [] []) R (.tuple ⟨[.slice (some ⟨k45, 0, none⟩) (Int.toNat n44) (Int.toNat n44), .int .i64 (0 : Int)]⟩) own48)))))))))))))))))))))
theorem q43_eq (w0 : World) (g : Addr) (p_0 : Int) (p_1 : Nat) (p_2 : Nat) (p_3 : Nat) (p_4 : Int) (p_5 : Bool) (p_6_a : Option Addr) (p_6_n : Nat) (p_6_c : Nat) (s_0_a : Option Addr) (s_0_n : Nat) (s_0_c : Nat) (s_1_a : Option Addr) (s_1_n : Nat) (s_1_c : Nat) (s_2_a : Option Addr) (s_2_n : Nat) (s_2_c : Nat) (s_3_a : Option Addr) (s_3_n : Nat) (s_3_c : Nat) (s_4 : Int) (s_5 : Int) (R : Value → World → Prop) : funT (cx w0 [] []) Tryz.f43 an43 [.pointer (some g), .agg ⟨[.int .i64 p_0, .float .f64 p_1, .float .f64 p_2, .float .f64 p_3, .int .i64 p_4, .bool p_5, .slice p_6_a p_6_n p_6_c]⟩, .agg ⟨[.slice s_0_a s_0_n s_0_c, .slice s_1_a s_1_n s_1_c, .slice s_2_a s_2_n s_2_c, .slice s_3_a s_3_n s_3_c, .int .i64 s_4, .int .i64 s_5]⟩] [] R = q43 w0 g p_0 p_1 p_2 p_3 p_4 p_5 p_6_a p_6_n p_6_c s_0_a s_0_n s_0_c s_1_a s_1_n s_1_c s_2_a s_2_n s_2_c s_3_a s_3_n s_3_c s_4 s_5 R := by kernel_rfl
theorem d43 (W : World) (g : Addr) (p_0 : Int) (p_1 : Nat) (p_2 : Nat) (p_3 : Nat) (p_4 : Int) (p_5 : Bool) (p_6_a : Option Addr) (p_6_n : Nat) (p_6_c : Nat) (s_0_a : Option Addr) (s_0_n : Nat) (s_0_c : Nat) (s_1_a : Option Addr) (s_1_n : Nat) (s_1_c : Nat) (s_2_a : Option Addr) (s_2_n : Nat) (s_2_c : Nat) (s_3_a : Option Addr) (s_3_n : Nat) (s_3_c : Nat) (s_4 : Int) (s_5 : Int) {R : Value → World → Prop} (h : q43 W g p_0 p_1 p_2 p_3 p_4 p_5 p_6_a p_6_n p_6_c s_0_a s_0_n s_0_c s_1_a s_1_n s_1_c s_2_a s_2_n s_2_c s_3_a s_3_n s_3_c s_4 s_5 R) : Does Tryz.prog 43 [.pointer (some g), .agg ⟨[.int .i64 p_0, .float .f64 p_1, .float .f64 p_2, .float .f64 p_3, .int .i64 p_4, .bool p_5, .slice p_6_a p_6_n p_6_c]⟩, .agg ⟨[.slice s_0_a s_0_n s_0_c, .slice s_1_a s_1_n s_1_c, .slice s_2_a s_2_n s_2_c, .slice s_3_a s_3_n s_3_c, .int .i64 s_4, .int .i64 s_5]⟩] W R :=
  does_of_T (fn := Tryz.f43) (x := an43) (dyn := []) (by kernel_rfl) (by kernel_rfl) (sep_self W) (Eq.mpr (q43_eq W g p_0 p_1 p_2 p_3 p_4 p_5 p_6_a p_6_n p_6_c s_0_a s_0_n s_0_c s_1_a s_1_n s_1_c s_2_a s_2_n s_2_c s_3_a s_3_n s_3_c s_4 s_5 R) h)

theorem p43 (p : Addr) (g : Net) (pl : PlanA) (s : SeaA) : NewP (LS p g s) 43 [.pointer (some p), pl.v, s.v] fun v X' =>
    (ok43 g s ∧ ∃ k, v = .tuple ⟨[.slice (some ⟨k, 0, none⟩) g.E.length g.E.length, .int .i64 0]⟩ ∧ X' = [(k, .cells ⟨iCells (s43 g pl.dt pl.lim s.bed s.water s.speed)⟩ 2)]) ∨ (¬ ok43 g s ∧ v = .tuple ⟨[.slice none 0 0, .int .i64 1]⟩ ∧ X' = []) := by
  intro W hLS
  have hL := hLS.1.1
  have hLG := hLS.1
  have hS := hLS.2
  refine d43 W p pl.side pl.dt pl.gravity pl.drag pl.lim pl.rivers pl.ra pl.rn pl.rc s.ba s.bed.length s.bc s.wa s.water.length s.wc s.ta s.tracer.length s.tc s.ua s.speed.length s.uc s.sky s.step fun k4 k5 => cond_split (fun h => by cases h) fun _ => ?_
  have bad : ¬ ok43 g s → Fin (cx W [] []) (fun v' W' => ∃ X', ((ok43 g s ∧ ∃ k, v' = .tuple ⟨[.slice (some ⟨k, 0, none⟩) g.E.length g.E.length, .int .i64 0]⟩ ∧ X' = [(k, .cells ⟨iCells (s43 g pl.dt pl.lim s.bed s.water s.speed)⟩ 2)]) ∨ (¬ ok43 g s ∧ v' = .tuple ⟨[.slice none 0 0, .int .i64 1]⟩ ∧ X' = [])) ∧ Sep W [] X' W') (.tuple ⟨[.slice none 0 0, .int .i64 1]⟩) [] := fun hn W' hS' => ⟨[], .inr ⟨hn, rfl, rfl⟩, hS'⟩
  have nq : ∀ {a b : Nat}, (((a : Nat) : Int) != (b : Int)) = true → a ≠ b := fun h e => by subst e; simp at h
  have yq : ∀ {a b : Nat}, (((a : Nat) : Int) != (b : Int)) = false → a = b := fun h => by have := h; simp at this; omega
  refine ⟨_, (p36 p g).callG hLG, cond_split (fun h => bad fun h' => nq h h'.1) fun h0 => ⟨_, (p36 p g).callG hLG, cond_split (fun h => bad fun h' => nq h h'.2.1) fun h1 => ⟨_, (p36 p g).callG hLG, cond_split (fun h => bad fun h' => nq h h'.2.2.1) fun h2 => ⟨_, (p37 p g).callG hLG, cond_split (fun h => bad fun h' => nq h h'.2.2.2) fun h3 => ⟨_, (p37 p g).callG hLG, ?_⟩⟩⟩⟩⟩
  have hok : ok43 g s := ⟨yq h0, yq h1, yq h2, yq h3⟩
  have hel := hLG.2.ok.el
  refine ⟨⟨by omega, by omega, by omega, by omega⟩, fun k45 => ?_⟩
  refine ⟨fun i own => ∃ k : Nat, i = (k : Int) ∧ k ≤ g.E.length ∧ own = [(k45, .cells ⟨iCells ((List.range k).map (q43e g pl.dt pl.lim s.bed s.water s.speed)) ++ List.replicate (g.E.length - k) (.int .i64 0)⟩ 2)], fun i _ => ((g.E.length : Int) - i).toNat, ⟨0, rfl, Nat.zero_le _, rfl⟩, ?_⟩
  rintro i own ⟨k, rfl, hk, rfl⟩
  refine cond_split (fun h => ?_) fun h => ?_
  · have hk' : k < g.E.length := by have := of_decide_eq_true h; omega
    have hks : k < s.speed.length := by rw [hok.2.2.2]; exact hk'
    obtain ⟨x, hx⟩ : ∃ x, s.speed[k]? = some x := ⟨_, List.getElem?_eq_getElem hks⟩
    have gx : s.speed.getD k 0 = x := by rw [List.getD_eq_getElem?_getD, hx]; rfl
    obtain ⟨ad, had⟩ := arr_addr hS.2.2.2 (fCells_get hx)
    obtain ⟨m, hm⟩ : ∃ m, g.E.length - k = m + 1 := ⟨g.E.length - k - 1, by omega⟩
    refine ⟨_, had, ⟨by omega, by omega⟩, x, (by rw [Nat.mul_one]; exact loads_arr hS.2.2.2 had (fCells_get hx) ld44), _, (p49 p g s pl.lim k x).callS hLS, _, (p50 p g k).callG hLG, _, (p41 _ _ _ _).callL hL, _, rfl, ⟨by omega, by omega⟩, _, stores_fill (pre := []) (post := []) (m := m) (A := iCells ((List.range k).map (q43e g pl.dt pl.lim s.bed s.water s.speed))) (z := .int .i64 0) (ty := 2) (by rw [hm]; rfl) (by simp [iCells]) rfl rfl ⟨_, rfl, rfl⟩, ⟨k + 1, wrap_succ (by omega), hk', ?_⟩, mu_lt hk' hel⟩
    rw [map_range_succ, show g.E.length - (k + 1) = m by omega]
    simp [iCells, q43e, hx]
  · have hk' : k = g.E.length := by have := of_decide_eq_false h; omega
    subst hk'
    refine fun W' hS' => ⟨_, .inl ⟨hok, k45, rfl, rfl⟩, ?_⟩
    rw [Nat.sub_self, List.replicate_zero, List.append_nil] at hS'
    exact hS'



def wl108 (g : Net) (c : Nat) : Int := cond ((c : Int) == 1) (IntKind.wrap .i64 (2 * g.area c)) (g.area c)
def lake108 (g : Net) : List Int := (List.range g.A.length).map (wl108 g)

-- tarn/tarnlaw13.lake
def loc108_0 (k2 : Nat) : Tn.Loc := [⟨k2, 25, [.slice none 0 0, .slice none 0 0, .slice none 0 0, .slice none 0 0, .int .i64 0, .int .i64 0], []⟩]
def loc108_1 (k2 : Nat) (k4 : Nat) (k23 : Nat) (n7 : Int) (k25 : Nat) (k27 : Nat) (k30 : Nat) : Tn.Loc := [⟨k2, 25, [.slice none 0 0, .slice none 0 0, .slice none 0 0, .slice none 0 0, .int .i64 0, .int .i64 0], []⟩, ⟨k4, 25, [.slice (some ⟨k23, 0, none⟩) (Int.toNat n7) (Int.toNat n7), .slice (some ⟨k25, 0, none⟩) (Int.toNat n7) (Int.toNat n7), .slice (some ⟨k27, 0, none⟩) (Int.toNat n7) (Int.toNat n7), .slice (some ⟨k30, 0, none⟩) (Int.toNat (IntKind.wrap .i64 ((2 : Int) * n7))) (Int.toNat (IntKind.wrap .i64 ((2 : Int) * n7))), .int .i64 0, .int .i64 0], []⟩]
def an108 : Ann := (.seq .leaf (.seq .leaf (.seq (.seq .leaf (.cond (.seq .leaf .leaf) .leaf)) (.seq (.draw [0, 2, 4, 6, 7, 1, 3, 5, 8, 9, 10, 11]) (.seq (.seq .leaf (.block (.loop [(5, .one (.int .i64))] [] (.seq (.seq .leaf (.cond .leaf .leaf)) (.seq (.block (.seq (.draw [0, 1, 2, 3, 4, 5, 6, 7]) (.seq .leaf (.cond (.draw [0, 1, 2, 3, 4, 5, 6, 7, 8, 9, 10]) .leaf)))) .leaf))))) (.seq .leaf .leaf))))))
noncomputable def q108 (w0 : World) (g : Addr) (R : Value → World → Prop) : Prop :=
  (∀ k2 : Nat, (∃ n7 : Int, CallV (cx w0 [] []) (loc108_0 k2) [] 36 [.pointer (some g)] (.int .i64 n7) ∧ (cond (decide (n7 < (0 : Int))) (Fin (cx w0 [] []) R (.agg ⟨[.slice none 0 0, .slice none 0 0, .slice none 0 0, .slice none 0 0, .int .i64 0, .int .i64 0]⟩) []) ((cond (decide (n7 > (6144 : Int))) (Fin (cx w0 [] []) R (.agg ⟨[.slice none 0 0, .slice none 0 0, .slice none 0 0, .slice none 0 0, .int .i64 0, .int .i64 0]⟩) []) ((∃ n16 : Int, CallV (cx w0 [] []) (loc108_0 k2) [] 37 [.pointer (some g)] (.int .i64 n16) ∧ (cond (n16 != (IntKind.wrap .i64 ((2 : Int) * n7))) (Fin (cx w0 [] []) R (.agg ⟨[.slice none 0 0, .slice none 0 0, .slice none 0 0, .slice none 0 0, .int .i64 0, .int .i64 0]⟩) []) (((0 ≤ n7 ∧ n7 ≤ n7 ∧ n7 < 2 ^ 46 ∧ ((8 : Nat) : Int) * n7 ≤ 2 ^ 47) ∧ ∀ k23 : Nat, ((0 ≤ n7 ∧ n7 ≤ n7 ∧ n7 < 2 ^ 46 ∧ ((8 : Nat) : Int) * n7 ≤ 2 ^ 47) ∧ ∀ k25 : Nat, ((0 ≤ n7 ∧ n7 ≤ n7 ∧ n7 < 2 ^ 46 ∧ ((8 : Nat) : Int) * n7 ≤ 2 ^ 47) ∧ ∀ k27 : Nat, ((0 ≤ IntKind.wrap .i64 ((2 : Int) * n7) ∧ IntKind.wrap .i64 ((2 : Int) * n7) ≤ IntKind.wrap .i64 ((2 : Int) * n7) ∧ IntKind.wrap .i64 ((2 : Int) * n7) < 2 ^ 46 ∧ ((8 : Nat) : Int) * (IntKind.wrap .i64 ((2 : Int) * n7)) ≤ 2 ^ 47) ∧ ∀ k30 : Nat, (∀ k4 : Nat, (∃ (I5 : Int → Own → Prop) (μ5 : Int → Own → Nat), I5 (0 : Int) ((k30, .cells ⟨List.replicate (Int.toNat (IntKind.wrap .i64 ((2 : Int) * n7))) (.float .f64 0)⟩ 44) :: ((k27, .cells ⟨List.replicate (Int.toNat n7) (.int .i64 0)⟩ 2) :: ((k25, .cells ⟨List.replicate (Int.toNat n7) (.int .i64 0)⟩ 2) :: ((k23, .cells ⟨List.replicate (Int.toNat n7) (.float .f64 0)⟩ 44) :: [])))) ∧ ∀ n5 : Int, ∀ own5 : Own, I5 n5 own5 → (cond (decide (n5 < n7)) ((∃ n42 : Int, CallV (cx w0 [] []) (loc108_1 k2 k4 k23 n7 k25 k27 k30) own5 74 [.pointer (some g), .int .i64 n5] (.int .i64 n42) ∧ (∃ ad43 : Addr, (some ⟨k25, 0, none⟩) = some ad43 ∧ (0 ≤ n5 ∧ n5 < ((Int.toNat n7 : Nat) : Int)) ∧ (∃ own15 : Own, StoresTo (cx w0 [] []) (loc108_1 k2 k4 k23 n7 k25 k27 k30) own5 2 (Addr.add ad43 (Int.toNat n5 * 1)) (.int .i64 n42) own15 ∧ (cond (n5 == (1 : Int)) ((∃ ad52 : Addr, (some ⟨k25, 0, none⟩) = some ad52 ∧ (0 ≤ n5 ∧ n5 < ((Int.toNat n7 : Nat) : Int)) ∧ (∃ n53 : Int, LoadsTo (cx w0 [] []) (loc108_1 k2 k4 k23 n7 k25 k27 k30) own15 2 (Addr.add ad52 (Int.toNat n5 * 1)) (.int .i64 n53) ∧ (∃ ad55 : Addr, (some ⟨k25, 0, none⟩) = some ad55 ∧ (0 ≤ n5 ∧ n5 < ((Int.toNat n7 : Nat) : Int)) ∧ (∃ own19 : Own, StoresTo (cx w0 [] []) (loc108_1 k2 k4 k23 n7 k25 k27 k30) own15 2 (Addr.add ad55 (Int.toNat n5 * 1)) (.int .i64 (IntKind.wrap .i64 ((2 : Int) * n53))) own19 ∧ I5 (IntKind.wrap .i64 (n5 + (1 : Int))) own19 ∧ μ5 (IntKind.wrap .i64 (n5 + (1 : Int))) own19 < μ5 n5 own5))))) (I5 (IntKind.wrap .i64 (n5 + (1 : Int))) own15 ∧ μ5 (IntKind.wrap .i64 (n5 + (1 : Int))) own15 < μ5 n5 own5)))))) (Fin (cx w0 [] []) R (.agg ⟨[.slice (some ⟨k23, 0, none⟩) (Int.toNat n7) (Int.toNat n7), .slice (some ⟨k25, 0, none⟩) (Int.toNat n7) (Int.toNat n7), .slice (some ⟨k27, 0, none⟩) (Int.toNat n7) (Int.toNat n7), .slice (some ⟨k30, 0, none⟩) (Int.toNat (IntKind.wrap .i64 ((2 : Int) * n7))) (Int.toNat (IntKind.wrap .i64 ((2 : Int) * n7))), .int .i64 0, .int .i64 0]⟩) own5)))))))))))))))))
theorem q108_eq (w0 : World) (g : Addr) (R : Value → World → Prop) : funT (cx w0 [] []) Tryz.f108 an108 [.pointer (some g)] [] R = q108 w0 g R := by kernel_rfl
theorem d108 (W : World) (g : Addr) {R : Value → World → Prop} (h : q108 W g R) : Does Tryz.prog 108 [.pointer (some g)] W R :=
  does_of_T (fn := Tryz.f108) (x := an108) (dyn := []) (by kernel_rfl) (by kernel_rfl) (sep_self W) (Eq.mpr (q108_eq W g R) h)

theorem p108 (p : Addr) (g : Net) (hA : g.A.length ≤ 6144) (hE : g.E.length = 2 * g.A.length) : NewP (LG p g) 108 [.pointer (some p)] fun v X' => ∃ k1 k2 k3 k4, v = .agg ⟨[.slice (some ⟨k1, 0, none⟩) g.A.length g.A.length, .slice (some ⟨k2, 0, none⟩) g.A.length g.A.length, .slice (some ⟨k3, 0, none⟩) g.A.length g.A.length, .slice (some ⟨k4, 0, none⟩) (2 * g.A.length) (2 * g.A.length), .int .i64 0, .int .i64 0]⟩ ∧
    X' = [(k4, .cells ⟨List.replicate (2 * g.A.length) (.float .f64 0)⟩ 44), (k3, .cells ⟨List.replicate g.A.length (.int .i64 0)⟩ 2), (k2, .cells ⟨iCells (lake108 g)⟩ 2), (k1, .cells ⟨List.replicate g.A.length (.float .f64 0)⟩ 44)] := by
  intro W hLG
  have hL := hLG.1
  have w2 : IntKind.wrap .i64 (2 * (g.A.length : Int)) = ((2 * g.A.length : Nat) : Int) := by rw [wi _ (by omega)]; omega
  refine d108 W p fun k2 => ⟨_, (p36 p g).callG hLG, cond_split (fun h => absurd (of_decide_eq_true h) (by omega)) fun _ => cond_split (fun h => absurd (of_decide_eq_true h) (by omega)) fun _ => ⟨_, (p37 p g).callG hLG, ?_⟩⟩
  rw [w2]
  refine cond_split (fun h => by rw [hE] at h; simp at h) fun _ => ⟨⟨by omega, by omega, by omega, by omega⟩, fun k23 => ⟨⟨by omega, by omega, by omega, by omega⟩, fun k25 => ⟨⟨by omega, by omega, by omega, by omega⟩, fun k27 => ⟨⟨by omega, by omega, by omega, by omega⟩, fun k30 k4 => ?_⟩⟩⟩⟩
  refine ⟨fun i own => ∃ k : Nat, i = (k : Int) ∧ k ≤ g.A.length ∧ own = [(k30, .cells ⟨List.replicate (2 * g.A.length) (.float .f64 0)⟩ 44), (k27, .cells ⟨List.replicate g.A.length (.int .i64 0)⟩ 2), (k25, .cells ⟨iCells ((List.range k).map (wl108 g)) ++ List.replicate (g.A.length - k) (.int .i64 0)⟩ 2), (k23, .cells ⟨List.replicate g.A.length (.float .f64 0)⟩ 44)], fun i _ => ((g.A.length : Int) - i).toNat, ⟨0, rfl, Nat.zero_le _, rfl⟩, ?_⟩
  rintro i own ⟨k, rfl, hk, rfl⟩
  refine cond_split (fun h => ?_) fun h => ?_
  · have hk' : k < g.A.length := by have := of_decide_eq_true h; omega
    obtain ⟨m, hm⟩ : ∃ m, g.A.length - k = m + 1 := ⟨g.A.length - k - 1, by omega⟩
    rw [hm]
    have el : k = (iCells ((List.range k).map (wl108 g))).length := by simp [iCells]
    refine ⟨_, (p74 p g k).callG hLG, _, rfl, ⟨by omega, by show (k : Int) < (g.A.length : Int); omega⟩, _, stores_fill (pre := [(k30, _), (k27, _)]) (post := [(k23, _)]) (m := m) (A := iCells ((List.range k).map (wl108 g))) (z := .int .i64 0) (ty := 2) rfl el rfl rfl ⟨_, rfl, rfl⟩, cond_split (fun h1 => ?_) fun h1 => ⟨⟨k + 1, wrap_succ (by omega), hk', ?_⟩, mu_lt hk' (by omega)⟩⟩
    · refine ⟨_, rfl, ⟨by omega, by show (k : Int) < (g.A.length : Int); omega⟩, g.area k, ?_, _, rfl, ⟨by omega, by show (k : Int) < (g.A.length : Int); omega⟩, _, stores_at (i := Int.toNat (k : Int)) (pre := [(k30, _), (k27, _)]) (post := [(k23, _)]) (cs := iCells ((List.range k).map (wl108 g)) ++ [.int .i64 (g.area k)] ++ List.replicate m (.int .i64 0)) (ty := 2) rfl ?_ rfl rfl ⟨_, rfl, rfl⟩, ⟨k + 1, wrap_succ (by omega), hk', ?_⟩, mu_lt hk' (by omega)⟩
      · rw [Tn.add_none, Nat.zero_add, Nat.mul_one, toNat_nat]
        refine loads_own (.tail _ (.tail _ (.tail _ (.tail _ (.head _))))) ?_
        rw [ld2, List.append_assoc, List.getElem?_append_right (by rw [← el]; exact Nat.le_refl _), ← el, Nat.sub_self]; rfl
      · rw [toNat_nat, List.length_append, List.length_append, ← el]; simp; omega
      · have e : (iCells ((List.range k).map (wl108 g)) ++ [Value.int .i64 (g.area k)] ++ List.replicate m (Value.int .i64 0)).set (Int.toNat (k : Int)) (.int .i64 (IntKind.wrap .i64 (2 * g.area k))) = iCells ((List.range (k + 1)).map (wl108 g)) ++ List.replicate (g.A.length - (k + 1)) (.int .i64 0) := by
          rw [map_range_succ, toNat_nat, show g.A.length - (k + 1) = m by omega, List.append_assoc, List.set_append_right _ _ (by rw [← el]; exact Nat.le_refl _), ← el, Nat.sub_self]
          have : wl108 g k = IntKind.wrap .i64 (2 * g.area k) := by unfold wl108; rw [h1, cond_true]
          simp [iCells, this]
        rw [← e]; rfl
    · have : wl108 g k = g.area k := by unfold wl108; rw [h1, cond_false]
      rw [map_range_succ, show g.A.length - (k + 1) = m by omega]
      simp [iCells, this]
  · have hk' : k = g.A.length := by have := of_decide_eq_false h; omega
    subst hk'
    refine fun W' hS' => ⟨_, ⟨k23, k25, k27, k30, rfl, rfl⟩, ?_⟩
    rw [Nat.sub_self, List.replicate_zero, List.append_nil] at hS'
    exact hS'


end Go.Proofs.YtnljcdplcloedaaGreatDoor
end
section
namespace Go.Proofs.YtnljcdplcloedaaGreatDoor
open Go Go.Tn Go.RowKit
set_option linter.unusedVariables false
set_option linter.unusedSimpArgs false
set_option maxRecDepth 100000
set_option maxHeartbeats 2000000

theorem side1 : Side 1 := ⟨by decide, by decide⟩
theorem nA1 : (netOf 1).A.length = 6 := by kernel_rfl
theorem nE1 : (netOf 1).E.length = 12 := by kernel_rfl
def oneF : Nat := 4607182418800017408
def list40 : List Int := s43 (netOf 1) 4602678819172646912 0 (List.replicate 6 0) (lake108 (netOf 1)) (oneF :: List.replicate 11 0)
theorem l40 : (list40.length == 12 && decide (0 < list40.getD 0 0) && (list40.getD 1 0 == 0)) = true := by kernel_rfl
theorem q40a : s41 4607182418800017408 4609434218613702656 4607182418800017408 4472074429978902528 = 2 := by kernel_rfl
theorem q40b : s41 4607182418800017408 4612811918334230528 4607182418800017408 4472074429978902528 = 2 := by kernel_rfl
theorem q40c : s41 13830554455654793216 4612811918334230528 4607182418800017408 4472074429978902528 = -2 := by kernel_rfl
theorem fCells_rep (n : Nat) (x : Nat) : fCells (List.replicate n x) = List.replicate n (.float .f64 x) := by simp [fCells]
theorem iCells_rep (n : Nat) (x : Int) : iCells (List.replicate n x) = List.replicate n (.int .i64 x) := by simp [iCells]

-- tarn/tarnlaw13.lives
def loc40_0 (k3 : Nat) (a14_0 : Option Addr) (l14_0 : Nat) (c14_0 : Nat) (a14_1 : Option Addr) (l14_1 : Nat) (c14_1 : Nat) (a14_2 : Option Addr) (l14_2 : Nat) (c14_2 : Nat) (a14_3 : Option Addr) (l14_3 : Nat) (c14_3 : Nat) (n14_4 : Int) (n14_5 : Int) : Tn.Loc := [⟨k3, 25, [.slice a14_0 l14_0 c14_0, .slice a14_1 l14_1 c14_1, .slice a14_2 l14_2 c14_2, .slice a14_3 l14_3 c14_3, .int .i64 n14_4, .int .i64 n14_5], []⟩]
def an40 : Ann := (.seq .leaf (.seq .leaf (.seq (.seq .leaf (.cond (.seq .leaf .leaf) .leaf)) (.seq .leaf (.seq (.seq .leaf (.cond (.seq .leaf .leaf) .leaf)) (.seq .leaf (.seq .leaf (.seq .leaf (.seq .leaf .leaf)))))))))
noncomputable def q40 (w0 : World)  (R : Value → World → Prop) : Prop :=
  (∃ Φ8 : Value → Own → Prop, CallG (cx w0 [] []) [] [] 30 [.int .i64 (1 : Int)] (.tup [.one .ptr, .one (.int .i64)]) Φ8 ∧ ∀ p8a : Option Addr, ∀ n8b : Int, ∀ own8 : Own, Φ8 (.tuple ⟨[.pointer p8a, .int .i64 n8b]⟩) own8 → (cond (n8b != (0 : Int)) (Fin (cx w0 [] []) R (.bool false) own8) ((∃ Φ14 : Value → Own → Prop, CallG (cx w0 [] []) [] own8 108 [.pointer p8a] (.val (.agg [.slice, .slice, .slice, .slice, .int .i64, .int .i64])) Φ14 ∧ ∀ a14_0 : Option Addr, ∀ l14_0 : Nat, ∀ c14_0 : Nat, ∀ a14_1 : Option Addr, ∀ l14_1 : Nat, ∀ c14_1 : Nat, ∀ a14_2 : Option Addr, ∀ l14_2 : Nat, ∀ c14_2 : Nat, ∀ a14_3 : Option Addr, ∀ l14_3 : Nat, ∀ c14_3 : Nat, ∀ n14_4 : Int, ∀ n14_5 : Int, ∀ own14 : Own, Φ14 (.agg ⟨[.slice a14_0 l14_0 c14_0, .slice a14_1 l14_1 c14_1, .slice a14_2 l14_2 c14_2, .slice a14_3 l14_3 c14_3, .int .i64 n14_4, .int .i64 n14_5]⟩) own14 → (∀ k3 : Nat, (cond (((l14_3 : Nat) : Int) != (12 : Int)) (Fin (cx w0 [] []) R (.bool false) own14) ((∃ ad21 : Addr, a14_3 = some ad21 ∧ (0 ≤ (0 : Int) ∧ (0 : Int) < ((l14_3 : Nat) : Int)) ∧ (∃ own22 : Own, StoresTo (cx w0 [] []) (loc40_0 k3 a14_0 l14_0 c14_0 a14_1 l14_1 c14_1 a14_2 l14_2 c14_2 a14_3 l14_3 c14_3 n14_4 n14_5) own14 44 (Addr.add ad21 (Int.toNat (0 : Int) * 1)) (.float .f64 4607182418800017408) own22 ∧ (∃ Φ26 : Value → Own → Prop, CallG (cx w0 [] []) (loc40_0 k3 a14_0 l14_0 c14_0 a14_1 l14_1 c14_1 a14_2 l14_2 c14_2 a14_3 l14_3 c14_3 n14_4 n14_5) own22 43 [.pointer p8a, .agg ⟨[.int .i64 (1 : Int), .float .f64 4602678819172646912, .float .f64 4607182418800017408, .float .f64 0, .int .i64 0, .bool false, .slice none 0 0]⟩, .agg ⟨[.slice a14_0 l14_0 c14_0, .slice a14_1 l14_1 c14_1, .slice a14_2 l14_2 c14_2, .slice a14_3 l14_3 c14_3, .int .i64 n14_4, .int .i64 n14_5]⟩] (.tup [.one .slice, .one (.int .i64)]) Φ26 ∧ ∀ a26a : Option Addr, ∀ l26a : Nat, ∀ c26a : Nat, ∀ n26b : Int, ∀ own26 : Own, Φ26 (.tuple ⟨[.slice a26a l26a c26a, .int .i64 n26b]⟩) own26 → (∃ n30 : Int, CallV (cx w0 [] []) (loc40_0 k3 a14_0 l14_0 c14_0 a14_1 l14_1 c14_1 a14_2 l14_2 c14_2 a14_3 l14_3 c14_3 n14_4 n14_5) own26 41 [.float .f64 4607182418800017408, .float .f64 4609434218613702656, .float .f64 4607182418800017408, .float .f64 4472074429978902528] (.int .i64 n30) ∧ (cond (n30 == (2 : Int)) ((∃ n34 : Int, CallV (cx w0 [] []) (loc40_0 k3 a14_0 l14_0 c14_0 a14_1 l14_1 c14_1 a14_2 l14_2 c14_2 a14_3 l14_3 c14_3 n14_4 n14_5) own26 41 [.float .f64 4607182418800017408, .float .f64 4612811918334230528, .float .f64 4607182418800017408, .float .f64 4472074429978902528] (.int .i64 n34) ∧ (cond (n34 == (2 : Int)) ((∃ n39 : Int, CallV (cx w0 [] []) (loc40_0 k3 a14_0 l14_0 c14_0 a14_1 l14_1 c14_1 a14_2 l14_2 c14_2 a14_3 l14_3 c14_3 n14_4 n14_5) own26 41 [.float .f64 13830554455654793216, .float .f64 4612811918334230528, .float .f64 4607182418800017408, .float .f64 4472074429978902528] (.int .i64 n39) ∧ (cond (n39 == ((-2) : Int)) ((cond (n26b == (0 : Int)) ((cond (((l26a : Nat) : Int) == (12 : Int)) ((∃ ad53 : Addr, a26a = some ad53 ∧ (0 ≤ (0 : Int) ∧ (0 : Int) < ((l26a : Nat) : Int)) ∧ (∃ n54 : Int, LoadsTo (cx w0 [] []) (loc40_0 k3 a14_0 l14_0 c14_0 a14_1 l14_1 c14_1 a14_2 l14_2 c14_2 a14_3 l14_3 c14_3 n14_4 n14_5) own26 2 (Addr.add ad53 (Int.toNat (0 : Int) * 1)) (.int .i64 n54) ∧ (cond (decide (n54 > (0 : Int))) ((∃ ad59 : Addr, a26a = some ad59 ∧ (0 ≤ (1 : Int) ∧ (1 : Int) < ((l26a : Nat) : Int)) ∧ (∃ n60 : Int, LoadsTo (cx w0 [] []) (loc40_0 k3 a14_0 l14_0 c14_0 a14_1 l14_1 c14_1 a14_2 l14_2 c14_2 a14_3 l14_3 c14_3 n14_4 n14_5) own26 2 (Addr.add ad59 (Int.toNat (1 : Int) * 1)) (.int .i64 n60) ∧ Fin (cx w0 [] []) R (.bool (n60 == (0 : Int))) own26))) (Fin (cx w0 [] []) R (.bool false) own26))))) (Fin (cx w0 [] []) R (.bool false) own26))) (Fin (cx w0 [] []) R (.bool false) own26))) (Fin (cx w0 [] []) R (.bool false) own26)))) (Fin (cx w0 [] []) R (.bool false) own26)))) (Fin (cx w0 [] []) R (.bool false) own26)))))))))))))
theorem q40_eq (w0 : World)  (R : Value → World → Prop) : funT (cx w0 [] []) Tryz.f40 an40 [] [] R = q40 w0  R := by kernel_rfl
theorem d40 (W : World)  {R : Value → World → Prop} (h : q40 W  R) : Does Tryz.prog 40 [] W R :=
  does_of_T (fn := Tryz.f40) (x := an40) (dyn := []) (by kernel_rfl) (by kernel_rfl) (sep_self W) (Eq.mpr (q40_eq W  R) h)

theorem p40 : Pu 40 [] (.bool true) := fun W hL => d40 W (by
  have hl := l40
  unfold list40 at hl
  have hA := nA1
  have hE := nE1
  have hok := netOf_ok side1
  have h30 := p30 1
  generalize netOf 1 = g at *
  refine ⟨_, h30.newP.call (fun W' hS => hL.ext (Sep.ext0 hS)) (by rintro v X' (⟨_, kg, km, rfl, _⟩ | ⟨_, rfl, _⟩) <;> exact ⟨_, rfl, _, _, rfl, ⟨_, rfl⟩, _, _, rfl, ⟨_, rfl⟩, rfl⟩), fun p8a n8b own8 h => ?_⟩
  obtain ⟨X, (⟨hs1, kg, km, e, hX⟩ | ⟨hn, _⟩), rfl⟩ := h
  case inr => exact (hn side1).elim
  cases e
  refine cond_split (fun h => absurd h (by decide)) fun _ => ?_
  have hG : ∀ {own : Own} {loc : Tn.Loc} (W' : World), Sep W [] (ents loc own) W' → (∀ b o, (b, o) ∈ X → (b, o) ∈ own) → LG ⟨kg, 0, none⟩ g W' := fun W' hS hm => ⟨hL.ext (Sep.ext0 hS), gridAt_of hX (fun b o h => hS.own b o (by unfold ents; exact List.mem_append_right _ (hm b o h))) hok⟩
  refine ⟨_, (p108 ⟨kg, 0, none⟩ g (by omega) (by omega)).call (fun W' hS => hG W' hS (by simp)) (by rintro v X' ⟨k1, k2, k3, k4, rfl, _⟩; exact ⟨_, rfl, _, _, rfl, ⟨_, _, _, rfl⟩, _, _, rfl, ⟨_, _, _, rfl⟩, _, _, rfl, ⟨_, _, _, rfl⟩, _, _, rfl, ⟨_, _, _, rfl⟩, _, _, rfl, ⟨_, rfl⟩, _, _, rfl, ⟨_, rfl⟩, rfl⟩), ?_⟩
  intro a0 l0 c0 a1 l1 c1 a2 l2 c2 a3 l3 c3 n4 n5 own14 h14 k3'
  obtain ⟨X', ⟨k1, k2, k3, k4, e, rfl⟩, rfl⟩ := h14
  rw [hA] at e
  cases e
  rw [hA]
  refine cond_split (fun h => absurd h (by decide)) fun _ => ⟨_, rfl, by decide, _, stores_at (i := 0) (pre := []) (post := _ :: _ :: _ :: (X ++ [])) (cs := List.replicate 12 (.float .f64 0)) (ty := 44) rfl (ltr rfl) rfl rfl ⟨_, rfl, rfl⟩, ?_⟩
  have hw : (lake108 g).length = 6 := by simp [lake108, hA]
  generalize hs : (⟨some ⟨k1, 0, none⟩, 6, some ⟨k2, 0, none⟩, 6, some ⟨k3, 0, none⟩, 6, some ⟨k4, 0, none⟩, 12, List.replicate 6 0, lake108 g, List.replicate 6 0, oneF :: List.replicate 11 0, 0, 0⟩ : SeaA) = s
  have hv : s.v = .agg ⟨[.slice (some ⟨k1, 0, none⟩) 6 6, .slice (some ⟨k2, 0, none⟩) 6 6, .slice (some ⟨k3, 0, none⟩) 6 6, .slice (some ⟨k4, 0, none⟩) 12 12, .int .i64 0, .int .i64 0]⟩ := by
    subst hs; simp [SeaA.v, hw]
  have h43 := p43 ⟨kg, 0, none⟩ g ⟨1, 4602678819172646912, 4607182418800017408, 0, 0, false, none, 0, 0⟩ s
  rw [hv] at h43
  refine ⟨_, h43.call (fun W' hS => ⟨hG W' hS (by intro b o hm; simp [hm]), ?_⟩) (by rintro v X' (⟨_, k, rfl, _⟩ | ⟨_, rfl, _⟩) <;> exact ⟨_, rfl, _, _, rfl, ⟨_, _, _, rfl⟩, _, _, rfl, ⟨_, rfl⟩, rfl⟩), fun a26 l26 c26 n26 own26 h26 => ?_⟩
  · subst hs
    refine ⟨arr_own hS (t := 44) (cs := List.replicate 6 (.float .f64 0)) (by simp [ents]) ?_, arr_own hS (t := 2) (cs := iCells (lake108 g)) (by simp [ents]) ?_, arr_own hS (t := 2) (cs := List.replicate 6 (.int .i64 0)) (by simp [ents]) ?_, arr_own hS (t := 44) (cs := (List.replicate 12 (.float .f64 0)).set 0 (.float .f64 4607182418800017408)) (by simp [ents]) ?_⟩
    · intro i v h; rw [Nat.zero_add, ← fCells_rep]; exact h
    · intro i v h; rw [Nat.zero_add]; exact h
    · intro i v h; rw [Nat.zero_add, ← iCells_rep]; exact h
    · intro i v h; rw [Nat.zero_add]; exact h
  obtain ⟨X2, (⟨_, k, e, rfl⟩ | ⟨hn, _⟩), rfl⟩ := h26
  case inr => exact (hn ⟨by subst hs; simp [hA], by subst hs; simp [hA, hw], by subst hs; simp [hA], by subst hs; simp [hE]⟩).elim
  rw [hE] at e
  cases e
  have hll : s43 g 4602678819172646912 0 s.bed s.water s.speed = s43 g 4602678819172646912 0 (List.replicate 6 0) (lake108 g) (oneF :: List.replicate 11 0) := by subst hs; rfl
  show ∃ n30, _
  rw [hll]
  generalize s43 g 4602678819172646912 0 (List.replicate 6 0) (lake108 g) (oneF :: List.replicate 11 0) = l at hl
  simp only [Bool.and_eq_true, beq_iff_eq, decide_eq_true_eq] at hl
  obtain ⟨⟨hl0, hl1⟩, hl2⟩ := hl
  obtain ⟨x, hx⟩ := getElem?_int (l := l) (e := 0) (by decide) (by omega)
  obtain ⟨y, hy⟩ := getElem?_int (l := l) (e := 1) (by decide) (by omega)
  have gx : 0 < x := by rw [List.getD_eq_getElem?_getD, show l[0]? = some x from hx] at hl1; exact hl1
  have gy : y = 0 := by rw [List.getD_eq_getElem?_getD, show l[1]? = some y from hy] at hl2; exact hl2
  refine ⟨_, (p41 _ _ _ _).callL hL, ?_⟩
  rw [q40a]
  refine cond_split (fun _ => ⟨_, (p41 _ _ _ _).callL hL, ?_⟩) fun h => absurd h (by decide)
  rw [q40b]
  refine cond_split (fun _ => ⟨_, (p41 _ _ _ _).callL hL, ?_⟩) fun h => absurd h (by decide)
  rw [q40c]
  refine cond_split (fun _ => cond_split (fun _ => cond_split (fun _ => ?_) fun h => absurd h (by decide)) fun h => absurd h (by decide)) fun h => absurd h (by decide)
  refine ⟨_, rfl, by decide, x, (by rw [Tn.add_none]; exact loads_own (.tail _ (.head _)) (by rw [ld2]; exact iCells_get hx)), cond_split (fun _ => ⟨_, rfl, by decide, y, (by rw [Tn.add_none]; exact loads_own (.tail _ (.head _)) (by rw [ld2]; exact iCells_get hy)), fin_ext ?_⟩) fun h => absurd h (by simp [gx])⟩
  rw [gy]; rfl)


end Go.Proofs.YtnljcdplcloedaaGreatDoor
end
