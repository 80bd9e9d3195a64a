/- How the arguments of a row are read: a world that fits the row holds what the walk asks for. -/
import Derived.Test.YtnljcdplcloedaaGreatDoorSea
import Derived.Test.YtnljcdplcloedaaGreatDoorCards
import Derived.Test.YtnljcdplcloedaaGreatDoorTie
import Derived.OpenShut
import Derived.Carry
import Derived.Deep.DeepHandedRow
import Derived.Deep.Slices
import Derived.Lib.LaidTab
section
namespace Go.Proofs.YtnljcdplcloedaaGreatDoor
open Go Go.Tn Go.RowKit Go.ChangeShapes Go.WideShapes Go.ChangeAt Go.Deep
set_option linter.unusedVariables false
set_option linter.unusedSimpArgs false
set_option maxRecDepth 100000

/-! ### arguments -/
theorem arr_of_cells {W : World} {a : Addr} {vs : List Value} (h : ∀ (i : Nat) (v : Value), vs[i]? = some v → W.cell? (a.add i) = some v) : Arr W (some a) vs := by
  cases vs with
  | nil => exact .inl rfl
  | cons v r =>
    have h0 := h 0 v rfl
    obtain ⟨b, o, sp⟩ := a
    rw [show Addr.add ⟨b, o, sp⟩ 0 = ⟨b, o, sp⟩ from rfl] at h0
    unfold World.cell? at h0
    simp only at h0
    split at h0
    · rename_i c ty fr hb
      have hsp : sp = none := by
        cases sp with
        | none => rfl
        | some _ => simp at h0
      subst hsp
      refine .inr ⟨b, o, c.toList, ty, fr, rfl, hb, fun i u hu => ?_⟩
      have hi := h i u hu
      rw [Tn.add_none, Tn.cell_of_obj (cs := c.toList) hb] at hi
      exact hi
    · cases h0
section
variable {H : Type} {enc : TypeId × Value → H} {W : World} {base : Nat} {spare : Nat → Bool} {held : Bool} {fuel : Nat} {t : TypeId} {cs : List Value} {x : DataW H × List MemPlace}
def wfI (n : Int) : Prop := -9223372036854775808 ≤ n ∧ n ≤ 9223372036854775807
def wfF (x : Nat) : Prop := x < 18446744073709551616
theorem dec_int (ht : Tryz.prog.underlying t = some (.int .i64)) (h : DataW.trod enc Tryz.prog W base spare held fuel t cs = some x) : ∃ n, cs = [.int .i64 n] ∧ wfI n := by
  obtain ⟨n, h1, h2, h3⟩ := DataW.trod_int ht h
  exact ⟨n, h1, bounds_i64 h3⟩
theorem dec_float (ht : Tryz.prog.underlying t = some (.float .f64)) (h : DataW.trod enc Tryz.prog W base spare held fuel t cs = some x) : ∃ n, cs = [.float .f64 n] ∧ wfF n := by
  cases fuel with
  | zero => simp [DataW.trod] at h
  | succ m =>
    unfold DataW.trod at h
    rw [ht] at h
    split at h <;> first | (simp_all; done) | skip
    rename_i e
    cases e
    split at h
    · rename_i hc
      obtain ⟨rfl, hw⟩ := hc
      exact ⟨_, rfl, by unfold wfF; simpa [Lit.wf] using hw⟩
    · cases h
theorem dec_bool (ht : Tryz.prog.underlying t = some .bool) (h : DataW.trod enc Tryz.prog W base spare held fuel t cs = some x) : ∃ b, cs = [.bool b] := by
  cases fuel with
  | zero => simp [DataW.trod] at h
  | succ m =>
    unfold DataW.trod at h
    rw [ht] at h
    split at h <;> simp_all
theorem dec_floats {e : TypeId} (ht : Tryz.prog.underlying t = some (.slice e)) (he : Tryz.prog.underlying e = some (.float .f64)) (hc : Tryz.prog.cellsOf e = 1) (h : DataW.trod enc Tryz.prog W base spare held fuel t cs = some x) :
    ∃ (l : List Nat) (a : Option Addr) (c : Nat), cs = [.slice a l.length c] ∧ Arr W a (fCells l) ∧ l.length ≤ c ∧ c ≤ maxLen ∧ ∀ y ∈ l, wfF y := by
  rcases open_slice1 ht hc h with ⟨h1, _⟩ | ⟨a, len, cap, m, n, V, D, Pl, h1, hb, hl, hm, hmm, hx, hV⟩
  · exact ⟨[], none, 0, h1, .inl rfl, Nat.le_refl _, Nat.zero_le _, fun y hy => by cases hy⟩
  · have hlm : len ≤ m := by rw [hmm]; split <;> omega
    have hv : ∀ i, i < len → ∃ b, V i = .float .f64 b ∧ wfF b := fun i hi => by
      obtain ⟨b, hb, hw⟩ := dec_float he (hV i (by omega)).2
      exact ⟨b, by simpa using hb, hw⟩
    refine ⟨(List.range len).map (fun i => match V i with | .float _ b => b | _ => 0), some a, cap, by simp [h1], arr_of_cells fun i v hv' => ?_, by simpa using hl, hm, fun y hy => ?_⟩
    · rw [fCells, List.map_map, List.getElem?_map] at hv'
      by_cases hi : i < len
      · rw [List.getElem?_range hi] at hv'
        obtain ⟨b, hb, _⟩ := hv i hi
        have hc := (hV i (by omega)).1
        simp only [Option.map_some, Function.comp, hb, Option.some.injEq] at hv'
        rw [hc, ← hv', hb]
      · rw [List.getElem?_eq_none (by simpa using hi)] at hv'; cases hv'
    · obtain ⟨i, hi, rfl⟩ := List.mem_map.1 hy
      obtain ⟨b, hb, hw⟩ := hv i (by simpa using hi)
      rw [hb]; exact hw
theorem dec_ints {e : TypeId} (ht : Tryz.prog.underlying t = some (.slice e)) (he : Tryz.prog.underlying e = some (.int .i64)) (hc : Tryz.prog.cellsOf e = 1) (h : DataW.trod enc Tryz.prog W base spare held fuel t cs = some x) :
    ∃ (l : List Int) (a : Option Addr) (c : Nat), cs = [.slice a l.length c] ∧ Arr W a (iCells l) ∧ l.length ≤ c ∧ c ≤ maxLen ∧ ∀ y ∈ l, wfI y := by
  rcases open_slice1 ht hc h with ⟨h1, _⟩ | ⟨a, len, cap, m, n, V, D, Pl, h1, hb, hl, hm, hmm, hx, hV⟩
  · exact ⟨[], none, 0, h1, .inl rfl, Nat.le_refl _, Nat.zero_le _, fun y hy => by cases hy⟩
  · have hlm : len ≤ m := by rw [hmm]; split <;> omega
    have hv : ∀ i, i < len → ∃ b, V i = .int .i64 b ∧ wfI b := fun i hi => by
      obtain ⟨b, hb, hw⟩ := dec_int he (hV i (by omega)).2
      exact ⟨b, by simpa using hb, hw⟩
    refine ⟨(List.range len).map (fun i => match V i with | .int _ b => b | _ => 0), some a, cap, by simp [h1], arr_of_cells fun i v hv' => ?_, by simpa using hl, hm, fun y hy => ?_⟩
    · rw [iCells, List.map_map, List.getElem?_map] at hv'
      by_cases hi : i < len
      · rw [List.getElem?_range hi] at hv'
        obtain ⟨b, hb, _⟩ := hv i hi
        have hc := (hV i (by omega)).1
        simp only [Option.map_some, Function.comp, hb, Option.some.injEq] at hv'
        rw [hc, ← hv', hb]
      · rw [List.getElem?_eq_none (by simpa using hi)] at hv'; cases hv'
    · obtain ⟨i, hi, rfl⟩ := List.mem_map.1 hy
      obtain ⟨b, hb, hw⟩ := hv i (by simpa using hi)
      rw [hb]; exact hw
/-- a field of a struct -/
theorem dec_field {L : List (TypeId × Nat)} {n : Nat} (ht : Tryz.prog.underlying t = some (.struct (Tryz.prog.fieldsOf t))) (hL : (Tryz.prog.fieldsOf t).toList.map (fun f => (f.type, f.offset)) = L) (hn : Tryz.prog.cellsOf t = n)
    (h : DataW.trod enc Tryz.prog W base spare held fuel t cs = some x) : cs.length = n ∧ ∀ (t' : TypeId) (o : Nat), (t', o) ∈ L → ∃ fuel' y, DataW.trod enc Tryz.prog W base spare held fuel' t' ((cs.drop o).take (Tryz.prog.cellsOf t')) = some y := by
  obtain ⟨xs, m, h1, h2, h3, h4, h5⟩ := DataW.trod_struct ht h
  refine ⟨h3.trans hn, fun t' o hm => ?_⟩
  rw [← hL] at hm
  obtain ⟨f, hf, e⟩ := List.mem_map.1 hm
  simp only [Prod.mk.injEq] at e
  obtain ⟨i, hi⟩ := List.getElem?_of_mem hf
  rw [Array.getElem?_toList] at hi
  have hlt : i < xs.length := by rw [h4]; exact (Array.getElem?_eq_some_iff.1 hi).1
  have := h5 i f hi
  rw [List.getElem?_eq_getElem hlt, e.1, e.2] at this
  exact ⟨m, _, this⟩
structure SeaWf (s : SeaA) : Prop where
  bed : s.bed.length ≤ s.bc ∧ s.bc ≤ maxLen ∧ ∀ y ∈ s.bed, wfF y
  water : s.water.length ≤ s.wc ∧ s.wc ≤ maxLen ∧ ∀ y ∈ s.water, wfI y
  tracer : s.tracer.length ≤ s.tc ∧ s.tc ≤ maxLen ∧ ∀ y ∈ s.tracer, wfI y
  speed : s.speed.length ≤ s.uc ∧ s.uc ≤ maxLen ∧ ∀ y ∈ s.speed, wfF y
  sky : wfI s.sky
  step : wfI s.step
def SeaA.cells (s : SeaA) : List Value := [.slice s.ba s.bed.length s.bc, .slice s.wa s.water.length s.wc, .slice s.ta s.tracer.length s.tc, .slice s.ua s.speed.length s.uc, .int .i64 s.sky, .int .i64 s.step]
theorem u22 : Tryz.prog.underlying 22 = some (.slice 44) := by kernel_rfl
theorem u23 : Tryz.prog.underlying 23 = some (.slice 2) := by kernel_rfl
theorem u44 : Tryz.prog.underlying 44 = some (.float .f64) := by kernel_rfl
theorem u2 : Tryz.prog.underlying 2 = some (.int .i64) := by kernel_rfl
theorem u4 : Tryz.prog.underlying 4 = some .bool := by kernel_rfl
theorem u25 : Tryz.prog.underlying 25 = some (.struct (Tryz.prog.fieldsOf 25)) := by kernel_rfl
theorem u27 : Tryz.prog.underlying 27 = some (.struct (Tryz.prog.fieldsOf 27)) := by kernel_rfl
theorem u49 : Tryz.prog.underlying 49 = some (.struct (Tryz.prog.fieldsOf 49)) := by kernel_rfl
theorem c44 : Tryz.prog.cellsOf 44 = 1 := by kernel_rfl
theorem c2 : Tryz.prog.cellsOf 2 = 1 := by kernel_rfl
theorem c3 : Tryz.prog.cellsOf 3 = 1 := by kernel_rfl
theorem c22 : Tryz.prog.cellsOf 22 = 1 := by kernel_rfl
theorem c23 : Tryz.prog.cellsOf 23 = 1 := by kernel_rfl
theorem c25 : Tryz.prog.cellsOf 25 = 6 := by kernel_rfl
theorem len6 {α : Type} {l : List α} (h : l.length = 6) : ∃ a b c d e f, l = [a, b, c, d, e, f] := by
  match l, h with
  | [a, b, c, d, e, f], _ => exact ⟨a, b, c, d, e, f, rfl⟩
theorem len4 {α : Type} {l : List α} (h : l.length = 4) : ∃ a b c d, l = [a, b, c, d] := by
  match l, h with
  | [a, b, c, d], _ => exact ⟨a, b, c, d, rfl⟩
theorem dec_sea (h : DataW.trod enc Tryz.prog W base spare held fuel 25 cs = some x) : ∃ s : SeaA, cs = s.cells ∧ SeaAt W s ∧ SeaWf s := by
  obtain ⟨hl, hf⟩ := dec_field (L := [(22, 0), (23, 1), (23, 2), (22, 3), (2, 4), (3, 5)]) u25 (by kernel_rfl) c25 h
  obtain ⟨q0, q1, q2, q3, q4, q5, rfl⟩ := len6 hl
  obtain ⟨_, _, f0⟩ := hf 22 0 (by simp)
  obtain ⟨_, _, f1⟩ := hf 23 1 (by simp)
  obtain ⟨_, _, f2⟩ := hf 23 2 (by simp)
  obtain ⟨_, _, f3⟩ := hf 22 3 (by simp)
  obtain ⟨_, _, f4⟩ := hf 2 4 (by simp)
  obtain ⟨_, _, f5⟩ := hf 3 5 (by simp)
  rw [c22] at f0 f3
  rw [c23] at f1 f2
  rw [c2] at f4
  rw [c3] at f5
  obtain ⟨bed, ba, bc, e0, a0, w0⟩ := dec_floats u22 u44 c44 f0
  obtain ⟨water, wa, wc, e1, a1, w1⟩ := dec_ints u23 u2 c2 f1
  obtain ⟨tracer, ta, tc, e2, a2, w2⟩ := dec_ints u23 u2 c2 f2
  obtain ⟨speed, ua, uc, e3, a3, w3⟩ := dec_floats u22 u44 c44 f3
  obtain ⟨sky, e4, w4⟩ := dec_int u2 f4
  obtain ⟨step, e5, w5⟩ := dec_int u3 f5
  simp only [List.drop_zero, List.drop_succ_cons, List.take_succ_cons, List.take_zero, List.cons.injEq, and_true] at e0 e1 e2 e3 e4 e5
  subst e0 e1 e2 e3 e4 e5
  exact ⟨⟨ba, bc, wa, wc, ta, tc, ua, uc, bed, water, tracer, speed, sky, step⟩, rfl, ⟨a0, a1, a2, a3⟩, ⟨w0, w1, w2, w3, w4, w5⟩⟩
theorem dec_four (h : DataW.trod enc Tryz.prog W base spare held fuel 49 cs = some x) : ∃ a b c d, cs = [.float .f64 a, .float .f64 b, .float .f64 c, .float .f64 d] ∧ wfF a ∧ wfF b ∧ wfF c ∧ wfF d := by
  obtain ⟨hl, hf⟩ := dec_field (L := [(44, 0), (44, 1), (44, 2), (44, 3)]) (n := 4) u49 (by kernel_rfl) (by kernel_rfl) h
  obtain ⟨q0, q1, q2, q3, rfl⟩ := len4 hl
  obtain ⟨_, _, f0⟩ := hf 44 0 (by simp)
  obtain ⟨_, _, f1⟩ := hf 44 1 (by simp)
  obtain ⟨_, _, f2⟩ := hf 44 2 (by simp)
  obtain ⟨_, _, f3⟩ := hf 44 3 (by simp)
  rw [c44] at f0 f1 f2 f3
  obtain ⟨a, e0, w0⟩ := dec_float u44 f0
  obtain ⟨b, e1, w1⟩ := dec_float u44 f1
  obtain ⟨c, e2, w2⟩ := dec_float u44 f2
  obtain ⟨d, e3, w3⟩ := dec_float u44 f3
  simp only [List.drop_zero, List.drop_succ_cons, List.take_succ_cons, List.take_zero, List.cons.injEq, and_true] at e0 e1 e2 e3
  subst e0 e1 e2 e3
  exact ⟨a, b, c, d, rfl, w0, w1, w2, w3⟩
/-- Ask: side, limiter, sea -/
theorem dec_ask (h : DataW.trod enc Tryz.prog W base spare held fuel 27 cs = some x) : ∃ (side lim : Int) (s : SeaA), cs = .int .i64 side :: .int .i64 lim :: s.cells ∧ SeaAt W s ∧ SeaWf s ∧ wfI side ∧ wfI lim := by
  obtain ⟨hl, hf⟩ := dec_field (L := [(3, 0), (3, 1), (25, 2)]) (n := 8) u27 (by kernel_rfl) (by kernel_rfl) h
  obtain ⟨_, _, f0⟩ := hf 3 0 (by simp)
  obtain ⟨_, _, f1⟩ := hf 3 1 (by simp)
  obtain ⟨_, _, f2⟩ := hf 25 2 (by simp)
  rw [c3] at f0 f1
  rw [c25] at f2
  match cs, hl with
  | q0 :: q1 :: r, hl =>
    obtain ⟨a, e0, w0⟩ := dec_int u3 f0
    obtain ⟨b, e1, w1⟩ := dec_int u3 f1
    obtain ⟨s, e2, a2, w2⟩ := dec_sea f2
    have hr : r.length = 6 := by simpa using hl
    simp only [List.drop_zero, List.drop_succ_cons, List.take_succ_cons, List.take_zero, List.cons.injEq, and_true] at e0 e1 e2
    rw [List.take_of_length_le (by omega)] at e2
    subst e0 e1 e2
    exact ⟨a, b, s, rfl, a2, w2, w0, w1⟩
end
theorem agg_of {t : TypeId} {fs : Array Field} {W : World} {v : Value} (ht : Tryz.prog.underlying t = some (.struct fs)) (h : Value.okWide Tryz.prog W .any 0 t v) : ∃ cs : List Value, v = .agg ⟨cs⟩ ∧ v.cells.toList = cs := by
  obtain ⟨cs, rfl, _⟩ := okWide_struct ht h
  exact ⟨cs.toList, rfl, rfl⟩
end Go.Proofs.YtnljcdplcloedaaGreatDoor
end
section
namespace Go.Proofs.YtnljcdplcloedaaGreatDoor
open Go Go.Tn Go.RowKit Go.ChangeShapes Go.WideShapes Go.ChangeAt Go.Deep
set_option linter.unusedVariables false
set_option linter.unusedSimpArgs false
set_option maxRecDepth 100000
theorem chunks {α : Type} (sz : Nat) : ∀ (n : Nat) (cs : List α) (f : Nat → List α), cs.length = n * sz → (∀ i, i < n → (cs.drop (i * sz)).take sz = f i) → cs = (List.range n).flatMap f := by
  intro n
  induction n with
  | zero => intro cs f h _; simpa using h
  | succ n ih =>
    intro cs f h hf
    rw [List.range_succ, List.flatMap_append]
    have h1 : cs.take (n * sz) = (List.range n).flatMap f := ih _ f (by rw [List.length_take, h, Nat.add_mul]; omega) fun i hi => by
      rw [← hf i (by omega), List.drop_take, List.take_take]
      congr 1
      have : (i + 1) * sz ≤ n * sz := Nat.mul_le_mul_right _ hi
      rw [Nat.add_mul] at this
      omega
    have h2 : cs.drop (n * sz) = f n := by
      rw [← hf n (by omega), List.take_of_length_le]
      rw [List.length_drop, h, Nat.add_mul]; omega
    rw [← h1]
    simp only [List.flatMap_cons, List.flatMap_nil, List.append_nil, ← h2]
    exact (List.take_append_drop _ _).symm
section
variable {H : Type} {enc : TypeId × Value → H} {W : World} {base : Nat} {spare : Nat → Bool} {held : Bool}
/-- cells of a datum, at a level of an array of arrays -/
theorem arr_lvl {t e : TypeId} {n sz : Nat} {F : DataW H → List Value} (ht : Tryz.prog.underlying t = some (.array n e)) (hct : Tryz.prog.cellsOf t = n * sz) (hce : Tryz.prog.cellsOf e = sz)
    (hF : ∀ fuel cs x, DataW.trod enc Tryz.prog W base spare held fuel e cs = some x → cs = F x.1) {fuel : Nat} {cs : List Value} {x : DataW H × List MemPlace} (h : DataW.trod enc Tryz.prog W base spare held fuel t cs = some x) :
    ∃ ds, x.1 = .agg ds ∧ ds.length = n ∧ cs = ds.flatMap F := by
  obtain ⟨xs, m, h1, h2, h3, h4, h5⟩ := DataW.trod_array ht h
  refine ⟨xs.map (·.1), by rw [h2], by simpa using h4, ?_⟩
  rw [hce] at h5
  have := chunks sz n cs (fun i => F ((xs.map (·.1)).getD i .nil)) (h3.trans hct) fun i hi => by
    have h6 := h5 i hi
    have hlt : i < xs.length := by omega
    rw [List.getElem?_eq_getElem hlt] at h6
    rw [hF _ _ _ h6]
    simp [List.getD_eq_getElem?_getD, List.getElem?_eq_getElem hlt]
  rw [this]
  have e : xs.map (·.1) = (List.range n).map fun i => (xs.map (·.1)).getD i .nil := by
    apply List.ext_getElem
    · simp [h4]
    · intro i h1 h2
      simp [List.getD_eq_getElem?_getD, List.getElem?_eq_getElem (by simpa using h1 : i < xs.length)]
  rw [List.flatMap_def]
  conv => rhs; rw [e]
  rw [List.flatMap_def, List.map_map]; rfl
def cI : DataW H → List Value | .lit (.int k n) => [.int k n] | _ => []
def cA (F : DataW H → List Value) : DataW H → List Value | .agg ds => ds.flatMap F | _ => []
theorem arr_lvl' {t e : TypeId} {n sz : Nat} {F : DataW H → List Value} (ht : Tryz.prog.underlying t = some (.array n e)) (hct : Tryz.prog.cellsOf t = n * sz) (hce : Tryz.prog.cellsOf e = sz)
    (hF : ∀ fuel cs x, DataW.trod enc Tryz.prog W base spare held fuel e cs = some x → cs = F x.1) : ∀ fuel cs x, DataW.trod enc Tryz.prog W base spare held fuel t cs = some x → cs = cA F x.1 := by
  intro fuel cs x h
  obtain ⟨ds, h1, _, h2⟩ := arr_lvl ht hct hce hF h
  rw [h1]; exact h2
theorem int_lvl {t : TypeId} {k : IntKind} (ht : Tryz.prog.underlying t = some (.int k)) : ∀ fuel cs x, DataW.trod enc Tryz.prog W base spare held fuel t cs = some x → cs = cI x.1 := by
  intro fuel cs x h
  obtain ⟨n, h1, h2, h3⟩ := DataW.trod_int ht h
  rw [h1, h2]; rfl
end
theorem laid_cells {W : World} {ps : List MemPlace} {h0 : DataW.LaidVars Tryz.prog W [("tarn/cube.frames", Rows.laid_tarn_cube_frames), ("tarn/geom.frames", Rows.laid_tarn_geom_frames)] ps} : Laid W := by
  obtain ⟨g, t, cs, fuel, p, q, hg, ht, hv, hd, h1, _⟩ := h0
  obtain ⟨g', t', cs', fuel', p', q', hg', ht', hv', hd', _, _⟩ := h1
  obtain rfl := Option.some.inj ((show Tryz.prog.globalNamed "tarn/cube.frames" = some 0 by kernel_rfl).symm.trans hg)
  obtain rfl := Option.some.inj ((show Tryz.prog.globalNamed "tarn/geom.frames" = some 2 by kernel_rfl).symm.trans hg')
  obtain rfl := Option.some.inj ((show (Tryz.prog.globals[0]?).map (·.type) = some 150 by kernel_rfl).symm.trans ht)
  obtain rfl := Option.some.inj ((show (Tryz.prog.globals[2]?).map (·.type) = some 278 by kernel_rfl).symm.trans ht')
  have e1 := arr_lvl' (n := 6) (sz := 9) (t := 150) (e := 146) (by kernel_rfl) (by kernel_rfl) (by kernel_rfl) (arr_lvl' (n := 3) (sz := 3) (e := 144) (by kernel_rfl) (by kernel_rfl) (by kernel_rfl) (arr_lvl' (n := 3) (sz := 1) (e := 3) (by kernel_rfl) (by kernel_rfl) (by kernel_rfl) (int_lvl u3))) _ _ _ hd
  have e2 := arr_lvl' (n := 6) (sz := 9) (t := 278) (e := 277) (by kernel_rfl) (by kernel_rfl) (by kernel_rfl) (arr_lvl' (n := 3) (sz := 3) (e := 143) (by kernel_rfl) (by kernel_rfl) (by kernel_rfl) (arr_lvl' (n := 3) (sz := 1) (e := 3) (by kernel_rfl) (by kernel_rfl) (by kernel_rfl) (int_lvl u3))) _ _ _ hd'
  have f1 : cs.toList = framesV := e1
  have f2 : cs'.toList = framesV := e2
  have key : ∀ (g : Nat) (nm : String) (cs : Array Value), Tryz.prog.globalNamed nm = some g → W.var? Tryz.prog nm = some cs → cs.toList = framesV → ∃ t fr, W.heap[g]? = some (.cells ⟨framesV⟩ t fr) := by
    intro g nm cs hg hv hc
    unfold World.var? at hv
    rw [hg] at hv
    simp only [Option.bind_some] at hv
    split at hv
    · rename_i c t fr hb
      cases hv
      refine ⟨t, fr, ?_⟩
      rw [hb, ← hc]
    · cases hv
  exact ⟨key 0 _ _ hg hv f1, key 2 _ _ hg' hv' f2⟩
theorem laid_of {W : World} (h : laidMetH Tryz.prog [("tarn/cube.frames", Rows.laid_tarn_cube_frames), ("tarn/geom.frames", Rows.laid_tarn_geom_frames)] W) : Laid W := by
  have h : laidMet Tryz.prog [("tarn/cube.frames", Rows.laid_tarn_cube_frames), ("tarn/geom.frames", Rows.laid_tarn_geom_frames)] W := h
  obtain ⟨ps, h1, _⟩ := h
  exact laid_cells (h0 := h1)
/-! ### the end -/
theorem laidOut : laidOutB Tryz.prog = true := by kernel_rfl
theorem trodAll_below {H : Type} {enc : TypeId × Value → H} {W W' : World} (hb : Ext W W') : ∀ {ts : List TypeId} {vs : List Value} {ds : List (DataW H)} {p : List MemPlace}, (∀ t ∈ ts, Tryz.prog.readableRec t = true ∧ t < Tryz.prog.types.size) →
    DataW.TrodAll enc Tryz.prog W 0 (fun _ => true) true ts vs ds p → (∀ x ∈ p, x.block < W.heap.size) → DataW.TrodAll enc Tryz.prog W' 0 (fun b => decide (b < W.heap.size)) true ts vs ds p
  | [], _, _, _, _, h, _ => by
    obtain ⟨rfl, rfl, rfl⟩ := trodAll_nil h
    exact rfl
  | t :: ts, _, _, _, hr, h, hlt => by
    obtain ⟨v, vs1, d, ds1, a, b, rfl, rfl, rfl, h1, h2⟩ := trodAll_cons h
    exact ⟨a, b, Below.trod laidOut (hr t (.head _)).1 (hr t (.head _)).2 h1 hb fun x hx => hlt x (List.mem_append_left _ hx), trodAll_below hb (fun t ht => hr t (.tail _ ht)) h2 fun x hx => hlt x (List.mem_append_right _ hx), rfl⟩
theorem u4b : Tryz.prog.underlying 4 = some .bool := by kernel_rfl
/-- a law that returned true and left memory as it was -/
theorem post_true {H : Type} {enc : TypeId × Value → H} {f : Func} {s : ChangeSpec} {W W' : World} {args : Array Value} {ds gs : List (DataW H)} {before : List MemPlace} (hv : s.vars = []) (hr : f.resultTypes = #[4])
    (hp : ∀ t ∈ f.params.toList, Tryz.prog.readableRec t = true ∧ t < Tryz.prog.types.size) (hsp : ∀ ds : List (DataW H), ds.length = f.params.toList.length → s.fn H ds = { results := [.lit (.bool true)], args := ds })
    (hW : DataW.Whole enc Tryz.prog f.params.toList s.vars false W args.toList ds gs before) (hE : Ext W W') : s.post enc Tryz.prog f false true false false W args (.bool true) W' := by
  have hW' := hW
  obtain ⟨p, q, hA, hV, rfl, hfz, hnd⟩ := hW
  rw [hv] at hV
  obtain ⟨rfl, rfl⟩ := trodVars_none hV
  have hlen : ∀ {ts : List TypeId} {vs : List Value} {ds : List (DataW H)} {p : List MemPlace}, DataW.TrodAll enc Tryz.prog W 0 (fun _ => true) true ts vs ds p → ds.length = ts.length := by
    intro ts
    induction ts with
    | nil => intro vs ds p h; obtain ⟨rfl, rfl, rfl⟩ := trodAll_nil h; rfl
    | cons t ts ih => intro vs ds p h; obtain ⟨v, vs1, d, ds1, a, b, rfl, rfl, rfl, h1, h2⟩ := trodAll_cons h; simp [ih h2]
  have hfn := hsp ds (hlen hA)
  refine ⟨ds, [], p ++ [], [], p, [], hW', ?_, ?_, ?_, ?_, fun h => by cases h⟩
  · rw [List.append_nil, hfn, hr]
    exact trodAll_cons_mk (shut_bool u4b true) trodAll_mk0
  · rw [List.append_nil, hfn]
    exact trodAll_below hE hp hA fun x hx => by simpa using hW'.lt x (List.mem_append_left _ hx)
  · rw [List.append_nil, hfn, hv]
    exact rfl
  · exact hE.frame _
end Go.Proofs.YtnljcdplcloedaaGreatDoor
end
section
namespace Go.Proofs.YtnljcdplcloedaaGreatDoor
open Go Go.Tn Go.RowKit Go.ChangeShapes Go.WideShapes Go.ChangeAt Go.Deep
set_option linter.unusedVariables false
set_option linter.unusedSimpArgs false
set_option maxRecDepth 100000
section
variable {H : Type} {enc : TypeId × Value → H} {W : World} {base : Nat} {spare : Nat → Bool} {held : Bool} {fuel : Nat} {t : TypeId} {cs : List Value} {x : DataW H × List MemPlace}
theorem u54 : Tryz.prog.underlying 54 = some (.struct (Tryz.prog.fieldsOf 54)) := by kernel_rfl
theorem u52 : Tryz.prog.underlying 52 = some (.slice 115) := by kernel_rfl
theorem c4' : Tryz.prog.cellsOf 4 = 1 := by kernel_rfl
theorem c52 : Tryz.prog.cellsOf 52 = 1 := by kernel_rfl
theorem len7 {l : List Value} (h : l.length = 7) : ∃ a b c d e f g, l = [a, b, c, d, e, f, g] := by
  match l, h with
  | [a, b, c, d, e, f, g], _ => exact ⟨a, b, c, d, e, f, g, rfl⟩
def PlanA.cells (p : PlanA) : List Value := [.int .i64 p.side, .float .f64 p.dt, .float .f64 p.gravity, .float .f64 p.drag, .int .i64 p.lim, .bool p.rivers, .slice p.ra p.rn p.rc]
theorem dec_plan (h : DataW.trod enc Tryz.prog W base spare held fuel 54 cs = some x) : ∃ p : PlanA, cs = p.cells := by
  obtain ⟨hl, hf⟩ := dec_field (L := [(3, 0), (44, 1), (44, 2), (44, 3), (3, 4), (4, 5), (52, 6)]) (n := 7) u54 (by kernel_rfl) (by kernel_rfl) h
  obtain ⟨q0, q1, q2, q3, q4, q5, q6, rfl⟩ := len7 hl
  obtain ⟨_, _, f0⟩ := hf 3 0 (by simp)
  obtain ⟨_, _, f1⟩ := hf 44 1 (by simp)
  obtain ⟨_, _, f2⟩ := hf 44 2 (by simp)
  obtain ⟨_, _, f3⟩ := hf 44 3 (by simp)
  obtain ⟨_, _, f4⟩ := hf 3 4 (by simp)
  obtain ⟨_, _, f5⟩ := hf 4 5 (by simp)
  obtain ⟨_, _, f6⟩ := hf 52 6 (by simp)
  rw [c3] at f0 f4
  rw [c44] at f1 f2 f3
  rw [c4'] at f5
  rw [c52] at f6
  obtain ⟨a, e0, _⟩ := dec_int u3 f0
  obtain ⟨b, e1, _⟩ := dec_float u44 f1
  obtain ⟨c, e2, _⟩ := dec_float u44 f2
  obtain ⟨d, e3, _⟩ := dec_float u44 f3
  obtain ⟨e, e4, _⟩ := dec_int u3 f4
  obtain ⟨f, e5⟩ := dec_bool u4 f5
  have e6 : ∃ a n c, (([q0, q1, q2, q3, q4, q5, q6] : List Value).drop 6).take 1 = [.slice a n c] := by
    rcases open_slice u52 f6 with ⟨h1, _⟩ | ⟨a, len, cap, m, n, D, Pl, h1, _⟩
    · exact ⟨_, _, _, h1⟩
    · exact ⟨_, _, _, h1⟩
  obtain ⟨ra, rn, rc, e6⟩ := e6
  simp only [List.drop_zero, List.drop_succ_cons, List.take_succ_cons, List.take_zero, List.cons.injEq, and_true] at e0 e1 e2 e3 e4 e5 e6
  subst e0 e1 e2 e3 e4 e5 e6
  exact ⟨⟨a, b, c, d, e, f, ra, rn, rc⟩, rfl⟩
end
end Go.Proofs.YtnljcdplcloedaaGreatDoor
end
