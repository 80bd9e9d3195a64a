/- The plain reading of code, second part: it is sound: what it tells of a call does hold of the call, under the conditions that its theorems name. -/
import Derived.Test.YtnljcdplcloedaaGreatDoorTa
import Derived.Deep.LoopGhost
section
namespace Go.Tn
open Go.RowKit
set_option linter.unusedSimpArgs false
set_option linter.unusedVariables false

def IsP : Res → Prop
  | .bad => True | .det0 o => o.nb = none | .det _ o => o.nb = none | .exA0 _ o => ∀ a, (o a).nb = none | .exA _ _ o => ∀ a, (o a).nb = none | _ => False
def IsE : Res → Prop
  | .bad => True | .det0 o => o.nb = none | .det _ o => o.nb = none | .ex _ _ => True | _ => False
def IsA : Res → Prop
  | .bad => True | .det0 _ => True | .det _ _ => True | .allk0 _ => True | .allk _ _ => True | .fl _ => True | .fi _ _ => True | _ => False

theorem ex1_is {s : Sh1} {K : Value → Prop} : ex1 s K ↔ ∃ v, is1 s v ∧ K v := by
  cases s <;> simp only [ex1, is1]
  case any => simp
  case fn l => exact exF_iff
  case slice => exact ⟨fun ⟨a, n, c, h⟩ => ⟨_, ⟨a, n, c, rfl⟩, h⟩, fun ⟨_, ⟨a, n, c, e⟩, h⟩ => ⟨a, n, c, e ▸ h⟩⟩
  all_goals exact ⟨fun ⟨n, h⟩ => ⟨_, ⟨n, rfl⟩, h⟩, fun ⟨_, ⟨n, e⟩, h⟩ => ⟨n, e ▸ h⟩⟩
theorem exl1_is {l : List Sh1} : ∀ {K : List Value → Prop}, exl1 l K ↔ ∃ v, isl1 l v ∧ K v := by
  induction l with
  | nil => intro K; simp [exl1, isl1]
  | cons s r ih =>
    intro K
    simp only [exl1, isl1, ex1_is, ih]
    exact ⟨fun ⟨v, h, vs, h', k⟩ => ⟨_, ⟨v, vs, rfl, h, h'⟩, k⟩, fun ⟨_, ⟨v, vs, e, h, h'⟩, k⟩ => ⟨v, h, vs, h', e ▸ k⟩⟩
theorem ex2_is {s : Sh2} {K : Value → Prop} : ex2 s K ↔ ∃ v, is2 s v ∧ K v := by
  cases s with
  | one s => exact ex1_is
  | agg l => simp only [ex2, is2, exl1_is]; exact ⟨fun ⟨v, h, k⟩ => ⟨_, ⟨v, rfl, h⟩, k⟩, fun ⟨_, ⟨v, e, h⟩, k⟩ => ⟨v, h, e ▸ k⟩⟩
theorem exl2_is {l : List Sh2} : ∀ {K : List Value → Prop}, exl2 l K ↔ ∃ v, isl2 l v ∧ K v := by
  induction l with
  | nil => intro K; simp [exl2, isl2]
  | cons s r ih =>
    intro K
    simp only [exl2, isl2, ex2_is, ih]
    exact ⟨fun ⟨v, h, vs, h', k⟩ => ⟨_, ⟨v, vs, rfl, h, h'⟩, k⟩, fun ⟨_, ⟨v, vs, e, h, h'⟩, k⟩ => ⟨v, h, vs, h', e ▸ k⟩⟩
theorem exS_iff {s : Sh} {K : Value → Prop} : exS s K ↔ ∃ v, isS s v ∧ K v := by
  cases s with
  | val s => exact ex2_is
  | tup l => simp only [exS, isS, exl2_is]; exact ⟨fun ⟨v, h, k⟩ => ⟨_, ⟨v, rfl, h⟩, k⟩, fun ⟨_, ⟨v, e, h⟩, k⟩ => ⟨v, h, e ▸ k⟩⟩
def Sing (r : Res) : Prop := ∃ S : Out → Prop, (∀ o, S o → o.nb = none) ∧ ∀ K, r.T K ↔ ∃ o, S o ∧ K o
def Uni (r : Res) : Prop := ∃ (p : Prop) (S : Out → Prop), (p → ∃ o, S o) ∧ ∀ K, r.T K ↔ p ∧ ∀ o, S o → K o
theorem IsP.sing {r : Res} (h : IsP r) : Sing r := by
  cases r with
  | bad => exact ⟨fun _ => False, fun _ h => h.elim, fun K => by simp [Res.T]⟩
  | det0 o => exact ⟨fun x => x = o, fun x hx => by rw [hx]; exact h, fun K => by simp [Res.T]⟩
  | det p o => exact ⟨fun x => p ∧ x = o, fun x hx => by rw [hx.2]; exact h, fun K => by constructor
                                                                                         · rintro ⟨a, b⟩; exact ⟨o, ⟨a, rfl⟩, b⟩
                                                                                         · rintro ⟨_, ⟨a, rfl⟩, b⟩; exact ⟨a, b⟩⟩
  | exA0 a o => exact ⟨fun x => ∃ ad, a = some ad ∧ x = o ad, fun x ⟨ad, _, hx⟩ => by rw [hx]; exact h ad, fun K => by constructor
                                                                                                                       · rintro ⟨ad, e, b⟩; exact ⟨_, ⟨ad, e, rfl⟩, b⟩
                                                                                                                       · rintro ⟨_, ⟨ad, e, rfl⟩, b⟩; exact ⟨ad, e, b⟩⟩
  | exA a p o => exact ⟨fun x => ∃ ad, a = some ad ∧ p ∧ x = o ad, fun x ⟨ad, _, _, hx⟩ => by rw [hx]; exact h ad, fun K => by constructor
                                                                                                                               · rintro ⟨ad, e, c, b⟩; exact ⟨_, ⟨ad, e, c, rfl⟩, b⟩
                                                                                                                               · rintro ⟨_, ⟨ad, e, c, rfl⟩, b⟩; exact ⟨ad, e, c, b⟩⟩
  | _ => exact h.elim
theorem IsE.sing {r : Res} (h : IsE r) : Sing r := by
  cases r with
  | bad => exact IsP.sing (r := .bad) trivial
  | det0 o => exact IsP.sing (r := .det0 o) h
  | det p o => exact IsP.sing (r := .det p o) h
  | ex sh p =>
    refine ⟨fun o => ∃ v, isS sh v ∧ p v ∧ o = ⟨v, none, none⟩, fun o ⟨v, _, _, e⟩ => by rw [e], fun K => ?_⟩
    constructor
    · intro hh
      obtain ⟨v, hv, h1, h2⟩ := exS_iff.1 hh
      exact ⟨_, ⟨v, hv, h1, rfl⟩, h2⟩
    · rintro ⟨_, ⟨v, hv, h1, rfl⟩, h2⟩
      exact exS_iff.2 ⟨v, hv, h1, h2⟩
  | _ => exact h.elim
theorem fres_some (o : Option Nat) : ∃ r, FRes o r := by
  cases o with
  | some s => exact ⟨s, rfl⟩
  | none => exact ⟨2 ^ 63 - 1, by unfold FRes isNaN64; decide⟩
theorem fi_some (x : Nat) (k : IntKind) : ∃ n, FToI x k n := by
  have h : k.min ≤ k.max := by cases k <;> decide
  unfold FToI
  split
  · rename_i m _
    split
    · exact ⟨m, rfl⟩
    · exact ⟨k.min, Int.le_refl _, h⟩
  · exact ⟨k.min, Int.le_refl _, h⟩
theorem IsA.uni {r : Res} (h : IsA r) : Uni r := by
  cases r with
  | bad => exact ⟨False, fun _ => True, fun h => h.elim, fun K => by simp [Res.T]⟩
  | det0 o => exact ⟨True, fun x => x = o, fun _ => ⟨o, rfl⟩, fun K => by simp [Res.T]⟩
  | det p o => exact ⟨p, fun x => x = o, fun _ => ⟨o, rfl⟩, fun K => by simp [Res.T]⟩
  | allk0 o => exact ⟨True, fun x => ∃ k, x = o k, fun _ => ⟨_, 0, rfl⟩, fun K => ⟨fun h => ⟨trivial, fun _ ⟨k, e⟩ => e ▸ h k⟩, fun h k => h.2 _ ⟨k, rfl⟩⟩⟩
  | allk p o => exact ⟨p, fun x => ∃ k, x = o k, fun _ => ⟨_, 0, rfl⟩, fun K => ⟨fun h => ⟨h.1, fun _ ⟨k, e⟩ => e ▸ h.2 k⟩, fun h => ⟨h.1, fun k => h.2 _ ⟨k, rfl⟩⟩⟩⟩
  | fl o =>
    obtain ⟨r, hr⟩ := fres_some o
    exact ⟨True, fun x => ∃ k, FRes o k ∧ x = ⟨.float .f64 k, none, none⟩, fun _ => ⟨_, r, hr, rfl⟩, fun K => ⟨fun h => ⟨trivial, fun _ ⟨k, hk, e⟩ => e ▸ h k hk⟩, fun h k hk => h.2 _ ⟨k, hk, rfl⟩⟩⟩
  | fi x k =>
    obtain ⟨r, hr⟩ := fi_some x k
    exact ⟨True, fun y => ∃ n, FToI x k n ∧ y = ⟨.int k n, none, none⟩, fun _ => ⟨_, r, hr, rfl⟩, fun K => ⟨fun h => ⟨trivial, fun _ ⟨k, hk, e⟩ => e ▸ h k hk⟩, fun h k hk => h.2 _ ⟨k, hk, rfl⟩⟩⟩
  | _ => exact h.elim
theorem IsP.uni {r : Res} (h : IsP r) : Uni r := by
  cases r with
  | bad => exact IsA.uni (r := .bad) trivial
  | det0 o => exact IsA.uni (r := .det0 o) trivial
  | det p o => exact IsA.uni (r := .det p o) trivial
  | exA0 a o =>
    refine ⟨∃ ad, a = some ad, fun x => ∃ ad, a = some ad ∧ x = o ad, fun ⟨ad, e⟩ => ⟨_, ad, e, rfl⟩, fun K => ?_⟩
    constructor
    · rintro ⟨ad, e, hk⟩; subst e
      exact ⟨⟨ad, rfl⟩, fun _ ⟨ad', e, e'⟩ => by cases e; exact e' ▸ hk⟩
    · rintro ⟨⟨ad, e⟩, hk⟩; exact ⟨ad, e, hk _ ⟨ad, e, rfl⟩⟩
  | exA a p o =>
    refine ⟨(∃ ad, a = some ad) ∧ p, fun x => ∃ ad, a = some ad ∧ x = o ad, fun ⟨⟨ad, e⟩, _⟩ => ⟨_, ad, e, rfl⟩, fun K => ?_⟩
    constructor
    · rintro ⟨ad, e, hp, hk⟩; subst e
      exact ⟨⟨⟨ad, rfl⟩, hp⟩, fun _ ⟨ad', e, e'⟩ => by cases e; exact e' ▸ hk⟩
    · rintro ⟨⟨⟨ad, e⟩, hp⟩, hk⟩; exact ⟨ad, e, hp, hk _ ⟨ad, e, rfl⟩⟩
  | _ => exact h.elim
/-- the like for any result: what it hands on keeps what all its outcomes have -/
def Res.has : Res → Out → Prop
  | .bad, _ => False
  | .det0 o, x => x = o
  | .det _ o, x => x = o
  | .allk0 o, x => ∃ k, x = o k
  | .allk _ o, x => ∃ k, x = o k
  | .fl _, x => ∃ r, x = ⟨.float .f64 r, none, none⟩
  | .fi _ k, x => ∃ n, x = ⟨.int k n, none, none⟩
  | .ex _ _, x => ∃ v, x = ⟨v, none, none⟩
  | .rl _ _, x => ∃ v, x = ⟨v, none, none⟩
  | .exA0 _ o, x => ∃ a, x = o a
  | .exA _ _ o, x => ∃ a, x = o a
theorem ex1_mono {s : Sh1} {K K' : Value → Prop} (h : ex1 s K) (hk : ∀ v, K v → K' v) : ex1 s K' := by
  obtain ⟨v, a, b⟩ := ex1_is.1 h; exact ex1_is.2 ⟨v, a, hk v b⟩
theorem exS_mono {s : Sh} {K K' : Value → Prop} (h : exS s K) (hk : ∀ v, K v → K' v) : exS s K' := by
  obtain ⟨v, a, b⟩ := exS_iff.1 h; exact exS_iff.2 ⟨v, a, hk v b⟩
theorem all1_mono {s : Sh1} {K K' : Value → Prop} (h : all1 s K) (hk : ∀ v, K v → K' v) : all1 s K' := by
  cases s <;> simp only [all1] at h ⊢
  case slice => exact fun a n c => hk _ (h a n c)
  case fn l => exact fun v hv => hk _ (h v hv)
  all_goals exact fun a => hk _ (h a)
theorem alll1_mono {l : List Sh1} : ∀ {K K' : List Value → Prop}, alll1 l K → (∀ v, K v → K' v) → alll1 l K' := by
  induction l with
  | nil => exact fun h hk => hk _ h
  | cons s r ih => exact fun h hk => all1_mono (s := s) h fun v hv => ih hv fun vs => hk _
theorem all2_mono {s : Sh2} {K K' : Value → Prop} (h : all2 s K) (hk : ∀ v, K v → K' v) : all2 s K' := by
  cases s with
  | one s => exact all1_mono h hk
  | agg l => exact alll1_mono (l := l) h fun v => hk _
theorem alll2_mono {l : List Sh2} : ∀ {K K' : List Value → Prop}, alll2 l K → (∀ v, K v → K' v) → alll2 l K' := by
  induction l with
  | nil => exact fun h hk => hk _ h
  | cons s r ih => exact fun h hk => all2_mono (s := s) h fun v hv => ih hv fun vs => hk _
theorem allS_mono {s : Sh} {K K' : Value → Prop} (h : allS s K) (hk : ∀ v, K v → K' v) : allS s K' := by
  cases s with
  | val s => exact all2_mono h hk
  | tup l => exact alll2_mono (l := l) h fun v => hk _
theorem Res.mono {r : Res} {K K' : Out → Prop} (h : r.T K) (hk : ∀ o, r.has o → K o → K' o) : r.T K' := by
  cases r with
  | bad => exact h
  | det0 o => exact hk _ rfl h
  | det p o => exact ⟨h.1, hk _ rfl h.2⟩
  | allk0 o => exact fun k => hk _ ⟨k, rfl⟩ (h k)
  | allk p o => exact ⟨h.1, fun k => hk _ ⟨k, rfl⟩ (h.2 k)⟩
  | fl o => exact fun r hr => hk _ ⟨r, rfl⟩ (h r hr)
  | fi x k => exact fun n hn => hk _ ⟨n, rfl⟩ (h n hn)
  | ex sh p => exact exS_mono h fun v hv => ⟨hv.1, hk _ ⟨v, rfl⟩ hv.2⟩
  | rl sh p => obtain ⟨Φ, hp, h⟩ := h; exact ⟨Φ, hp, allS_mono h fun v hv hΦ => hk _ ⟨v, rfl⟩ (hv hΦ)⟩
  | exA0 a o => obtain ⟨ad, e, h⟩ := h; exact ⟨ad, e, hk _ ⟨ad, rfl⟩ h⟩
  | exA a p o => obtain ⟨ad, e, hp, h⟩ := h; exact ⟨ad, e, hp, hk _ ⟨ad, rfl⟩ h⟩

/-! the classes -/
section
variable {C : Ctx} {o : Oper} {ρ ρ' : Operand → Slot} {m m' : Mem}
theorem resE_cases : resE C o ρ m = .bad ∨ ∃ r, effX C o ρ m 0 = .res r ∧ okRes (clsOf C o) o.op r = true ∧ resE C o ρ m = r := by
  unfold resE
  cases he : effX C o ρ m 0 with
  | res r =>
    cases hk : okRes (clsOf C o) o.op r with
    | true => exact .inr ⟨r, rfl, hk, by simp [hk]⟩
    | false => exact .inl (by simp [hk])
  | _ => exact .inl rfl
theorem isNone_eq {α : Type} {x : Option α} (h : x.isNone = true) : x = none := by cases x with | none => rfl | some _ => cases h
theorem isP_cond {b : Bool} {r : Res} (h : IsP r) : IsP (cond b r .bad) := by cases b; trivial; exact h
theorem at_nb {r : Res} (h : effX C o ρ m 0 = .res r) (ha : isAt o.op = true) : IsP r ∨ ∃ p f, r = .allk p f := by
  cases hop : o.op <;> rw [hop] at ha <;> simp [isAt] at ha
  case nilCheck x =>
    simp only [effX, resX, hop, Eff.res.injEq] at h
    subst h
    split <;> exact .inl (by simp [IsP])
  case indexAddr t x i =>
    simp only [effX, resX, hop, Eff.res.injEq] at h
    subst h
    split
    · unfold indexAddrX
      split
      · exact .inl (isP_cond (by simp [IsP]))
      · exact .inl (isP_cond (by simp [IsP]))
      · exact .inl trivial
    · exact .inl trivial
theorem res_p (h : clsOf C o = .p) : IsP (resE C o ρ m) := by
  rcases resE_cases (C := C) (o := o) (ρ := ρ) (m := m) with e | ⟨r, he, hk, e⟩
  · rw [e]; trivial
  · rw [e]; rw [h] at hk
    cases r <;> simp only [okRes] at hk <;> first | trivial | exact isNone_eq hk | cases hk | skip
    all_goals
      rcases at_nb he hk with hp | ⟨_, _, e'⟩
      · exact hp
      · cases e'
theorem res_e (h : clsOf C o = .e) : IsE (resE C o ρ m) := by
  rcases resE_cases (C := C) (o := o) (ρ := ρ) (m := m) with e | ⟨r, he, hk, e⟩
  · rw [e]; trivial
  · rw [e]; rw [h] at hk
    cases r <;> simp only [okRes] at hk <;> first | trivial | exact isNone_eq hk | cases hk
theorem res_a (h : clsOf C o = .a) : IsA (resE C o ρ m) := by
  rcases resE_cases (C := C) (o := o) (ρ := ρ) (m := m) with e | ⟨r, he, hk, e⟩
  · rw [e]; trivial
  · rw [e]; rw [h] at hk
    cases r <;> simp only [okRes] at hk <;> first | trivial | cases hk
def isAB : Op → Bool
  | .alloc _ | .box .. => true
  | _ => false
theorem room_nb {r : Res} {x : Out} {b : LB} (he : effX C o ρ m 0 = .res r) (hr : isRoom o.op = true) (h : r.has x) (hx : x.nb = some (.loc b)) : isAB o.op = true ∧ x.v = .pointer (some ⟨b.k, 0, none⟩) := by
  cases hop : o.op
  case alloc t =>
    refine ⟨rfl, ?_⟩
    simp only [effX, resX, hop, Eff.res.injEq] at he
    subst he
    split at h
    · obtain ⟨k, rfl⟩ := h
      unfold newX at hx ⊢
      cases hd : isDyn C o.dst with
      | true => rw [hd] at hx; cases hx
      | false => rw [hd] at hx; cases hx; rfl
    · exact h.elim
  case box t y =>
    refine ⟨rfl, ?_⟩
    simp only [effX, resX, hop, Eff.res.injEq] at he
    subst he
    split at h
    · obtain ⟨k, rfl⟩ := h
      unfold newX at hx ⊢
      cases hd : isDyn C o.dst with
      | true => rw [hd] at hx; cases hx
      | false => rw [hd] at hx; cases hx; rfl
    · exact h.elim
  case buildSlice t len ps =>
    simp only [effX, resX, hop, Eff.res.injEq] at he
    subst he
    split at h
    · obtain ⟨k, rfl⟩ := h; cases hx
    · exact h.elim
  case makeMap t y =>
    cases y with
    | none => simp only [effX, resX, hop, Eff.res.injEq] at he; subst he; exact h.elim
    | some y =>
      simp only [effX, resX, hop, Eff.res.injEq] at he
      subst he
      split at h
      · obtain ⟨k, rfl⟩ := h; cases hx
      · exact h.elim
  case makeSlice t l c =>
    simp only [effX, resX, hop, Eff.res.injEq] at he
    subst he
    split at h
    · split at h
      · rename_i ti bytes z ht2
        cases hz : Nat.beq z.cells.toList.length 1 with
        | true => simp only [hz, cond_true] at h; obtain ⟨k, rfl⟩ := h; cases hx
        | false => simp only [hz, cond_false] at h; exact h.elim
      · exact h.elim
    · exact h.elim
  all_goals (rw [hop] at hr; exact absurd hr (by simp [isRoom]))
theorem res_nb {x : Out} {b : LB} (h : (resE C o ρ m).has x) (hx : x.nb = some (.loc b)) : isAB o.op = true ∧ x.v = .pointer (some ⟨b.k, 0, none⟩) := by
  rcases resE_cases (C := C) (o := o) (ρ := ρ) (m := m) with e | ⟨r, he, hk, e⟩
  · rw [e] at h; exact h.elim
  · rw [e] at h
    have hn : ∀ {c : Cls} {y : Out}, (match c with | .p | .e | .a => y.nb.isNone | _ => false) = true → y.nb = none := by
      intro c y hy; cases c <;> first | exact isNone_eq hy | cases hy
    have hat : ∀ {c : Cls}, (match c with | .p => isAt o.op | _ => false) = true → isAt o.op = true := by
      intro c hy; cases c <;> first | exact hy | cases hy
    have hrm : ∀ {c : Cls}, (match c with | .a => isRoom o.op | _ => false) = true → isRoom o.op = true := by
      intro c hy; cases c <;> first | exact hy | cases hy
    cases r with
    | bad => exact h.elim
    | det0 y => have := hn hk; simp only [Res.has] at h; rw [h, this] at hx; cases hx
    | det p y => have := hn hk; simp only [Res.has] at h; rw [h, this] at hx; cases hx
    | fl y => obtain ⟨r, rfl⟩ := h; cases hx
    | fi y k => obtain ⟨r, rfl⟩ := h; cases hx
    | ex sh p => obtain ⟨r, rfl⟩ := h; cases hx
    | rl sh p => obtain ⟨r, rfl⟩ := h; cases hx
    | exA0 a f =>
      rcases at_nb he (hat hk) with hp | ⟨_, _, e'⟩
      · obtain ⟨r, rfl⟩ := h; rw [hp r] at hx; cases hx
      · cases e'
    | exA a p f =>
      rcases at_nb he (hat hk) with hp | ⟨_, _, e'⟩
      · obtain ⟨r, rfl⟩ := h; rw [hp r] at hx; cases hx
      · cases e'
    | _ =>
      exact room_nb he (hrm hk) h hx
theorem memN_false' {x : Nat} {l : List Nat} : memN x l = false ↔ x ∉ l := by
  induction l with
  | nil => simp [memN]
  | cons y r ih =>
    simp only [memN, List.mem_cons, not_or]
    cases h : Nat.beq x y with
    | true => simp [Nat.eq_of_beq_eq_true h]
    | false =>
      simp only [cond_false, ih]
      constructor
      · exact fun h' => ⟨fun e => by subst e; simp at h, h'⟩
      · exact fun h' => h'.2

theorem vals_congr {l : List Operand} (h : ∀ x ∈ l, ρ x = ρ' x) : l.map ρ = l.map ρ' := List.map_congr_left h
theorem parts_congr {l : List (Nat × Operand)} (h : ∀ x ∈ l.map (·.2), ρ x = ρ' x) : (l.map fun (i, x) => (i, ρ x)) = l.map fun (i, x) => (i, ρ' x) := by
  refine List.map_congr_left fun p hp => ?_
  obtain ⟨i, x⟩ := p
  simp only [h x (List.mem_map.2 ⟨(i, x), hp, rfl⟩)]
theorem opt_congr {l : Option Operand} (h : ∀ x ∈ l.toList, ρ x = ρ' x) : l.map ρ = l.map ρ' := by
  cases l with
  | none => rfl
  | some x => simp [h x (by simp)]
theorem callee_congr {c : Call} (h : ∀ x ∈ c.operands.toList, ρ x = ρ' x) : (∀ g, c.callee = .value g → ρ g = ρ' g) ∧ c.args.toList.map ρ = c.args.toList.map ρ' := by
  refine ⟨fun g hg => h g (by simp [Call.operands, hg]), vals_congr fun x hx => h x ?_⟩
  simp only [Call.operands, Array.toList_append, List.mem_append]
  exact .inr hx
theorem eff_congr {idx : Nat} (h : ∀ x ∈ o.op.operands.toList, ρ x = ρ' x) : effX C o ρ m idx = effX C o ρ' m idx := by
  cases hop : o.op
  case call c =>
    obtain ⟨hg, ha⟩ := callee_congr (c := c) (by rw [hop] at h; exact h)
    simp only [effX, resX, hop]
    cases hc : c.callee with
    | builtin b =>
      cases b <;> simp only [ha]
      all_goals
        rcases hl : c.args.toList with _ | ⟨x, _ | ⟨y, _ | _⟩⟩ <;> rw [hl] at ha <;> simp only [List.map_cons, List.map_nil, List.cons.injEq, and_true, hl] at ha ⊢ <;> first | done | (simp only [ha]; done) | (rcases c.argTypes.toList with _ | ⟨t, r⟩ <;> simp only [ha])
    | value g => simp only [hg g hc, ha]
    | invoke r i => rfl
  case slice t x lo hi mx =>
    rw [hop] at h
    simp only [Op.operands, Array.toList_append, List.mem_append, Option.toList_toArray] at h
    have h1 := h x (by simp)
    have h2 : lo.map ρ = lo.map ρ' := opt_congr fun y hy => h y (by simp [hy])
    have h3 : hi.map ρ = hi.map ρ' := opt_congr fun y hy => h y (by simp [hy])
    have h4 : mx.map ρ = mx.map ρ' := opt_congr fun y hy => h y (by simp [hy])
    simp only [effX, resX, hop, h1, h2, h3, h4]
  case build t ps =>
    have := parts_congr (ρ := ρ) (ρ' := ρ') (l := ps.toList) (by rw [hop] at h; simpa [Op.operands] using h)
    simp only [effX, resX, hop, this]
  case buildSlice t n ps =>
    have := parts_congr (ρ := ρ) (ρ' := ρ') (l := ps.toList) (by rw [hop] at h; simpa [Op.operands] using h)
    simp only [effX, resX, hop, this]
  case makeFunc fn fs cs =>
    rw [hop] at h
    simp only [Op.operands, Array.toList_append, List.mem_append] at h
    have h1 := vals_congr (ρ := ρ) (ρ' := ρ') (l := fs.toList) fun x hx => h x (.inl hx)
    have h2 := vals_congr (ρ := ρ) (ρ' := ρ') (l := cs.toList) fun x hx => h x (.inr hx)
    simp only [effX, resX, hop, h1, h2]
  case makeMap t r =>
    cases r with
    | none => simp only [effX, resX, hop]
    | some r => have := h r (by simp [hop, Op.operands]); simp only [effX, resX, hop, this]
  case binOp op t x y yt => simp only [effX, resX, hop, h x (by simp [hop, Op.operands]), h y (by simp [hop, Op.operands])]
  case store t x y => simp only [effX, resX, hop, h x (by simp [hop, Op.operands]), h y (by simp [hop, Op.operands])]
  case makeSlice t x y => simp only [effX, resX, hop, h x (by simp [hop, Op.operands]), h y (by simp [hop, Op.operands])]
  case indexAddr t x y => simp only [effX, resX, hop, h x (by simp [hop, Op.operands]), h y (by simp [hop, Op.operands])]
  case index t x y => simp only [effX, resX, hop, h x (by simp [hop, Op.operands]), h y (by simp [hop, Op.operands])]
  case lookup t x y ok => simp only [effX, resX, hop, h x (by simp [hop, Op.operands]), h y (by simp [hop, Op.operands])]
  case pick x y z => simp only [effX, resX, hop, h x (by simp [hop, Op.operands]), h y (by simp [hop, Op.operands]), h z (by simp [hop, Op.operands])]
  case mapUpdate t x y z => simp only [effX, resX, hop, h x (by simp [hop, Op.operands]), h y (by simp [hop, Op.operands]), h z (by simp [hop, Op.operands])]
  case move x => simp only [effX, resX, hop, h x (by simp [hop, Op.operands])]
  case assign x => simp only [effX, resX, hop, h x (by simp [hop, Op.operands])]
  case box t x => simp only [effX, resX, hop, h x (by simp [hop, Op.operands])]
  case load t x => simp only [effX, resX, hop, h x (by simp [hop, Op.operands])]
  case nilCheck x => simp only [effX, resX, hop, h x (by simp [hop, Op.operands])]
  case unOp op t x => simp only [effX, resX, hop, h x (by simp [hop, Op.operands])]
  case convert s d x => simp only [effX, resX, hop, h x (by simp [hop, Op.operands])]
  case fieldAddr s x f => simp only [effX, resX, hop, h x (by simp [hop, Op.operands])]
  case field s x f => simp only [effX, resX, hop, h x (by simp [hop, Op.operands])]
  case extract x i => simp only [effX, resX, hop, h x (by simp [hop, Op.operands])]
  all_goals simp only [effX, resX, hop]
theorem resE_congr (h : ∀ x ∈ o.op.operands.toList, ρ x = ρ' x) : resE C o ρ m = resE C o ρ' m := by
  unfold resE; rw [eff_congr h]
/-- what a plain operation comes to doesn't hang on memory -/
theorem resE_mem (h : clsOf C o = .p) : resE C o ρ m = resE C o ρ m' := by
  unfold resE
  rw [h]
  unfold clsOf at h
  cases hw : isWr C o with
  | true => simp [hw] at h
  | false =>
    simp only [hw, cond_false] at h
    cases hop : o.op <;> simp only [hop] at h <;> try (simp only [effX, resX, hop]; done)
    all_goals try (exact Cls.noConfusion h)
    case binOp op t x y yt =>
      simp only [effX, resX, hop]
      split
      · rename_i u v _ _
        unfold binX
        split <;> first | rfl | (split <;> rfl) | simp [okRes]
      · rfl
    case call c =>
      simp only [effX, resX, hop]
      cases hc : c.callee with
      | builtin b => rw [hc] at h; cases b <;> first | rfl | exact Cls.noConfusion h
      | invoke r i => rfl
      | value g =>
        rw [hc] at h
        cases g with
        | func f => exfalso; simp only at h; cases hf : C.ck f <;> rw [hf] at h <;> exact Cls.noConfusion h
        | _ => exact Cls.noConfusion h
end
end Go.Tn
end
section
namespace Go.Tn
open Go.RowKit
set_option linter.unusedSimpArgs false
set_option linter.unusedVariables false

/-! ### two operations that stand in no order -/
def wantD (ops : List Oper) (o : Oper) (env : Env) : Option Bool :=
  match o.guard with
  | none => some true
  | some (j, want) =>
    match (ops[j]?).bind (·.dst) with
    | some g =>
      match env.getD g ⟨none, none⟩ with
      | ⟨some (.bool b), none⟩ => some (b == want)
      | ⟨some (.tuple _), none⟩ => some false
      | _ => none
    | none => none
section
variable {C : Ctx} {ops : List Oper} {ms : List Nat} {K K' : St → Prop} {σ : St} {done done' : List Nat}

theorem stepD_eq {i : Nat} {o : Oper} : stepD C ops ms done i o σ K ↔ match wantD ops o σ.env with | some true => bodyD C ops ms done i o σ K | some false => K (σ.skip o.dst) | none => False := by
  unfold stepD wantD
  cases hg : o.guard with
  | none => exact Iff.rfl
  | some p =>
    obtain ⟨j, want⟩ := p
    simp only
    cases hj : (ops[j]?).bind (·.dst) with
    | none => exact Iff.rfl
    | some g =>
      simp only
      generalize hs : List.getD σ.env g ⟨none, none⟩ = s
      obtain ⟨v, al⟩ := s
      cases v with
      | none => exact Iff.rfl
      | some v =>
        cases al with
        | some p => cases v <;> exact Iff.rfl
        | none =>
          cases v with
          | bool b =>
            have es := lit_same hs
            cases b with
            | true => cases want <;> simp only [cond_true, cond_false, es] <;> exact Iff.rfl
            | false => cases want <;> simp only [cond_true, cond_false, es] <;> exact Iff.rfl
          | _ => exact Iff.rfl
/-- what a step comes to that writes no memory -/
def rstep (C : Ctx) (ops : List Oper) (o : Oper) (env : Env) (m : Mem) : Res :=
  match wantD ops o env with
  | some true => resE C o (slotOf env) m
  | some false => .det0 ⟨undef, none, none⟩
  | none => .bad
theorem stepD_res {i : Nat} {o : Oper} (hw : isWr C o = false) : stepD C ops ms done i o σ K ↔ (rstep C ops o σ.env σ.mem).T fun out => K (σ.addD i o.dst out) := by
  rw [stepD_eq]; unfold rstep
  cases h : wantD ops o σ.env with
  | none => exact Iff.rfl
  | some b =>
    cases b with
    | true => simp only [bodyD, hw, cond_false]
    | false => exact Iff.rfl
theorem cls_w {o : Oper} : isWr C o = true ↔ clsOf C o = .w := by
  constructor
  · intro h; simp [clsOf, h]
  · intro h
    unfold clsOf at h
    cases hw : isWr C o with
    | true => rfl
    | false =>
      exfalso
      simp only [hw, cond_false] at h
      split at h <;> try (exact Cls.noConfusion h)
      all_goals (repeat' split at h) <;> exact Cls.noConfusion h
theorem not_w {o : Oper} {c : Cls} (h : clsOf C o = c) (hc : c ≠ .w) : isWr C o = false := by
  cases hw : isWr C o with
  | false => rfl
  | true => rw [cls_w.1 hw] at h; exact (hc h.symm).elim

theorem rstep_sing {o : Oper} {env : Env} {m : Mem} (h : clsOf C o = .p ∨ clsOf C o = .e) : Sing (rstep C ops o env m) := by
  unfold rstep
  split
  · rcases h with h | h
    · exact (res_p h).sing
    · exact (res_e h).sing
  · exact IsP.sing (r := .det0 _) rfl
  · exact IsP.sing (r := .bad) trivial
theorem rstep_uni {o : Oper} {env : Env} {m : Mem} (h : clsOf C o = .p ∨ clsOf C o = .a) : Uni (rstep C ops o env m) := by
  unfold rstep
  split
  · rcases h with h | h
    · exact (res_p h).uni
    · exact (res_a h).uni
  · exact IsA.uni (r := .det0 _) trivial
  · exact IsA.uni (r := .bad) trivial

/-! slots that an operation doesn't look at -/
theorem slotOf_put {env : Env} {d : Option Nat} {s : Slot} {x : Operand} (h : ∀ t, x = .tmp t → d ≠ some t) : slotOf (put env d s) x = slotOf env x := by
  cases x with
  | tmp t =>
    cases d with
    | none => rfl
    | some d => simp only [slotOf, put, List.getD_eq_getElem?_getD]; rw [List.getElem?_set_ne (fun e => h t rfl (by rw [e]))]
  | _ => rfl
theorem operand_looks {o : Oper} {t : Nat} (h : Operand.tmp t ∈ o.op.operands.toList) : t ∈ looks ops o := by
  unfold looks
  refine List.mem_append.2 (.inl (List.mem_filterMap.2 ⟨.tmp t, h, rfl⟩))
theorem guard_looks {o : Oper} {j g : Nat} {w : Bool} (hg : o.guard = some (j, w)) (h : (ops[j]?).bind (·.dst) = some g) : g ∈ looks ops o := by
  unfold looks
  refine List.mem_append.2 (.inr ?_)
  simp [hg, h]
/-- two states of the slots that an operation can't tell apart -/
def Alike (ops : List Oper) (o : Oper) (env env' : Env) : Prop := ∀ t, t ∈ looks ops o → env.getD t ⟨none, none⟩ = env'.getD t ⟨none, none⟩
theorem Alike.slot {o : Oper} {env env' : Env} (h : Alike ops o env env') : ∀ x ∈ o.op.operands.toList, slotOf env x = slotOf env' x := by
  intro x hx
  cases x with
  | tmp t => exact h t (operand_looks hx)
  | _ => rfl
theorem Alike.want {o : Oper} {env env' : Env} (h : Alike ops o env env') : wantD ops o env = wantD ops o env' := by
  unfold wantD
  cases hg : o.guard with
  | none => rfl
  | some p =>
    obtain ⟨j, want⟩ := p
    simp only
    cases hj : (ops[j]?).bind (·.dst) with
    | none => rfl
    | some g => simp only [h g (guard_looks hg hj)]
theorem Alike.rstep {o : Oper} {env env' : Env} {m : Mem} (h : Alike ops o env env') : rstep C ops o env m = rstep C ops o env' m := by
  unfold Tn.rstep
  rw [h.want, resE_congr h.slot]
theorem alike_put {o : Oper} {env : Env} {d : Option Nat} {s : Slot} (h : ∀ t, d = some t → t ∉ looks ops o) : Alike ops o (put env d s) env := by
  intro t ht
  cases d with
  | none => rfl
  | some d => simp only [put, List.getD_eq_getElem?_getD]; rw [List.getElem?_set_ne (fun e => h d rfl (by rw [e]; exact ht))]
theorem Alike.trans {o : Oper} {a b c : Env} (h : Alike ops o a b) (k : Alike ops o b c) : Alike ops o a c := fun t ht => (h t ht).trans (k t ht)
theorem Alike.symm {o : Oper} {a b : Env} (h : Alike ops o a b) : Alike ops o b a := fun t ht => (h t ht).symm

/-! what is laid aside -/
theorem blt_t {i j : Nat} (h : i < j) : Nat.blt i j = true := Nat.ble_eq_true_of_le h
theorem blt_f {i j : Nat} (h : j ≤ i) : Nat.blt i j = false := by
  cases hb : Nat.blt i j with
  | false => rfl
  | true => have := Nat.le_of_ble_eq_true hb; omega
theorem lt_of_blt {i j : Nat} (h : Nat.blt i j = true) : i < j := Nat.le_of_ble_eq_true h
theorem le_of_blt {i j : Nat} (h : Nat.blt i j = false) : j ≤ i := by
  rcases Nat.lt_or_ge i j with h' | h'
  · rw [blt_t h'] at h; cases h
  · exact h'
theorem ins_comm {i j : Nat} {b c : NB} (h : i ≠ j) : ∀ l : List (Nat × NB), ins i b (ins j c l) = ins j c (ins i b l) := by
  intro l
  induction l with
  | nil =>
    rcases Nat.lt_or_gt_of_ne h with h' | h'
    · simp [ins, blt_t h', blt_f (Nat.le_of_lt h')]
    · simp [ins, blt_t h', blt_f (Nat.le_of_lt h')]
  | cons p r ih =>
    obtain ⟨k, d⟩ := p
    cases hi : Nat.blt i k <;> cases hj : Nat.blt j k
    · simp [ins, hi, hj, ih]
    · have h1 : Nat.blt i j = false := blt_f (by have := le_of_blt hi; have := lt_of_blt hj; omega)
      simp [ins, hi, hj, h1]
    · have h1 : Nat.blt j i = false := blt_f (by have := le_of_blt hj; have := lt_of_blt hi; omega)
      simp [ins, hi, hj, h1]
    · rcases Nat.lt_or_gt_of_ne h with h' | h'
      · simp [ins, hi, hj, blt_t h', blt_f (Nat.le_of_lt h')]
      · simp [ins, hi, hj, blt_t h', blt_f (Nat.le_of_lt h')]
theorem mem_ins {i : Nat} {b : NB} : ∀ {l : List (Nat × NB)} {p : Nat × NB}, p ∈ ins i b l ↔ p = (i, b) ∨ p ∈ l := by
  intro l
  induction l with
  | nil => intro p; simp [ins]
  | cons q r ih =>
    intro p
    obtain ⟨k, d⟩ := q
    cases hi : Nat.blt i k
    · simp only [ins, hi, cond_false, List.mem_cons, ih]
      constructor
      · rintro (h | h | h)
        · exact .inr (.inl h)
        · exact .inl h
        · exact .inr (.inr h)
      · rintro (h | h | h)
        · exact .inr (.inl h)
        · exact .inl h
        · exact .inr (.inr h)
    · simp [ins, hi]
theorem put_comm {env : Env} {d e : Option Nat} {s t : Slot} (h : ∀ x, d = some x → e ≠ some x) : put (put env d s) e t = put (put env e t) d s := by
  cases d with
  | none => rfl
  | some d =>
    cases e with
    | none => rfl
    | some e =>
      have : d ≠ e := fun he => h d rfl (by rw [he])
      simp only [put]
      rw [List.set_comm _ _ this]
theorem addD_mem {i : Nat} {d : Option Nat} {out : Out} : (σ.addD i d out).mem = σ.mem := by
  unfold St.addD; cases out.nb <;> rfl
theorem addD_env {i : Nat} {d : Option Nat} {out : Out} : ∃ s, (σ.addD i d out).env = put σ.env d s := by
  unfold St.addD; cases out.nb <;> exact ⟨_, rfl⟩
theorem addD_comm {i j : Nat} {d e : Option Nat} {x y : Out} (hij : i ≠ j) (h : ∀ x, d = some x → e ≠ some x) : (σ.addD i d x).addD j e y = (σ.addD j e y).addD i d x := by
  unfold St.addD
  cases x.nb <;> cases y.nb <;> simp only [put_comm h]
  rw [ins_comm hij.symm]
theorem alike_addD {o : Oper} {i : Nat} {d : Option Nat} {out : Out} (h : ∀ t, d = some t → t ∉ looks ops o) : Alike ops o (σ.addD i d out).env σ.env := by
  obtain ⟨s, e⟩ := addD_env (σ := σ) (i := i) (d := d) (out := out)
  rw [e]; exact alike_put h
end
end Go.Tn
end
section
namespace Go.Tn
open Go.RowKit
set_option linter.unusedSimpArgs false
set_option linter.unusedVariables false

section
variable {C : Ctx} {ops : List Oper} {ms : List Nat} {K K' : St → Prop} {σ : St} {done done' : List Nat}

abbrev St.pt (σ : St) (d : Option Nat) (s : Slot) : St := { σ with env := put σ.env d s }
/-- what is laid aside: of operations that are through -/
def NwOk (ops : List Oper) (rem : List Nat) (l : List (Nat × NB)) : Prop := ∀ p ∈ l, p.1 ∉ rem ∧ ∀ b, p.2 = .loc b → ∃ o, ops[p.1]? = some o ∧ isAB o.op = true
def DstOk (ops : List Oper) : Prop := ∀ (i j : Nat) (x y : Oper) (d : Nat), ops[i]? = some x → ops[j]? = some y → x.dst = some d → y.dst = some d → i = j
theorem newLocs_mem {i : Nat} {o : Oper} {d : Nat} (h : ops[i]? = some o) (ha : isAB o.op = true) (hd : o.dst = some d) : d ∈ newLocs ops := by
  unfold newLocs
  refine List.mem_flatMap.2 ⟨o, List.mem_of_getElem? h, ?_⟩
  cases hop : o.op <;> rw [hop] at ha <;> simp [isAB] at ha <;> simp [hop, hd]

theorem flushL_pt {d : Option Nat} {s : Slot} : ∀ (l : List (Nat × NB)) (σ : St), (∀ p ∈ l, ∀ b, p.2 = .loc b → ∀ x, d = some x → (ops[p.1]?).bind (·.dst) ≠ some x) →
    flushL ops l (σ.pt d s) = (flushL ops l σ).pt d s := by
  intro l
  induction l with
  | nil => intro σ h; rfl
  | cons p r ih =>
    intro σ h
    obtain ⟨i, nb⟩ := p
    have hr := fun σ => ih σ fun p hp => h p (List.mem_cons_of_mem _ hp)
    cases nb with
    | own k o => simp only [flushL]; exact hr { σ with own := (k, o) :: σ.own }
    | loc b =>
      simp only [flushL]
      rw [← hr]
      congr 1
      simp only [St.pt]
      rw [put_comm (fun x hx => h (i, .loc b) (by simp) b rfl x hx)]
theorem flushL_nw : ∀ (l : List (Nat × NB)) (σ : St), (flushL ops l σ).nw = σ.nw := by
  intro l
  induction l with
  | nil => intro σ; rfl
  | cons p r ih => intro σ; obtain ⟨i, nb⟩ := p; cases nb <;> simp only [flushL, ih]
theorem flushL_env {t : Nat} : ∀ (l : List (Nat × NB)) (σ : St), (∀ p ∈ l, ∀ b, p.2 = .loc b → (ops[p.1]?).bind (·.dst) ≠ some t) → (flushL ops l σ).env[t]? = σ.env[t]? := by
  intro l
  induction l with
  | nil => intro σ h; rfl
  | cons p r ih =>
    intro σ h
    obtain ⟨i, nb⟩ := p
    have hr := fun σ => ih σ fun p hp => h p (List.mem_cons_of_mem _ hp)
    cases nb with
    | own k o => simp only [flushL]; exact hr _
    | loc b =>
      simp only [flushL]
      rw [hr]
      cases hd : (ops[i]?).bind (·.dst) with
      | none => rfl
      | some d => simp only [put]; rw [List.getElem?_set_ne (fun e => h (i, .loc b) (by simp) b rfl (by rw [hd, e]))]
theorem flushL_loc {j : Nat} : ∀ (l : List (Nat × NB)) (σ : St), j < σ.loc.length → (flushL ops l σ).loc[j]? = σ.loc[j]? := by
  intro l
  induction l with
  | nil => intro σ h; rfl
  | cons p r ih =>
    intro σ h
    obtain ⟨i, nb⟩ := p
    cases nb with
    | own k o => simp only [flushL]; exact ih _ h
    | loc b =>
      simp only [flushL]
      rw [ih _ (by simp; omega)]
      simp only; rw [List.getElem?_append_left h]
theorem flush_nw : (σ.flush ops).nw = [] := by unfold St.flush; rw [flushL_nw]
theorem flush_pt {rem : List Nat} {x : Nat} {o : Oper} {s : Slot} (hn : NwOk ops rem σ.nw) (hx : x ∈ rem) (ho : ops[x]? = some o) (hd : DstOk ops) : (σ.pt o.dst s).flush ops = (σ.flush ops).pt o.dst s := by
  unfold St.flush
  refine flushL_pt (σ := { σ with nw := [] }) σ.nw fun p hp b hb t ht he => ?_
  obtain ⟨h1, h2⟩ := hn p hp
  obtain ⟨o', ho', _⟩ := h2 b hb
  simp only [ho', Option.bind_some] at he
  have := hd x p.1 o o' t ho ho' ht he
  exact h1 (this ▸ hx)
theorem flush_env {rem : List Nat} {t : Nat} (hn : NwOk ops rem σ.nw) (ht : t ∉ newLocs ops) : (σ.flush ops).env[t]? = σ.env[t]? := by
  unfold St.flush
  refine (flushL_env σ.nw { σ with nw := [] } fun p hp b hb he => ?_)
  obtain ⟨o', ho', ha⟩ := (hn p hp).2 b hb
  simp only [ho', Option.bind_some] at he
  exact ht (newLocs_mem ho' ha he)
theorem flushO_cases {i : Nat} {o : Oper} : ∃ l N, (∀ p ∈ l, p ∈ σ.nw) ∧ (∀ p ∈ N, p ∈ σ.nw) ∧ (∀ d s, ((σ.pt d s).flushO ops i o) = flushL ops l { (σ.pt d s) with nw := N }) ∧ σ.flushO ops i o = flushL ops l { σ with nw := N } := by
  unfold St.flushO
  cases isApp o with
  | false => exact ⟨σ.nw, [], fun _ h => h, fun _ h => (by cases h), fun _ _ => rfl, rfl⟩
  | true => exact ⟨_, _, fun p h => (List.mem_filter.1 h).1, fun p h => (List.mem_filter.1 h).1, fun _ _ => rfl, rfl⟩
theorem flushO_pt {rem : List Nat} {x i : Nat} {o oi : Oper} {s : Slot} (hn : NwOk ops rem σ.nw) (hx : x ∈ rem) (ho : ops[x]? = some o) (hd : DstOk ops) : (σ.pt o.dst s).flushO ops i oi = (σ.flushO ops i oi).pt o.dst s := by
  obtain ⟨l, N, h1, h2, h3, h4⟩ := flushO_cases (ops := ops) (σ := σ) (i := i) (o := oi)
  rw [h3, h4]
  refine flushL_pt (σ := { σ with nw := N }) l fun p hp b hb t ht he => ?_
  obtain ⟨q1, q2⟩ := hn p (h1 p hp)
  obtain ⟨o', ho', _⟩ := q2 b hb
  simp only [ho', Option.bind_some] at he
  have := hd x p.1 o o' t ho ho' ht he
  exact q1 (this ▸ hx)
theorem flushO_env {rem : List Nat} {t i : Nat} {oi : Oper} (hn : NwOk ops rem σ.nw) (ht : t ∉ newLocs ops) : (σ.flushO ops i oi).env[t]? = σ.env[t]? := by
  obtain ⟨l, N, h1, h2, h3, h4⟩ := flushO_cases (ops := ops) (σ := σ) (i := i) (o := oi)
  rw [h4]
  refine (flushL_env l { σ with nw := N } fun p hp b hb he => ?_)
  obtain ⟨o', ho', ha⟩ := (hn p (h1 p hp)).2 b hb
  simp only [ho', Option.bind_some] at he
  exact ht (newLocs_mem ho' ha he)
theorem flushO_loc {j i : Nat} {oi : Oper} (hj : j < σ.loc.length) : (σ.flushO ops i oi).loc[j]? = σ.loc[j]? := by
  obtain ⟨l, N, h1, h2, h3, h4⟩ := flushO_cases (ops := ops) (σ := σ) (i := i) (o := oi)
  rw [h4]; exact flushL_loc l { σ with nw := N } hj
theorem flushO_nw {i : Nat} {oi : Oper} : ∀ p ∈ (σ.flushO ops i oi).nw, p ∈ σ.nw := by
  obtain ⟨l, N, h1, h2, h3, h4⟩ := flushO_cases (ops := ops) (σ := σ) (i := i) (o := oi)
  rw [h4, flushL_nw]; exact h2
theorem locApart_mono {σ1 : St} {y : Nat} (h : locApart ops ms σ σ1 y done = true) (hd : ∀ x, x ∈ done' → x ∈ done) : locApart ops ms σ σ1 y done' = true := by
  unfold locApart at h ⊢
  split
  · rename_i o ho
    rw [ho] at h
    simp only at h
    split
    · rename_i hop
      rw [hop] at h
      simp only [List.all_eq_true] at h ⊢
      exact fun x hx => h x (hd x hx)
    · rename_i hop
      rw [hop] at h
      simp only at h
      cases ha : isApp o with
      | false => rfl
      | true =>
        rw [ha] at h
        simp only [cond_true, List.all_eq_true] at h ⊢
        exact fun x hx => h x (hd x hx)
    · rfl
  · rename_i ho
    rw [ho] at h; exact h
theorem flush_loc {j : Nat} (hj : j < σ.loc.length) : (σ.flush ops).loc[j]? = σ.loc[j]? := flushL_loc σ.nw { σ with nw := [] } hj

/-! what an operation does, in a state where a slot has been set -/
theorem add_pt {d e : Option Nat} {s : Slot} {out : Out} (h : ∀ x, d = some x → e ≠ some x) : (σ.pt d s).add e out = (σ.add e out).pt d s := by
  unfold St.add
  cases out.nb with
  | none => simp only [St.pt, put_comm h]
  | some nb => cases nb <;> simp only [St.pt, put_comm h]
theorem add_nw {e : Option Nat} {out : Out} : (σ.add e out).nw = σ.nw := by
  unfold St.add
  cases out.nb with
  | none => rfl
  | some nb => cases nb <;> rfl
theorem add_env {e : Option Nat} {out : Out} : (σ.add e out).env = put σ.env e ⟨some out.v, out.al⟩ := by
  unfold St.add
  cases out.nb with
  | none => rfl
  | some nb => cases nb <;> rfl
theorem Eff.pt {f : Eff} {d e : Option Nat} {s : Slot} (h : ∀ x, d = some x → e ≠ some x) : f.T (σ.pt d s) e K ↔ f.T σ e fun σ' => K (σ'.pt d s) := by
  cases f with
  | res r => simp only [Eff.T, add_pt h]
  | loc l => simp only [Eff.T, St.pt, put_comm h]
  | own p => simp only [Eff.T, St.pt, put_comm h]
  | phi sh p => simp only [Eff.T, St.pt, put_comm h]
/-- what an effect leaves: one slot set, nothing laid aside; and, if it writes no local block, the local blocks -/
structure EffEv (f : Eff) (σ : St) (d : Option Nat) (σ' : St) : Prop where
  env : ∃ s, σ'.env = put σ.env d s
  nw : σ'.nw = σ.nw
  loc : (∀ r, f ≠ .res r) → σ'.loc = match f with | .loc l => l | _ => σ.loc
theorem Eff.mono {f : Eff} {d : Option Nat} (h : f.T σ d K) (hk : ∀ σ', EffEv f σ d σ' → K σ' → K' σ') : f.T σ d K' := by
  cases f with
  | res r => exact Res.mono h fun out _ hK => hk _ ⟨⟨_, add_env⟩, add_nw, fun h => (h r rfl).elim⟩ hK
  | loc l => exact hk _ ⟨⟨_, rfl⟩, rfl, fun _ => rfl⟩ h
  | own p => obtain ⟨ow, hp, h⟩ := h; exact ⟨ow, hp, hk _ ⟨⟨_, rfl⟩, rfl, fun _ => rfl⟩ h⟩
  | phi sh p => obtain ⟨Φ, hp, h⟩ := h; exact ⟨Φ, hp, allS_mono h fun v hv ow how => hk _ ⟨⟨_, rfl⟩, rfl, fun _ => rfl⟩ (hv ow how)⟩

/-- a step hands on what its outcomes have -/
theorem stepD_mono {i : Nat} {o : Oper} {rem : List Nat} (ho : ops[i]? = some o) (hi : i ∉ rem) (hn : NwOk ops (i :: rem) σ.nw) (h : stepD C ops ms done i o σ K) (hd : ∀ x, x ∈ done' → x ∈ done)
    (hk : ∀ σ', NwOk ops rem σ'.nw → K σ' → K' σ') : stepD C ops ms done' i o σ K' := by
  have hn' : NwOk ops rem σ.nw := fun p hp => ⟨fun hm => (hn p hp).1 (List.mem_cons_of_mem _ hm), (hn p hp).2⟩
  rw [stepD_eq] at h ⊢
  cases hw : wantD ops o σ.env with
  | none => rw [hw] at h; exact h
  | some b =>
    rw [hw] at h
    cases b with
    | false => exact hk _ hn' h
    | true =>
      simp only [bodyD] at h ⊢
      cases hwr : isWr C o with
      | false =>
        rw [hwr] at h
        simp only [cond_false] at h ⊢
        refine Res.mono h fun out hout hK => hk _ ?_ hK
        unfold St.addD
        cases hnb : out.nb with
        | none => exact hn'
        | some nb =>
          intro p hp
          rcases mem_ins.1 hp with rfl | hp
          · refine ⟨hi, fun b hb => ⟨o, ho, ?_⟩⟩
            simp only at hb; subst hb
            exact (res_nb hout hnb).1
          · exact hn' p hp
      | true =>
        rw [hwr] at h
        simp only [cond_true] at h ⊢
        cases hl : locApart ops ms σ (σ.flushO ops i o) i done with
        | false => rw [hl] at h; exact h.elim
        | true =>
          rw [hl] at h; rw [locApart_mono hl hd]
          simp only [cond_true] at h ⊢
          refine Eff.mono h fun σ' hev hK => hk _ ?_ hK
          rw [hev.nw]
          exact fun p hp => hn' p (flushO_nw p hp)

theorem memN_iff {x : Nat} {l : List Nat} : memN x l = true ↔ x ∈ l := by
  cases h : memN x l with
  | true => simp only [true_iff]; exact Classical.byContradiction fun hn => by rw [memN_false'.2 hn] at h; cases h
  | false => simp only [Bool.false_eq_true, false_iff]; exact memN_false'.1 h
structure Apart (ops : List Oper) (x y : Oper) : Prop where
  xy : ∀ d, x.dst = some d → d ∉ looks ops y
  yx : ∀ d, y.dst = some d → d ∉ looks ops x
  dd : ∀ d, x.dst = some d → y.dst ≠ some d
theorem apart_of {x y : Oper} (h : apartN ops x y = true) : Apart ops x y := by
  unfold apartN at h
  rw [Bool.and_eq_true] at h
  obtain ⟨h1, h2⟩ := h
  constructor
  · intro d hd
    rw [hd] at h1
    simp only [Bool.and_eq_true, Bool.not_eq_true'] at h1
    exact memN_false'.1 h1.1
  · intro d hd
    rw [hd] at h2
    simp only [Bool.not_eq_true'] at h2
    exact memN_false'.1 h2
  · intro d hd hy
    rw [hd, hy] at h1
    simp at h1
def WarOk (ops : List Oper) (x y : Oper) : Prop := isLoad x = true → ∀ d, y.dst = some d → d ∉ looks ops x
theorem war_of {x y : Oper} (h : warOk ops x y = true) : WarOk ops x y := by
  intro hl d hd
  unfold warOk at h
  rw [hl, hd] at h
  simp only [cond_true, Bool.not_eq_true'] at h
  exact memN_false'.1 h
theorem okPair_cases {x y : Oper} (h : okPair C ops x y = true) : Apart ops x y ∧
    ((clsOf C x = .p ∧ clsOf C y = .w ∧ ∀ t ∈ looks ops x, t ∉ newLocs ops) ∨
     (clsOf C x = .e ∧ clsOf C y = .w ∧ isLoad x = true ∧ (isStore y = true ∨ isApp y = true) ∧ ∀ t ∈ looks ops x, t ∉ newLocs ops) ∨
     ((clsOf C x = .p ∨ clsOf C x = .e) ∧ clsOf C y ≠ .w) ∨
     (clsOf C x = .a ∧ (clsOf C y = .p ∨ clsOf C y = .a)) ∨
     (clsOf C x = .w ∧ clsOf C y = .a ∧ isApp x = true ∧ isBuild C ops y = true)) := by
  unfold okPair at h
  rw [Bool.and_eq_true] at h
  refine ⟨apart_of h.1, ?_⟩
  have hh := h.2
  cases hx : clsOf C x <;> cases hy : clsOf C y <;> rw [hx, hy] at hh <;> simp at hh ⊢
  · intro t ht
    exact memN_false'.1 (hh t ht)
  · exact ⟨hh.1, hh.2.1, fun t ht => memN_false'.1 (hh.2.2 t ht)⟩
  · exact hh
theorem flush_alike {o oi : Oper} {i : Nat} {rem : List Nat} (hn : NwOk ops rem σ.nw) (h : ∀ t ∈ looks ops o, t ∉ newLocs ops) : Alike ops o (σ.flushO ops i oi).env σ.env := by
  intro t ht
  simp only [List.getD_eq_getElem?_getD]
  rw [flushO_env hn (h t ht)]
/-! ### an append, and a list of constants -/
theorem ins_lo {x y : Nat} {b : NB} (h : x < y) : ∀ l : List (Nat × NB), (ins y b l).filter (fun p => Nat.blt p.1 x) = l.filter (fun p => Nat.blt p.1 x) := by
  have hy : Nat.blt y x = false := blt_f (Nat.le_of_lt h)
  intro l
  induction l with
  | nil => simp [ins, hy]
  | cons p r ih =>
    obtain ⟨j, c⟩ := p
    cases hb : Nat.blt y j with
    | true => simp only [ins, hb, cond_true, List.filter_cons, hy]; rfl
    | false => simp only [ins, hb, cond_false, List.filter_cons, ih]
theorem ins_hi {x y : Nat} {b : NB} (h : x < y) : ∀ l : List (Nat × NB), (ins y b l).filter (fun p => !(Nat.blt p.1 x)) = ins y b (l.filter (fun p => !(Nat.blt p.1 x))) := by
  have hy : Nat.blt y x = false := blt_f (Nat.le_of_lt h)
  intro l
  induction l with
  | nil => simp [ins, hy]
  | cons p r ih =>
    obtain ⟨j, c⟩ := p
    cases hb : Nat.blt y j with
    | true =>
      have hj : Nat.blt j x = false := blt_f (by have := lt_of_blt hb; omega)
      simp only [ins, hb, cond_true, List.filter_cons, hy, hj, Bool.not_false, if_true]
    | false =>
      cases hj : Nat.blt j x with
      | true => simp only [ins, hb, cond_false, List.filter_cons, hj, Bool.not_true, Bool.false_eq_true, if_false, ih]
      | false => simp only [ins, hb, cond_false, List.filter_cons, hj, Bool.not_false, if_true, ih]
theorem flushL_setnw {N : List (Nat × NB)} : ∀ (l : List (Nat × NB)) (σ : St), flushL ops l { σ with nw := N } = { flushL ops l σ with nw := N } := by
  intro l
  induction l with
  | nil => intro σ; rfl
  | cons p r ih =>
    intro σ
    obtain ⟨i, nb⟩ := p
    cases nb with
    | own k o => simp only [flushL]; exact ih { σ with own := (k, o) :: σ.own }
    | loc b => simp only [flushL]; exact ih { σ with env := put σ.env ((ops[i]?).bind (·.dst)) ⟨some (.pointer (some ⟨b.k, 0, none⟩)), some (σ.loc.length, 0)⟩, loc := σ.loc ++ [b] }
theorem flushP_addD {x y : Nat} {oy : Oper} {out : Out} {rem : List Nat} (h : x < y) (hy : ops[y]? = some oy) (hn : NwOk ops rem σ.nw) (hyr : y ∈ rem) (hd : DstOk ops) :
    (σ.addD y oy.dst out).flushP ops (fun p => Nat.blt p x) = (σ.flushP ops fun p => Nat.blt p x).addD y oy.dst out := by
  have hpt : ∀ (N : List (Nat × NB)) (s : Slot), flushL ops (σ.nw.filter fun p => Nat.blt p.1 x) { (σ.pt oy.dst s) with nw := N } = { (flushL ops (σ.nw.filter fun p => Nat.blt p.1 x) σ).pt oy.dst s with nw := N } := by
    intro N s
    rw [flushL_setnw, flushL_pt]
    intro p hp b hb t ht he
    obtain ⟨q1, q2⟩ := hn p (List.mem_filter.1 hp).1
    obtain ⟨o', ho', _⟩ := q2 b hb
    simp only [ho', Option.bind_some] at he
    have := hd y p.1 oy o' t hy ho' ht he
    exact q1 (this ▸ hyr)
  unfold St.flushP St.addD
  cases hnb : out.nb with
  | none =>
    simp only
    rw [flushL_setnw (N := σ.nw.filter fun p => !(Nat.blt p.1 x)) _ σ]
    exact hpt _ _
  | some nb =>
    simp only
    rw [ins_lo h, ins_hi h, flushL_setnw (N := σ.nw.filter fun p => !(Nat.blt p.1 x)) _ σ]
    exact hpt _ _
theorem add_addD {y : Nat} {d e : Option Nat} {out out' : Out} (h : ∀ x, d = some x → e ≠ some x) : (σ.addD y d out).add e out' = (σ.add e out').addD y d out := by
  unfold St.add St.addD
  cases out.nb <;> cases out'.nb with
  | none => simp only [put_comm h]
  | some nb => cases nb <;> simp only [put_comm h]
theorem Eff.addD {f : Eff} {y : Nat} {d e : Option Nat} {out : Out} (h : ∀ x, d = some x → e ≠ some x) : f.T (σ.addD y d out) e K ↔ f.T σ e fun σ' => K (σ'.addD y d out) := by
  cases f with
  | res r => simp only [Eff.T, add_addD h]
  | loc l => unfold St.addD; cases out.nb <;> simp only [Eff.T, put_comm h]
  | own p => unfold St.addD; cases out.nb <;> simp only [Eff.T, put_comm h]
  | phi sh p => unfold St.addD; cases out.nb <;> simp only [Eff.T, put_comm h]
theorem skip_addD {y : Nat} {d e : Option Nat} {out : Out} (h : ∀ x, d = some x → e ≠ some x) : (σ.addD y d out).skip e = (σ.skip e).addD y d out := by
  unfold St.skip St.addD
  cases out.nb <;> simp only [put_comm h]
theorem build_of {o : Oper} (h : isBuild C ops o = true) : isWr C o = false ∧ isLoad o = false ∧ (∀ z ∈ ops, WarOk ops z o) ∧ ∃ f, ∀ (env : Env) (m : Mem), rstep C ops o env m = .allk0 f := by
  unfold isBuild at h
  simp only [Bool.and_eq_true] at h
  obtain ⟨h1, h2, h3, h4, h5⟩ := h
  cases hop : o.op <;> rw [hop] at h1 <;> simp at h1
  rename_i t len ps
  refine ⟨by simp [isWr, hop], by simp [isLoad, hop], fun z hz => war_of (List.all_eq_true.1 h5 z hz), ?_⟩
  cases hr : resE C o (slotOf []) ⟨[], []⟩ <;> rw [hr] at h4 <;> simp at h4
  rename_i f
  refine ⟨f, fun env m => ?_⟩
  have hl : looks ops o = [] := List.isEmpty_iff.1 h3
  have hg : o.guard = none := Option.isNone_iff_eq_none.1 h2
  unfold rstep wantD
  rw [hg]
  simp only
  have hs : ∀ x ∈ o.op.operands.toList, slotOf env x = slotOf [] x := by
    intro x hx
    cases x with
    | tmp t => have := operand_looks (ops := ops) (o := o) hx; rw [hl] at this; cases this
    | _ => rfl
  have hm : resE C o (slotOf env) m = resE C o (slotOf env) ⟨[], []⟩ := by unfold resE; simp only [effX, resX, hop]
  rw [hm, ← hr]
  unfold resE
  rw [eff_congr hs]
theorem swapA {x y : Nat} {ox oy : Oper} {rem : List Nat} (hx : ops[x]? = some ox) (hy : ops[y]? = some oy) (ap : Apart ops ox oy) (happ : isApp ox = true) (hxw : isWr C ox = true) (hb : isBuild C ops oy = true) (hlt : x < y)
    (hn : NwOk ops rem σ.nw) (hyr : y ∈ rem) (hd : DstOk ops)
    (h : stepD C ops ms done x ox σ fun σ' => stepD C ops ms (done ++ [x]) y oy σ' K) : stepD C ops ms done y oy σ fun σ' => stepD C ops ms (done ++ [y]) x ox σ' K := by
  obtain ⟨hyw, hyl, hwar, f, hf⟩ := build_of hb
  have hdd : ∀ t, oy.dst = some t → ox.dst ≠ some t := fun t ht hx' => ap.dd t hx' ht
  rw [stepD_res hyw, hf]
  intro k
  show stepD C ops ms (done ++ [y]) x ox (σ.addD y oy.dst (f k)) K
  rw [stepD_eq] at h ⊢
  have hal : Alike ops ox (σ.addD y oy.dst (f k)).env σ.env := alike_addD ap.yx
  rw [hal.want]
  cases hw : wantD ops ox σ.env with
  | none => rw [hw] at h; exact h
  | some b =>
    rw [hw] at h
    cases b with
    | false =>
      simp only at h ⊢
      rw [stepD_res hyw, hf] at h
      rw [skip_addD hdd]
      exact h k
    | true =>
      simp only [bodyD, hxw, cond_true] at h ⊢
      have hfl : (σ.addD y oy.dst (f k)).flushO ops x ox = (σ.flushO ops x ox).addD y oy.dst (f k) := by
        unfold St.flushO
        rw [happ, cond_true, cond_true]
        exact flushP_addD hlt hy hn hyr hd
      rw [hfl]
      cases hl : locApart ops ms σ (σ.flushO ops x ox) x done with
      | false => rw [hl] at h; exact h.elim
      | true =>
        rw [hl] at h
        simp only [cond_true] at h
        obtain ⟨c, hop, hcal⟩ := isApp_call happ
        have hl' : locApart ops ms (σ.addD y oy.dst (f k)) ((σ.flushO ops x ox).addD y oy.dst (f k)) x (done ++ [y]) = true := by
          unfold locApart at hl ⊢
          rw [hx] at hl ⊢
          simp only [hop, happ, cond_true] at hl ⊢
          rw [List.all_eq_true] at hl ⊢
          intro z hz
          rcases List.mem_append.1 hz with hz | hz
          · have := hl z hz
            cases hms : (ms.getD x 0).testBit z with
            | true => rfl
            | false =>
              rw [hms] at this
              simp only [Bool.false_or] at this ⊢
              cases hoz : ops[z]? with
              | none => rw [hoz] at this; exact this
              | some oz =>
                rw [hoz] at this
                simp only at this ⊢
                cases hzop : oz.op <;> rw [hzop] at this <;> try rfl
                rename_i t' b
                simp only at this ⊢
                have e1 : slotOf (σ.addD y oy.dst (f k)).env b = slotOf σ.env b :=
                  (alike_addD (ops := ops) (o := oz) (hwar oz (List.mem_of_getElem? hoz) (by simp [isLoad, hzop]))).slot b (by simp [hzop, Op.operands])
                have e2 : (σ.addD y oy.dst (f k)).loc = σ.loc := by unfold St.addD; cases (f k).nb <;> rfl
                rw [e1, e2]; exact this
          · simp only [List.mem_singleton] at hz; subst hz
            rw [hy]
            simp only
            cases hyop : oy.op <;> first | (rw [isLoad, hyop] at hyl; cases hyl; done) | (simp only [Bool.or_true])
        rw [hl']
        simp only [cond_true]
        have hal1 : Alike ops ox ((σ.flushO ops x ox).addD y oy.dst (f k)).env (σ.flushO ops x ox).env := alike_addD ap.yx
        have e3 : ((σ.flushO ops x ox).addD y oy.dst (f k)).loc = (σ.flushO ops x ox).loc := by unfold St.addD; cases (f k).nb <;> rfl
        rw [eff_congr hal1.slot, addD_mem, e3, Eff.addD hdd]
        refine Eff.mono h fun σ' _ hK => ?_
        rw [stepD_res hyw, hf] at hK
        exact hK k
theorem swap {x y : Nat} {ox oy : Oper} {rem : List Nat} (hx : ops[x]? = some ox) (hy : ops[y]? = some oy) (hxy : x ≠ y) (hok : okPair C ops ox oy = true) (hlt : isApp ox = true → x < y) (hself : WarOk ops ox ox)
    (hwar : ∀ z ∈ done, ∀ oz, ops[z]? = some oz → WarOk ops oz ox) (hm : (ms.getD y 0).testBit x = false) (hn : NwOk ops rem σ.nw) (hxr : x ∈ rem) (hyr : y ∈ rem) (hd : DstOk ops)
    (h : stepD C ops ms done x ox σ fun σ' => stepD C ops ms (done ++ [x]) y oy σ' K) : stepD C ops ms done y oy σ fun σ' => stepD C ops ms (done ++ [y]) x ox σ' K := by
  obtain ⟨ap, hc0⟩ := okPair_cases hok
  by_cases hA : clsOf C ox = .w ∧ clsOf C oy = .a ∧ isApp ox = true ∧ isBuild C ops oy = true
  · exact swapA hx hy ap hA.2.2.1 (cls_w.2 hA.1) hA.2.2.2 (hlt hA.2.2.1) hn hyr hd h
  have hc : (clsOf C ox = .p ∧ clsOf C oy = .w ∧ ∀ t ∈ looks ops ox, t ∉ newLocs ops) ∨
     (clsOf C ox = .e ∧ clsOf C oy = .w ∧ isLoad ox = true ∧ (isStore oy = true ∨ isApp oy = true) ∧ ∀ t ∈ looks ops ox, t ∉ newLocs ops) ∨
     ((clsOf C ox = .p ∨ clsOf C ox = .e) ∧ clsOf C oy ≠ .w) ∨
     (clsOf C ox = .a ∧ (clsOf C oy = .p ∨ clsOf C oy = .a)) := by
    rcases hc0 with h | h | h | h | h
    · exact .inl h
    · exact .inr (.inl h)
    · exact .inr (.inr (.inl h))
    · exact .inr (.inr (.inr h))
    · exact (hA h).elim
  have hdd : ∀ t, oy.dst = some t → ox.dst ≠ some t := fun t ht hx' => ap.dd t hx' ht
  have hxw : isWr C ox = false := by
    rcases hc with ⟨h, _⟩ | ⟨h, _⟩ | ⟨h | h, _⟩ | ⟨h, _⟩ <;> exact not_w h (by simp)
  rw [stepD_res hxw] at h
  by_cases hyw : isWr C oy = true
  · have hcy := cls_w.1 hyw
    -- y writes
    have hs : Sing (rstep C ops ox σ.env σ.mem) := rstep_sing (by
      rcases hc with ⟨h, _⟩ | ⟨h, _⟩ | ⟨_, h⟩ | ⟨h, h'⟩
      · exact .inl h
      · exact .inr h
      · exact (h hcy).elim
      · rcases h' with h' | h' <;> rw [hcy] at h' <;> exact Cls.noConfusion h')
    have hnl : ∀ t ∈ looks ops ox, t ∉ newLocs ops := by
      rcases hc with ⟨_, _, h⟩ | ⟨_, _, _, _, h⟩ | ⟨_, h⟩ | ⟨h, h'⟩
      · exact h
      · exact h
      · exact (h hcy).elim
      · rcases h' with h' | h' <;> rw [hcy] at h' <;> exact Cls.noConfusion h'
    obtain ⟨S, hS, hT⟩ := hs
    obtain ⟨out, hout, h⟩ := (hT _).1 h
    have hnb := hS out hout
    have hadd : ∀ σ' : St, σ'.addD x ox.dst out = σ'.pt ox.dst ⟨some out.v, out.al⟩ := fun σ' => by unfold St.addD; rw [hnb]
    rw [hadd] at h
    rw [stepD_eq] at h ⊢
    have hal : Alike ops oy (put σ.env ox.dst ⟨some out.v, out.al⟩) σ.env := alike_put ap.xy
    rw [hal.want] at h
    -- what x comes to behind y
    have back : ∀ σ' : St, rstep C ops ox σ'.env σ'.mem = rstep C ops ox σ.env σ.mem → K (σ'.pt ox.dst ⟨some out.v, out.al⟩) → stepD C ops ms (done ++ [y]) x ox σ' K := by
      intro σ' he hk
      rw [stepD_res hxw, he]
      refine (hT _).2 ⟨out, hout, ?_⟩
      rw [hadd]; exact hk
    cases hw : wantD ops oy σ.env with
    | none => rw [hw] at h; exact h
    | some b =>
      rw [hw] at h
      cases b with
      | false =>
        refine back _ ?_ ?_
        · have : Alike ops ox (σ.skip oy.dst).env σ.env := alike_put ap.yx
          rw [this.rstep]; rfl
        · have e : (σ.pt ox.dst ⟨some out.v, out.al⟩).skip oy.dst = (σ.skip oy.dst).pt ox.dst ⟨some out.v, out.al⟩ := by
            simp only [St.skip, St.pt, put_comm ap.dd]
          rw [← e]; exact h
      | true =>
        simp only [bodyD, hyw, cond_true] at h ⊢
        rw [flushO_pt hn hxr hx hd] at h
        cases hl : locApart ops ms (σ.pt ox.dst ⟨some out.v, out.al⟩) ((σ.flushO ops y oy).pt ox.dst ⟨some out.v, out.al⟩) y (done ++ [x]) with
        | false => rw [hl] at h; exact h.elim
        | true =>
          rw [hl] at h
          simp only [cond_true] at h
          have hal1 : Alike ops oy ((σ.flushO ops y oy).pt ox.dst ⟨some out.v, out.al⟩).env (σ.flushO ops y oy).env := alike_put ap.xy
          rw [eff_congr hal1.slot, Eff.pt ap.dd] at h
          -- the look at the blocks, ahead of x
          have hl' : locApart ops ms σ (σ.flushO ops y oy) y done = true := by
            unfold locApart at hl ⊢
            rw [hy] at hl ⊢
            simp only at hl ⊢
            split at hl
            · rename_i t a v hop
              rw [List.all_eq_true] at hl ⊢
              intro z hz
              have := hl z (List.mem_append.2 (.inl hz))
              cases hms : (ms.getD y 0).testBit z with
              | true => rfl
              | false =>
                rw [hms] at this
                simp only [Bool.false_or] at this ⊢
                cases hoz : ops[z]? with
                | none => rw [hoz] at this; exact this
                | some oz =>
                  rw [hoz] at this
                  simp only at this ⊢
                  cases hzop : oz.op <;> rw [hzop] at this <;> try rfl
                  rename_i t' b
                  simp only at this ⊢
                  have e1 : slotOf (put σ.env ox.dst ⟨some out.v, out.al⟩) b = slotOf σ.env b :=
                    (alike_put (ops := ops) (o := oz) (hwar z hz oz hoz (by simp [isLoad, hzop]))).slot b (by simp [hzop, Op.operands])
                  have e2 : slotOf ((σ.flushO ops y oy).pt ox.dst ⟨some out.v, out.al⟩).env a = slotOf (σ.flushO ops y oy).env a := hal1.slot a (by simp [hop, Op.operands])
                  rw [e1, e2] at this
                  exact this
            · rename_i cc hop
              cases ha : isApp oy with
              | false => rfl
              | true =>
                rw [ha] at hl
                simp only [cond_true] at hl ⊢
                rw [List.all_eq_true] at hl ⊢
                intro z hz
                have := hl z (List.mem_append.2 (.inl hz))
                cases hms : (ms.getD y 0).testBit z with
                | true => rfl
                | false =>
                  rw [hms] at this
                  simp only [Bool.false_or] at this ⊢
                  cases hoz : ops[z]? with
                  | none => rw [hoz] at this; exact this
                  | some oz =>
                    rw [hoz] at this
                    simp only at this ⊢
                    cases hzop : oz.op <;> rw [hzop] at this <;> try rfl
                    rename_i t' b
                    simp only at this ⊢
                    have e1 : slotOf (put σ.env ox.dst ⟨some out.v, out.al⟩) b = slotOf σ.env b :=
                      (alike_put (ops := ops) (o := oz) (hwar z hz oz hoz (by simp [isLoad, hzop]))).slot b (by simp [hzop, Op.operands])
                    rw [e1] at this
                    exact this
            · rfl
          rw [hl']
          simp only [cond_true]
          refine Eff.mono h fun σ' hev hK => back σ' ?_ hK
          obtain ⟨s, he⟩ := hev.env
          have halx : Alike ops ox σ'.env σ.env := by
            rw [he]
            exact (alike_put ap.yx).trans (flush_alike hn hnl)
          rw [halx.rstep]
          rcases hc with ⟨hp, _⟩ | ⟨_, _, hil, his, _⟩ | ⟨_, h'⟩ | ⟨h', h''⟩
          · unfold rstep
            rw [resE_mem (m := σ'.mem) (m' := σ.mem) hp]
          · -- a load, of another block
            cases hox : ox.op <;> rw [isLoad, hox] at hil <;> simp at hil
            rename_i t b
            rcases his with his | his
            · cases hoy : oy.op <;> rw [isStore, hoy] at his <;> simp at his
              rename_i t' a v
              unfold rstep
              have hsl : slotOf (put σ.env ox.dst ⟨some out.v, out.al⟩) b = slotOf σ.env b :=
                (alike_put (ops := ops) (o := ox) (hself (by simp [isLoad, hox]))).slot b (by simp [hox, Op.operands])
              have hl2 := hl
              unfold locApart at hl2
              rw [hy] at hl2
              simp only [hoy] at hl2
              rw [List.all_eq_true] at hl2
              have hl3 := hl2 x (by simp)
              rw [hm, hx] at hl3
              simp only [hox, Bool.false_or, hsl] at hl3
              have e2 : slotOf ((σ.flushO ops y oy).pt ox.dst ⟨some out.v, out.al⟩).env a = slotOf (σ.flushO ops y oy).env a := hal1.slot a (by simp [hoy, Op.operands])
              rw [e2] at hl3
              have hres : resE C ox (slotOf σ.env) σ'.mem = resE C ox (slotOf σ.env) σ.mem := by
                cases hal' : (slotOf σ.env b).al with
                | none => rw [hal'] at hl3; cases hl3
                | some p =>
                  obtain ⟨i, j⟩ := p
                  rw [hal'] at hl3
                  simp only [Bool.and_eq_true] at hl3
                  have hi := lt_of_blt hl3.1
                  have hloc : σ'.loc[i]? = σ.loc[i]? := by
                    rw [← flushO_loc (ops := ops) (i := y) (oi := oy) hi]
                    have key : ∀ f, effX C oy (slotOf (σ.flushO ops y oy).env) (σ.flushO ops y oy).mem (σ.flushO ops y oy).loc.length = f → (f = .res .bad ∨ (∀ r, f ≠ .res r) ∧ (match f with | .loc l => l | _ => (σ.flushO ops y oy).loc)[i]? = (σ.flushO ops y oy).loc[i]?) := by
                      intro f hf
                      subst hf
                      simp only [effX, hoy]
                      cases hv : (slotOf (σ.flushO ops y oy).env v).v with
                      | none => exact .inl rfl
                      | some vv =>
                        simp only
                        cases ha : (slotOf (σ.flushO ops y oy).env a).al with
                        | none =>
                          simp only [storeX, ha]
                          split
                          · exact .inr ⟨fun r hr => (by cases hr), rfl⟩
                          · exact .inl rfl
                        | some p =>
                          obtain ⟨j', k'⟩ := p
                          simp only [storeX, ha]
                          rw [ha] at hl3
                          have hne : i ≠ j' := by have := hl3.2; intro e; subst e; simp at this
                          split
                          · rename_i bb hbb
                            cases hz : ((C.tab[t']?).isSome && (Nat.beq vv.cells.toList.length (sizeT C t') && (Nat.ble (k' + vv.cells.toList.length) bb.cs.length && vv.cells.toList.all isOne))) with
                            | false => exact .inl rfl
                            | true => exact .inr ⟨fun r hr => (by cases hr), by simp only [cond_true, St.mem]; rw [List.getElem?_set_ne hne.symm]⟩
                          · exact .inl rfl
                    rcases key _ rfl with hf | ⟨hf1, hf2⟩
                    · exfalso; have h' := h; simp only [St.mem] at h' hf; rw [hf] at h'; exact h'
                    · rw [hev.loc hf1]; exact hf2
                  simp only [resE, effX, resX, hox, loadX, hal', St.mem, hloc]
              rw [hres]
            · obtain ⟨c, hop, hcal⟩ := isApp_call his
              unfold rstep
              have hsl : slotOf (put σ.env ox.dst ⟨some out.v, out.al⟩) b = slotOf σ.env b :=
                (alike_put (ops := ops) (o := ox) (hself (by simp [isLoad, hox]))).slot b (by simp [hox, Op.operands])
              have hl2 := hl
              unfold locApart at hl2
              rw [hy] at hl2
              simp only [hop, his, cond_true] at hl2
              rw [List.all_eq_true] at hl2
              have hl3 := hl2 x (by simp)
              rw [hm, hx] at hl3
              simp only [hox, Bool.false_or, hsl] at hl3
              have hres : resE C ox (slotOf σ.env) σ'.mem = resE C ox (slotOf σ.env) σ.mem := by
                cases hal' : (slotOf σ.env b).al with
                | none => rw [hal'] at hl3; cases hl3
                | some p =>
                  obtain ⟨i, j⟩ := p
                  rw [hal'] at hl3
                  have hi : i < σ.loc.length := lt_of_blt hl3
                  have hloc : σ'.loc[i]? = σ.loc[i]? := by
                    rw [← flushO_loc (ops := ops) (i := y) (oi := oy) hi]
                    cases hav : allVals (c.args.toList.map (slotOf (σ.flushO ops y oy).env)) with
                    | none => exfalso; simp only [effX, hop, hcal, hav] at h; exact h
                    | some as =>
                      have := hev.loc (by intro r; simp only [effX, hop, hcal, hav]; intro hh; cases hh)
                      simp only [effX, hop, hcal, hav] at this
                      rw [this]
                  simp only [resE, effX, resX, hox, loadX, hal', St.mem, hloc]
              rw [hres]
          · exact (h' hcy).elim
          · rcases h'' with h' | h' <;> rw [hcy] at h' <;> exact Cls.noConfusion h'
  · have hyw : isWr C oy = false := by simpa using hyw
    have hcy : clsOf C oy ≠ .w := fun h => by rw [cls_w.2 h] at hyw; cases hyw
    have eqy : ∀ out, rstep C ops oy (σ.addD x ox.dst out).env (σ.addD x ox.dst out).mem = rstep C ops oy σ.env σ.mem := fun out => by
      rw [addD_mem, (alike_addD ap.xy).rstep]
    have eqx : ∀ out, rstep C ops ox (σ.addD y oy.dst out).env (σ.addD y oy.dst out).mem = rstep C ops ox σ.env σ.mem := fun out => by
      rw [addD_mem, (alike_addD ap.yx).rstep]
    simp only [stepD_res hyw, eqy] at h
    rw [stepD_res hyw]
    simp only [stepD_res hxw, eqx]
    rcases hc with ⟨_, h', _⟩ | ⟨_, h', _⟩ | ⟨hs, _⟩ | ⟨ha, hb⟩
    · exact (hcy h').elim
    · exact (hcy h').elim
    · obtain ⟨S, hS, hT⟩ := rstep_sing (ops := ops) (env := σ.env) (m := σ.mem) hs
      obtain ⟨out, hout, h⟩ := (hT _).1 h
      refine Res.mono h fun out' _ hK => (hT _).2 ⟨out, hout, ?_⟩
      rw [addD_comm hxy.symm hdd]; exact hK
    · obtain ⟨p, S, hS, hT⟩ := rstep_uni (ops := ops) (o := ox) (env := σ.env) (m := σ.mem) (.inr ha)
      obtain ⟨p', S', hS', hT'⟩ := rstep_uni (ops := ops) (o := oy) (env := σ.env) (m := σ.mem) hb
      obtain ⟨hp, h⟩ := (hT _).1 h
      obtain ⟨o1, ho1⟩ := hS hp
      have hp' := ((hT' _).1 (h o1 ho1)).1
      refine (hT' _).2 ⟨hp', fun o2 ho2 => (hT _).2 ⟨hp, fun o1 ho1 => ?_⟩⟩
      have := ((hT' _).1 (h o1 ho1)).2 o2 ho2
      rw [addD_comm hxy.symm hdd]; exact this
end
end Go.Tn
end
section
namespace Go.Tn
open Go.RowKit
set_option linter.unusedSimpArgs false
set_option linter.unusedVariables false

section
variable {C : Ctx} {ops : List Oper} {ms : List Nat} {K K' : St → Prop} {σ : St} {done done' : List Nat}

theorem regDl_sub : ∀ (l done done' : List Nat) (σ : St), (∀ x, x ∈ done' → x ∈ done) → l.Nodup → NwOk ops l σ.nw → regDl C ops ms K done l σ → regDl C ops ms K done' l σ := by
  intro l
  induction l with
  | nil => intro done done' σ _ _ _ h; exact h
  | cons i r ih =>
    intro done done' σ hd hnd hn h
    simp only [regDl] at h ⊢
    cases ho : ops[i]? with
    | none => rw [ho] at h; exact h
    | some o =>
      rw [ho] at h
      simp only at h ⊢
      have hir : i ∉ r ∧ r.Nodup := by simpa using hnd
      refine stepD_mono ho hir.1 hn h hd fun σ' hn' hk => ih _ _ σ' ?_ hir.2 hn' hk
      intro x hx
      rcases List.mem_append.1 hx with hx | hx
      · exact List.mem_append.2 (.inl (hd x hx))
      · exact List.mem_append.2 (.inr hx)
/-- of two operations of the order: the second may come first, or is bound behind the first -/
structure PairOk (C : Ctx) (ops : List Oper) (ms : List Nat) (x y : Nat) : Prop where
  ok : (ms.getD y 0).testBit x = true ∨ ∃ ox oy, ops[x]? = some ox ∧ ops[y]? = some oy ∧ okPair C ops ox oy = true ∧ (isApp ox = true → x < y)
  war : ∀ ox oy, ops[x]? = some ox → ops[y]? = some oy → WarOk ops ox oy
  pre : ∀ ox, ops[x]? = some ox → ∀ e ∈ ox.after.toList, Region.binds .any e = true → e.on ≠ y
theorem bubble {y : Nat} {oy : Oper} (hy : ops[y]? = some oy) (hds : DstOk ops) : ∀ (p done s : List Nat) (σ : St), (∀ x ∈ p, (ms.getD y 0).testBit x = false) → (∀ x ∈ p, ∀ ox, ops[x]? = some ox → WarOk ops ox ox) →
    (p ++ y :: s).Pairwise (PairOk C ops ms) → (p ++ y :: s).Nodup → (∀ z ∈ done, ∀ x ∈ p, ∀ oz ox, ops[z]? = some oz → ops[x]? = some ox → WarOk ops oz ox) → NwOk ops (p ++ y :: s) σ.nw →
    regDl C ops ms K done (p ++ y :: s) σ → regDl C ops ms K done (y :: (p ++ s)) σ := by
  intro p
  induction p with
  | nil => intro done s σ _ _ _ _ _ _ h; exact h
  | cons x p ih =>
    intro done s σ hm hself hpw hnd hwar hn h
    have hpw' := hpw
    simp only [List.cons_append, List.pairwise_cons] at hpw
    have hnd' : x ∉ p ++ y :: s ∧ (p ++ y :: s).Nodup := by simpa only [List.cons_append, List.nodup_cons] using hnd
    have hxy : x ≠ y := fun e => hnd'.1 (by rw [e]; simp)
    have hpo := hpw.1 y (by simp)
    rcases hpo.ok with hb | ⟨ox, oy', hox, hoy', hok, hlt⟩
    · rw [hm x (by simp)] at hb; cases hb
    · rw [hy] at hoy'; cases hoy'
      simp only [List.cons_append, regDl, hox, hy] at h ⊢
      -- the rest, by what is known of it
      have h1 : stepD C ops ms done x ox σ (fun σ' => stepD C ops ms (done ++ [x]) y oy σ' (regDl C ops ms K (done ++ [x] ++ [y]) (p ++ s))) := by
        refine stepD_mono hox hnd'.1 (by simpa only [List.cons_append] using hn) h (fun _ h => h) fun σ' hn' hk => ?_
        have := ih (done ++ [x]) s σ' (fun z hz => hm z (List.mem_cons_of_mem _ hz)) (fun z hz => hself z (List.mem_cons_of_mem _ hz)) hpw.2 hnd'.2 (fun z hz w hw oz ow hoz how => ?_) hn' hk
        · simp only [regDl, hy] at this; exact this
        · rcases List.mem_append.1 hz with hz | hz
          · exact hwar z hz w (List.mem_cons_of_mem _ hw) oz ow hoz how
          · simp only [List.mem_singleton] at hz; subst hz
            exact (hpw.1 w (by simp [hw])).war oz ow hoz how
      have h2 := swap hox hy hxy hok hlt (hself x (by simp) ox hox) (fun z hz oz hoz => hwar z hz x (by simp) oz ox hoz hox) (hm x (by simp)) hn (by simp) (by simp) hds h1
      have hy1 : y ∉ x :: (p ++ s) := by
        have := hnd'.2
        simp only [List.nodup_append, List.nodup_cons] at this
        simp only [List.mem_cons, List.mem_append, not_or]
        refine ⟨hxy.symm, fun hyp => this.2.2 y hyp y (by simp) rfl, this.2.1.1⟩
      have hx1 : x ∉ p ++ s := fun hm => hnd'.1 (by
        rcases List.mem_append.1 hm with hm | hm
        · simp [hm]
        · simp [hm])
      have hnd2 : (p ++ s).Nodup := by
        have := hnd'.2
        exact this.sublist (List.Sublist.append_left (List.sublist_cons_self _ _) _)
      refine stepD_mono hy hy1 ?_ h2 (fun _ h => h) fun σ' hn' hk => stepD_mono hox hx1 ?_ hk (fun _ h => h) fun σ'' hn'' hk => regDl_sub _ _ _ σ'' ?_ hnd2 hn'' hk
      · intro q hq
        refine ⟨fun hmem => (hn q hq).1 ?_, (hn q hq).2⟩
        simp only [List.mem_cons, List.mem_append, List.cons_append] at hmem ⊢
        rcases hmem with h | h | h | h
        · exact .inr (.inr (.inl h))
        · exact .inl h
        · exact .inr (.inl h)
        · exact .inr (.inr (.inr h))
      · exact hn'
      · intro z hz
        simp only [List.mem_append, List.mem_singleton] at hz ⊢
        rcases hz with (h | h) | h
        · exact .inl (.inl h)
        · exact .inr h
        · exact .inl (.inr h)

/-! the masks -/
def Pre (ops : List Oper) (y x : Nat) : Prop := ∃ o, ops[y]? = some o ∧ ∃ e ∈ o.after.toList, Region.binds .any e = true ∧ e.on = x
theorem fold_bit {acc : List Nat} {x : Nat} : ∀ (l : List Edge) (s : Nat), (l.foldl (fun s e => cond (Region.binds .any e) (s ||| 2 ^ e.on ||| acc.getD e.on 0) s) s).testBit x = true →
    s.testBit x = true ∨ ∃ e ∈ l, Region.binds .any e = true ∧ (e.on = x ∨ (acc.getD e.on 0).testBit x = true) := by
  intro l
  induction l with
  | nil => intro s h; exact .inl h
  | cons e r ih =>
    intro s h
    simp only [List.foldl_cons] at h
    rcases ih _ h with h | ⟨e', he', h⟩
    · cases hb : Region.binds .any e with
      | false => rw [hb] at h; exact .inl h
      | true =>
        rw [hb] at h
        simp only [cond_true, Nat.testBit_or, Bool.or_eq_true] at h
        rcases h with (h | h) | h
        · exact .inl h
        · refine .inr ⟨e, by simp, hb, .inl ?_⟩
          rw [Nat.testBit_two_pow] at h
          simpa using h
        · exact .inr ⟨e, by simp, hb, .inr h⟩
    · exact .inr ⟨e', by simp [he'], h⟩
/-- a bit of a mask tells a chain of bonds: whatever is closed downwards and holds y, holds x -/
def MaskOk (ops : List Oper) (ms : List Nat) : Prop := ∀ y x, (ms.getD y 0).testBit x = true → ∀ S : Nat → Prop, (∀ a b, Pre ops a b → S a → S b) → (∀ b, Pre ops y b → S b) → S x
theorem masks_go : ∀ (l pre : List Oper) (acc : List Nat), ops = pre ++ l → acc.length = pre.length → MaskOk ops acc → MaskOk ops (masks l acc) := by
  intro l
  induction l with
  | nil => intro pre acc _ _ h; exact h
  | cons o r ih =>
    intro pre acc he hl h
    simp only [masks]
    refine ih (pre ++ [o]) _ (by simp [he]) (by simp [hl]) ?_
    intro y x hb S hS hy
    rcases Nat.lt_trichotomy y acc.length with hlt | heq | hgt
    · rw [List.getD_eq_getElem?_getD, List.getElem?_append_left hlt, ← List.getD_eq_getElem?_getD] at hb
      exact h y x hb S hS hy
    · subst heq
      rw [List.getD_eq_getElem?_getD, List.getElem?_append_right (Nat.le_refl _)] at hb
      simp only [Nat.sub_self, List.getElem?_cons_zero, Option.getD_some] at hb
      have ho : ops[acc.length]? = some o := by rw [he, hl]; simp
      rcases fold_bit _ _ hb with hz | ⟨e, hem, hbd, hx⟩
      · simp at hz
      · have hp : Pre ops acc.length e.on := ⟨o, ho, e, hem, hbd, rfl⟩
        rcases hx with rfl | hx
        · exact hy _ hp
        · exact h _ x hx S hS fun b hb => hS _ _ hb (hy _ hp)
    · rw [List.getD_eq_getElem?_getD, List.getElem?_eq_none (by simp; omega)] at hb
      simp at hb
theorem masks_ok : MaskOk ops (masks ops []) := masks_go ops [] [] rfl rfl fun y x h => by simp at h
theorem okOrd_pw : ∀ (l done : List Nat), okOrd C ops ms done l = true → (done ++ l).Nodup → (∀ z ∈ done, ∀ oz, ops[z]? = some oz → ∀ e ∈ oz.after.toList, Region.binds .any e = true → e.on ∈ done) →
    (∀ z ∈ done, ∀ y ∈ l, PairOk C ops ms z y) ∧ l.Pairwise (PairOk C ops ms) ∧
    ∀ y ∈ l, ∃ oy, ops[y]? = some oy ∧ WarOk ops oy oy ∧ ∀ e ∈ oy.after.toList, Region.binds .any e = true → e.on ∈ done ++ l ∧ e.on ≠ y := by
  intro l
  induction l with
  | nil => intro done _ _ _; exact ⟨fun _ _ y hy => (by cases hy), .nil, fun y hy => (by cases hy)⟩
  | cons y r ih =>
    intro done h hnd hpre
    simp only [okOrd] at h
    rw [Bool.and_eq_true] at h
    obtain ⟨h1, h2⟩ := h
    cases hoy : ops[y]? with
    | none => rw [hoy] at h1; cases h1
    | some oy =>
      rw [hoy] at h1
      simp only [Bool.and_eq_true] at h1
      obtain ⟨he, hk, hself, hwar⟩ := h1
      rw [List.all_eq_true] at he hk hwar
      have hed : ∀ e ∈ oy.after.toList, Region.binds .any e = true → e.on ∈ done := fun e hm hb => by
        have := he e hm
        rw [hb] at this
        simp only [Bool.not_true, Bool.false_or] at this
        exact memN_iff.1 this
      have hyd : y ∉ done := fun hm => by
        have := (List.nodup_append.1 hnd).2.2 y hm y (by simp)
        exact this rfl
      have hpre' : ∀ z ∈ done ++ [y], ∀ oz, ops[z]? = some oz → ∀ e ∈ oz.after.toList, Region.binds .any e = true → e.on ∈ done ++ [y] := by
        intro z hz oz hoz e hm hb
        rcases List.mem_append.1 hz with hz | hz
        · exact List.mem_append.2 (.inl (hpre z hz oz hoz e hm hb))
        · simp only [List.mem_singleton] at hz; subst hz
          rw [hoy] at hoz; cases hoz
          exact List.mem_append.2 (.inl (hed e hm hb))
      obtain ⟨i1, i2, i3⟩ := ih (done ++ [y]) h2 (by simpa using hnd) hpre'
      have hzy : ∀ z ∈ done, PairOk C ops ms z y := by
        intro z hz
        have hok := hk z hz
        have hw := hwar z hz
        cases hoz : ops[z]? with
        | none => rw [hoz] at hw; cases hw
        | some oz =>
          rw [hoz] at hok hw
          refine ⟨?_, fun a b ha hb => ?_, fun a ha e hm hb => ?_⟩
          · rw [Bool.or_eq_true] at hok
            refine hok.imp id fun h => ?_
            simp only [Bool.and_eq_true] at h
            refine ⟨oz, oy, hoz, hoy, h.1, fun ha => ?_⟩
            have h2 := h.2
            rw [ha] at h2
            exact lt_of_blt h2
          · rw [hoz] at ha; cases ha; rw [hoy] at hb; cases hb; exact war_of hw
          · exact fun e' => hyd (e' ▸ hpre z hz a ha e hm hb)
      refine ⟨fun z hz w hw => ?_, List.pairwise_cons.2 ⟨fun w hw => i1 y (by simp) w hw, i2⟩, fun w hw => ?_⟩
      · rcases List.mem_cons.1 hw with rfl | hw
        · exact hzy z hz
        · exact i1 z (List.mem_append.2 (.inl hz)) w hw
      · rcases List.mem_cons.1 hw with rfl | hw
        · exact ⟨oy, hoy, war_of hself, fun e hm hb => ⟨List.mem_append.2 (.inl (hed e hm hb)), fun e' => hyd (e' ▸ hed e hm hb)⟩⟩
        · obtain ⟨o, a, b, c⟩ := i3 w hw
          refine ⟨o, a, b, fun e hm hb => ⟨?_, (c e hm hb).2⟩⟩
          have := (c e hm hb).1
          simp only [List.mem_append, List.mem_cons, List.mem_singleton] at this ⊢
          rcases this with (h | h | h) | h
          · exact .inl h
          · exact .inr (.inl h)
          · cases h
          · exact .inr (.inr h)
theorem distinct_nodup : ∀ {l : List Nat}, distinct l = true → l.Nodup := by
  intro l
  induction l with
  | nil => intro _; exact .nil
  | cons x r ih =>
    intro h
    simp only [distinct, Bool.and_eq_true, Bool.not_eq_true'] at h
    exact List.nodup_cons.2 ⟨memN_false'.1 h.1, ih h.2⟩
theorem dstOk_of (h : (opsW ops).Nodup) : DstOk ops := by
  intro i j x y d hx hy hdx hdy
  unfold opsW List.Nodup at h
  rw [List.pairwise_flatMap] at h
  have h2 := h.2
  rw [List.pairwise_iff_getElem] at h2
  obtain ⟨hi, ei⟩ := List.getElem?_eq_some_iff.1 hx
  obtain ⟨hj, ej⟩ := List.getElem?_eq_some_iff.1 hy
  rcases Nat.lt_trichotomy i j with hlt | heq | hgt
  · exact (h2 i j hi hj hlt d (by rw [ei, hdx]; simp) d (by rw [ej, hdy]; simp) rfl).elim
  · exact heq
  · exact (h2 j i hj hi hgt d (by rw [ej, hdy]; simp) d (by rw [ei, hdx]; simp) rfl).elim

/-! a step of the machine, by what it comes to -/
/-- what is laid aside stands in its slot -/
def NwVal (ops : List Oper) (env : Env) (l : List (Nat × NB)) : Prop := ∀ p ∈ l, ∀ b, p.2 = .loc b → ∀ d, (ops[p.1]?).bind (·.dst) = some d → ∀ s, env[d]? = some s → s.v = some (.pointer (some ⟨b.k, 0, none⟩))
theorem flushL_rel {tmps : Array Value} {W : World} (ps : List (Nat × NB)) : ∀ (l : List (Nat × NB)) (σ : St), NwVal ops σ.env l → (l.map (·.1)).Nodup → DstOk ops →
    σ.env.length = tmps.size → EnvOk σ.env tmps → AlOk σ.env σ.loc → Sep C.w0 C.mt (ents σ.loc σ.own ++ (l.map (·.2.ent))) W →
    (flushL ops l σ).env.length = tmps.size ∧ EnvOk (flushL ops l σ).env tmps ∧ AlOk (flushL ops l σ).env (flushL ops l σ).loc ∧ Sep C.w0 C.mt (ents (flushL ops l σ).loc (flushL ops l σ).own) W := by
  intro l
  induction l with
  | nil => intro σ _ _ _ h1 h2 h3 h4; exact ⟨h1, h2, h3, by simpa [flushL] using h4⟩
  | cons p r ih =>
    intro σ hv hnd hds h1 h2 h3 h4
    obtain ⟨i, nb⟩ := p
    have hnd' : i ∉ r.map (·.1) ∧ (r.map (·.1)).Nodup := by simpa only [List.map_cons, List.nodup_cons] using hnd
    cases nb with
    | own k o =>
      simp only [flushL]
      refine ih { σ with own := (k, o) :: σ.own } (fun p hp => hv p (List.mem_cons_of_mem _ hp)) hnd'.2 hds h1 h2 h3 (h4.perm ?_)
      simp only [List.map_cons, NB.ent, ents, List.append_assoc]
      refine List.Perm.append_left _ ?_
      rw [List.cons_append]
      exact List.perm_middle
    | loc b =>
      simp only [flushL]
      refine ih { σ with env := put σ.env ((ops[i]?).bind (·.dst)) ⟨some (.pointer (some ⟨b.k, 0, none⟩)), some (σ.loc.length, 0)⟩, loc := σ.loc ++ [b] } ?_ hnd'.2 hds ?_ ?_ ?_ ?_
      · intro p hp c hc d hd s hs
        have := hv p (List.mem_cons_of_mem _ hp) c hc d hd
        refine this s ?_
        cases hdi : (ops[i]?).bind (·.dst) with
        | none => rw [hdi] at hs; exact hs
        | some e =>
          rw [hdi] at hs
          have hne : e ≠ d := by
            intro e'; subst e'
            cases hoi : ops[i]? with
            | none => rw [hoi] at hdi; cases hdi
            | some oi =>
              cases hop : ops[p.1]? with
              | none => rw [hop] at hd; cases hd
              | some op =>
                rw [hoi] at hdi; rw [hop] at hd
                have := hds i p.1 oi op e hoi hop hdi hd
                exact hnd'.1 (this ▸ List.mem_map_of_mem (f := (·.1)) hp)
          simp only [put] at hs
          rw [List.getElem?_set_ne hne] at hs
          exact hs
      · simp only; rw [put_len]; exact h1
      · cases hdi : (ops[i]?).bind (·.dst) with
        | none => exact h2
        | some e =>
          intro t u al ht
          simp only [put, List.getElem?_set] at ht
          split at ht
          · rename_i he; subst he
            split at ht
            · rename_i hlt
              cases ht
              have hs := List.getElem?_eq_getElem hlt
              have hv' := hv (i, .loc b) (by simp) b rfl e hdi _ hs
              generalize σ.env[e] = sl at hs hv'
              obtain ⟨v, al⟩ := sl
              simp only at hv'; subst hv'
              exact h2 e _ _ hs
            · cases ht
          · exact h2 t u al ht
      · refine alOk_put (alOk_app h3 [b]) fun i' j' e => ?_
        cases e
        exact ⟨b, by simp, rfl⟩
      · refine h4.perm ?_
        simp only [List.map_cons, NB.ent, ents, List.append_assoc, List.map_append, List.map_nil]
        refine List.Perm.append_left _ ?_
        simp only [List.cons_append, List.nil_append]
        exact List.perm_middle
structure DRel (C : Ctx) (ops : List Oper) (rem : List Nat) (σ : St) (tmps : Array Value) (W : World) : Prop where
  rel : Rel C σ tmps W
  ok : NwOk ops rem σ.nw
  val : NwVal ops σ.env σ.nw
  nd : (σ.nw.map (·.1)).Nodup
theorem flush_rel {rem : List Nat} {tmps : Array Value} {W : World} (h : DRel C ops rem σ tmps W) (hds : DstOk ops) : Rel C (σ.flush ops) tmps W := by
  obtain ⟨a, b, c, d⟩ := flushL_rel (C := C) (ops := ops) (tmps := tmps) (W := W) [] σ.nw { σ with nw := [] } h.val h.nd hds h.rel.len h.rel.env h.rel.al h.rel.sep
  refine ⟨a, b, c, ?_⟩
  rw [flush_nw]; simp only [List.map_nil, List.append_nil]; exact d

theorem filter_perm {α : Type} (S : α → Bool) : ∀ l : List α, (l.filter S ++ l.filter fun a => !(S a)).Perm l := by
  intro l
  induction l with
  | nil => exact .refl _
  | cons a r ih =>
    cases h : S a with
    | true => simp only [List.filter_cons, h, if_true, Bool.not_true, Bool.false_eq_true, if_false, List.cons_append]; exact ih.cons a
    | false =>
      simp only [List.filter_cons, h, Bool.false_eq_true, if_false, Bool.not_false, if_true]
      exact List.perm_middle.trans (ih.cons a)
/-- some of what is laid aside is told -/
theorem flushP_rel {rem : List Nat} {tmps : Array Value} {W : World} {S : Nat → Bool} (h : DRel C ops rem σ tmps W) (hds : DstOk ops) :
    Rel C (σ.flushP ops S) tmps W ∧ NwVal ops (σ.flushP ops S).env (σ.flushP ops S).nw ∧ ∀ p ∈ (σ.flushP ops S).nw, p ∈ σ.nw := by
  have hsub : ∀ p ∈ (σ.flushP ops S).nw, p ∈ σ.nw := fun p hp => by unfold St.flushP at hp; rw [flushL_nw] at hp; exact (List.mem_filter.1 hp).1
  have hnd : ((σ.nw.filter fun p => S p.1).map (·.1)).Nodup := List.Nodup.sublist ((List.filter_sublist).map _) h.nd
  have hS : Sep C.w0 C.mt (ents σ.loc (σ.own ++ (σ.nw.filter fun p => !(S p.1)).map (·.2.ent)) ++ ((σ.nw.filter fun p => S p.1).map (·.2.ent))) W := by
    refine h.rel.sep.perm ?_
    unfold ents
    rw [← List.append_assoc, List.append_assoc (σ.loc.map LB.ent ++ σ.own)]
    refine List.Perm.append_left _ ?_
    rw [← List.map_append]
    exact (List.perm_append_comm.trans (filter_perm (fun p : Nat × NB => S p.1) σ.nw)).symm.map _
  obtain ⟨a, b, c, d⟩ := flushL_rel (C := C) (ops := ops) (tmps := tmps) (W := W) [] (σ.nw.filter fun p => S p.1) { σ with own := σ.own ++ (σ.nw.filter fun p => !(S p.1)).map (·.2.ent), nw := σ.nw.filter fun p => !(S p.1) }
    (fun p hp => h.val p (List.mem_filter.1 hp).1) hnd hds h.rel.len h.rel.env h.rel.al hS
  have key : ∀ (l : List (Nat × NB)) (τ : St) (X : Own), flushL ops l { τ with own := τ.own ++ X } = { flushL ops l τ with own := (flushL ops l τ).own ++ X } := by
    intro l
    induction l with
    | nil => intro τ X; rfl
    | cons p r ih =>
      intro τ X
      obtain ⟨i, nb⟩ := p
      cases nb with
      | own k o => simp only [flushL]; exact ih { τ with own := (k, o) :: τ.own } X
      | loc b => simp only [flushL]; exact ih { τ with env := put τ.env ((ops[i]?).bind (·.dst)) ⟨some (.pointer (some ⟨b.k, 0, none⟩)), some (τ.loc.length, 0)⟩, loc := τ.loc ++ [b] } X
  have hk := key (σ.nw.filter fun p => S p.1) { σ with nw := σ.nw.filter fun p => !(S p.1) } ((σ.nw.filter fun p => !(S p.1)).map (·.2.ent))
  simp only at hk
  rw [hk] at a b c d
  refine ⟨⟨a, b, c, ?_⟩, ?_, hsub⟩
  · have hnw : (σ.flushP ops S).nw = σ.nw.filter fun p => !(S p.1) := by unfold St.flushP; rw [flushL_nw]
    rw [hnw]
    unfold ents at d ⊢
    rw [List.append_assoc]
    exact d
  · intro p hp b' hb' d' hd' s hs
    have hp' := hsub p hp
    refine h.val p hp' b' hb' d' hd' s ?_
    rw [← hs]
    unfold St.flushP
    refine (flushL_env _ { σ with nw := σ.nw.filter fun p => !(S p.1) } fun q hq c' hc' he => ?_).symm
    -- q is told, p is not: they are two operations
    cases hoq : ops[q.1]? with
    | none => rw [hoq] at he; cases he
    | some oq =>
      cases hop : ops[p.1]? with
      | none => rw [hop] at hd'; cases hd'
      | some op =>
        rw [hoq] at he; rw [hop] at hd'
        have e := hds q.1 p.1 oq op d' hoq hop he hd'
        have h1 := (List.mem_filter.1 hq).2
        have h2 : (!(S p.1)) = true := by unfold St.flushP at hp; rw [flushL_nw] at hp; exact (List.mem_filter.1 hp).2
        rw [e] at h1
        rw [h1] at h2; cases h2
theorem cond_loc {z : Bool} {l : Loc} {r : Res} (h : cond z (Eff.loc l) (.res .bad) = .res r) : r = .bad := by
  cases z
  · cases h; rfl
  · cases h
theorem eff_res {o : Oper} {ρ : Operand → Slot} {m : Mem} {i : Nat} {r : Res} (h : effX C o ρ m i = .res r) : r = .bad ∨ r = resX C o ρ m i := by
  unfold effX at h
  split at h
  · split at h
    · unfold storeX at h
      split at h
      · split at h
        · exact .inl (cond_loc h)
        · cases h; exact .inl rfl
      · split at h
        · cases h
        · cases h; exact .inl rfl
    · cases h; exact .inl rfl
  · split at h
    · cases h
    · cases h; exact .inl rfl
  · split at h
    · split at h
      · cases h
      · cases h; exact .inl rfl
    · split at h
      · cases h
      · cases h; exact .inl rfl
    · split at h
      · split at h
        · cases h
        · cases h; exact .inr rfl
      · cases h; exact .inl rfl
    · cases h; exact .inr rfl
  · cases h; exact .inr rfl
theorem ev_flush {D : Nat} : ∀ (l : List (Nat × NB)) (σ : St), Evol D (opsW ops) σ (flushL ops l σ) := by
  intro l
  induction l with
  | nil => intro σ; exact .refl σ
  | cons p r ih =>
    intro σ
    obtain ⟨i, nb⟩ := p
    cases nb with
    | own k o => exact (⟨rfl, fun _ _ => rfl, fun i b h => ⟨b, h, rfl, rfl, fun _ _ hj => ⟨hj, rfl⟩⟩⟩ : Evol D (opsW ops) σ { σ with own := (k, o) :: σ.own }).trans (ih _)
    | loc b =>
      refine Evol.trans ⟨put_len, fun t ht => ?_, fun j c hc => ⟨c, ?_, rfl, rfl, fun _ _ hj => ⟨hj, rfl⟩⟩⟩ (ih { σ with env := put σ.env ((ops[i]?).bind (·.dst)) ⟨some (.pointer (some ⟨b.k, 0, none⟩)), some (σ.loc.length, 0)⟩, loc := σ.loc ++ [b] })
      · cases hd : (ops[i]?).bind (·.dst) with
        | none => rfl
        | some d =>
          simp only [put]
          rw [List.getElem?_set_ne]
          intro e; subst e
          apply ht
          cases hoi : ops[i]? with
          | none => rw [hoi] at hd; cases hd
          | some oi => rw [hoi] at hd; exact List.mem_flatMap.2 ⟨oi, List.mem_of_getElem? hoi, by simp only [Option.bind_some] at hd; simp [hd]⟩
      · have : j < σ.loc.length := by
          rcases Nat.lt_or_ge j σ.loc.length with h | h
          · exact h
          · rw [List.getElem?_eq_none h] at hc; cases hc
        simp only; rw [List.getElem?_append_left this]; exact hc
theorem opsW_mem {i : Nat} {o : Oper} {d : Nat} (h : ops[i]? = some o) (hd : o.dst = some d) : d ∈ opsW ops := List.mem_flatMap.2 ⟨o, List.mem_of_getElem? h, by simp [hd]⟩
theorem ev_put {D i : Nat} {o : Oper} {s : Slot} {σ' : St} (h : ops[i]? = some o) (he : σ'.env = put σ.env o.dst s) (hl : σ'.loc = σ.loc) : Evol D (opsW ops) σ σ' where
  len := by rw [he, put_len]
  env := fun t ht => by
    rw [he]
    cases hd : o.dst with
    | none => rfl
    | some d => simp only [put]; rw [List.getElem?_set_ne (fun e => by subst e; exact ht (opsW_mem h hd))]
  loc := fun i b hb => ⟨b, by rw [hl]; exact hb, rfl, rfl, fun _ _ hj => ⟨hj, rfl⟩⟩
theorem nwVal_put {i : Nat} {o : Oper} {s : Slot} {rem : List Nat} (h : ops[i]? = some o) (hds : DstOk ops) (hn : NwOk ops rem σ.nw) (hi : i ∈ rem) (hv : NwVal ops σ.env σ.nw) : NwVal ops (put σ.env o.dst s) σ.nw := by
  intro p hp b hb d hd sl hs
  refine hv p hp b hb d hd sl ?_
  cases hdo : o.dst with
  | none => rw [hdo] at hs; exact hs
  | some e =>
    rw [hdo] at hs
    simp only [put] at hs
    rw [List.getElem?_set_ne] at hs
    · exact hs
    · intro he; subst he
      cases hop : ops[p.1]? with
      | none => rw [hop] at hd; cases hd
      | some op =>
        rw [hop] at hd
        have := hds i p.1 o op e h hop hdo hd
        exact (hn p hp).1 (this ▸ hi)
theorem ins_nodup {i : Nat} {b : NB} : ∀ {l : List (Nat × NB)}, i ∉ l.map (·.1) → (l.map (·.1)).Nodup → ((ins i b l).map (·.1)).Nodup := by
  intro l
  induction l with
  | nil => intro _ _; simp [ins]
  | cons p r ih =>
    intro hi hnd
    obtain ⟨j, c⟩ := p
    simp only [List.map_cons, List.mem_cons, not_or, List.nodup_cons] at hi hnd
    cases hb : Nat.blt i j with
    | true => simp only [ins, hb, cond_true, List.map_cons, List.nodup_cons, List.mem_cons, not_or]; exact ⟨hi, hnd⟩
    | false =>
      simp only [ins, hb, cond_false, List.map_cons, List.nodup_cons]
      refine ⟨fun hm => ?_, ih hi.2 hnd.2⟩
      obtain ⟨q, hq, he⟩ := List.mem_map.1 hm
      rcases mem_ins.1 hq with rfl | hq
      · exact hi.1 he
      · exact hnd.1 (List.mem_map.2 ⟨q, hq, he⟩)
theorem ins_perm {i : Nat} {b : NB} : ∀ {l : List (Nat × NB)}, (ins i b l).Perm ((i, b) :: l) := by
  intro l
  induction l with
  | nil => exact .refl _
  | cons p r ih =>
    obtain ⟨j, c⟩ := p
    cases hb : Nat.blt i j with
    | true => simp only [ins, hb, cond_true]; exact .refl _
    | false => simp only [ins, hb, cond_false]; exact (ih.cons _).trans (.swap _ _ _)
def NextD (C : Ctx) (ops : List Oper) (D : Nat) (rem : List Nat) (a : Act) (σ : St) (K : St → Prop) (a' : Act) (W' : World) : Prop :=
  a'.defers = a.defers ∧ ∃ σ', K σ' ∧ DRel C ops rem σ' a'.tmps W' ∧ Evol D (opsW ops) σ σ'
theorem step_draw (hC : TabOk C.P C.tab) (hds : DstOk ops) {D i : Nat} {o : Oper} {rem : List Nat} {a : Act} {W : World} (ho : ops[i]? = some o) (hi : i ∉ rem) (hR : DRel C ops (i :: rem) σ a.tmps W)
    (h : stepD C ops ms done i o σ K) : StepOk C ops o a W (NextD C ops D rem a σ K) := by
  have hn' : NwOk ops rem σ.nw := fun p hp => ⟨fun hm => (hR.ok p hp).1 (List.mem_cons_of_mem _ hm), (hR.ok p hp).2⟩
  have hput : ∀ {s : Slot}, NwVal ops (put σ.env o.dst s) σ.nw := nwVal_put ho hds hR.ok (by simp) hR.val
  have hskip : K (σ.skip o.dst) → NextD C ops D rem a σ K (a.put o.dst undef) W := fun hk =>
    ⟨aput_defers, _, hk, ⟨rel_skip hR.rel, hn', hput, hR.nd⟩, ev_put ho rfl rfl⟩
  -- the operation itself
  have hbody : bodyD C ops ms done i o σ K → Runs C.P o a W fun v W' => NextD C ops D rem a σ K (a.put o.dst v) W' := by
    intro h
    unfold bodyD at h
    cases hw : isWr C o with
    | false =>
      rw [hw] at h
      simp only [cond_false] at h
      rcases resE_cases (C := C) (o := o) (ρ := slotOf σ.env) (m := σ.mem) with e | ⟨r, he, hk, e⟩
      · rw [e] at h; exact h.elim
      · rw [e] at h
        rcases eff_res he with rfl | rfl
        · exact h.elim
        · have h' : (resX C o (slotOf σ.env) ⟨σ.loc, σ.own⟩ 0).T fun out => K (σ.addD i o.dst out) ∧ ∀ b, out.nb = some (.loc b) → isAB o.op = true ∧ out.v = .pointer (some ⟨b.k, 0, none⟩) :=
            Res.mono h fun out hout hK => ⟨hK, fun b hb => res_nb (C := C) (o := o) (ρ := slotOf σ.env) (m := σ.mem) (by rw [e]; exact hout) hb⟩
          refine (res_good hC hR.rel.env hR.rel.al hR.rel.sep h').mono ?_
          rintro v W' ⟨out, ⟨hk, hab⟩, rfl, hO⟩
          refine ⟨aput_defers, _, hk, ?_⟩
          unfold OutOk at hO
          unfold St.addD
          cases hnb : out.nb with
          | none =>
            rw [hnb] at hO
            simp only at hO ⊢
            exact ⟨⟨rel_put hR.rel hO.2 hO.1, hn', hput, hR.nd⟩, ev_put ho rfl rfl⟩
          | some nb =>
            rw [hnb] at hO
            simp only at hO ⊢
            have hin : i ∉ σ.nw.map (·.1) := fun hm => by
              obtain ⟨q, hq, rfl⟩ := List.mem_map.1 hm
              exact (hR.ok q hq).1 (by simp)
            refine ⟨⟨⟨?_, envOk_put hR.rel.env hR.rel.len, alOk_put hR.rel.al al_none, ?_⟩, ?_, ?_, ins_nodup hin hR.nd⟩, ev_put ho rfl rfl⟩
            · simp only; rw [put_len, aput_size]; exact hR.rel.len
            · refine hO.1.perm ?_
              refine List.Perm.trans ?_ (List.Perm.append_left _ ((ins_perm (i := i) (b := nb) (l := σ.nw)).map (·.2.ent)).symm)
              exact List.perm_middle.symm
            · intro p hp
              rcases mem_ins.1 hp with rfl | hp
              · exact ⟨hi, fun b hb => ⟨o, ho, (hab b (by rw [hnb]; simp only at hb; rw [hb])).1⟩⟩
              · exact hn' p hp
            · intro p hp b hb d hd s hs
              rcases mem_ins.1 hp with rfl | hp
              · simp only at hb; subst hb
                simp only [ho, Option.bind_some] at hd
                rw [hd] at hs
                simp only [put, List.getElem?_set] at hs
                split at hs
                · split at hs
                  · cases hs; simp only [(hab b hnb).2]
                  · cases hs
                · rename_i h; exact (h trivial).elim
              · exact hput p hp b hb d hd s hs
    | true =>
      rw [hw] at h
      simp only [cond_true] at h
      cases hl : locApart ops ms σ (σ.flushO ops i o) i done with
      | false => rw [hl] at h; exact h.elim
      | true =>
        rw [hl] at h
        simp only [cond_true] at h
        cases happ : isApp o with
        | true =>
          obtain ⟨q1, q2, q3⟩ := flushP_rel (S := fun x => Nat.blt x i) hR hds
          have hfo : σ.flushO ops i o = σ.flushP ops fun x => Nat.blt x i := by unfold St.flushO; rw [happ]; rfl
          rw [hfo] at h
          refine (eff_app happ q1 h).mono ?_
          rintro v W' ⟨σ', hk, hn, hR', hev⟩
          have hsub : ∀ p ∈ σ'.nw, p ∈ σ.nw := fun p hp => by rw [hn] at hp; exact q3 p hp
          refine ⟨aput_defers, σ', hk, ⟨hR', fun p hp => hn' p (hsub p hp), ?_, ?_⟩, ?_⟩
          · obtain ⟨s, hs⟩ := hev.1
            rw [hs, hn]
            refine nwVal_put (rem := i :: rem) ho hds (fun p hp => hR.ok p (q3 p hp)) (by simp) q2
          · rw [hn]
            refine List.Nodup.sublist ?_ hR.nd
            unfold St.flushP
            rw [flushL_nw]
            exact (List.filter_sublist).map _
          · refine Evol.trans (b := σ.flushP ops fun x => Nat.blt x i) ?_ ((hev.evol (D := D)).mono (Nat.le_refl D) fun t ht => ?_)
            · have := ev_flush (ops := ops) (D := D) (σ.nw.filter fun p => Nat.blt p.1 i) { σ with nw := σ.nw.filter fun p => !(Nat.blt p.1 i) }
              exact ⟨this.len, this.env, this.loc⟩
            · cases hd : o.dst with
              | none => rw [hd] at ht; cases ht
              | some d => rw [hd] at ht; simp at ht; subst ht; exact opsW_mem ho hd
        | false =>
        have hfo : σ.flushO ops i o = σ.flush ops := by unfold St.flushO; rw [happ]; rfl
        rw [hfo] at h
        refine (eff_seq hC (flush_rel hR hds) flush_nw h).mono ?_
        rintro v W' ⟨σ', hk, hn, hR', hev⟩
        refine ⟨aput_defers, σ', hk, ⟨hR', ?_, ?_, ?_⟩, ?_⟩
        · rw [hn]; exact fun p hp => by cases hp
        · rw [hn]; exact fun p hp => by cases hp
        · rw [hn]; exact .nil
        · refine Evol.trans (b := σ.flush ops) ?_ ((hev.evol (D := D)).mono (Nat.le_refl D) fun t ht => ?_)
          · have := ev_flush (ops := ops) (D := D) σ.nw { σ with nw := [] }
            exact ⟨this.len, this.env, this.loc⟩
          · cases hd : o.dst with
            | none => rw [hd] at ht; cases ht
            | some d => rw [hd] at ht; simp at ht; subst ht; exact opsW_mem ho hd
  rw [stepD_eq] at h
  unfold wantD at h
  cases hg : o.guard with
  | none =>
    rw [hg] at h
    exact stepOk_yes (by simp [Region.wanted, hg]) (hbody h)
  | some p =>
    obtain ⟨j, want⟩ := p
    rw [hg] at h
    simp only at h
    cases hj : (ops[j]?).bind (·.dst) with
    | none => rw [hj] at h; exact h.elim
    | some g =>
      rw [hj] at h
      simp only at h
      split at h
      · rename_i hh
        split at hh
        · rename_i b hb
          have hbw := Option.some.inj hh
          have hy := yielded_of hR.rel hj hb
          exact stepOk_yes (by simp only [Region.wanted, hg, hy]; simpa using hbw) (hbody h)
        · cases hh
        · cases hh
      · rename_i hh
        split at hh
        · rename_i b hb
          have hbw := Option.some.inj hh
          have hy := yielded_of hR.rel hj hb
          exact stepOk_no (by simp only [Region.wanted, hg, hy]; simpa using hbw) (hskip h)
        · rename_i vs hb
          have hy := yielded_of hR.rel hj hb
          exact stepOk_no (by simp [Region.wanted, hg, hy]) (hskip h)
        · cases hh
      · exact h.elim

/-- what the look at the order has shown -/
structure OrdOk (C : Ctx) (ops : List Oper) (ms ord : List Nat) : Prop where
  pw : ord.Pairwise (PairOk C ops ms)
  nd : ord.Nodup
  each : ∀ y ∈ ord, ∃ oy, ops[y]? = some oy ∧ WarOk ops oy oy ∧ ∀ e ∈ oy.after.toList, Region.binds .any e = true → e.on ∈ ord ∧ e.on ≠ y
  ds : DstOk ops
  mks : MaskOk ops ms
theorem ready_iff {listed : Array Bool} {i : Nat} : i ∈ Region.ready .any ops.toArray listed ↔ i < ops.length ∧ listed.getD i true = false ∧ ∃ o, ops[i]? = some o ∧ ∀ e ∈ o.after.toList, Region.binds .any e = true → listed.getD e.on false = true := by
  unfold Region.ready
  simp only [List.mem_filter, List.mem_range, List.size_toArray, Bool.and_eq_true, Bool.not_eq_true']
  refine and_congr_right fun hi => and_congr_right fun _ => ?_
  rw [List.getElem?_toArray]
  rw [List.getElem?_eq_getElem hi]
  simp only [Option.map_some, Option.getD_some, Option.some.injEq, exists_eq_left']
  rw [← Array.all_toList, List.all_eq_true]
  constructor
  · intro h e he hb
    have := h e he
    rw [hb] at this
    simpa using this
  · intro h e he
    cases hb : Region.binds .any e with
    | false => rfl
    | true => simpa using h e he hb
theorem draw_any {ord : List Nat} (hC : TabOk C.P C.tab) (H : OrdOk C ops ms ord) {D : Nat} {Q : Exit → Act → World → Prop} {σ0 : St} {a0 : Act} (hq : ∀ a' W' σ', a'.defers = a0.defers → K σ' → σ'.nw = [] → Rel C σ' a'.tmps W' → Evol D (opsW ops) σ0 σ' → Q .normal a' W') :
    ∀ (n : Nat) (rem : List Nat) (listed : Array Bool) (σ : St) (a : Act) (W : World), rem.length = n → rem.Sublist ord → (∀ i, i < ops.length → listed[i]? = some (!(rem.contains i))) →
      (∀ x y, x < ops.length → x ∉ rem → Pre ops x y → y ∉ rem) → DRel C ops rem σ a.tmps W → a.defers = a0.defers → Evol D (opsW ops) σ0 σ → regDl C ops ms K [] rem σ → wpAny C.P .any ops.toArray Q n listed a W := by
  intro n
  induction n with
  | zero =>
    intro rem listed σ a W hl hs hli hcl hR hd hev h
    have : rem = [] := List.length_eq_zero_iff.1 hl
    subst this
    refine ⟨?_, hq a W _ hd h flush_nw (flush_rel hR H.ds) (hev.trans ?_)⟩
    · rw [List.eq_nil_iff_forall_not_mem]
      intro i hi
      obtain ⟨h1, h2, _⟩ := ready_iff.1 hi
      have := hli i h1
      rw [Array.getD_eq_getD_getElem?, this] at h2
      simp at h2
    · have := ev_flush (ops := ops) (D := D) σ.nw { σ with nw := [] }
      exact ⟨this.len, this.env, this.loc⟩
  | succ n ih =>
    intro rem listed σ a W hl hs hli hcl hR hd hev h
    have hlist : ∀ i, i < ops.length → ∀ b, listed.getD i b = !(rem.contains i) := fun i hi b => by
      rw [Array.getD_eq_getD_getElem?, hli i hi]; rfl
    have hrem : ∀ i, i ∈ rem → ∃ o, ops[i]? = some o ∧ i < ops.length := fun i hi => by
      obtain ⟨o, ho, _⟩ := H.each i (hs.mem hi)
      exact ⟨o, ho, (List.getElem?_eq_some_iff.1 ho).1⟩
    constructor
    · intro he
      exfalso
      cases rem with
      | nil => simp at hl
      | cons x r =>
        obtain ⟨ox, hox, hself, hed⟩ := H.each x (hs.mem (by simp))
        have hx := (List.getElem?_eq_some_iff.1 hox).1
        have : x ∈ Region.ready .any ops.toArray listed := by
          refine ready_iff.2 ⟨hx, by rw [hlist x hx]; simp, ox, hox, fun e hm hb => ?_⟩
          obtain ⟨h1, h2⟩ := hed e hm hb
          obtain ⟨oe, hoe, _⟩ := H.each e.on h1
          have helt := (List.getElem?_eq_some_iff.1 hoe).1
          rw [hlist e.on helt]
          have hne : e.on ∉ x :: r := by
            intro hmem
            rcases List.mem_cons.1 hmem with h' | h'
            · exact h2 h'
            · have := List.pairwise_cons.1 (H.pw.sublist hs)
              exact (this.1 e.on h').pre ox hox e hm hb rfl
          simp only [Bool.not_eq_true']
          simpa using hne
        rw [he] at this; cases this
    · intro y hy
      obtain ⟨hylt, hyl, oy, hoy, hye⟩ := ready_iff.1 hy
      have hyr : y ∈ rem := by
        rw [hlist y hylt] at hyl
        simpa using hyl
      obtain ⟨p, s, rfl⟩ := List.append_of_mem hyr
      have hnd : (p ++ y :: s).Nodup := H.nd.sublist hs
      have hyps : y ∉ p ++ s := by
        have := hnd
        rw [List.nodup_append] at this
        obtain ⟨_, h2, h3⟩ := this
        intro hm
        rcases List.mem_append.1 hm with hm | hm
        · exact h3 y hm y (by simp) rfl
        · exact (List.nodup_cons.1 h2).1 hm
      have hsub : (p ++ s).Sublist (p ++ y :: s) := List.Sublist.append_left (List.sublist_cons_self _ _) _
      -- what y is bound to is through
      have hpre : ∀ b, Pre ops y b → b < ops.length ∧ b ∉ p ++ y :: s := by
        rintro b ⟨o, ho, e, hm, hb, rfl⟩
        rw [hoy] at ho; cases ho
        obtain ⟨o', ho', _, hed⟩ := H.each y (hs.mem hyr)
        rw [hoy] at ho'; cases ho'
        obtain ⟨h1, _⟩ := hed e hm hb
        obtain ⟨oe, hoe, _⟩ := H.each e.on h1
        have helt := (List.getElem?_eq_some_iff.1 hoe).1
        have := hye e hm hb
        rw [hlist e.on helt] at this
        exact ⟨helt, by simpa using this⟩
      have hpl : ∀ a b, Pre ops a b → b < ops.length ∨ ¬ (a < ops.length ∧ a ∉ p ++ y :: s) ∨ True := fun _ _ _ => .inr (.inr trivial)
      have hmask : ∀ x ∈ p, (ms.getD y 0).testBit x = false := by
        intro x hx
        cases hb : (ms.getD y 0).testBit x with
        | false => rfl
        | true =>
          exfalso
          have := H.mks y x hb (fun z => z ∉ p ++ y :: s) (fun u v huv hu => ?_) (fun b hb => (hpre b hb).2)
          · exact this (List.mem_append.2 (.inl hx))
          · have huv' := huv
            obtain ⟨o, ho, _⟩ := huv
            exact hcl u v (List.getElem?_eq_some_iff.1 ho).1 hu huv'
      have hself : ∀ x ∈ p, ∀ ox, ops[x]? = some ox → WarOk ops ox ox := fun x hx ox hox => by
        obtain ⟨o, ho, hw, _⟩ := H.each x (hs.mem (List.mem_append.2 (.inl hx)))
        rw [hox] at ho; cases ho; exact hw
      have hb := bubble hoy H.ds p [] s σ hmask hself (H.pw.sublist hs) hnd (fun z hz => by cases hz) hR.ok h
      simp only [regDl, hoy] at hb
      have hR' : DRel C ops (y :: (p ++ s)) σ a.tmps W := ⟨hR.rel, fun q hq => ⟨fun hm => (hR.ok q hq).1 (by
        simp only [List.mem_cons, List.mem_append] at hm ⊢
        rcases hm with h | h | h
        · exact .inr (.inl h)
        · exact .inl h
        · exact .inr (.inr h)), (hR.ok q hq).2⟩, hR.val, hR.nd⟩
      have hst := step_draw (D := D) hC H.ds hoy hyps hR' hb
      unfold wpOp
      rw [List.getElem?_toArray, hoy]
      simp only
      have key : ∀ a' W', NextD C ops D (p ++ s) a σ (regDl C ops ms K ([] ++ [y]) (p ++ s)) a' W' → wpAny C.P .any ops.toArray Q n (listed.setIfInBounds y true) a' W' := by
        rintro a' W' ⟨hd', σ', hk, hR'', hev'⟩
        refine ih (p ++ s) _ σ' a' W' ?_ (hsub.trans hs) ?_ ?_ hR'' (hd'.trans hd) (hev.trans hev') (regDl_sub _ _ _ _ (fun _ h => by cases h) (hnd.sublist hsub) hR''.ok hk)
        · simp only [List.length_append, List.length_cons] at hl ⊢; omega
        · intro i hi
          rw [Array.getElem?_setIfInBounds]
          by_cases hiy : y = i
          · subst hiy
            have hsz : y < listed.size := by
              have := hli y hi
              rcases Nat.lt_or_ge y listed.size with h | h
              · exact h
              · rw [Array.getElem?_eq_none h] at this; cases this
            rw [if_pos rfl, if_pos hsz]
            have : (p ++ s).contains y = false := by simpa using hyps
            rw [this]; rfl
          · rw [if_neg hiy, hli i hi]
            congr 2
            have hiy' : i ≠ y := fun e => hiy e.symm
            simp only [List.contains_eq_mem, List.mem_append, List.mem_cons, hiy', false_or]
        · intro x z hx hxr hpz hz
          have hz' : z ∈ p ++ y :: s := hsub.mem hz
          by_cases hxy : x = y
          · subst hxy; exact (hpre z hpz).2 hz'
          · refine hcl x z hx (fun hm => hxr ?_) hpz hz'
            simp only [List.mem_append, List.mem_cons] at hm ⊢
            rcases hm with h | h | h
            · exact .inl h
            · exact (hxy h).elim
            · exact .inr h
      have := hst (wpAny C.P .any ops.toArray Q n (listed.setIfInBounds y true)) Q key
      split
      · rename_i hw; rw [if_pos hw] at this; exact .inl this
      · rename_i hw; rw [if_neg hw] at this; exact this
end
theorem reg_draw {C : Ctx} {K : St → Prop} (hC : TabOk C.P C.tab) (hm : C.P.follows .mixedOrders = true) {D id : Nat} {ops : Array Oper} {ord : List Nat} {Q : Exit → Act → World → Prop} {σ : St} {a : Act} {W : World}
    (hR : Rel C σ a.tmps W) (hn : σ.nw = []) (h : regD C ops.toList ord K σ)
    (hq : ∀ a' W' σ', a'.defers = a.defers → K σ' → σ'.nw = [] → Rel C σ' a'.tmps W' → Evol D (opsW ops.toList) σ σ' → Q .normal a' W') : (Code.region id ops true).wp C.P Q a W := by
  unfold regD at h
  cases hz : ((isPerm ops.toList.length ord && (distinct ord && distinct (opsW ops.toList))) && okOrd C ops.toList (masks ops.toList []) [] ord) with
  | false => rw [hz] at h; exact h.elim
  | true =>
    rw [hz] at h
    simp only [cond_true] at h
    simp only [Bool.and_eq_true] at hz
    obtain ⟨⟨h1, h2, h3⟩, h4⟩ := hz
    have hnd := distinct_nodup h2
    obtain ⟨_, i2, i3⟩ := okOrd_pw ord [] h4 (by simpa using hnd) (fun z hz => by cases hz)
    have H : OrdOk C ops.toList (masks ops.toList []) ord := ⟨i2, hnd, by simpa using i3, dstOk_of (distinct_nodup h3), masks_ok⟩
    unfold isPerm at h1
    rw [Bool.and_eq_true, List.all_eq_true] at h1
    have hlen : ord.length = ops.size := by have := Nat.eq_of_beq_eq_true h1.1; simpa using this
    have hall : ∀ i, i < ops.size → i ∈ ord := fun i hi => memN_iff.1 (h1.2 i (by simp [List.mem_range']; omega))
    refine wp_region_any hm ?_
    refine draw_any (K := K) (ops := ops.toList) (ms := masks ops.toList []) (ord := ord) hC H hq ops.size ord _ σ a _ hlen (List.Sublist.refl _) ?_ ?_ ?_ rfl (.refl σ) h
    · intro i hi
      simp only [Array.length_toList] at hi
      simp only [List.contains_eq_mem, hall i hi, decide_true, Bool.not_true]
      rw [Array.getElem?_replicate, if_pos hi]
    · intro x y hx hxr
      exact (hxr (hall x (by simpa using hx))).elim
    · refine ⟨⟨hR.len, hR.env, hR.al, ?_⟩, ?_, ?_, ?_⟩
      · exact ⟨hR.sep.os, hR.sep.tape, hR.sep.output, hR.sep.size, hR.sep.keep, hR.sep.own, hR.sep.new, hR.sep.nodup⟩
      · rw [hn]; exact fun p hp => by cases hp
      · rw [hn]; exact fun p hp => by cases hp
      · rw [hn]; exact .nil
end Go.Tn
end
section
namespace Go.Tn
open Go.RowKit
set_option linter.unusedSimpArgs false
set_option linter.unusedVariables false

/-! ### code -/
inductive Ann
  | leaf
  | draw (ord : List Nat)
  | seq (a b : Ann)
  | cut (vars : List (Nat × Sh2)) (lcs : List (Nat × List Sh1)) (a b : Ann)
  | cond (a b : Ann)
  | block (a : Ann)
  | loop (vars : List (Nat × Sh2)) (lcs : List (Nat × List Sh1)) (a : Ann)
def allInv : (l : List Sh2) → InvT l → MuT l → (List Value → Own → Nat → Prop) → Prop
  | [], I, m, K => ∀ own, I own → K [] own (m own)
  | .one (.int k) :: r, I, m, K => ∀ n : Int, allInv r (I n) (m n) fun vs => K (.int k n :: vs)
  | .one .float :: r, I, m, K => ∀ x : Nat, allInv r (I x) (m x) fun vs => K (.float .f64 x :: vs)
  | .one .bool :: r, I, m, K => ∀ b : Bool, allInv r (I b) (m b) fun vs => K (.bool b :: vs)
  | .one .ptr :: r, I, m, K => ∀ a : Option Addr, allInv r (I a) (m a) fun vs => K (.pointer a :: vs)
  | .one .slice :: r, I, m, K => ∀ (a : Option Addr) (n c : Nat), allInv r (I a n c) (m a n c) fun vs => K (.slice a n c :: vs)
  | .one .map :: r, I, m, K => ∀ a : Option Nat, allInv r (I a) (m a) fun vs => K (.map a :: vs)
  | .one .any :: r, I, m, K => ∀ v : Value, allInv r (I v) (m v) fun vs => K (v :: vs)
  | .one (.fn _) :: r, I, m, K => ∀ v : Value, allInv r (I v) (m v) fun vs => K (v :: vs)
  | .agg l :: r, I, m, K => alll1 l fun cs => allInv r (I cs) (m cs) fun vs => K (.agg ⟨cs⟩ :: vs)
def MuT.zero : (l : List Sh2) → MuT l
  | [] => fun _ => 0
  | .one (.int _) :: r => fun _ => MuT.zero r
  | .one .float :: r => fun _ => MuT.zero r
  | .one .bool :: r => fun _ => MuT.zero r
  | .one .ptr :: r => fun _ => MuT.zero r
  | .one .slice :: r => fun _ _ _ => MuT.zero r
  | .one .map :: r => fun _ => MuT.zero r
  | .one .any :: r => fun _ => MuT.zero r
  | .one (.fn _) :: r => fun _ => MuT.zero r
  | .agg _ :: r => fun _ => MuT.zero r
def writes : Code → List Nat
  | .region _ ops _ => opsW ops.toList
  | .seq a b | .cond _ a b => writes a ++ writes b
  | .block _ a | .loop a | .scope a => writes a
  | _ => []
/-- the slots that the code writes are forgotten, but those of 'vars', which hold vs -/
def forget (ws : List Nat) : Nat → Env → Env
  | _, [] => []
  | i, s :: r => (cond (memN i ws) ⟨none, none⟩ s) :: forget ws (i + 1) r
def setVars : List Nat → List Value → Env → Env
  | t :: r, v :: vs, env => setVars r vs (env.set t ⟨some v, none⟩)
  | _, _, env => env
def setLocs : List Nat → List Value → Loc → Loc
  | i :: r, .agg cs :: vs, loc => setLocs r vs (match loc[i]? with | some b => loc.set i ⟨b.k, b.t, cs.toList, []⟩ | none => loc)
  | _, _, loc => loc
def valsOf : List Nat → Env → Option (List Value)
  | [], _ => some []
  | t :: r, env => match env.getD t ⟨none, none⟩ with | ⟨some v, _⟩ => (valsOf r env).map (v :: ·) | _ => none
def locsOf : List Nat → Loc → Option (List Value)
  | [], _ => some []
  | i :: r, loc => match loc[i]? with | some b => (locsOf r loc).map (.agg ⟨b.cs⟩ :: ·) | none => none
def markLoc (D : Nat) (loc : Loc) : Loc := loc.map fun b => ⟨b.k, b.t, b.cs, D :: b.cl⟩
/-- do the first n blocks bear the mark, but those of 'is'? -/
def clean (D : Nat) (is : List Nat) : Nat → Nat → Loc → Bool
  | 0, _, _ => true
  | n + 1, i, b :: r => (memN i is || memN D b.cl) && clean D is n (i + 1) r
  | _ + 1, _, [] => false
def headSt (D : Nat) (ws vars lcs : List Nat) (σ : St) (vs : List Value) (own : Own) : St :=
  { env := setVars vars (vs.take vars.length) (forget ws 0 σ.env), loc := setLocs lcs (vs.drop vars.length) (markLoc D σ.loc), own := own, nw := [] }
def headVals (vars lcs : List Nat) (σ : St) : Option (List Value) :=
  match valsOf vars σ.env, locsOf lcs σ.loc with
  | some a, some b => some (a ++ b)
  | _, _ => none
def shapesOf (vars : List (Nat × Sh2)) (lcs : List (Nat × List Sh1)) : List Sh2 := vars.map (·.2) ++ lcs.map fun p => .agg p.2
def codeT (C : Ctx) : Code → Ann → Nat → St → (Exit → St → Prop) → Prop
  | .skip, _, _, σ, Q => Q .normal σ
  | .ret, _, _, σ, Q => Q .ret σ
  | .exit id, _, _, σ, Q => Q (.exit id) σ
  | .region _ ops false, _, _, σ, Q => regS C ops.toList (Q .normal) ops.toList σ
  | .region _ ops true, .draw ord, _, σ, Q => regD C ops.toList ord (Q .normal) σ
  | .seq a b, .seq x y, D, σ, Q => codeT C a x D σ fun e σ' => match e with | .normal => codeT C b y D σ' Q | e => Q e σ'
  | .seq a b, .cut vars lcs x y, D, σ, Q =>
    cond (distinct (lcs.map (·.1)) && vars.all fun p => memN p.1 (writes a))
    (∃ J : InvT (shapesOf vars lcs), (codeT C a x (D + 1) { σ with loc := markLoc D σ.loc } fun e σ' =>
      match e with
      | .normal => cond (clean D (lcs.map (·.1)) σ.loc.length 0 σ'.loc) (match headVals (vars.map (·.1)) (lcs.map (·.1)) σ' with
          | some vs => J.at _ vs σ'.own
          | none => False) False
      | e => Q e σ') ∧
      allInv (shapesOf vars lcs) J (MuT.zero _) fun vs own _ => codeT C b y D (headSt D (writes a) (vars.map (·.1)) (lcs.map (·.1)) σ vs own) Q) False
  | .cond c a b, .cond x y, D, σ, Q =>
    match slotOf σ.env c with
    | ⟨some (.bool t), _⟩ => cond t (codeT C a x D σ Q) (codeT C b y D σ Q)
    | _ => False
  | .block id a, .block x, D, σ, Q => codeT C a x D σ fun e σ' => match e with | .exit j => cond (Nat.beq j id) (Q .normal σ') (Q (.exit j) σ') | e => Q e σ'
  | .loop a, .loop vars lcs x, D, σ, Q =>
    cond (distinct (lcs.map (·.1)) && vars.all fun p => memN p.1 (writes a))
    (match headVals (vars.map (·.1)) (lcs.map (·.1)) σ with
    | some vs0 => ∃ (I : InvT (shapesOf vars lcs)) (μ : MuT (shapesOf vars lcs)), I.at _ vs0 σ.own ∧
        allInv (shapesOf vars lcs) I μ fun vs own m =>
          codeT C a x (D + 1) (headSt D (writes a) (vars.map (·.1)) (lcs.map (·.1)) σ vs own) fun e σ' =>
            match e with
            | .normal => cond (clean D (lcs.map (·.1)) σ.loc.length 0 σ'.loc) (match headVals (vars.map (·.1)) (lcs.map (·.1)) σ' with
                | some vs' => I.at _ vs' σ'.own ∧ μ.at _ vs' σ'.own < m
                | none => False) False
            | e => Q e σ'
    | none => False) False
  | _, _, _, _, _ => False
end Go.Tn
end
section
namespace Go.Tn
open Go.RowKit
set_option linter.unusedSimpArgs false
set_option linter.unusedVariables false

theorem allInv_at : ∀ {l : List Sh2} {I : InvT l} {m : MuT l} {K : List Value → Own → Nat → Prop}, allInv l I m K → ∀ {vs : List Value} {own : Own}, I.at l vs own → K vs own (m.at l vs own) := by
  intro l
  induction l with
  | nil => intro I m K h vs own hi; cases vs with | nil => exact h own hi | cons v r => exact hi.elim
  | cons s r ih =>
    intro I m K h vs own hi
    cases vs with
    | nil => cases s with | one s => cases s <;> exact hi.elim | agg l => exact hi.elim
    | cons v vs =>
      cases s with
      | one s =>
        cases s with
        | int k =>
          cases v with
          | int k' n =>
            simp only [InvT.at] at hi
            cases hk : agree k k' with
            | false => simp [hk] at hi
            | true => have := agree_eq hk; subst this; simp only [hk, cond_true] at hi; exact ih (h n) hi
          | _ => exact hi.elim
        | float =>
          cases v with
          | float k x =>
            cases k with
            | f64 => exact ih (h x) hi
            | f32 => exact hi.elim
          | _ => exact hi.elim
        | bool => cases v with | bool b => exact ih (h b) hi | _ => exact hi.elim
        | ptr => cases v with | pointer a => exact ih (h a) hi | _ => exact hi.elim
        | slice => cases v with | slice a n c => exact ih (h a n c) hi | _ => exact hi.elim
        | map => cases v with | map a => exact ih (h a) hi | _ => exact hi.elim
        | any => cases v <;> exact ih (h _) hi
        | fn l => cases v <;> exact ih (h _) hi
      | agg l =>
        cases v with
        | agg cs =>
          simp only [InvT.at] at hi
          cases hk : shl1 l cs.toList with
          | false => simp [hk] at hi
          | true =>
            simp only [hk, cond_true] at hi
            exact ih (alll1_at h (shl1_is hk)) hi
        | _ => exact hi.elim

theorem memN_false {x : Nat} {l : List Nat} : memN x l = false ↔ x ∉ l := by
  cases h : memN x l with
  | true => simp [memN_iff.1 h]
  | false => simp; exact fun hm => by rw [memN_iff.2 hm] at h; cases h

theorem forget_get (ws : List Nat) : ∀ (env : Env) (i t : Nat), (forget ws i env)[t]? = (env[t]?).map fun s => cond (memN (i + t) ws) ⟨none, none⟩ s := by
  intro env
  induction env with
  | nil => intro i t; simp [forget]
  | cons s r ih =>
    intro i t
    cases t with
    | zero => simp [forget]
    | succ t => simp only [forget, List.getElem?_cons_succ, ih]; rw [show i + 1 + t = i + (t + 1) by omega]
theorem forget_len (ws : List Nat) : ∀ (env : Env) (i : Nat), (forget ws i env).length = env.length := by
  intro env
  induction env with
  | nil => intro i; rfl
  | cons s r ih => intro i; simp [forget, ih]
theorem setVars_len : ∀ (vars : List Nat) (vs : List Value) (env : Env), (setVars vars vs env).length = env.length := by
  intro vars
  induction vars with
  | nil => intro vs env; cases vs <;> rfl
  | cons t r ih => intro vs env; cases vs with | nil => rfl | cons v vs => simp [setVars, ih]
/-- a slot behind setVars: one of the vars, with the value that it has in env'', or as it was -/
theorem setVars_get {env'' : Env} : ∀ (vars : List Nat) (vs : List Value) (env : Env), valsOf vars env'' = some vs → ∀ t s, (setVars vars vs env)[t]? = some s →
    (t ∈ vars ∧ ∃ v al, s = ⟨some v, none⟩ ∧ env''[t]? = some ⟨some v, al⟩) ∨ (t ∉ vars ∧ env[t]? = some s) := by
  intro vars
  induction vars with
  | nil => intro vs env h t s ht; simp [valsOf] at h; subst h; exact .inr ⟨by simp, ht⟩
  | cons x r ih =>
    intro vs env h t s ht
    simp only [valsOf] at h
    split at h
    · rename_i v al hx
      cases hr : valsOf r env'' with
      | none => simp [hr] at h
      | some us =>
        simp only [hr, Option.map_some, Option.some.injEq] at h
        subst h
        simp only [setVars] at ht
        rcases ih us _ hr t s ht with ⟨hm, h1⟩ | ⟨hm, h1⟩
        · exact .inl ⟨List.mem_cons_of_mem _ hm, h1⟩
        · by_cases e : x = t
          · subst e
            rw [List.getElem?_set] at h1
            simp only [if_true] at h1
            split at h1
            · cases h1
              refine .inl ⟨by simp, v, al, rfl, ?_⟩
              rw [List.getD_eq_getElem?_getD] at hx
              cases hxx : env''[x]? with
              | none => simp [hxx] at hx
              | some s => simp [hxx] at hx; rw [hx]
            · cases h1
          · rw [List.getElem?_set_ne e] at h1
            exact .inr ⟨by simp [hm, Ne.symm e], h1⟩
    · cases h
theorem setLocs_len : ∀ (lcs : List Nat) (vs : List Value) (loc : Loc), (setLocs lcs vs loc).length = loc.length := by
  intro lcs
  induction lcs with
  | nil => intro vs loc; cases vs <;> rfl
  | cons i r ih =>
    intro vs loc
    cases vs with
    | nil => rfl
    | cons v vs => cases v <;> simp [setLocs, ih]; split <;> simp
theorem setLocs_get {loc'' : Loc} : ∀ (lcs : List Nat) (vs : List Value) (loc : Loc), locsOf lcs loc'' = some vs → distinct lcs = true → ∀ i b, loc[i]? = some b →
    ∃ b', (setLocs lcs vs loc)[i]? = some b' ∧ b'.k = b.k ∧ b'.t = b.t ∧ (i ∉ lcs → b'.cs = b.cs ∧ b'.cl = b.cl) ∧ (i ∈ lcs → b'.cl = [] ∧ ∃ b'', loc''[i]? = some b'' ∧ b'.cs = b''.cs) := by
  intro lcs
  induction lcs with
  | nil => intro vs loc h _ i b hb; simp [locsOf] at h; subst h; exact ⟨b, hb, rfl, rfl, fun _ => ⟨rfl, rfl⟩, fun h => by cases h⟩
  | cons x r ih =>
    intro vs loc h hd i b hb
    simp only [locsOf] at h
    simp only [distinct, Bool.and_eq_true, Bool.not_eq_true'] at hd
    split at h
    · rename_i bx hx
      cases hr : locsOf r loc'' with
      | none => simp [hr] at h
      | some us =>
        simp only [hr, Option.map_some, Option.some.injEq] at h
        subst h
        simp only [setLocs]
        have hxr : x ∉ r := memN_false.1 hd.1
        by_cases e : x = i
        · subst e
          rw [hb]
          have hlt : x < loc.length := by
            rcases Nat.lt_or_ge x loc.length with h | h
            · exact h
            · rw [List.getElem?_eq_none h] at hb; cases hb
          obtain ⟨b', h1, h2, h3, h5, h6⟩ := ih us (loc.set x ⟨b.k, b.t, bx.cs, []⟩) hr hd.2 x ⟨b.k, b.t, bx.cs, []⟩ (by simp [hlt])
          exact ⟨b', h1, h2, h3, fun h => absurd (by simp) h, fun _ => ⟨(h5 hxr).2, bx, hx, (h5 hxr).1⟩⟩
        · have hb' : (match loc[x]? with | some b => loc.set x ⟨b.k, b.t, bx.cs, []⟩ | none => loc)[i]? = some b := by
            split
            · rw [List.getElem?_set_ne e]; exact hb
            · exact hb
          obtain ⟨b', h1, h2, h3, h5, h6⟩ := ih us _ hr hd.2 i b hb'
          refine ⟨b', h1, h2, h3, fun h => h5 fun hm => h (by simp [hm]), fun h => ?_⟩
          rcases List.mem_cons.1 h with rfl | h
          · exact absurd rfl e
          · exact h6 h
    · cases h
theorem clean_get {D : Nat} {is : List Nat} : ∀ (n i : Nat) (loc : Loc), clean D is n i loc = true → ∀ j, j < n → ∃ b, loc[j]? = some b ∧ (i + j ∈ is ∨ D ∈ b.cl) := by
  intro n
  induction n with
  | zero => intro i loc _ j hj; omega
  | succ n ih =>
    intro i loc h j hj
    cases loc with
    | nil => simp [clean] at h
    | cons b r =>
      simp only [clean, Bool.and_eq_true, Bool.or_eq_true] at h
      cases j with
      | zero => exact ⟨b, rfl, h.1.imp memN_iff.1 memN_iff.1⟩
      | succ j =>
        obtain ⟨b', h1, h2⟩ := ih (i + 1) r h.2 j (by omega)
        exact ⟨b', by simpa using h1, by rw [show i + (j + 1) = i + 1 + j by omega]; exact h2⟩

/-- σ'' is a state that a stretch of code comes to from one that agrees with σ but for the slots and blocks that are told anew -/
structure Base (D : Nat) (ws vars lcs : List Nat) (σ σ'' : St) : Prop where
  len : σ''.env.length = σ.env.length
  env : ∀ t, t ∉ ws → t ∉ vars → σ''.env[t]? = σ.env[t]?
  loc : ∀ (i : Nat) (b : LB), σ.loc[i]? = some b → ∃ b'' : LB, σ''.loc[i]? = some b'' ∧ b''.k = b.k ∧ b''.t = b.t ∧ (i ∉ lcs → b''.cs = b.cs)

theorem head_rel {C : Ctx} {D : Nat} {ws vars lcs : List Nat} {σ σ'' : St} {tmps0 tmps : Array Value} {W0 W : World} {vs : List Value} (hR0 : Rel C σ tmps0 W0) (hR : Rel C σ'' tmps W) (hn : σ''.nw = [])
    (hB : Base D ws vars lcs σ σ'') (hv : headVals vars lcs σ'' = some vs) (hd : distinct lcs = true) : Rel C (headSt D ws vars lcs σ vs σ''.own) tmps W := by
  unfold headVals at hv
  cases ha : valsOf vars σ''.env with
  | none => simp [ha] at hv
  | some va =>
    cases hb : locsOf lcs σ''.loc with
    | none => simp [ha, hb] at hv
    | some vb =>
      simp only [ha, hb, Option.some.injEq] at hv
      subst hv
      have hva : va.length = vars.length := by
        clear hb hB hR0
        induction vars generalizing va with
        | nil => simp [valsOf] at ha; simp [ha]
        | cons t r ih =>
          simp only [valsOf] at ha
          split at ha
          · cases hr : valsOf r σ''.env with
            | none => simp [hr] at ha
            | some u => simp only [hr, Option.map_some, Option.some.injEq] at ha; subst ha; simp [ih u hr]
          · cases ha
      have e1 : (va ++ vb).take vars.length = va := by rw [← hva]; simp
      have e2 : (va ++ vb).drop vars.length = vb := by rw [← hva]; simp
      have hget : ∀ (t : Nat) (s : Slot), (setVars vars va (forget ws 0 σ.env))[t]? = some s →
          (∃ (v : Value) (al : Option (Nat × Nat)), s = Slot.mk (some v) none ∧ σ''.env[t]? = some (Slot.mk (some v) al)) ∨ s = Slot.mk none none ∨ (σ.env[t]? = some s ∧ σ''.env[t]? = some s) := by
        intro t s ht
        rcases setVars_get vars va _ ha t s ht with ⟨_, h⟩ | ⟨hm, h⟩
        · exact .inl h
        · rw [forget_get] at h
          cases hs : σ.env[t]? with
          | none => simp [hs] at h
          | some s' =>
            simp only [hs, Option.map_some, Option.some.injEq, Nat.zero_add] at h
            cases hw : memN t ws with
            | true => simp only [hw, cond_true] at h; exact .inr (.inl h.symm)
            | false =>
              simp only [hw, cond_false] at h
              subst h
              exact .inr (.inr ⟨rfl, by rw [hB.env t (memN_false.1 hw) hm]; exact hs⟩)
      have hloc : ∀ (i : Nat) (b : LB), σ.loc[i]? = some b → ∃ b' b'' : LB, (setLocs lcs vb (markLoc D σ.loc))[i]? = some b' ∧ σ''.loc[i]? = some b'' ∧ b'.k = b.k ∧ b'.ent = b''.ent := by
        intro i b hb'
        obtain ⟨b'', h1, h2, h3, h4⟩ := hB.loc i b hb'
        obtain ⟨b', g1, g2, g3, g5, g6⟩ := setLocs_get lcs vb (markLoc D σ.loc) hb hd i ⟨b.k, b.t, b.cs, D :: b.cl⟩ (by simp [markLoc, hb'])
        refine ⟨b', b'', g1, h1, g2, ?_⟩
        have hcs : b'.cs = b''.cs := by
          by_cases hm : i ∈ lcs
          · obtain ⟨_, c, hc, e⟩ := g6 hm
            rw [h1] at hc; cases hc; exact e
          · rw [(g5 hm).1, h4 hm]
        simp only [LB.ent, hcs, g2, h2, g3, h3]
      constructor
      · simp only [headSt, e1]
        rw [setVars_len, forget_len, ← hB.len]; exact hR.len
      · intro t v al ht
        simp only [headSt, e1] at ht
        rcases hget t _ ht with ⟨u, al', e, h⟩ | e | ⟨_, h⟩
        · cases e; exact hR.env t v al' h
        · cases e
        · exact hR.env t v al h
      · intro t v i j ht
        simp only [headSt, e1] at ht
        rcases hget t _ ht with ⟨u, al', e, _⟩ | e | ⟨h, _⟩
        · cases e
        · cases e
        · obtain ⟨b, hb', rfl⟩ := hR0.al t v i j h
          obtain ⟨b', b'', g1, _, g3, _⟩ := hloc i b hb'
          refine ⟨b', ?_, by rw [g3]⟩
          simp only [headSt, e2]; exact g1
      · simp only [headSt, e2, List.map_nil, List.append_nil]
        have hsep := hR.sep
        rw [hn] at hsep
        simp only [List.map_nil, List.append_nil] at hsep
        refine hsep.sub ?_
        unfold ents
        refine List.Sublist.append_right ?_ _
        have hpre : (setLocs lcs vb (markLoc D σ.loc)).map LB.ent = (σ''.loc.take σ.loc.length).map LB.ent := by
          have hl : (setLocs lcs vb (markLoc D σ.loc)).length = σ.loc.length := by rw [setLocs_len]; simp [markLoc]
          apply List.ext_getElem?
          intro i
          by_cases hi : i < σ.loc.length
          · obtain ⟨b', b'', g1, g2, _, g4⟩ := hloc i σ.loc[i] (by simp [hi])
            simp [List.getElem?_map, g1, List.getElem?_take_of_lt hi, g2, g4]
          · rw [List.getElem?_eq_none (by simp [hl]; omega), List.getElem?_eq_none (by simp; omega)]
        rw [hpre]
        exact (List.take_sublist _ _).map _
end Go.Tn
end
section
namespace Go.Tn
open Go.RowKit
set_option linter.unusedSimpArgs false
set_option linter.unusedVariables false

theorem setVars_out : ∀ (vars : List Nat) (vs : List Value) (env : Env) (t : Nat), t ∉ vars → (setVars vars vs env)[t]? = env[t]? := by
  intro vars
  induction vars with
  | nil => intro vs env t _; cases vs <;> rfl
  | cons x r ih =>
    intro vs env t ht
    cases vs with
    | nil => rfl
    | cons v vs =>
      simp only [List.mem_cons, not_or] at ht
      simp only [setVars]
      rw [ih vs _ t ht.2, List.getElem?_set_ne (Ne.symm ht.1)]
/-- what head and end have of the state ahead -/
theorem head_evol {D : Nat} {ws vars lcs : List Nat} {σ σ0 : St} {va vb : List Value} {own : Own} (hw : ∀ t, t ∈ vars → t ∈ ws) (hl : locsOf lcs σ0.loc = some vb) (hd : distinct lcs = true) :
    Evol D ws σ { env := setVars vars va (forget ws 0 σ.env), loc := setLocs lcs vb (markLoc D σ.loc), own := own, nw := [] } where
  len := by rw [setVars_len, forget_len]
  env := fun t ht => by
    rw [setVars_out vars _ _ t (fun h => ht (hw t h)), forget_get]
    cases h : σ.env[t]? with
    | none => rfl
    | some s => simp [memN_false.2 ht]
  loc := fun i b hb => by
    obtain ⟨b', g1, g2, g3, g5, g6⟩ := setLocs_get lcs vb (markLoc D σ.loc) hl hd i ⟨b.k, b.t, b.cs, D :: b.cl⟩ (by simp [markLoc, hb])
    refine ⟨b', g1, g2, g3, fun j hj hm => ?_⟩
    by_cases h : i ∈ lcs
    · rw [(g6 h).1] at hm; cases hm
    · rw [(g5 h).2] at hm
      rcases List.mem_cons.1 hm with e | hm
      · omega
      · exact ⟨hm, (g5 h).1⟩
theorem headVals_split {vars lcs : List Nat} {σ : St} {vs : List Value} (h : headVals vars lcs σ = some vs) : ∃ va vb, valsOf vars σ.env = some va ∧ locsOf lcs σ.loc = some vb ∧ vs = va ++ vb ∧ va.length = vars.length := by
  unfold headVals at h
  cases ha : valsOf vars σ.env with
  | none => simp [ha] at h
  | some va =>
    cases hb : locsOf lcs σ.loc with
    | none => simp [ha, hb] at h
    | some vb =>
      simp only [ha, hb, Option.some.injEq] at h
      refine ⟨va, vb, rfl, rfl, h.symm, ?_⟩
      clear hb h
      induction vars generalizing va with
      | nil => simp [valsOf] at ha; simp [ha]
      | cons t r ih =>
        simp only [valsOf] at ha
        split at ha
        · cases hr : valsOf r σ.env with
          | none => simp [hr] at ha
          | some u => simp only [hr, Option.map_some, Option.some.injEq] at ha; subst ha; simp [ih u hr]
        · cases ha
theorem head_evol' {D : Nat} {ws vars lcs : List Nat} {σ σ0 : St} {vs : List Value} {own : Own} (hw : ∀ t, t ∈ vars → t ∈ ws) (hv : headVals vars lcs σ0 = some vs) (hd : distinct lcs = true) :
    Evol D ws σ (headSt D ws vars lcs σ vs own) := by
  obtain ⟨va, vb, h1, h2, rfl, h4⟩ := headVals_split hv
  have e1 : (va ++ vb).take vars.length = va := by rw [← h4]; simp
  have e2 : (va ++ vb).drop vars.length = vb := by rw [← h4]; simp
  simp only [headSt, e1, e2]
  exact head_evol hw h2 hd
/-- what stands at the end of the stretch, seen from the state ahead -/
theorem base_of {D : Nat} {ws vars lcs : List Nat} {σ σm σ'' : St} (hm : ∀ (i : Nat) (b : LB), σ.loc[i]? = some b → ∃ b' : LB, σm.loc[i]? = some b' ∧ b'.k = b.k ∧ b'.t = b.t ∧ (i ∉ lcs → b'.cs = b.cs))
    (he : ∀ t, t ∉ ws → t ∉ vars → σm.env[t]? = σ.env[t]?) (hlen : σm.env.length = σ.env.length) (hev : Evol (D + 1) ws σm σ'') (hc : clean D lcs σ.loc.length 0 σ''.loc = true) : Base D ws vars lcs σ σ'' where
  len := hev.len.trans hlen
  env := fun t h1 h2 => (hev.env t h1).trans (he t h1 h2)
  loc := fun i b hb => by
    obtain ⟨b', h1, h2, h3, h4⟩ := hm i b hb
    obtain ⟨b'', g1, g2, g3, g4⟩ := hev.loc i b' h1
    refine ⟨b'', g1, g2.trans h2, g3.trans h3, fun hn => ?_⟩
    have hi : i < σ.loc.length := by
      rcases Nat.lt_or_ge i σ.loc.length with h | h
      · exact h
      · rw [List.getElem?_eq_none h] at hb; cases hb
    obtain ⟨c, hc1, hc2⟩ := clean_get σ.loc.length 0 σ''.loc hc i hi
    rw [g1] at hc1
    cases hc1
    rw [Nat.zero_add] at hc2
    rcases hc2 with h | h
    · exact absurd h hn
    · rw [(g4 D (by omega) h).2, h4 hn]
theorem headSt_parts {D : Nat} {ws vars lcs : List Nat} {σ σ0 : St} {vs : List Value} {own : Own} (hv : headVals vars lcs σ0 = some vs) (hd : distinct lcs = true) :
    (∀ (i : Nat) (b : LB), σ.loc[i]? = some b → ∃ b' : LB, (headSt D ws vars lcs σ vs own).loc[i]? = some b' ∧ b'.k = b.k ∧ b'.t = b.t ∧ (i ∉ lcs → b'.cs = b.cs)) ∧
    (∀ t, t ∉ ws → t ∉ vars → (headSt D ws vars lcs σ vs own).env[t]? = σ.env[t]?) ∧ (headSt D ws vars lcs σ vs own).env.length = σ.env.length := by
  obtain ⟨va, vb, h1, h2, rfl, h4⟩ := headVals_split hv
  have e1 : (va ++ vb).take vars.length = va := by rw [← h4]; simp
  have e2 : (va ++ vb).drop vars.length = vb := by rw [← h4]; simp
  simp only [headSt, e1, e2]
  refine ⟨fun i b hb => ?_, fun t ht1 ht2 => ?_, by rw [setVars_len, forget_len]⟩
  · obtain ⟨b', g1, g2, g3, g5, g6⟩ := setLocs_get lcs vb (markLoc D σ.loc) h2 hd i ⟨b.k, b.t, b.cs, D :: b.cl⟩ (by simp [markLoc, hb])
    exact ⟨b', g1, g2, g3, fun h => (g5 h).1⟩
  · rw [setVars_out vars _ _ t ht2, forget_get]
    cases h : σ.env[t]? with
    | none => rfl
    | some s => simp [memN_false.2 ht1]

def PostC (C : Ctx) (D : Nat) (ws : List Nat) (a : Act) (σ : St) (Q : Exit → St → Prop) (e : Exit) (a' : Act) (W' : World) : Prop :=
  a'.defers = a.defers ∧ ∃ σ', Q e σ' ∧ σ'.nw = [] ∧ Rel C σ' a'.tmps W' ∧ Evol D ws σ σ'

theorem code_sound {C : Ctx} (hC : TabOk C.P C.tab) (hm : C.P.follows .mixedOrders = true) : ∀ (c : Code) (x : Ann) (D : Nat) (σ : St) (a : Act) (W : World) (Q : Exit → St → Prop),
    Rel C σ a.tmps W → σ.nw = [] → codeT C c x D σ Q → c.wp C.P (PostC C D (writes c) a σ Q) a W := by
  intro c
  induction c with
  | skip => intro x D σ a W Q hR hn h; exact wp_skip ⟨rfl, σ, h, hn, hR, .refl σ⟩
  | ret => intro x D σ a W Q hR hn h; exact wp_ret ⟨rfl, σ, h, hn, hR, .refl σ⟩
  | exit id => intro x D σ a W Q hR hn h; exact wp_exit ⟨rfl, σ, h, hn, hR, .refl σ⟩
  | region id ops draw =>
    intro x D σ a W Q hR hn h
    cases draw with
    | false =>
      refine wp_region_list ?_
      exact reg_seq (D := D) hC ops.toList σ a W hR hn h fun a' W' σ' hd hk hn' hR' hev => ⟨hd, σ', hk, hn', hR', hev⟩
    | true =>
      cases x with
      | draw ord => exact reg_draw (D := D) hC hm hR hn h fun a' W' σ' hd hk hn' hR' hev => ⟨hd, σ', hk, hn', hR', hev⟩
      | _ => exact h.elim
  | seq p q ihp ihq =>
    intro x D σ a W Q hR hn h
    cases x with
    | seq x y =>
      refine wp_seq (Code.wp_mono ?_ (ihp x D σ a W _ hR hn h))
      rintro e a' W' ⟨hd, σ', hk, hn', hR', hev⟩
      have hev' : Evol D (writes (.seq p q)) σ σ' := hev.mono (Nat.le_refl D) fun t ht => by simp [writes, ht]
      cases e with
      | normal =>
        refine Code.wp_mono ?_ (ihq y D σ' a' W' Q hR' hn' hk)
        rintro e a'' W'' ⟨hd', σ'', hk', hn'', hR'', hev2⟩
        exact ⟨hd'.trans hd, σ'', hk', hn'', hR'', hev'.trans (hev2.mono (Nat.le_refl D) fun t ht => by simp [writes, ht])⟩
      | exit id => exact ⟨hd, σ', hk, hn', hR', hev'⟩
      | goto l => exact ⟨hd, σ', hk, hn', hR', hev'⟩
      | ret => exact ⟨hd, σ', hk, hn', hR', hev'⟩
      | panic ch => exact ⟨hd, σ', hk, hn', hR', hev'⟩
      | outgrown => exact ⟨hd, σ', hk, hn', hR', hev'⟩
    | cut vars lcs x y =>
      simp only [codeT] at h
      cases hchk : (distinct (lcs.map (·.1)) && vars.all fun p' => memN p'.1 (writes p)) with
      | false => rw [hchk] at h; exact h.elim
      | true =>
        rw [hchk] at h
        simp only [cond_true] at h
        simp only [Bool.and_eq_true] at hchk
        have hvw : ∀ t, t ∈ vars.map (·.1) → t ∈ writes p := fun t ht => by
          obtain ⟨v, hv, rfl⟩ := List.mem_map.1 ht
          exact memN_iff.1 (List.all_eq_true.1 hchk.2 v hv)
        obtain ⟨J, h1, h2⟩ := h
        have hR1 : Rel C { σ with loc := markLoc D σ.loc } a.tmps W := by
          constructor
          · exact hR.len
          · exact hR.env
          · intro t v i j ht
            obtain ⟨b, hb, e⟩ := hR.al t v i j ht
            exact ⟨⟨b.k, b.t, b.cs, D :: b.cl⟩, by simp [markLoc, hb], e⟩
          · have := hR.sep
            have e : ents (markLoc D σ.loc) σ.own = ents σ.loc σ.own := by simp [ents, markLoc, LB.ent, Function.comp_def]
            simp only [e]; exact this
        have hev1 : Evol D (writes p) σ { σ with loc := markLoc D σ.loc } := ⟨rfl, fun _ _ => rfl, fun i b hb => ⟨⟨b.k, b.t, b.cs, D :: b.cl⟩, by simp [markLoc, hb], rfl, rfl, fun j hj hm => by
          rcases List.mem_cons.1 hm with e | hm
          · omega
          · exact ⟨hm, rfl⟩⟩⟩
        refine wp_seq (Code.wp_mono ?_ (ihp x (D + 1) _ a W _ hR1 hn h1))
        rintro e a' W' ⟨hd, σ', hk, hn', hR', hev⟩
        have hev' : Evol D (writes (.seq p q)) σ σ' := (hev1.trans (hev.mono (by omega) fun t ht => ht)).mono (Nat.le_refl D) fun t ht => by simp [writes, ht]
        cases e with
        | normal =>
          simp only [Exit.then]
          dsimp only at hk
          cases hcl : clean D (lcs.map (·.1)) σ.loc.length 0 σ'.loc with
          | false => rw [hcl] at hk; exact hk.elim
          | true =>
            rw [hcl] at hk
            simp only [cond_true] at hk
            split at hk
            · rename_i vs hvs
              have hcont := allInv_at h2 hk
              have hB : Base D (writes p) (vars.map (·.1)) (lcs.map (·.1)) σ σ' := base_of (σm := { σ with loc := markLoc D σ.loc }) (fun i b hb => ⟨⟨b.k, b.t, b.cs, D :: b.cl⟩, by simp [markLoc, hb], rfl, rfl, fun _ => rfl⟩) (fun _ _ _ => rfl) rfl hev hcl
              have hRh := head_rel hR hR' hn' hB hvs hchk.1
              refine Code.wp_mono ?_ (ihq y D _ a' W' Q hRh rfl hcont)
              rintro e a'' W'' ⟨hd', σ'', hk', hn'', hR'', hev2⟩
              refine ⟨hd'.trans hd, σ'', hk', hn'', hR'', ?_⟩
              exact ((head_evol' hvw hvs hchk.1).mono (Nat.le_refl D) fun t ht => by simp [writes, ht]).trans (hev2.mono (Nat.le_refl D) fun t ht => by simp [writes, ht])
            · exact hk.elim
        | exit id => exact ⟨hd, σ', hk, hn', hR', hev'⟩
        | goto l => exact ⟨hd, σ', hk, hn', hR', hev'⟩
        | ret => exact ⟨hd, σ', hk, hn', hR', hev'⟩
        | panic ch => exact ⟨hd, σ', hk, hn', hR', hev'⟩
        | outgrown => exact ⟨hd, σ', hk, hn', hR', hev'⟩
    | _ => exact h.elim
  | cond g p q ihp ihq =>
    intro x D σ a W Q hR hn h
    cases x with
    | cond x y =>
      simp only [codeT] at h
      split at h
      · rename_i t al hs
        have hg := slot_eval hR.env hs
        cases t with
        | true =>
          refine wp_cond_true hg (Code.wp_mono ?_ (ihp x D σ a W Q hR hn h))
          rintro e a' W' ⟨hd, σ', hk, hn', hR', hev⟩
          exact ⟨hd, σ', hk, hn', hR', hev.mono (Nat.le_refl D) fun t ht => by simp [writes, ht]⟩
        | false =>
          refine wp_cond_false hg (Code.wp_mono ?_ (ihq y D σ a W Q hR hn h))
          rintro e a' W' ⟨hd, σ', hk, hn', hR', hev⟩
          exact ⟨hd, σ', hk, hn', hR', hev.mono (Nat.le_refl D) fun t ht => by simp [writes, ht]⟩
      · exact h.elim
    | _ => exact h.elim
  | block id p ih =>
    intro x D σ a W Q hR hn h
    cases x with
    | block x =>
      refine wp_block (Code.wp_mono ?_ (ih x D σ a W _ hR hn h))
      rintro e a' W' ⟨hd, σ', hk, hn', hR', hev⟩
      cases e with
      | normal => exact ⟨hd, σ', hk, hn', hR', hev⟩
      | exit j =>
        dsimp only at hk
        simp only [Exit.inBlock]
        cases hj : Nat.beq j id with
        | true =>
          rw [hj] at hk
          rw [if_pos (Nat.eq_of_beq_eq_true hj)]
          exact ⟨hd, σ', hk, hn', hR', hev⟩
        | false =>
          rw [hj] at hk
          rw [if_neg (by intro e; subst e; simp at hj)]
          exact ⟨hd, σ', hk, hn', hR', hev⟩
      | goto l => exact ⟨hd, σ', hk, hn', hR', hev⟩
      | ret => exact ⟨hd, σ', hk, hn', hR', hev⟩
      | panic ch => exact ⟨hd, σ', hk, hn', hR', hev⟩
      | outgrown => exact ⟨hd, σ', hk, hn', hR', hev⟩
    | _ => exact h.elim
  | loop p ih =>
    intro x D σ a W Q hR hn h
    cases x with
    | loop vars lcs x =>
      simp only [codeT] at h
      cases hchk : (distinct (lcs.map (·.1)) && vars.all fun p' => memN p'.1 (writes p)) with
      | false => rw [hchk] at h; exact h.elim
      | true =>
        rw [hchk] at h
        simp only [cond_true] at h
        simp only [Bool.and_eq_true] at hchk
        have hvw : ∀ t, t ∈ vars.map (·.1) → t ∈ writes p := fun t ht => by
          obtain ⟨v, hv, rfl⟩ := List.mem_map.1 ht
          exact memN_iff.1 (List.all_eq_true.1 hchk.2 v hv)
        split at h
        · rename_i vs0 hvs0
          obtain ⟨I, μ, h0, hb⟩ := h
          refine wp_loop_ghost (fun n a' W' => a'.defers = a.defers ∧ ∃ vs own σ0, headVals (vars.map (·.1)) (lcs.map (·.1)) σ0 = some vs ∧ I.at _ vs own ∧ μ.at _ vs own = n ∧
            Rel C (headSt D (writes p) (vars.map (·.1)) (lcs.map (·.1)) σ vs own) a'.tmps W') (μ.at _ vs0 σ.own) ?_ ?_
          · refine ⟨rfl, vs0, σ.own, σ, hvs0, h0, rfl, ?_⟩
            exact head_rel hR hR hn ⟨rfl, fun _ _ _ => rfl, fun i b hb => ⟨b, hb, rfl, rfl, fun _ => rfl⟩⟩ hvs0 hchk.1
          · rintro n a' W' ⟨hd, vs, own, σ0, hv0, hi, rfl, hRh⟩
            have hbody := allInv_at hb hi
            refine Code.wp_mono ?_ (ih x (D + 1) _ a' W' _ hRh rfl hbody)
            rintro e a'' W'' ⟨hd', σ', hk, hn', hR', hev⟩
            obtain ⟨p1, p2, p3⟩ := headSt_parts (D := D) (ws := writes p) (σ := σ) (own := own) hv0 hchk.1
            have hev' : Evol D (writes (.loop p)) σ σ' := (head_evol' hvw hv0 hchk.1).trans (hev.mono (by omega) fun t ht => ht)
            cases e with
            | normal =>
              dsimp only at hk
              simp only [Exit.then]
              cases hcl : clean D (lcs.map (·.1)) σ.loc.length 0 σ'.loc with
              | false => rw [hcl] at hk; exact hk.elim
              | true =>
                rw [hcl] at hk
                simp only [cond_true] at hk
                split at hk
                · rename_i vs' hvs'
                  refine ⟨_, hk.2, hd'.trans hd, vs', σ'.own, σ', hvs', hk.1, rfl, ?_⟩
                  exact head_rel hR hR' hn' (base_of p1 p2 p3 hev hcl) hvs' hchk.1
                · exact hk.elim
            | exit id => exact ⟨hd'.trans hd, σ', hk, hn', hR', hev'⟩
            | goto l => exact ⟨hd'.trans hd, σ', hk, hn', hR', hev'⟩
            | ret => exact ⟨hd'.trans hd, σ', hk, hn', hR', hev'⟩
            | panic ch => exact ⟨hd'.trans hd, σ', hk, hn', hR', hev'⟩
            | outgrown => exact ⟨hd'.trans hd, σ', hk, hn', hR', hev'⟩
        · exact h.elim
    | _ => exact h.elim
  | _ => intro x D σ a W Q hR hn h; cases x <;> exact h.elim

/-! ### a call -/
def resT (C : Ctx) : List ResultVar → St → Option (List Value)
  | [], _ => some []
  | .tmp t :: r, σ => match σ.env.getD t ⟨none, none⟩ with | ⟨some v, _⟩ => (resT C r σ).map (v :: ·) | _ => none
  | .cell t ty :: r, σ => match σ.env.getD t ⟨none, none⟩ with
    | ⟨_, some (i, o)⟩ => match σ.loc[i]? with
      | some b => match loadL C ty b.cs o with | some v => (resT C r σ).map (v :: ·) | none => none
      | none => none
    | _ => none
def one : List Value → Value
  | [v] => v
  | vs => .tuple ⟨vs⟩
/-- the end of a call: its value, and the memory behind it -/
def Fin (C : Ctx) (R : Value → World → Prop) (v : Value) (own : Own) : Prop := ∀ W', Sep C.w0 C.mt own W' → R v W'
def retT (C : Ctx) (rs : List ResultVar) (R : Value → World → Prop) (e : Exit) (σ : St) : Prop :=
  match e with
  | .normal | .ret => match resT C rs σ with | some vs => Fin C R (one vs) σ.own | none => False
  | _ => False
def startSt (args : List Value) (n : Nat) (own : Own) : St := ⟨args.map (fun v => ⟨some v, none⟩) ++ List.replicate (n - args.length) undefS, [], own, []⟩
/-- THE FORMULA OF A FUNCTION: what is to be proved of a call -/
@[irreducible] def funT (C : Ctx) (fn : Func) (x : Ann) (args : List Value) (own : Own) (R : Value → World → Prop) : Prop :=
  match fn.body with
  | some c => codeT C c x 0 (startSt args fn.ntmps own) (retT C fn.results.toList R)
  | none => False

def rvSem (tmps : Array Value) : ResultVar → Sem Value
  | .tmp t => pure (tmps.getD t undef)
  | .cell x t => do loadVar t (← asAddr (tmps.getD x undef))
theorem results_eq (fn : Func) (tmps : Array Value) : results fn tmps = (do
    let vs ← fn.results.mapM (rvSem tmps)
    pure (if h : vs.size = 1 then vs[0] else .tuple vs)) := by
  unfold results
  congr 1
theorem res_run {C : Ctx} (hC : TabOk C.P C.tab) {σ : St} {a : Act} {W : World} (hR : Rel C σ a.tmps W) (hn : σ.nw = []) : ∀ (rs : List ResultVar) (vs : List Value), resT C rs σ = some vs →
    (rs.mapM (rvSem a.tmps)).run C.P W = .ok vs W := by
  intro rs
  induction rs with
  | nil => intro vs h; simp [resT] at h; simp [h]
  | cons r rs ih =>
    intro vs h
    have hS : Sep C.w0 C.mt (ents σ.loc σ.own ++ []) W := by have := hR.sep; rw [hn] at this; simpa using this
    cases r with
    | tmp t =>
      simp only [resT] at h
      split at h
      · rename_i v al hs
        cases hr : resT C rs σ with
        | none => simp [hr] at h
        | some us =>
          simp only [hr, Option.map_some, Option.some.injEq] at h
          subst h
          have hv : a.tmps.getD t undef = v := slot_eval (x := .tmp t) hR.env hs
          simp only [List.mapM_cons, rvSem, Sem.run_bind, Sem.run_pure, Result.andThen_ok, hv, ih us hr]
      · cases h
    | cell x t =>
      simp only [resT] at h
      split at h
      · rename_i v i o hs
        obtain ⟨b, hb, rfl⟩ := slot_al (x := .tmp x) hR.al hs
        have hv : a.tmps.getD x undef = .pointer (some ⟨b.k, o, none⟩) := slot_eval (x := .tmp x) hR.env hs
        simp only [hb] at h
        split at h
        · rename_i u hu
          cases hr : resT C rs σ with
          | none => simp [hr] at h
          | some us =>
            simp only [hr, Option.map_some, Option.some.injEq] at h
            subst h
            have hl := run_loadL hC (sep_loc hS hb) hu
            simp only [List.mapM_cons, rvSem, Sem.run_bind, Sem.run_pure, Result.andThen_ok, hv, asAddr, hl, ih us hr]
        · cases h
      · cases h

theorem calls_of_T {C : Ctx} (hC : TabOk C.P C.tab) (hm : C.P.follows .mixedOrders = true) {f : FuncId} {fn : Func} {x : Ann} {args : List Value} {own : Own} {R : Value → World → Prop} {W : World}
    (hf : C.P.funcs[f]? = some fn) (hS : Sep C.w0 C.mt own W) (h : funT C fn x args own R) : Calls C.P f ⟨args⟩ W fun e W' => ∃ v, e = .returned v ∧ R v W' := by
  unfold funT at h
  cases hb : fn.body with
  | none => rw [hb] at h; exact h.elim
  | some c =>
    rw [hb] at h
    refine calls_of_wp hf hb ?_
    have hR : Rel C (startSt args fn.ntmps own) ((⟨args⟩ : Array Value) ++ Array.replicate (fn.ntmps - (⟨args⟩ : Array Value).size) undef) W := by
      constructor
      · simp [startSt]
      · intro t v al ht
        simp only [startSt] at ht
        rw [Array.getElem?_append]
        rw [List.getElem?_append] at ht
        simp only [List.length_map] at ht
        split at ht
        · rename_i hlt
          rw [if_pos (by simpa using hlt)]
          rw [List.getElem?_map] at ht
          cases ha : args[t]? with
          | none => simp [ha] at ht
          | some u => simp [ha] at ht; simp [ha, ht.1]
        · rename_i hge
          rw [if_neg (by simpa using hge)]
          have := List.mem_of_getElem? ht
          have e := List.eq_of_mem_replicate this
          cases e
          have hlt : t - args.length < fn.ntmps - args.length := by
            rcases Nat.lt_or_ge (t - args.length) (fn.ntmps - args.length) with h | h
            · exact h
            · rw [List.getElem?_eq_none (by simpa using h)] at ht; cases ht
          simp [hlt]
      · intro t v i j ht
        simp only [startSt] at ht
        have := List.mem_of_getElem? ht
        rcases List.mem_append.1 this with h | h
        · obtain ⟨u, _, e⟩ := List.mem_map.1 h; cases e
        · have e := List.eq_of_mem_replicate h; cases e
      · simpa [startSt, ents] using hS
    refine Code.wp_mono ?_ (code_sound hC hm c x 0 _ { tmps := (⟨args⟩ : Array Value) ++ Array.replicate (fn.ntmps - (⟨args⟩ : Array Value).size) undef, defers := [] } W _ hR rfl h)
    rintro e a' W' ⟨hd, σ', hk, hn', hR', _⟩
    have key : ∀ vs, resT C fn.results.toList σ' = some vs → Fin C R (one vs) σ'.own → (results fn a'.tmps).run C.P W' = .ok (one vs) W' ∧ R (one vs) W' := by
      intro vs hvs hfin
      constructor
      · have := res_run hC hR' hn' _ _ hvs
        rw [results_eq, Array.mapM_eq_mapM_toList]
        simp only [Sem.run_bind, Sem.run_map]
        rw [this]
        simp only [Result.andThen_ok, Sem.run_pure]
        congr 1
        match vs with
        | [] => rfl
        | [v] => rfl
        | v :: u :: r => simp [one]
      · refine hfin W' ?_
        have := hR'.sep
        rw [hn'] at this
        simp only [List.map_nil, List.append_nil, ents] at this
        exact this.sub (List.sublist_append_right _ _)
    cases e with
    | normal =>
      simp only [retT] at hk
      split at hk
      · rename_i vs hvs
        obtain ⟨h1, h2⟩ := key vs hvs hk
        exact ⟨hd, _, h1, _, rfl, h2⟩
      · exact hk.elim
    | ret =>
      simp only [retT] at hk
      split at hk
      · rename_i vs hvs
        obtain ⟨h1, h2⟩ := key vs hvs hk
        exact ⟨hd, _, h1, _, rfl, h2⟩
      · exact hk.elim
    | exit id => exact hk.elim
    | goto l => exact hk.elim
    | panic ch => exact hk.elim
    | outgrown => exact hk.elim
end Go.Tn
end
