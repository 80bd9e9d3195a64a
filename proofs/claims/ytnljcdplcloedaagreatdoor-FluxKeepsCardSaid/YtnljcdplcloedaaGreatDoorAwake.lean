/- Walks of the recon statements helpers: flat, awake and net answer as told, for every question. -/
import Derived.Test.YtnljcdplcloedaaGreatDoorDep
namespace Go.Proofs.YtnljcdplcloedaaGreatDoor
open Go Go.Tn Go.RowKit
set_option linter.unusedVariables false
set_option linter.unusedSimpArgs false
set_option maxRecDepth 100000
set_option maxHeartbeats 2000000

def wl93 (g : Net) (d : List Int) (c : Nat) : Int := IntKind.wrap .i64 (d.getD c 0 * g.area c)
def flat93 (g : Net) (d : List Int) : List Int := (List.range 6).map (wl93 g d)
theorem iCells_at {d : List Int} {k : Nat} (h : k < d.length) : (iCells d)[k]? = some (.int .i64 (d.getD k 0)) := by
  rw [iCells, List.getElem?_map, List.getD_eq_getElem?_getD, List.getElem?_eq_getElem h]; rfl

-- tarn/tarnlaw12.flat
def loc93_0 (k4 : Nat) (k5 : Nat) (k7 : Nat) (k8 : Nat) (k9 : Nat) : Tn.Loc := [⟨k4, 25, [.slice none 0 0, .slice none 0 0, .slice none 0 0, .slice none 0 0, .int .i64 0, .int .i64 0], []⟩, ⟨k5, 25, [.slice (some ⟨k7, 0, none⟩) (Int.toNat (6 : Int)) (Int.toNat (6 : Int)), .slice (some ⟨k8, 0, none⟩) (Int.toNat (6 : Int)) (Int.toNat (6 : Int)), .slice none 0 0, .slice (some ⟨k9, 0, none⟩) (Int.toNat (12 : Int)) (Int.toNat (12 : Int)), .int .i64 0, .int .i64 0], []⟩]
def an93 : Ann := (.seq .leaf (.seq (.draw [0, 1, 2, 3, 4, 5]) (.seq (.seq .leaf (.block (.loop [(6, .one (.int .i64))] [] (.seq (.seq .leaf (.cond .leaf .leaf)) (.seq (.block (.draw [0, 1, 2, 3, 4, 5, 6, 7, 8, 9, 10, 11])) .leaf))))) (.seq .leaf .leaf))))
noncomputable def q93 (w0 : World) (g : Addr) (depths_0 : Int) (depths_1 : Int) (depths_2 : Int) (depths_3 : Int) (depths_4 : Int) (depths_5 : Int) (R : Value → World → Prop) : Prop :=
  (∀ k3 : Nat, (∀ k4 : Nat, ((0 ≤ (6 : Int) ∧ (6 : Int) ≤ (6 : Int) ∧ (6 : Int) < 2 ^ 46 ∧ ((8 : Nat) : Int) * (6 : Int) ≤ 2 ^ 47) ∧ ∀ k7 : Nat, ((0 ≤ (6 : Int) ∧ (6 : Int) ≤ (6 : Int) ∧ (6 : Int) < 2 ^ 46 ∧ ((8 : Nat) : Int) * (6 : Int) ≤ 2 ^ 47) ∧ ∀ k8 : Nat, ((0 ≤ (12 : Int) ∧ (12 : Int) ≤ (12 : Int) ∧ (12 : Int) < 2 ^ 46 ∧ ((8 : Nat) : Int) * (12 : Int) ≤ 2 ^ 47) ∧ ∀ k9 : Nat, (∀ k5 : Nat, (∃ (I6 : Int → Own → Prop) (μ6 : Int → Own → Nat), I6 (0 : Int) ((k9, .cells ⟨List.replicate (Int.toNat (12 : Int)) (.float .f64 0)⟩ 44) :: ((k8, .cells ⟨List.replicate (Int.toNat (6 : Int)) (.int .i64 0)⟩ 2) :: ((k7, .cells ⟨List.replicate (Int.toNat (6 : Int)) (.float .f64 0)⟩ 44) :: ((k3, .cells ⟨[.int .i64 depths_0, .int .i64 depths_1, .int .i64 depths_2, .int .i64 depths_3, .int .i64 depths_4, .int .i64 depths_5]⟩ 120) :: [])))) ∧ ∀ n6 : Int, ∀ own6 : Own, I6 n6 own6 → (cond (decide (n6 < (6 : Int))) ((0 ≤ n6 ∧ n6 < ((6 : Nat) : Int)) ∧ (∃ n20 : Int, LoadsTo (cx w0 [] [3]) (loc93_0 k4 k5 k7 k8 k9) own6 2 (Addr.add ⟨k3, 0, none⟩ (Int.toNat n6 * 1)) (.int .i64 n20) ∧ (∃ n23 : Int, CallV (cx w0 [] [3]) (loc93_0 k4 k5 k7 k8 k9) own6 74 [.pointer (some g), .int .i64 n6] (.int .i64 n23) ∧ (∃ ad25 : Addr, (some ⟨k8, 0, none⟩) = some ad25 ∧ (0 ≤ n6 ∧ n6 < ((Int.toNat (6 : Int) : Nat) : Int)) ∧ (∃ own20 : Own, StoresTo (cx w0 [] [3]) (loc93_0 k4 k5 k7 k8 k9) own6 2 (Addr.add ad25 (Int.toNat n6 * 1)) (.int .i64 (IntKind.wrap .i64 (n20 * n23))) own20 ∧ I6 (IntKind.wrap .i64 (n6 + (1 : Int))) own20 ∧ μ6 (IntKind.wrap .i64 (n6 + (1 : Int))) own20 < μ6 n6 own6))))) (Fin (cx w0 [] [3]) R (.agg ⟨[.slice (some ⟨k7, 0, none⟩) (Int.toNat (6 : Int)) (Int.toNat (6 : Int)), .slice (some ⟨k8, 0, none⟩) (Int.toNat (6 : Int)) (Int.toNat (6 : Int)), .slice none 0 0, .slice (some ⟨k9, 0, none⟩) (Int.toNat (12 : Int)) (Int.toNat (12 : Int)), .int .i64 0, .int .i64 0]⟩) own6)))))))))
theorem q93_eq (w0 : World) (g : Addr) (depths_0 : Int) (depths_1 : Int) (depths_2 : Int) (depths_3 : Int) (depths_4 : Int) (depths_5 : Int) (R : Value → World → Prop) : funT (cx w0 [] [3]) Tryz.f93 an93 [.pointer (some g), .agg ⟨[.int .i64 depths_0, .int .i64 depths_1, .int .i64 depths_2, .int .i64 depths_3, .int .i64 depths_4, .int .i64 depths_5]⟩] [] R = q93 w0 g depths_0 depths_1 depths_2 depths_3 depths_4 depths_5 R := by kernel_rfl
theorem d93 (W : World) (g : Addr) (depths_0 : Int) (depths_1 : Int) (depths_2 : Int) (depths_3 : Int) (depths_4 : Int) (depths_5 : Int) {R : Value → World → Prop} (h : q93 W g depths_0 depths_1 depths_2 depths_3 depths_4 depths_5 R) : Does Tryz.prog 93 [.pointer (some g), .agg ⟨[.int .i64 depths_0, .int .i64 depths_1, .int .i64 depths_2, .int .i64 depths_3, .int .i64 depths_4, .int .i64 depths_5]⟩] W R :=
  does_of_T (fn := Tryz.f93) (x := an93) (dyn := [3]) (by kernel_rfl) (by kernel_rfl) (sep_self W) (Eq.mpr (q93_eq W g depths_0 depths_1 depths_2 depths_3 depths_4 depths_5 R) h)

theorem p93 (p : Addr) (g : Net) (d0 d1 d2 d3 d4 d5 : Int) : NewP (LG p g) 93 [.pointer (some p), .agg ⟨[.int .i64 d0, .int .i64 d1, .int .i64 d2, .int .i64 d3, .int .i64 d4, .int .i64 d5]⟩] fun v X' => ∃ k1 k2 k4, v = .agg ⟨[.slice (some ⟨k1, 0, none⟩) 6 6, .slice (some ⟨k2, 0, none⟩) 6 6, .slice none 0 0, .slice (some ⟨k4, 0, none⟩) 12 12, .int .i64 0, .int .i64 0]⟩ ∧
    X' = [(k4, .cells ⟨List.replicate 12 (.float .f64 0)⟩ 44), (k2, .cells ⟨iCells (flat93 g [d0, d1, d2, d3, d4, d5])⟩ 2), (k1, .cells ⟨List.replicate 6 (.float .f64 0)⟩ 44)] := by
  intro W hLG
  refine d93 W p d0 d1 d2 d3 d4 d5 fun k3 k4 => ⟨by decide, fun k7 => ⟨by decide, fun k8 => ⟨by decide, fun k9 k5 => ?_⟩⟩⟩
  generalize hd : [d0, d1, d2, d3, d4, d5] = d
  have hdl : d.length = 6 := by rw [← hd]; rfl
  have hdc : ([.int .i64 d0, .int .i64 d1, .int .i64 d2, .int .i64 d3, .int .i64 d4, .int .i64 d5] : List Value) = iCells d := by rw [← hd]; rfl
  rw [hdc]
  refine ⟨fun i own => ∃ k : Nat, i = (k : Int) ∧ k ≤ 6 ∧ own = [(k9, .cells ⟨List.replicate 12 (.float .f64 0)⟩ 44), (k8, .cells ⟨iCells ((List.range k).map (wl93 g d)) ++ List.replicate (6 - k) (.int .i64 0)⟩ 2), (k7, .cells ⟨List.replicate 6 (.float .f64 0)⟩ 44), (k3, .cells ⟨iCells d⟩ 120)], fun i _ => ((6 : Int) - i).toNat, ⟨0, rfl, by decide, rfl⟩, ?_⟩
  rintro i own ⟨k, rfl, hk, rfl⟩
  refine cond_split (fun h => ?_) fun h => ?_
  · have hk' : k < 6 := by have := of_decide_eq_true h; omega
    obtain ⟨m, hm⟩ : ∃ m, 6 - k = m + 1 := ⟨6 - k - 1, by omega⟩
    rw [hm]
    have el : k = (iCells ((List.range k).map (wl93 g d))).length := by simp [iCells]
    refine ⟨⟨by omega, by omega⟩, d.getD k 0, ?_, _, (p74 p g k).callG hLG, _, rfl, ⟨by omega, by show (k : Int) < ((6 : Nat) : Int); omega⟩, _, stores_fill (pre := [(k9, _)]) (post := [(k7, _), (k3, _)]) (m := m) (A := iCells ((List.range k).map (wl93 g d))) (z := .int .i64 0) (ty := 2) rfl el rfl rfl ⟨_, rfl, rfl⟩, ⟨k + 1, wrap_succ (by omega), hk', ?_⟩, mu_lt (n := 6) hk' (by omega)⟩
    · rw [Tn.add_none, Nat.zero_add, Nat.mul_one, toNat_nat]
      exact loads_own (.tail _ (.tail _ (.tail _ (.tail _ (.tail _ (.head _)))))) (by rw [ld2]; exact iCells_at (by omega))
    · rw [map_range_succ, show 6 - (k + 1) = m by omega]
      simp [iCells, wl93]
  · have hk' : k = 6 := by have := of_decide_eq_false h; omega
    subst hk'
    refine fun W' hS' => ⟨_, ⟨k7, k8, k9, rfl, rfl⟩, ?_⟩
    rw [Nat.sub_self, List.replicate_zero, List.append_nil] at hS'
    exact hS'.sub (.cons_cons _ (.cons_cons _ (.cons_cons _ (.cons _ .slnil))))



def wat28 : List Int := flat93 (netOf 1) [2, 1, 1, 4, 1, 1]
theorem l28a : (f64.order (s49 (netOf 1) (List.replicate 6 0) wat28 0 0 oneF) 4611686018427387904 == some .eq) = true := by kernel_rfl
theorem l28b : (f64.order (s49 (netOf 1) (List.replicate 6 0) wat28 1 0 oneF) 4609434218613702656 == some .eq) = true := by kernel_rfl
theorem l28c : (f64.order (s49 (netOf 1) (List.replicate 6 0) wat28 2 0 4598175219545276416) 4607182418800017408 == some .eq) = true := by kernel_rfl
theorem l28d : ((s49 (netOf 1) (List.replicate 6 0) wat28 0 0 0) == 0) = true := by kernel_rfl

-- tarn/tarnlaw12.awake
def loc28_0 (k3 : Nat) (a16_0 : Option Addr) (l16_0 : Nat) (c16_0 : Nat) (a16_1 : Option Addr) (l16_1 : Nat) (c16_1 : Nat) (a16_2 : Option Addr) (l16_2 : Nat) (c16_2 : Nat) (a16_3 : Option Addr) (l16_3 : Nat) (c16_3 : Nat) (n16_4 : Int) (n16_5 : Int) : Tn.Loc := [⟨k3, 25, [.slice a16_0 l16_0 c16_0, .slice a16_1 l16_1 c16_1, .slice a16_2 l16_2 c16_2, .slice a16_3 l16_3 c16_3, .int .i64 n16_4, .int .i64 n16_5], []⟩]
def an28 : Ann := (.seq .leaf (.seq .leaf (.seq (.seq .leaf (.cond (.seq .leaf .leaf) .leaf)) (.seq .leaf (.seq .leaf .leaf)))))
noncomputable def q28 (w0 : World)  (R : Value → World → Prop) : Prop :=
  (∃ Φ5 : Value → Own → Prop, CallG (cx w0 [] []) [] [] 30 [.int .i64 (1 : Int)] (.tup [.one .ptr, .one (.int .i64)]) Φ5 ∧ ∀ p5a : Option Addr, ∀ n5b : Int, ∀ own5 : Own, Φ5 (.tuple ⟨[.pointer p5a, .int .i64 n5b]⟩) own5 → (cond (Option.isNone p5a) (Fin (cx w0 [] []) R (.bool false) own5) ((cond (n5b != (0 : Int)) (Fin (cx w0 [] []) R (.bool false) own5) ((∃ Φ16 : Value → Own → Prop, CallG (cx w0 [] []) [] own5 93 [.pointer p5a, .agg ⟨[.int .i64 (2 : Int), .int .i64 (1 : Int), .int .i64 (1 : Int), .int .i64 (4 : Int), .int .i64 (1 : Int), .int .i64 (1 : Int)]⟩] (.val (.agg [.slice, .slice, .slice, .slice, .int .i64, .int .i64])) Φ16 ∧ ∀ a16_0 : Option Addr, ∀ l16_0 : Nat, ∀ c16_0 : Nat, ∀ a16_1 : Option Addr, ∀ l16_1 : Nat, ∀ c16_1 : Nat, ∀ a16_2 : Option Addr, ∀ l16_2 : Nat, ∀ c16_2 : Nat, ∀ a16_3 : Option Addr, ∀ l16_3 : Nat, ∀ c16_3 : Nat, ∀ n16_4 : Int, ∀ n16_5 : Int, ∀ own16 : Own, Φ16 (.agg ⟨[.slice a16_0 l16_0 c16_0, .slice a16_1 l16_1 c16_1, .slice a16_2 l16_2 c16_2, .slice a16_3 l16_3 c16_3, .int .i64 n16_4, .int .i64 n16_5]⟩) own16 → (∀ k3 : Nat, (∃ x19 : Nat, CallV (cx w0 [] []) (loc28_0 k3 a16_0 l16_0 c16_0 a16_1 l16_1 c16_1 a16_2 l16_2 c16_2 a16_3 l16_3 c16_3 n16_4 n16_5) own16 49 [.pointer p5a, .int .i64 (0 : Int), .agg ⟨[.slice a16_0 l16_0 c16_0, .slice a16_1 l16_1 c16_1, .slice a16_2 l16_2 c16_2, .slice a16_3 l16_3 c16_3, .int .i64 n16_4, .int .i64 n16_5]⟩, .int .i64 (0 : Int), .float .f64 4607182418800017408] (.float .f64 x19) ∧ (cond (f64.order x19 4611686018427387904 == some .eq) ((∃ x24 : Nat, CallV (cx w0 [] []) (loc28_0 k3 a16_0 l16_0 c16_0 a16_1 l16_1 c16_1 a16_2 l16_2 c16_2 a16_3 l16_3 c16_3 n16_4 n16_5) own16 49 [.pointer p5a, .int .i64 (1 : Int), .agg ⟨[.slice a16_0 l16_0 c16_0, .slice a16_1 l16_1 c16_1, .slice a16_2 l16_2 c16_2, .slice a16_3 l16_3 c16_3, .int .i64 n16_4, .int .i64 n16_5]⟩, .int .i64 (0 : Int), .float .f64 4607182418800017408] (.float .f64 x24) ∧ (cond (f64.order x24 4609434218613702656 == some .eq) ((∃ x30 : Nat, CallV (cx w0 [] []) (loc28_0 k3 a16_0 l16_0 c16_0 a16_1 l16_1 c16_1 a16_2 l16_2 c16_2 a16_3 l16_3 c16_3 n16_4 n16_5) own16 49 [.pointer p5a, .int .i64 (2 : Int), .agg ⟨[.slice a16_0 l16_0 c16_0, .slice a16_1 l16_1 c16_1, .slice a16_2 l16_2 c16_2, .slice a16_3 l16_3 c16_3, .int .i64 n16_4, .int .i64 n16_5]⟩, .int .i64 (0 : Int), .float .f64 4598175219545276416] (.float .f64 x30) ∧ (cond (f64.order x30 4607182418800017408 == some .eq) ((∃ x36 : Nat, CallV (cx w0 [] []) (loc28_0 k3 a16_0 l16_0 c16_0 a16_1 l16_1 c16_1 a16_2 l16_2 c16_2 a16_3 l16_3 c16_3 n16_4 n16_5) own16 49 [.pointer p5a, .int .i64 (0 : Int), .agg ⟨[.slice a16_0 l16_0 c16_0, .slice a16_1 l16_1 c16_1, .slice a16_2 l16_2 c16_2, .slice a16_3 l16_3 c16_3, .int .i64 n16_4, .int .i64 n16_5]⟩, .int .i64 (0 : Int), .float .f64 0] (.float .f64 x36) ∧ (∃ n37 : Int, CallV (cx w0 [] []) (loc28_0 k3 a16_0 l16_0 c16_0 a16_1 l16_1 c16_1 a16_2 l16_2 c16_2 a16_3 l16_3 c16_3 n16_4 n16_5) own16 70 [.float .f64 x36] (.int .u64 n37) ∧ Fin (cx w0 [] []) R (.bool (n37 == (0 : Int))) own16))) (Fin (cx w0 [] []) R (.bool false) own16)))) (Fin (cx w0 [] []) R (.bool false) own16)))) (Fin (cx w0 [] []) R (.bool false) own16))))))))))
theorem q28_eq (w0 : World)  (R : Value → World → Prop) : funT (cx w0 [] []) Tryz.f28 an28 [] [] R = q28 w0  R := by kernel_rfl
theorem d28 (W : World)  {R : Value → World → Prop} (h : q28 W  R) : Does Tryz.prog 28 [] W R :=
  does_of_T (fn := Tryz.f28) (x := an28) (dyn := []) (by kernel_rfl) (by kernel_rfl) (sep_self W) (Eq.mpr (q28_eq W  R) h)

theorem p28 : Pu 28 [] (.bool true) := fun W hL => d28 W (by
  have ha := l28a
  have hb := l28b
  have hc := l28c
  have hd := l28d
  unfold wat28 at ha hb hc hd
  have hok := netOf_ok side1
  have h30 := p30 1
  generalize netOf 1 = g at *
  refine ⟨_, h30.newP.call (fun W' hS => hL.ext (Sep.ext0 hS)) (by rintro v X' (⟨_, kg, km, rfl, _⟩ | ⟨_, rfl, _⟩) <;> exact ⟨_, rfl, _, _, rfl, ⟨_, rfl⟩, _, _, rfl, ⟨_, rfl⟩, rfl⟩), fun p8a n8b own8 h => ?_⟩
  obtain ⟨X, (⟨hs1, kg, km, e, hX⟩ | ⟨hn, _⟩), rfl⟩ := h
  case inr => exact (hn side1).elim
  cases e
  refine cond_split (fun h => absurd h (by simp)) fun _ => cond_split (fun h => absurd h (by decide)) fun _ => ?_
  have hG : ∀ {own : Own} {loc : Tn.Loc} (W' : World), Sep W [] (ents loc own) W' → (∀ b o, (b, o) ∈ X → (b, o) ∈ own) → LG ⟨kg, 0, none⟩ g W' := fun W' hS hm => ⟨hL.ext (Sep.ext0 hS), gridAt_of hX (fun b o h => hS.own b o (by unfold ents; exact List.mem_append_right _ (hm b o h))) hok⟩
  refine ⟨_, (p93 ⟨kg, 0, none⟩ g 2 1 1 4 1 1).call (fun W' hS => hG W' hS (by simp)) (by rintro v X' ⟨k1, k2, k4, rfl, _⟩; exact ⟨_, rfl, _, _, rfl, ⟨_, _, _, rfl⟩, _, _, rfl, ⟨_, _, _, rfl⟩, _, _, rfl, ⟨_, _, _, rfl⟩, _, _, rfl, ⟨_, _, _, rfl⟩, _, _, rfl, ⟨_, rfl⟩, _, _, rfl, ⟨_, rfl⟩, rfl⟩), ?_⟩
  intro a0 l0 c0 a1 l1 c1 a2 l2 c2 a3 l3 c3 n4 n5 own14 h14 k3'
  obtain ⟨X', ⟨k1, k2, k4, e, rfl⟩, rfl⟩ := h14
  cases e
  have hw : (flat93 g [2, 1, 1, 4, 1, 1]).length = 6 := by simp [flat93]
  generalize hs : (⟨some ⟨k1, 0, none⟩, 6, some ⟨k2, 0, none⟩, 6, none, 0, some ⟨k4, 0, none⟩, 12, List.replicate 6 0, flat93 g [2, 1, 1, 4, 1, 1], [], List.replicate 12 0, 0, 0⟩ : SeaA) = s
  have hv : s.v = .agg ⟨[.slice (some ⟨k1, 0, none⟩) 6 6, .slice (some ⟨k2, 0, none⟩) 6 6, .slice none 0 0, .slice (some ⟨k4, 0, none⟩) 12 12, .int .i64 0, .int .i64 0]⟩ := by
    subst hs; simp [SeaA.v, hw]
  have hbed : s.bed = List.replicate 6 0 := by subst hs; rfl
  have hwat : s.water = flat93 g [2, 1, 1, 4, 1, 1] := by subst hs; rfl
  have hAt : ∀ {loc : Tn.Loc} (W' : World), Sep W [] (ents loc ([(k4, .cells ⟨List.replicate 12 (.float .f64 0)⟩ 44), (k2, .cells ⟨iCells (flat93 g [2, 1, 1, 4, 1, 1])⟩ 2), (k1, .cells ⟨List.replicate 6 (.float .f64 0)⟩ 44)] ++ (X ++ []))) W' → LS ⟨kg, 0, none⟩ g s W' := fun W' hS => by
    refine ⟨hG W' hS (by intro b o hm; simp [hm]), ?_⟩
    subst hs
    refine ⟨arr_own hS (t := 44) (cs := List.replicate 6 (.float .f64 0)) (by simp [ents]) ?_, arr_own hS (t := 2) (cs := iCells (flat93 g [2, 1, 1, 4, 1, 1])) (by simp [ents]) ?_, .inl rfl, arr_own hS (t := 44) (cs := List.replicate 12 (.float .f64 0)) (by simp [ents]) ?_⟩
    · intro i v h; rw [Nat.zero_add, ← fCells_rep]; exact h
    · intro i v h; rw [Nat.zero_add]; exact h
    · intro i v h; rw [Nat.zero_add, ← fCells_rep]; exact h
  have h49 := p49 ⟨kg, 0, none⟩ g s
  rw [hv, hbed, hwat] at h49
  refine ⟨_, (h49 0 0 4607182418800017408).call hAt, cond_split (fun _ => ?_) fun h => Bool.noConfusion (ha.symm.trans h)⟩
  refine ⟨_, (h49 1 0 4607182418800017408).call hAt, cond_split (fun _ => ?_) fun h => Bool.noConfusion (hb.symm.trans h)⟩
  refine ⟨_, (h49 2 0 4598175219545276416).call hAt, cond_split (fun _ => ?_) fun h => Bool.noConfusion (hc.symm.trans h)⟩
  refine ⟨_, (h49 0 0 0).call hAt, _, (p70 _).callL hL, fin_ext ?_⟩
  rw [eq_of_beq hd]
  rfl)


-- tarn/tarnlaw12.net
def loc34_0 (k1 : Nat) (a_0 : Int) (a_1 : Int) (a_2_a : Option Addr) (a_2_n : Nat) (a_2_c : Nat) (a_3_a : Option Addr) (a_3_n : Nat) (a_3_c : Nat) (a_4_a : Option Addr) (a_4_n : Nat) (a_4_c : Nat) (a_5_a : Option Addr) (a_5_n : Nat) (a_5_c : Nat) (a_6 : Int) (a_7 : Int) : Tn.Loc := [⟨k1, 27, [.int .i64 a_0, .int .i64 a_1, .slice a_2_a a_2_n a_2_c, .slice a_3_a a_3_n a_3_c, .slice a_4_a a_4_n a_4_c, .slice a_5_a a_5_n a_5_c, .int .i64 a_6, .int .i64 a_7], []⟩]
def an34 : Ann := (.seq .leaf (.seq .leaf (.seq (.seq .leaf (.cond (.seq .leaf .leaf) .leaf)) (.seq (.draw [0, 1, 2, 3, 4, 5, 6, 7, 8, 9, 10, 11, 12, 13, 14, 15, 16, 17, 18]) .leaf))))
noncomputable def q34 (w0 : World) (a_0 : Int) (a_1 : Int) (a_2_a : Option Addr) (a_2_n : Nat) (a_2_c : Nat) (a_3_a : Option Addr) (a_3_n : Nat) (a_3_c : Nat) (a_4_a : Option Addr) (a_4_n : Nat) (a_4_c : Nat) (a_5_a : Option Addr) (a_5_n : Nat) (a_5_c : Nat) (a_6 : Int) (a_7 : Int) (R : Value → World → Prop) : Prop :=
  (∀ k1 : Nat, (∃ Φ9 : Value → Own → Prop, CallG (cx w0 [] []) (loc34_0 k1 a_0 a_1 a_2_a a_2_n a_2_c a_3_a a_3_n a_3_c a_4_a a_4_n a_4_c a_5_a a_5_n a_5_c a_6 a_7) [] 30 [.int .i64 a_0] (.tup [.one .ptr, .one (.int .i64)]) Φ9 ∧ ∀ p9a : Option Addr, ∀ n9b : Int, ∀ own9 : Own, Φ9 (.tuple ⟨[.pointer p9a, .int .i64 n9b]⟩) own9 → (cond (n9b != (0 : Int)) (Fin (cx w0 [] []) R (.tuple ⟨[.pointer none, .bool false]⟩) own9) ((∃ n20 : Int, CallV (cx w0 [] []) (loc34_0 k1 a_0 a_1 a_2_a a_2_n a_2_c a_3_a a_3_n a_3_c a_4_a a_4_n a_4_c a_5_a a_5_n a_5_c a_6 a_7) own9 36 [.pointer p9a] (.int .i64 n20) ∧ (cond (((a_2_n : Nat) : Int) == n20) ((∃ n28 : Int, CallV (cx w0 [] []) (loc34_0 k1 a_0 a_1 a_2_a a_2_n a_2_c a_3_a a_3_n a_3_c a_4_a a_4_n a_4_c a_5_a a_5_n a_5_c a_6 a_7) own9 36 [.pointer p9a] (.int .i64 n28) ∧ Fin (cx w0 [] []) R (.tuple ⟨[.pointer p9a, .bool (((a_3_n : Nat) : Int) == n28)]⟩) own9)) (Fin (cx w0 [] []) R (.tuple ⟨[.pointer p9a, .bool false]⟩) own9)))))))
theorem q34_eq (w0 : World) (a_0 : Int) (a_1 : Int) (a_2_a : Option Addr) (a_2_n : Nat) (a_2_c : Nat) (a_3_a : Option Addr) (a_3_n : Nat) (a_3_c : Nat) (a_4_a : Option Addr) (a_4_n : Nat) (a_4_c : Nat) (a_5_a : Option Addr) (a_5_n : Nat) (a_5_c : Nat) (a_6 : Int) (a_7 : Int) (R : Value → World → Prop) : funT (cx w0 [] []) Tryz.f34 an34 [.agg ⟨[.int .i64 a_0, .int .i64 a_1, .slice a_2_a a_2_n a_2_c, .slice a_3_a a_3_n a_3_c, .slice a_4_a a_4_n a_4_c, .slice a_5_a a_5_n a_5_c, .int .i64 a_6, .int .i64 a_7]⟩] [] R = q34 w0 a_0 a_1 a_2_a a_2_n a_2_c a_3_a a_3_n a_3_c a_4_a a_4_n a_4_c a_5_a a_5_n a_5_c a_6 a_7 R := by kernel_rfl
theorem d34 (W : World) (a_0 : Int) (a_1 : Int) (a_2_a : Option Addr) (a_2_n : Nat) (a_2_c : Nat) (a_3_a : Option Addr) (a_3_n : Nat) (a_3_c : Nat) (a_4_a : Option Addr) (a_4_n : Nat) (a_4_c : Nat) (a_5_a : Option Addr) (a_5_n : Nat) (a_5_c : Nat) (a_6 : Int) (a_7 : Int) {R : Value → World → Prop} (h : q34 W a_0 a_1 a_2_a a_2_n a_2_c a_3_a a_3_n a_3_c a_4_a a_4_n a_4_c a_5_a a_5_n a_5_c a_6 a_7 R) : Does Tryz.prog 34 [.agg ⟨[.int .i64 a_0, .int .i64 a_1, .slice a_2_a a_2_n a_2_c, .slice a_3_a a_3_n a_3_c, .slice a_4_a a_4_n a_4_c, .slice a_5_a a_5_n a_5_c, .int .i64 a_6, .int .i64 a_7]⟩] W R :=
  does_of_T (fn := Tryz.f34) (x := an34) (dyn := []) (by kernel_rfl) (by kernel_rfl) (sep_self W) (Eq.mpr (q34_eq W a_0 a_1 a_2_a a_2_n a_2_c a_3_a a_3_n a_3_c a_4_a a_4_n a_4_c a_5_a a_5_n a_5_c a_6 a_7 R) h)

theorem p34 (side lim : Int) (s : SeaA) : NewP Laid 34 [.agg ⟨[.int .i64 side, .int .i64 lim, .slice s.ba s.bed.length s.bc, .slice s.wa s.water.length s.wc, .slice s.ta s.tracer.length s.tc, .slice s.ua s.speed.length s.uc, .int .i64 s.sky, .int .i64 s.step]⟩] fun v X' =>
    (Side side ∧ ∃ kg km, v = .tuple ⟨[.pointer (some ⟨kg, 0, none⟩), .bool (decide (s.bed.length = (netOf side).A.length ∧ s.water.length = (netOf side).A.length))]⟩ ∧ GP (netOf side) kg km X') ∨ (¬ Side side ∧ v = .tuple ⟨[.pointer none, .bool false]⟩ ∧ X' = []) := by
  intro W hL
  refine d34 W _ _ _ _ _ _ _ _ _ _ _ _ _ _ _ _ fun k1 => ?_
  have h30 := p30 side
  have hok := fun h : Side side => netOf_ok h
  generalize netOf side = g at *
  refine ⟨_, h30.newP.call (fun W' hS => hL.ext (Sep.ext0 hS)) (by rintro v X' (⟨_, kg, km, rfl, _⟩ | ⟨_, rfl, _⟩) <;> exact ⟨_, rfl, _, _, rfl, ⟨_, rfl⟩, _, _, rfl, ⟨_, rfl⟩, rfl⟩), fun p8a n8b own8 h => ?_⟩
  obtain ⟨X, (⟨hs1, kg, km, e, hX⟩ | ⟨hn, e, rfl⟩), rfl⟩ := h
  · cases e
    have hG : ∀ {loc : Tn.Loc} (W' : World), Sep W [] (ents loc (X ++ [])) W' → LG ⟨kg, 0, none⟩ g W' := fun W' hS => ⟨hL.ext (Sep.ext0 hS), gridAt_of hX (fun b o h => hS.own b o (by unfold ents; exact List.mem_append_right _ (by simpa using h))) (hok hs1)⟩
    have fin : ∀ (b : Bool), b = decide (s.bed.length = g.A.length ∧ s.water.length = g.A.length) → Fin (cx W [] []) (fun v' W' => ∃ X', ((Side side ∧ ∃ kg km, v' = .tuple ⟨[.pointer (some ⟨kg, 0, none⟩), .bool (decide (s.bed.length = g.A.length ∧ s.water.length = g.A.length))]⟩ ∧ GP g kg km X') ∨ (¬ Side side ∧ v' = .tuple ⟨[.pointer none, .bool false]⟩ ∧ X' = [])) ∧ Sep W [] X' W') (.tuple ⟨[.pointer (some ⟨kg, 0, none⟩), .bool b]⟩) (X ++ []) := by
      rintro b rfl W' hS'
      rw [List.append_nil] at hS'
      exact ⟨X, .inl ⟨hs1, kg, km, rfl, hX⟩, hS'⟩
    refine cond_split (fun h => absurd h (by decide)) fun _ => ⟨_, (p36 _ g).call hG, cond_split (fun h => ⟨_, (p36 _ g).call hG, fin _ ?_⟩) fun h => fin _ ?_⟩
    · have h : s.bed.length = g.A.length := by simp at h; omega
      by_cases h2 : s.water.length = g.A.length
      · rw [decide_eq_true ⟨h, h2⟩, h2]; simp
      · rw [decide_eq_false (fun hh => h2 hh.2), beq_eq_false_iff_ne]; omega
    · have h : s.bed.length ≠ g.A.length := by simp at h; omega
      rw [decide_eq_false (fun hh => h hh.1)]
  · cases e
    exact cond_split (fun _ => fun W' hS' => ⟨[], .inr ⟨hn, rfl, rfl⟩, hS'⟩) fun h => absurd h (by decide)


end Go.Proofs.YtnljcdplcloedaaGreatDoor
