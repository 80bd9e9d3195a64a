/- The plain reading of code: what a stretch of the cut program comes to over a world whose new blocks are told as a list, without conditions on the program. -/
import Derived.Orders
import Derived.Below
import Derived.WalkKit
import Derived.WalkLawsBesides
section
namespace Go.Tn
open Go.RowKit

/-! ### shapes -/
inductive Sh1 | int (k : IntKind) | float | bool | ptr | slice | map | any | fn (l : List (FuncId × Bool))
/-- one of some functions, with a pointer laid by or not -/
def fnV (p : FuncId × Bool) (K : Value → Prop) : Prop := cond p.2 (∃ a : Addr, K (.func (.func p.1) ⟨[.pointer (some a)]⟩ ⟨[]⟩)) (K (.func (.func p.1) ⟨[]⟩ ⟨[]⟩))
def exF : List (FuncId × Bool) → (Value → Prop) → Prop
  | [], _ => False
  | [p], K => fnV p K
  | p :: q :: r, K => fnV p K ∨ exF (q :: r) K
def isFn (p : FuncId × Bool) (v : Value) : Prop := cond p.2 (∃ a : Addr, v = .func (.func p.1) ⟨[.pointer (some a)]⟩ ⟨[]⟩) (v = .func (.func p.1) ⟨[]⟩ ⟨[]⟩)
theorem fnV_iff {p : FuncId × Bool} {K : Value → Prop} : fnV p K ↔ ∃ v, isFn p v ∧ K v := by
  obtain ⟨f, b⟩ := p
  cases b with
  | true => exact ⟨fun ⟨a, h⟩ => ⟨_, ⟨a, rfl⟩, h⟩, fun ⟨_, ⟨a, e⟩, h⟩ => ⟨a, e ▸ h⟩⟩
  | false => exact ⟨fun h => ⟨_, rfl, h⟩, fun ⟨_, e, h⟩ => by have e : _ = _ := e; subst e; exact h⟩
theorem exF_iff {l : List (FuncId × Bool)} {K : Value → Prop} : exF l K ↔ ∃ v, (∃ p ∈ l, isFn p v) ∧ K v := by
  induction l with
  | nil => simp [exF]
  | cons p r ih =>
    cases r with
    | nil => simp [exF, fnV_iff]
    | cons q r =>
      simp only [exF, ih, fnV_iff]
      constructor
      · rintro (⟨v, h, k⟩ | ⟨v, ⟨p', hp, h⟩, k⟩)
        · exact ⟨v, ⟨p, by simp, h⟩, k⟩
        · exact ⟨v, ⟨p', List.mem_cons_of_mem _ hp, h⟩, k⟩
      · rintro ⟨v, ⟨p', hp, h⟩, k⟩
        rcases List.mem_cons.1 hp with rfl | hp
        · exact .inl ⟨v, h, k⟩
        · exact .inr ⟨v, ⟨p', hp, h⟩, k⟩
inductive Sh2 | one (s : Sh1) | agg (l : List Sh1)
inductive Sh | val (s : Sh2) | tup (l : List Sh2)

def ex1 : Sh1 → (Value → Prop) → Prop
  | .int k, K => ∃ n : Int, K (.int k n)
  | .float, K => ∃ x : Nat, K (.float .f64 x)
  | .bool, K => ∃ b : Bool, K (.bool b)
  | .ptr, K => ∃ a : Option Addr, K (.pointer a)
  | .slice, K => ∃ (a : Option Addr) (n c : Nat), K (.slice a n c)
  | .map, K => ∃ r : Option Nat, K (.map r)
  | .any, K => ∃ v : Value, K v
  | .fn l, K => exF l K
def exl1 : List Sh1 → (List Value → Prop) → Prop
  | [], K => K []
  | s :: r, K => ex1 s fun v => exl1 r fun vs => K (v :: vs)
def ex2 : Sh2 → (Value → Prop) → Prop
  | .one s, K => ex1 s K
  | .agg l, K => exl1 l fun vs => K (.agg ⟨vs⟩)
def exl2 : List Sh2 → (List Value → Prop) → Prop
  | [], K => K []
  | s :: r, K => ex2 s fun v => exl2 r fun vs => K (v :: vs)
def exS : Sh → (Value → Prop) → Prop
  | .val s, K => ex2 s K
  | .tup l, K => exl2 l fun vs => K (.tuple ⟨vs⟩)

def all1 : Sh1 → (Value → Prop) → Prop
  | .int k, K => ∀ n : Int, K (.int k n)
  | .float, K => ∀ x : Nat, K (.float .f64 x)
  | .bool, K => ∀ b : Bool, K (.bool b)
  | .ptr, K => ∀ a : Option Addr, K (.pointer a)
  | .slice, K => ∀ (a : Option Addr) (n c : Nat), K (.slice a n c)
  | .map, K => ∀ r : Option Nat, K (.map r)
  | .any, K => ∀ v : Value, K v
  | .fn l, K => ∀ v : Value, (∃ p ∈ l, isFn p v) → K v
def alll1 : List Sh1 → (List Value → Prop) → Prop
  | [], K => K []
  | s :: r, K => all1 s fun v => alll1 r fun vs => K (v :: vs)
def all2 : Sh2 → (Value → Prop) → Prop
  | .one s, K => all1 s K
  | .agg l, K => alll1 l fun vs => K (.agg ⟨vs⟩)
def alll2 : List Sh2 → (List Value → Prop) → Prop
  | [], K => K []
  | s :: r, K => all2 s fun v => alll2 r fun vs => K (v :: vs)
def allS : Sh → (Value → Prop) → Prop
  | .val s, K => all2 s K
  | .tup l, K => alll2 l fun vs => K (.tuple ⟨vs⟩)

theorem ex1_out {s : Sh1} {K : Value → Prop} (h : ex1 s K) : ∃ v, K v := by
  cases s <;> simp only [ex1] at h <;> first | exact h | exact (exF_iff.1 h).elim fun v h => ⟨v, h.2⟩ | exact h.elim fun n h => ⟨_, h⟩ | exact h.elim fun a h => h.elim fun n h => h.elim fun c h => ⟨_, h⟩
theorem exl1_out {l : List Sh1} : ∀ {K : List Value → Prop}, exl1 l K → ∃ v, K v := by
  induction l with
  | nil => exact fun h => ⟨_, h⟩
  | cons s r ih => intro K h; obtain ⟨v, h⟩ := ex1_out h; obtain ⟨vs, h⟩ := ih h; exact ⟨_, h⟩
theorem ex2_out {s : Sh2} {K : Value → Prop} (h : ex2 s K) : ∃ v, K v := by
  cases s with
  | one s => exact ex1_out h
  | agg l => obtain ⟨v, h⟩ := exl1_out h; exact ⟨_, h⟩
theorem exl2_out {l : List Sh2} : ∀ {K : List Value → Prop}, exl2 l K → ∃ v, K v := by
  induction l with
  | nil => exact fun h => ⟨_, h⟩
  | cons s r ih => intro K h; obtain ⟨v, h⟩ := ex2_out h; obtain ⟨vs, h⟩ := ih h; exact ⟨_, h⟩
theorem exS_out {s : Sh} {K : Value → Prop} (h : exS s K) : ∃ v, K v := by
  cases s with
  | val s => exact ex2_out h
  | tup l => obtain ⟨v, h⟩ := exl2_out h; exact ⟨_, h⟩

/-! has a value this shape? -/
def is1 : Sh1 → Value → Prop
  | .int k, v => ∃ n, v = .int k n
  | .float, v => ∃ x, v = .float .f64 x
  | .bool, v => ∃ b, v = .bool b
  | .ptr, v => ∃ a, v = .pointer a
  | .slice, v => ∃ a n c, v = .slice a n c
  | .map, v => ∃ r, v = .map r
  | .any, _ => True
  | .fn l, v => ∃ p ∈ l, isFn p v
def isl1 : List Sh1 → List Value → Prop
  | [], vs => vs = []
  | s :: r, vs => ∃ v t, vs = v :: t ∧ is1 s v ∧ isl1 r t
def is2 : Sh2 → Value → Prop
  | .one s, v => is1 s v
  | .agg l, v => ∃ cs, v = .agg ⟨cs⟩ ∧ isl1 l cs
def isl2 : List Sh2 → List Value → Prop
  | [], vs => vs = []
  | s :: r, vs => ∃ v t, vs = v :: t ∧ is2 s v ∧ isl2 r t
def isS : Sh → Value → Prop
  | .val s, v => is2 s v
  | .tup l, v => ∃ vs, v = .tuple ⟨vs⟩ ∧ isl2 l vs
theorem all1_at {s : Sh1} {K : Value → Prop} (h : all1 s K) {v : Value} (hv : is1 s v) : K v := by
  cases s <;> simp only [all1, is1] at h hv
  case any => exact h v
  case fn l => exact h v hv
  case slice => obtain ⟨a, n, c, rfl⟩ := hv; exact h a n c
  all_goals (obtain ⟨n, rfl⟩ := hv; exact h n)
theorem alll1_at {l : List Sh1} : ∀ {K : List Value → Prop}, alll1 l K → ∀ {v : List Value}, isl1 l v → K v := by
  induction l with
  | nil => intro K h v hv; cases hv; exact h
  | cons s r ih => intro K h v hv; obtain ⟨v, t, rfl, h1, h2⟩ := hv; exact ih (all1_at h h1) h2
theorem all2_at {s : Sh2} {K : Value → Prop} (h : all2 s K) {v : Value} (hv : is2 s v) : K v := by
  cases s with
  | one s => exact all1_at h hv
  | agg l => obtain ⟨cs, rfl, h2⟩ := hv; exact alll1_at h h2
theorem alll2_at {l : List Sh2} : ∀ {K : List Value → Prop}, alll2 l K → ∀ {v : List Value}, isl2 l v → K v := by
  induction l with
  | nil => intro K h v hv; cases hv; exact h
  | cons s r ih => intro K h v hv; obtain ⟨v, t, rfl, h1, h2⟩ := hv; exact ih (all2_at h h1) h2
theorem allS_at {s : Sh} {K : Value → Prop} (h : allS s K) {v : Value} (hv : isS s v) : K v := by
  cases s with
  | val s => exact all2_at h hv
  | tup l => obtain ⟨vs, rfl, h2⟩ := hv; exact alll2_at h h2

/-! ### types -/
inductive Ti
  | bool | int (k : IntKind) | float | slice (e : TypeId) | struct (fs : List (Nat × TypeId)) | array (n : Nat) (e : TypeId) | map (k e : TypeId)
  | ptr (e : TypeId) | func | other
def Ti.of : TypeDesc → Ti
  | .bool => .bool
  | .int k => .int k
  | .float .f64 => .float
  | .slice e => .slice e
  | .struct fs => .struct (fs.toList.map fun f => (f.offset, f.type))
  | .array n e => .array n e
  | .map k e => .map k e
  | .pointer e => .ptr e
  | .func .. => .func
  | _ => .other
structure TyI where
  ti : Ti
  size : Nat
  bytes : Nat
  zero : Option Value
def TyI.of (P : Program) (t : TypeId) : Option TyI :=
  match P.info? t, P.underlying t with
  | some i, some u => some ⟨.of u, i.size, i.bytes, i.zero⟩
  | _, _ => none
def TyI.agg (i : TyI) : Bool := match i.ti with | .struct _ | .array _ _ => true | _ => false

/-! ### the state -/
structure Slot where
  v : Option Value
  al : Option (Nat × Nat)
abbrev Env := List Slot
abbrev Own := List (Nat × Obj)
structure LB where
  k : Nat
  t : TypeId
  cs : List Value
  cl : List Nat
abbrev Loc := List LB
def LB.ent (b : LB) : Nat × Obj := (b.k, .cells ⟨b.cs⟩ b.t)
inductive NB | loc (b : LB) | own (k : Nat) (o : Obj)
def NB.ent : NB → Nat × Obj
  | .loc b => b.ent
  | .own k o => (k, o)

def slotOf (env : Env) : Operand → Slot
  | .tmp t => env.getD t ⟨none, none⟩
  | .const v => ⟨some v, none⟩
  | .global g => ⟨some (.pointer (some ⟨g, 0, none⟩)), none⟩
  | .func f => ⟨some (.func (.func f) #[] #[]), none⟩
def put (env : Env) (d : Option Nat) (s : Slot) : Env := match d with | some d => env.set d s | none => env

structure Out where
  v : Value
  al : Option (Nat × Nat)
  nb : Option NB

inductive CK | val | rel | gen
structure Ctx where
  P : Program
  tab : List TyI
  w0 : World
  mt : List Nat
  sh : List Sh
  ck : FuncId → CK
  dyn : List Nat

/-- Outside the blocks 'mt' the old memory is as it was; the blocks of l are as l tells, and no two are one. -/
structure Sep (w0 : World) (mt : List Nat) (l : List (Nat × Obj)) (W : World) : Prop where
  os : W.os = w0.os
  tape : W.tape = w0.tape
  output : W.output = w0.output
  size : w0.heap.size ≤ W.heap.size
  keep : ∀ b, b < w0.heap.size → b ∉ mt → W.heap[b]? = w0.heap[b]?
  own : ∀ b o, (b, o) ∈ l → W.heap[b]? = some o
  new : ∀ b o, (b, o) ∈ l → b ∈ mt ∨ w0.heap.size ≤ b
  nodup : (l.map Prod.fst).Nodup

def ents (loc : Loc) (own : Own) : List (Nat × Obj) := loc.map LB.ent ++ own

/-- A call of function f, or of the row of Go's library that stands for it. -/
@[irreducible] def Does (P : Program) (f : FuncId) (args : List Value) (W : World) (R : Value → World → Prop) : Prop :=
  match (callFunc f ⟨args⟩).run P W with
  | .ok (.value v) W' => R v W'
  | .ok (.enter g as) W' => Calls P g as W' fun e W'' => ∃ v, e = .returned v ∧ R v W''
  | _ => False

abbrev Ext (W W' : World) : Prop := Below W.heap.size W W'

def LoadsTo (C : Ctx) (loc : Loc) (own : Own) (t : TypeId) (a : Addr) (v : Value) : Prop :=
  ∀ W, Sep C.w0 C.mt (ents loc own) W → (loadVar t a).run C.P W = .ok v W
def StoresTo (C : Ctx) (loc : Loc) (own : Own) (t : TypeId) (a : Addr) (v : Value) (own' : Own) : Prop :=
  ∀ W, Sep C.w0 C.mt (ents loc own) W → ∃ W', (storeVar t a v).run C.P W = .ok () W' ∧ Sep C.w0 C.mt (ents loc own') W'
def CallV (C : Ctx) (loc : Loc) (own : Own) (f : FuncId) (args : List Value) (v : Value) : Prop :=
  ∀ W, Sep C.w0 C.mt (ents loc own) W → Does C.P f args W fun v' W' => v' = v ∧ Ext W W'
def CallR (C : Ctx) (loc : Loc) (own : Own) (f : FuncId) (args : List Value) (sh : Sh) (Φ : Value → Prop) : Prop :=
  ∀ W, Sep C.w0 C.mt (ents loc own) W → Does C.P f args W fun v' W' => isS sh v' ∧ Φ v' ∧ Ext W W'
def CallG (C : Ctx) (loc : Loc) (own : Own) (f : FuncId) (args : List Value) (sh : Sh) (Φ : Value → Own → Prop) : Prop :=
  ∀ W, Sep C.w0 C.mt (ents loc own) W → Does C.P f args W fun v' W' => isS sh v' ∧ ∃ own', Φ v' own' ∧ Sep C.w0 C.mt (ents loc own') W'
/-- an operation that makes or writes memory of the call's own -/
def OpG (C : Ctx) (loc : Loc) (own : Own) (s : Sem Value) (sh : Sh) (Φ : Value → Own → Prop) : Prop :=
  ∀ (fr : Own) (W : World), Sep C.w0 C.mt (ents loc (own ++ fr)) W → ∃ v W', s.run C.P W = .ok v W' ∧ isS sh v ∧ ∃ own', Φ v own' ∧ Sep C.w0 C.mt (ents loc (own' ++ fr)) W'
/-- an operation that reads memory alone -/
def OpV (C : Ctx) (loc : Loc) (own : Own) (s : Sem Value) (v : Value) : Prop :=
  ∀ W, Sep C.w0 C.mt (ents loc own) W → s.run C.P W = .ok v W

/-- The bits that a float operation leaves: its word, or those of some NaN. -/
def isNaN64 (r : Nat) : Prop := Ieee.Format.infRung Ieee.double < r % 2 ^ 63 ∧ r < 2 ^ 64
def FRes (o : Option Nat) (r : Nat) : Prop := match o with | some s => r = s | none => isNaN64 r
def FToI (x : Nat) (k : IntKind) (n : Int) : Prop :=
  match (FloatKind.f64.decode x).toInt .zero with
  | some m => if k.min ≤ m ∧ m ≤ k.max then n = m else k.min ≤ n ∧ n ≤ k.max
  | none => k.min ≤ n ∧ n ≤ k.max

inductive Res
  | bad
  | det0 (o : Out)
  | det (p : Prop) (o : Out)
  | allk0 (o : Nat → Out)
  | allk (p : Prop) (o : Nat → Out)
  | fl (o : Option Nat)
  | fi (x : Nat) (k : IntKind)
  | ex (sh : Sh) (p : Value → Prop)
  | rl (sh : Sh) (p : (Value → Prop) → Prop)
  | exA0 (a : Option Addr) (o : Addr → Out)
  | exA (a : Option Addr) (p : Prop) (o : Addr → Out)
def Res.T : Res → (Out → Prop) → Prop
  | .bad, _ => False
  | .det0 o, K => K o
  | .det p o, K => p ∧ K o
  | .allk0 o, K => ∀ k, K (o k)
  | .allk p o, K => p ∧ ∀ k, K (o k)
  | .fl o, K => ∀ r, FRes o r → K ⟨.float .f64 r, none, none⟩
  | .fi x k, K => ∀ n, FToI x k n → K ⟨.int k n, none, none⟩
  | .ex sh p, K => exS sh fun v => p v ∧ K ⟨v, none, none⟩
  | .rl sh p, K => ∃ Φ, p Φ ∧ allS sh fun v => Φ v → K ⟨v, none, none⟩
  | .exA0 a o, K => ∃ ad, a = some ad ∧ K (o ad)
  | .exA a p o, K => ∃ ad, a = some ad ∧ p ∧ K (o ad)

def intV (k : IntKind) (n : Int) : Res := .det0 ⟨.int k n, none, none⟩
def boolV (b : Bool) : Res := .det0 ⟨.bool b, none, none⟩
def valV (v : Value) : Res := .det0 ⟨v, none, none⟩
def bitsI (op : BinOp) (k : IntKind) (x y : Int) : Int :=
  match op with
  | .and => k.wrap (BitVec.ofInt k.bits x &&& BitVec.ofInt k.bits y).toNat
  | .or => k.wrap (BitVec.ofInt k.bits x ||| BitVec.ofInt k.bits y).toNat
  | .xor => k.wrap (BitVec.ofInt k.bits x ^^^ BitVec.ofInt k.bits y).toNat
  | _ => k.wrap (BitVec.ofInt k.bits x &&& ~~~ BitVec.ofInt k.bits y).toNat
abbrev f64 : Ieee.Format := Ieee.double
def intB (op : BinOp) (k : IntKind) (a b : Int) : Res :=
  match op with
  | .add => intV k (k.wrap (a + b))
  | .sub => intV k (k.wrap (a - b))
  | .mul => intV k (k.wrap (a * b))
  | .quo => .det (b ≠ 0) ⟨.int k (k.wrap (a.tdiv b)), none, none⟩
  | .rem => .det (b ≠ 0) ⟨.int k (a.tmod b), none, none⟩
  | .and => intV k (bitsI .and k a b)
  | .or => intV k (bitsI .or k a b)
  | .xor => intV k (bitsI .xor k a b)
  | .andNot => intV k (bitsI .andNot k a b)
  | .eql => boolV (a == b)
  | .neq => boolV (a != b)
  | .lss => boolV (decide (a < b))
  | .leq => boolV (decide (a ≤ b))
  | .gtr => boolV (decide (a > b))
  | .geq => boolV (decide (a ≥ b))
  | .shl => .det (0 ≤ b) ⟨.int k (k.wrap (a * 2 ^ min b.toNat k.bits)), none, none⟩
  | .shr => .det (0 ≤ b) ⟨.int k (a.fdiv (2 ^ min b.toNat k.bits)), none, none⟩
def floatB (op : BinOp) (x y : Nat) : Res :=
  match op with
  | .add => .fl (f64.add x y)
  | .sub => .fl (f64.sub x y)
  | .mul => .fl (f64.mul x y)
  | .quo => .fl (f64.div x y)
  | .eql => boolV (f64.order x y == some .eq)
  | .neq => boolV (f64.order x y != some .eq)
  | .lss => boolV (f64.order x y == some .lt)
  | .leq => boolV (f64.order x y == some .lt || f64.order x y == some .eq)
  | .gtr => boolV (f64.order x y == some .gt)
  | .geq => boolV (f64.order x y == some .gt || f64.order x y == some .eq)
  | _ => .bad
def isShift : BinOp → Bool | .shl | .shr => true | _ => false

structure Mem where
  loc : Loc
  own : Own

def agree (j k : IntKind) : Bool := match j, k with
  | .i8, .i8 | .i16, .i16 | .i32, .i32 | .i64, .i64 | .u8, .u8 | .u16, .u16 | .u32, .u32 | .u64, .u64 => true | _, _ => false
theorem agree_eq {j k : IntKind} (h : agree j k = true) : j = k := by cases j <;> cases k <;> first | rfl | cases h

/-- 'x op y' -/
def binX (C : Ctx) (m : Mem) (op : BinOp) (t : TypeId) (xo yo : Operand) (x y : Value) : Res :=
  match x, y with
  | .int k a, .int k' b => cond (isShift op || agree k k') (intB op k a b) .bad
  | .float .f64 a, .float .f64 b => floatB op a b
  | .pointer a, .pointer none =>
    match C.tab[t]? with
    | some ⟨.ptr _, _, _, _⟩ => match op with | .eql => boolV a.isNone | .neq => boolV (!a.isNone) | _ => .bad
    | _ => .bad
  | .bool _, .bool _ | .agg _, .agg _ | .slice .., .slice .. => .ex (.val (.one .bool)) (fun v => OpV C m.loc m.own (do eqGuard op t xo yo x y; binOp op t x y) v)
  | _, _ => .bad

/-- the cells of a struct or an array, out of its parts -/
def fillL (place : Nat → Option (Nat × Nat)) (cells : List Value) : List (Nat × Value) → Option (List Value)
  | [] => some cells
  | (i, v) :: rest =>
    match place i with
    | none => none
    | some (off, size) =>
      if v.cells.toList.length ≠ size ∨ off + v.cells.toList.length > cells.length then none
      else fillL place (cells.take off ++ v.cells.toList ++ cells.drop (off + v.cells.toList.length)) rest
def allVals : List Slot → Option (List Value)
  | [] => some []
  | ⟨some v, _⟩ :: r => (allVals r).map (v :: ·)
  | ⟨none, _⟩ :: _ => none
def sizeT (C : Ctx) (t : TypeId) : Nat := match C.tab[t]? with | some i => i.size | none => 0
def buildX (C : Ctx) (t : TypeId) (parts : List (Nat × Slot)) : Option Value :=
  match C.tab[t]?, allVals (parts.map (·.2)) with
  | some i, some vs =>
    match i.zero with
    | some z =>
      match i.ti with
      | .struct fs => cond (fs.all fun f => (C.tab[f.2]?).isSome) ((fillL (fun j => (fs[j]?).map fun f => (f.1, sizeT C f.2)) z.cells.toList ((parts.map (·.1)).zip vs)).map fun cs => .agg ⟨cs⟩) none
      | .array _ e => cond (C.tab[e]?).isSome ((fillL (fun j => some (j * sizeT C e, sizeT C e)) z.cells.toList ((parts.map (·.1)).zip vs)).map fun cs => .agg ⟨cs⟩) none
      | _ => none
    | none => none
  | _, _ => none
def zeroFits (C : Ctx) (e : TypeId) : Bool := match C.tab[e]? with | some ⟨_, size, _, some z⟩ => Nat.beq z.cells.toList.length size | _ => false
def eqL : List Nat → List Nat → Bool
  | [], [] => true
  | x :: r, y :: s => Nat.beq x y && eqL r s
  | _, _ => false
def buildSliceX (C : Ctx) (t : TypeId) (len : Nat) (parts : List (Nat × Slot)) : Option (TypeId × List Value) :=
  match C.tab[t]?, allVals (parts.map (·.2)) with
  | some i, some vs =>
    match i.ti with
    | .slice e => cond (Nat.beq len 0 && (parts.isEmpty && (C.tab[e]?).isSome)) (some (e, [])) <| cond (eqL (parts.map (·.1)) (List.range' 0 len) && (Nat.ble (len * sizeT C e) (2 ^ 24) && (Nat.blt 0 (len * sizeT C e) && ((vs.all fun v => Nat.beq v.cells.toList.length (sizeT C e)) && zeroFits C e)))) (some (e, vs.flatMap (·.cells.toList))) none
    | _ => none
  | _, _ => none

/-- part of a value of a struct's or array's type -/
def partX (C : Ctx) (t : TypeId) (cs : List Value) (off : Nat) : Option Value :=
  match C.tab[t]? with
  | some i => cond i.agg (some (.agg ⟨(cs.drop off).take i.size⟩)) cs[off]?
  | none => none
def ofOpt : Option Value → Res
  | some v => valV v
  | none => .bad

def unX (op : UnOp) (x : Value) : Res :=
  match op, x with
  | .neg, .int k n => intV k (k.wrap (0 - n))
  | .xor, .int k n => intV k (bitsI .xor k (cond k.signed (-1) k.max) n)
  | .neg, .float .f64 b => valV (.float .f64 (Op.negFloat .f64 b))
  | .not, .bool b => boolV (!b)
  | _, _ => .bad
def convX (C : Ctx) (s d : TypeId) (x : Value) : Res :=
  match C.tab[s]?, C.tab[d]? with
  | some _, some i =>
    match i.ti, x with
    | .int k, .int _ n => intV k (k.wrap n)
    | .float, .int _ n => valV (.float .f64 (FloatKind.f64.nearest n))
    | .int k, .float .f64 b => .fi b k
    | .float, .float .f64 b => valV (.float .f64 b)
    | _, _ => .bad
  | _, _ => .bad
def fieldAddrX (C : Ctx) (s : TypeId) (f : Nat) (a : Addr) (al : Option (Nat × Nat)) : Res :=
  match C.tab[s]? with
  | some i =>
    match i.ti with
    | .struct fs =>
      match fs[f]? with
      | some (off, t) => cond (sizeT C t == 0) .bad (.det0 ⟨.pointer (some (a.add off)), al.map fun (i, o) => (i, o + off), none⟩)
      | none => .bad
    | _ => .bad
  | none => .bad
def indexAddrX (C : Ctx) (t : TypeId) (x : Value) (al : Option (Nat × Nat)) (i : Int) : Res :=
  match C.tab[t]?, x with
  | some ⟨.slice e, _, _, _⟩, .slice a len _ => cond (C.tab[e]?).isSome (.exA a (0 ≤ i ∧ i < (len : Int)) fun a => ⟨.pointer (some (a.add (i.toNat * sizeT C e))), none, none⟩) .bad
  | some ⟨.array n e, _, _, _⟩, .pointer (some a) => cond (C.tab[e]?).isSome (.det (0 ≤ i ∧ i < (n : Int)) ⟨.pointer (some (a.add (i.toNat * sizeT C e))), al.map fun (j, o) => (j, o + i.toNat * sizeT C e), none⟩) .bad
  | _, _ => .bad
def indexX (C : Ctx) (t : TypeId) (cs : List Value) (i : Int) : Res :=
  match C.tab[t]? with
  | some ⟨.array n e, _, _, _⟩ => cond (C.tab[e]?).isSome (.ex (C.sh.getD e (.val (.one .any))) fun v => (0 ≤ i ∧ i < (n : Int)) ∧ partX C e cs (i.toNat * sizeT C e) = some v) .bad
  | _ => .bad
def sliceX (C : Ctx) (t : TypeId) (x : Value) (lo hi mx : Option Int) : Res :=
  match C.tab[t]?, x with
  | some ⟨.slice e, _, _, _⟩, .slice a len cap =>
    cond (C.tab[e]?).isSome (.det (len ≤ cap ∧ 0 ≤ lo.getD 0 ∧ lo.getD 0 ≤ hi.getD (len : Int) ∧ hi.getD (len : Int) ≤ mx.getD (cap : Int) ∧ mx.getD (cap : Int) ≤ (cap : Int))
      ⟨.slice (if (mx.getD (cap : Int)).toNat = (lo.getD 0).toNat then a else a.map (·.add ((lo.getD 0).toNat * sizeT C e))) ((hi.getD (len : Int)).toNat - (lo.getD 0).toNat) ((mx.getD (cap : Int)).toNat - (lo.getD 0).toNat), none, none⟩) .bad
  | some ⟨.array n e, _, _, _⟩, .pointer (some a) =>
    cond (C.tab[e]?).isSome (.det (0 ≤ lo.getD 0 ∧ lo.getD 0 ≤ hi.getD (n : Int) ∧ hi.getD (n : Int) ≤ mx.getD (n : Int) ∧ mx.getD (n : Int) ≤ (n : Int))
      ⟨.slice (some (if (mx.getD (n : Int)).toNat = (lo.getD 0).toNat then a else a.add ((lo.getD 0).toNat * sizeT C e))) ((hi.getD (n : Int)).toNat - (lo.getD 0).toNat) ((mx.getD (n : Int)).toNat - (lo.getD 0).toNat), none, none⟩) .bad
  | _, _ => .bad
def intOpt : Option Slot → Option (Option Int)
  | none => some none
  | some ⟨some (.int _ n), _⟩ => some (some n)
  | _ => none
/-- a variable in a local block -/
def loadL (C : Ctx) (t : TypeId) (cs : List Value) (off : Nat) : Option Value :=
  match C.tab[t]? with
  | some i => cond i.agg (cond (Nat.ble (off + i.size) cs.length) (some (.agg ⟨(cs.drop off).take i.size⟩)) none) cs[off]?
  | none => none
def isOne : Value → Bool
  | .agg _ | .tuple _ => false
  | _ => true
def loadX (C : Ctx) (m : Mem) (t : TypeId) (s : Slot) : Res :=
  match s.al with
  | some (i, o) =>
    match m.loc[i]? with
    | some b => ofOpt (loadL C t b.cs o)
    | none => .bad
  | none =>
    match s.v with
    | some (.pointer (some a)) => .ex (C.sh.getD t (.val (.one .any))) fun v => LoadsTo C m.loc m.own t a v
    | _ => .bad
/-- where a new block of this temporary lies -/
def isDyn (C : Ctx) (d : Option Nat) : Bool := match d with | some d => C.dyn.contains d | none => true
def newX (C : Ctx) (d : Option Nat) (idx : Nat) (t : TypeId) (cs : List Value) (k : Nat) : Out :=
  cond (isDyn C d) ⟨.pointer (some ⟨k, 0, none⟩), none, some (.own k (.cells ⟨cs⟩ t))⟩
    ⟨.pointer (some ⟨k, 0, none⟩), some (idx, 0), some (.loc ⟨k, t, cs, []⟩)⟩
def callX (C : Ctx) (m : Mem) (t : TypeId) (f : FuncId) (args : List Value) : Res :=
  match C.ck f with
  | .val => .ex (C.sh.getD t (.val (.one .any))) fun v => CallV C m.loc m.own f args v
  | .rel => .rl (C.sh.getD t (.val (.one .any))) fun Φ => CallR C m.loc m.own f args (C.sh.getD t (.val (.one .any))) Φ
  | .gen => .bad
def idxX (C : Ctx) (m : Mem) (t : TypeId) (x i : Option Value) : Res :=
  match x, i with
  | some (.agg cs), some (.int _ n) => indexX C t cs.toList n
  | some (.string st), some u => .ex (.val (.one (.int .u8))) (fun r => OpV C m.loc m.own (Instr.index t (.string st) u) r)
  | _, _ => .bad
/-- what an operation that writes nothing comes to; 'idx': the number that a new local block gets -/
def resX (C : Ctx) (o : Oper) (ρ : Operand → Slot) (m : Mem) (idx : Nat) : Res :=
  match o.op with
  | .move x | .assign x => match ρ x with | ⟨some v, al⟩ => .det0 ⟨v, al, none⟩ | _ => .bad
  | .pick c a b =>
    match (ρ c).v, (ρ a).v, (ρ b).v with
    | some (.bool t), some u, some v => .det0 ⟨cond t u v, cond t (ρ a).al (ρ b).al, none⟩
    | _, _, _ => .bad
  | .binOp op t x y _ => match (ρ x).v, (ρ y).v with | some u, some v => binX C m op t x y u v | _, _ => .bad
  | .unOp op _ x => match (ρ x).v with | some v => unX op v | _ => .bad
  | .convert s d x => match (ρ x).v with | some v => convX C s d v | _ => .bad
  | .alloc t => match C.tab[t]? with | some ⟨_, _, _, some z⟩ => .allk0 (newX C o.dst idx t z.cells.toList) | _ => .bad
  | .box t x => match (ρ x).v with | some v => .allk0 (newX C o.dst idx t v.cells.toList) | _ => .bad
  | .build t ps => ofOpt (buildX C t (ps.toList.map fun (i, x) => (i, ρ x)))
  | .buildSlice t len ps =>
    match buildSliceX C t len (ps.toList.map fun (i, x) => (i, ρ x)) with
    | some (e, cs) => .allk0 fun k => ⟨.slice (some ⟨k, 0, none⟩) len len, none, some (.own k (.cells ⟨cs⟩ e))⟩
    | none => .bad
  | .load t a => loadX C m t (ρ a)
  | .nilCheck x =>
    match ρ x with
    | ⟨some (.pointer a), none⟩ => .exA0 a fun a => ⟨.pointer (some a), none, none⟩
    | ⟨some (.pointer (some a)), some al⟩ => .det0 ⟨.pointer (some a), some al, none⟩
    | _ => .bad
  | .makeFunc fn fs cs => match allVals (fs.toList.map ρ), allVals (cs.toList.map ρ) with | some f, some c => valV (.func fn ⟨f⟩ ⟨c⟩) | _, _ => .bad
  | .makeMap _ none => .bad
  | .makeMap t (some r) =>
    match (ρ r).v, C.tab[t]? with
    | some (.int _ _), some ⟨.map _ _, _, _, _⟩ => .allk0 fun k => ⟨.map (some k), none, some (.own k (.map #[] 0))⟩
    | _, _ => .bad
  | .makeSlice t l c =>
    match C.tab[t]?, (ρ l).v, (ρ c).v with
    | some ⟨.slice e, _, _, _⟩, some (.int .i64 l), some (.int .i64 c) =>
      match C.tab[e]? with
      | some ⟨_, 1, bytes, some z⟩ => cond (Nat.beq z.cells.toList.length 1) (.allk (0 ≤ l ∧ l ≤ c ∧ c < 2 ^ 46 ∧ (bytes : Int) * c ≤ 2 ^ 47) fun k => ⟨.slice (some ⟨k, 0, none⟩) l.toNat c.toNat, none, some (.own k (.cells ⟨List.replicate c.toNat (z.cells.getD 0 undef)⟩ e))⟩) .bad
      | _ => .bad
    | _, _, _ => .bad
  | .slice t x lo hi mx =>
    match ρ x, intOpt (lo.map ρ), intOpt (hi.map ρ), intOpt (mx.map ρ) with
    | ⟨some v, _⟩, some l, some h, some m => cond (mx.isNone || hi.isSome) (sliceX C t v l h m) .bad
    | _, _, _, _ => .bad
  | .fieldAddr s x f => match ρ x with | ⟨some (.pointer (some a)), al⟩ => fieldAddrX C s f a al | _ => .bad
  | .field s x f =>
    match (ρ x).v, C.tab[s]? with
    | some (.agg cs), some ⟨.struct fs, _, _, _⟩ => match fs[f]? with | some (off, t) => ofOpt (partX C t cs.toList off) | none => .bad
    | _, _ => .bad
  | .indexAddr t x i => match ρ x, (ρ i).v with | ⟨some v, al⟩, some (.int _ n) => indexAddrX C t v al n | _, _ => .bad
  | .index t x i => idxX C m t (ρ x).v (ρ i).v
  | .lookup t x i ok => match (ρ x).v, (ρ i).v with | some v, some u => .ex (C.sh.getD o.type (.val (.one .any))) (fun r => OpV C m.loc m.own (Instr.lookup t v u ok) r) | _, _ => .bad
  | .extract x i => match (ρ x).v with | some (.tuple vs) => ofOpt vs.toList[i]? | _ => .bad
  | .call c =>
    match c.callee with
    | .builtin .len =>
      match c.args.toList, c.argTypes.toList with
      | [x], t :: _ =>
        match (ρ x).v, C.tab[t]? with
        | some (.slice _ n _), some ⟨.slice _, _, _, _⟩ => intV .i64 n
        | some _, some ⟨.array n _, _, _, _⟩ => intV .i64 n
        | _, _ => .bad
      | _, _ => .bad
    | .builtin .max =>
      match c.args.toList with
      | [x, y] => match (ρ x).v, (ρ y).v with | some (.int k a), some (.int _ b) => intV k (if b > a then b else a) | _, _ => .bad
      | _ => .bad
    | .builtin .min =>
      match c.args.toList with
      | [x, y] => match (ρ x).v, (ρ y).v with | some (.int k a), some (.int _ b) => intV k (if b < a then b else a) | _, _ => .bad
      | _ => .bad
    | .value g =>
      match (ρ g).v, allVals (c.args.toList.map ρ) with
      | some (.func (.func f) first captured), some as => callX C m o.type f (first.toList ++ as ++ captured.toList)
      | _, _ => .bad
    | _ => .bad
  | _ => .bad

/-! ### what an operation does to the state -/
inductive Eff
  | res (r : Res)
  | loc (l : Loc)
  | own (p : Own → Prop)
  | phi (sh : Sh) (p : (Value → Own → Prop) → Prop)
def shOf (C : Ctx) (t : TypeId) : Sh := C.sh.getD t (.val (.one .any))
def storeX (C : Ctx) (m : Mem) (t : TypeId) (a : Slot) (v : Value) : Eff :=
  match a.al with
  | some (i, j) =>
    match m.loc[i]? with
    | some b => cond ((C.tab[t]?).isSome && (Nat.beq v.cells.toList.length (sizeT C t) && (Nat.ble (j + v.cells.toList.length) b.cs.length && v.cells.toList.all isOne)))
        (.loc (m.loc.set i ⟨b.k, b.t, b.cs.take j ++ v.cells.toList ++ b.cs.drop (j + v.cells.toList.length), []⟩)) (.res .bad)
    | none => .res .bad
  | none =>
    match a.v with
    | some (.pointer (some ad)) => .own fun own' => StoresTo C m.loc m.own t ad v own'
    | _ => .res .bad
def effX (C : Ctx) (o : Oper) (ρ : Operand → Slot) (m : Mem) (idx : Nat) : Eff :=
  match o.op with
  | .store t a x => match (ρ x).v with | some v => storeX C m t (ρ a) v | none => .res .bad
  | .mapUpdate t mp k x =>
    match (ρ mp).v, (ρ k).v, (ρ x).v with
    | some mv, some kv, some xv => .own fun own' => ∀ W, Sep C.w0 C.mt (ents m.loc m.own) W → ∃ W', (Instr.mapUpdate t mv kv xv).run C.P W = .ok () W' ∧ Sep C.w0 C.mt (ents m.loc own') W'
    | _, _, _ => .res .bad
  | .call c =>
    match c.callee with
    | .builtin .append =>
      match allVals (c.args.toList.map ρ) with
      | some as => .phi (shOf C o.type) fun Φ => OpG C m.loc m.own (Builtin.append_ c.argTypes o.type ⟨as⟩) (shOf C o.type) Φ
      | none => .res .bad
    | .builtin .copy =>
      match allVals (c.args.toList.map ρ) with
      | some as => .phi (shOf C o.type) fun Φ => OpG C m.loc m.own (Builtin.copy_ c.argTypes o.type ⟨as⟩) (shOf C o.type) Φ
      | none => .res .bad
    | .value g =>
      match (ρ g).v, allVals (c.args.toList.map ρ) with
      | some (.func (.func f) first captured), some as =>
        match C.ck f with
        | .gen => .phi (shOf C o.type) fun Φ => CallG C m.loc m.own f (first.toList ++ as ++ captured.toList) (shOf C o.type) Φ
        | _ => .res (resX C o ρ m idx)
      | _, _ => .res .bad
    | _ => .res (resX C o ρ m idx)
  | _ => .res (resX C o ρ m idx)

structure St where
  env : Env
  loc : Loc
  own : Own
  nw : List (Nat × NB)
def ins (i : Nat) (b : NB) : List (Nat × NB) → List (Nat × NB)
  | [] => [(i, b)]
  | (j, c) :: r => cond (Nat.blt i j) ((i, b) :: (j, c) :: r) ((j, c) :: ins i b r)
def undefS : Slot := ⟨some undef, none⟩
/-- one operation after the other: what is new is laid at once -/
def St.add (σ : St) (d : Option Nat) (out : Out) : St :=
  match out.nb with
  | none => { σ with env := put σ.env d ⟨some out.v, out.al⟩ }
  | some (.loc b) => { σ with env := put σ.env d ⟨some out.v, out.al⟩, loc := σ.loc ++ [b] }
  | some (.own k o) => { σ with env := put σ.env d ⟨some out.v, out.al⟩, own := (k, o) :: σ.own }
def Eff.T (e : Eff) (σ : St) (d : Option Nat) (K : St → Prop) : Prop :=
  match e with
  | .res r => r.T fun out => K (σ.add d out)
  | .loc l => K { σ with env := put σ.env d undefS, loc := l }
  | .own p => ∃ own', p own' ∧ K { σ with env := put σ.env d undefS, own := own' }
  | .phi sh p => ∃ Φ, p Φ ∧ allS sh fun v => ∀ own', Φ v own' → K { σ with env := put σ.env d ⟨some v, none⟩, own := own' }
def St.mem (σ : St) : Mem := ⟨σ.loc, σ.own⟩
def St.skip (σ : St) (d : Option Nat) : St := { σ with env := put σ.env d undefS }
def litB (b : Bool) : Slot := ⟨some (.bool b), none⟩
/-- a region whose order stands: operation by operation -/
def stepS (C : Ctx) (ops : List Oper) (o : Oper) (σ : St) (K : St → Prop) : Prop :=
  match o.guard with
  | none => (effX C o (slotOf σ.env) σ.mem σ.loc.length).T σ o.dst K
  | some (j, want) =>
    match (ops[j]?).bind (·.dst) with
    | some g =>
      match (σ.env.getD g ⟨none, none⟩) with
      | ⟨some (.bool b), none⟩ =>
        cond b
          (cond want (let σ' := { σ with env := σ.env.set g (litB true) }; (effX C o (slotOf σ'.env) σ.mem σ.loc.length).T σ' o.dst K) (K (({ σ with env := σ.env.set g (litB true) } : St).skip o.dst)))
          (cond want (K (({ σ with env := σ.env.set g (litB false) } : St).skip o.dst)) (let σ' := { σ with env := σ.env.set g (litB false) }; (effX C o (slotOf σ'.env) σ.mem σ.loc.length).T σ' o.dst K))
      | ⟨some (.tuple _), none⟩ => K (σ.skip o.dst)
      | _ => False
    | none => False
def regS (C : Ctx) (ops : List Oper) (K : St → Prop) : List Oper → St → Prop
  | [], σ => K σ
  | o :: rest, σ => stepS C ops o σ (regS C ops K rest)
end Go.Tn
end
section
namespace Go.Tn
open Go.RowKit
set_option linter.unusedSimpArgs false
set_option linter.unusedVariables false

/-! ### Sep -/
section
variable {w0 : World} {mt : List Nat} {l l' : List (Nat × Obj)} {W W' : World}
theorem Sep.ext (h : Sep w0 mt l W) (e : Ext W W') : Sep w0 mt l W' where
  os := e.os.trans h.os
  tape := e.tape.trans h.tape
  output := e.output.trans h.output
  size := Nat.le_trans h.size e.size
  keep := fun b hb hm => (e.block b (Nat.lt_of_lt_of_le hb h.size)).trans (h.keep b hb hm)
  own := fun b o hm => by
    have hw := h.own b o hm
    have : b < W.heap.size := by
      rcases Nat.lt_or_ge b W.heap.size with h | h
      · exact h
      · simp [Array.getElem?_eq_none h] at hw
    rw [e.block b this]; exact hw
  new := h.new
  nodup := h.nodup
theorem Sep.perm (h : Sep w0 mt l W) (p : l.Perm l') : Sep w0 mt l' W where
  os := h.os
  tape := h.tape
  output := h.output
  size := h.size
  keep := h.keep
  own := fun b o hm => h.own b o (p.mem_iff.2 hm)
  new := fun b o hm => h.new b o (p.mem_iff.2 hm)
  nodup := (p.map Prod.fst).nodup_iff.1 h.nodup
theorem Sep.sub (h : Sep w0 mt l W) (p : l'.Sublist l) : Sep w0 mt l' W where
  os := h.os
  tape := h.tape
  output := h.output
  size := h.size
  keep := h.keep
  own := fun b o hm => h.own b o (p.subset hm)
  new := fun b o hm => h.new b o (p.subset hm)
  nodup := (p.map Prod.fst).nodup h.nodup
theorem Sep.lt (h : Sep w0 mt l W) {b : Nat} {o : Obj} (hm : (b, o) ∈ l) : b < W.heap.size := by
  have hw := h.own b o hm
  rcases Nat.lt_or_ge b W.heap.size with h | h
  · exact h
  · simp [Array.getElem?_eq_none h] at hw
theorem Sep.alloc (h : Sep w0 mt l W) (o : Obj) : Sep w0 mt ((W.heap.size, o) :: l) (W.alloc o) where
  os := h.os
  tape := h.tape
  output := h.output
  size := by have := h.size; simp; omega
  keep := fun b hb hm => by rw [← h.keep b hb hm]; exact Below.heap_alloc W o b (Nat.lt_of_lt_of_le hb h.size)
  own := fun b o' hm => by
    rcases List.mem_cons.1 hm with e | hm
    · cases e; exact heap_alloc_new W o
    · rw [← h.own b o' hm]; exact Below.heap_alloc W o b (h.lt hm)
  new := fun b o' hm => by
    rcases List.mem_cons.1 hm with e | hm
    · cases e; exact .inr h.size
    · exact h.new b o' hm
  nodup := by
    rw [List.map_cons, List.nodup_cons]
    refine ⟨fun hm => ?_, h.nodup⟩
    obtain ⟨⟨b, o'⟩, hm, e⟩ := List.mem_map.1 hm
    have := h.lt hm
    dsimp only at e
    omega
theorem Sep.alloc_at {a b : List (Nat × Obj)} (h : Sep w0 mt (a ++ b) W) (o : Obj) : Sep w0 mt (a ++ (W.heap.size, o) :: b) (W.alloc o) :=
  (h.alloc o).perm List.perm_middle.symm
theorem Sep.drewN (h : Sep w0 mt l W) (hW : W'.heap = W.heap) (h1 : W'.os = W.os) (h2 : W'.tape = W.tape) (h3 : W'.output = W.output) : Sep w0 mt l W' where
  os := h1.trans h.os
  tape := h2.trans h.tape
  output := h3.trans h.output
  size := by rw [hW]; exact h.size
  keep := fun b hb hm => by rw [hW]; exact h.keep b hb hm
  own := fun b o hm => by rw [hW]; exact h.own b o hm
  new := h.new
  nodup := h.nodup
theorem Sep.drew (h : Sep w0 mt l W) : Sep w0 mt l W.drew := h.drewN rfl rfl rfl rfl
theorem Sep.self (w0 : World) : Sep w0 [] [] w0 where
  os := rfl
  tape := rfl
  output := rfl
  size := Nat.le_refl _
  keep := fun _ _ _ => rfl
  own := fun _ _ h => by cases h
  new := fun _ _ h => by cases h
  nodup := List.nodup_nil
theorem Sep.below (h : Sep w0 [] l W) : Ext w0 W := ⟨h.os, h.tape, h.output, h.size, fun k hk => h.keep k hk (by simp)⟩
end

/-! ### types -/
def TabOk (P : Program) (tab : List TyI) : Prop := ∀ t i, tab[t]? = some i → TyI.of P t = some i
section
variable {C : Ctx} {w : World}
theorem ty_info (hC : TabOk C.P C.tab) {t : TypeId} {i : TyI} (h : C.tab[t]? = some i) :
    ∃ inf u, C.P.info? t = some inf ∧ C.P.underlying t = some u ∧ Ti.of u = i.ti ∧ inf.size = i.size ∧ inf.bytes = i.bytes ∧ inf.zero = i.zero := by
  have := hC t i h
  unfold TyI.of at this
  split at this
  · rename_i inf u h1 h2
    cases this
    exact ⟨inf, u, h1, h2, rfl, rfl, rfl, rfl⟩
  · cases this
theorem run_typeInfo {P : Program} {t : TypeId} {i : TypeInfo} (h : P.info? t = some i) (w : World) : (typeInfo t).run P w = .ok i w := by
  simp [typeInfo, h]
theorem run_sizeOf (hC : TabOk C.P C.tab) {t : TypeId} {i : TyI} (h : C.tab[t]? = some i) : (sizeOf t).run C.P w = .ok i.size w := by
  obtain ⟨inf, u, h1, h2, h3, h4, h5, h6⟩ := ty_info hC h
  simp [sizeOf, run_typeInfo h1, h4]
theorem run_zeroValue (hC : TabOk C.P C.tab) {t : TypeId} {i : TyI} (h : C.tab[t]? = some i) {z : Value} (hz : i.zero = some z) : (zeroValue t).run C.P w = .ok z w := by
  obtain ⟨inf, u, h1, h2, h3, h4, h5, h6⟩ := ty_info hC h
  simp [zeroValue, run_typeInfo h1, h6, hz]
def descAgg : TypeDesc → Bool
  | .struct _ | .array _ _ => true
  | _ => false
theorem run_isAgg (hC : TabOk C.P C.tab) {t : TypeId} {i : TyI} (h : C.tab[t]? = some i) : (isAgg t).run C.P w = .ok i.agg w := by
  obtain ⟨inf, u, h1, h2, h3, h4, h5, h6⟩ := ty_info hC h
  have : i.agg = descAgg u := by
    rw [TyI.agg, ← h3]; cases u <;> simp [Ti.of, descAgg] <;> rename_i k <;> cases k <;> rfl
  rw [this]
  cases u <;> simp [isAgg, run_underlying h2, descAgg]
theorem under_slice (hC : TabOk C.P C.tab) {t e : TypeId} {a b : Nat} {z : Option Value} (h : C.tab[t]? = some ⟨.slice e, a, b, z⟩) : C.P.underlying t = some (.slice e) := by
  obtain ⟨inf, u, h1, h2, h3, _⟩ := ty_info hC h
  rw [h2]; cases u <;> simp [Ti.of] at h3 <;> first | (rw [h3]; done) | (rename_i k; cases k <;> simp [Ti.of] at h3)
theorem under_array (hC : TabOk C.P C.tab) {t e : TypeId} {n a b : Nat} {z : Option Value} (h : C.tab[t]? = some ⟨.array n e, a, b, z⟩) : C.P.underlying t = some (.array n e) := by
  obtain ⟨inf, u, h1, h2, h3, _⟩ := ty_info hC h
  rw [h2]; cases u <;> simp [Ti.of] at h3 <;> first | (rw [h3.1, h3.2]; done) | (rename_i k; cases k <;> simp [Ti.of] at h3)
theorem under_map (hC : TabOk C.P C.tab) {t k e : TypeId} {a b : Nat} {z : Option Value} (h : C.tab[t]? = some ⟨.map k e, a, b, z⟩) : C.P.underlying t = some (.map k e) := by
  obtain ⟨inf, u, h1, h2, h3, _⟩ := ty_info hC h
  rw [h2]; cases u <;> simp [Ti.of] at h3 <;> first | (rw [h3.1, h3.2]; done) | (rename_i k; cases k <;> simp [Ti.of] at h3)
theorem under_int (hC : TabOk C.P C.tab) {t : TypeId} {i : TyI} {k : IntKind} (h : C.tab[t]? = some i) (hi : i.ti = .int k) : C.P.underlying t = some (.int k) := by
  obtain ⟨inf, u, h1, h2, h3, _⟩ := ty_info hC h
  rw [hi] at h3
  rw [h2]; cases u <;> simp [Ti.of] at h3 <;> first | (rw [h3]; done) | (rename_i k; cases k <;> simp [Ti.of] at h3)
theorem under_float (hC : TabOk C.P C.tab) {t : TypeId} {i : TyI} (h : C.tab[t]? = some i) (hi : i.ti = .float) : C.P.underlying t = some (.float .f64) := by
  obtain ⟨inf, u, h1, h2, h3, _⟩ := ty_info hC h
  rw [hi] at h3
  rw [h2]; cases u <;> simp [Ti.of] at h3 <;> (rename_i k; cases k <;> simp [Ti.of] at h3 ⊢)
theorem under_struct (hC : TabOk C.P C.tab) {t : TypeId} {i : TyI} {fs : List (Nat × TypeId)} (h : C.tab[t]? = some i) (hi : i.ti = .struct fs) :
    ∃ fields : Array Field, C.P.underlying t = some (.struct fields) ∧ fields.toList.map (fun f => (f.offset, f.type)) = fs := by
  obtain ⟨inf, u, h1, h2, h3, _⟩ := ty_info hC h
  rw [hi] at h3
  cases u <;> simp [Ti.of] at h3 <;> first | exact ⟨_, h2, h3⟩ | (rename_i k; cases k <;> simp [Ti.of] at h3)
theorem under_ptr (hC : TabOk C.P C.tab) {t e : TypeId} {a b : Nat} {z : Option Value} (h : C.tab[t]? = some ⟨.ptr e, a, b, z⟩) : C.P.underlying t = some (.pointer e) := by
  obtain ⟨inf, u, h1, h2, h3, _⟩ := ty_info hC h
  rw [h2]; cases u <;> simp [Ti.of] at h3 <;> first | (rw [h3]; done) | (rename_i k; cases k <;> simp [Ti.of] at h3)
theorem under_some (hC : TabOk C.P C.tab) {t : TypeId} {i : TyI} (h : C.tab[t]? = some i) : (C.P.underlying t).isSome = true := by
  obtain ⟨inf, u, h1, h2, h3, _⟩ := ty_info hC h
  simp [h2]
end
end Go.Tn
end
section
namespace Go.Tn
open Go.RowKit
set_option linter.unusedSimpArgs false
set_option linter.unusedVariables false

/-! ### memory -/
theorem cell_of_obj {W : World} {k o : Nat} {cs : List Value} {t : TypeId} {fr : Nat × Nat} (h : W.heap[k]? = some (.cells ⟨cs⟩ t fr)) : W.cell? ⟨k, o, none⟩ = cs[o]? := by
  simp [World.cell?, h]
theorem add_none (k o n : Nat) : Addr.add ⟨k, o, none⟩ n = ⟨k, o + n, none⟩ := by
  unfold Addr.add; split
  · subst n; rfl
  · rfl
theorem run_load_of {P : Program} {W : World} {a : Addr} {v : Value} (h : W.cell? a = some v) : (load a).run P W = .ok v W := by simp [h]
theorem take_drop_get {α : Type} (cs : List α) (o n j : Nat) (h : j < n) : ((cs.drop o).take n)[j]? = cs[o + j]? := by
  rw [List.getElem?_take_of_lt h, List.getElem?_drop]
theorem run_loadL {C : Ctx} (hC : TabOk C.P C.tab) {W : World} {k o : Nat} {cs : List Value} {ty t : TypeId} {fr : Nat × Nat} {v : Value}
    (h : W.heap[k]? = some (.cells ⟨cs⟩ ty fr)) (hv : loadL C t cs o = some v) : (loadVar t ⟨k, o, none⟩).run C.P W = .ok v W := by
  unfold loadL at hv
  cases ht : C.tab[t]? with
  | none => simp [ht] at hv
  | some i =>
    simp only [ht] at hv
    have hA := run_isAgg hC (w := W) ht
    have hS := run_sizeOf hC (w := W) ht
    cases hi : i.agg with
    | false =>
      simp only [hi, cond_false] at hv
      simp [loadVar, hA, hi, cell_of_obj h, hv]
    | true =>
      simp only [hi, cond_true] at hv
      cases hb : Nat.ble (o + i.size) cs.length with
      | false => simp [hb] at hv
      | true =>
        have hb' : o + i.size ≤ cs.length := Nat.le_of_ble_eq_true hb
        simp only [hb, cond_true, Option.some.injEq] at hv
        subst hv
        have hl : ((cs.drop o).take i.size).length = i.size := by simp; omega
        have := run_loadCells_list (P := C.P) (w := W) ⟨k, o, none⟩ ((cs.drop o).take i.size) (fun j v hj => by
          rw [add_none, cell_of_obj h, ← hj, take_drop_get]
          have hlt : j < ((cs.drop o).take i.size).length := by
            rcases Nat.lt_or_ge j ((cs.drop o).take i.size).length with h | h
            · exact h
            · rw [List.getElem?_eq_none h] at hj; cases hj
          rw [hl] at hlt; exact hlt)
        rw [hl] at this
        simp [loadVar, hA, hi, hS, this]

theorem isOne_one {v : Value} (h : isOne v = true) : v.oneCell' = true := by cases v <;> first | rfl | (simp [isOne] at h)
theorem setCell_obj {W : World} {k o : Nat} {cs : List Value} {t : TypeId} {v : Value} (h : W.heap[k]? = some (.cells ⟨cs⟩ t)) :
    (W.setCell ⟨k, o, none⟩ v).heap[k]? = some (.cells ⟨cs.set o v⟩ t) := by
  simp [World.setCell, Array.getElem?_modify, h]
/-- cells written one after the other into a block of the call's own -/
theorem run_storeCells {P : Program} {k : Nat} {t : TypeId} : ∀ (vs : List Value) (W : World) (cs : List Value) (o i : Nat),
    W.heap[k]? = some (.cells ⟨cs⟩ t) → o + i + vs.length ≤ cs.length → vs.all isOne = true →
    ∃ W', (storeCells ⟨k, o, none⟩ vs i).run P W = .ok () W' ∧ W'.heap[k]? = some (.cells ⟨cs.take (o + i) ++ vs ++ cs.drop (o + i + vs.length)⟩ t) ∧
      (∀ b, b ≠ k → W'.heap[b]? = W.heap[b]?) ∧ W'.heap.size = W.heap.size ∧ W'.os = W.os ∧ W'.tape = W.tape ∧ W'.output = W.output := by
  intro vs
  induction vs with
  | nil => intro W cs o i h _ _; exact ⟨W, by simp [storeCells], by simp [h], fun _ _ => rfl, rfl, rfl, rfl, rfl⟩
  | cons v r ih =>
    intro W cs o i h hl hv
    simp only [List.length_cons] at hl
    simp only [List.all_cons, Bool.and_eq_true] at hv
    have hlt : o + i < cs.length := by omega
    have hc : W.cell? ⟨k, o + i, none⟩ = some cs[o + i] := by rw [cell_of_obj h, List.getElem?_eq_getElem hlt]
    have hf : W.frozen? ⟨k, o + i, none⟩ = false := by simp [World.frozen?, h]
    have h1 := setCell_obj (o := o + i) (v := v) h
    obtain ⟨W', hr, hh, hb, hs, h5, h6, h7⟩ := ih (W.setCell ⟨k, o + i, none⟩ v) (cs.set (o + i) v) o (i + 1) h1 (by simp; omega) hv.2
    refine ⟨W', ?_, ?_, ?_, ?_, h5, h6, h7⟩
    · simp [storeCells, add_none, run_store P W _ v .plain (isOne_one hv.1), hc, hf, hr]
    · rw [hh]
      congr 2
      have e1 : (cs.set (o + i) v).take (o + (i + 1)) = cs.take (o + i) ++ [v] := by
        rw [show o + (i + 1) = o + i + 1 by omega, List.take_succ_eq_append_getElem (by simpa using hlt)]
        simp [List.take_set_of_le]
      have e2 : (cs.set (o + i) v).drop (o + (i + 1) + r.length) = cs.drop (o + i + (r.length + 1)) := by
        rw [List.drop_set_of_lt (by omega)]; congr 1; omega
      rw [e1, e2]; simp
    · intro b hne
      rw [hb b hne]
      exact Below.heap_setCell _ _ _ _ hne
    · rw [hs]; simp
theorem Sep.store {w0 : World} {mt : List Nat} {W W' : World} {k : Nat} {o o' : Obj} {a b : List (Nat × Obj)}
    (h : Sep w0 mt (a ++ (k, o) :: b) W) (hk : W'.heap[k]? = some o') (hb : ∀ b, b ≠ k → W'.heap[b]? = W.heap[b]?) (hs : W'.heap.size = W.heap.size)
    (h1 : W'.os = W.os) (h2 : W'.tape = W.tape) (h3 : W'.output = W.output) : Sep w0 mt (a ++ (k, o') :: b) W' where
  os := h1.trans h.os
  tape := h2.trans h.tape
  output := h3.trans h.output
  size := by rw [hs]; exact h.size
  keep := fun x hx hm => by
    have hne : x ≠ k := by
      intro e; subst e
      rcases h.new x o (by simp) with h | h
      · exact hm h
      · omega
    rw [hb x hne]; exact h.keep x hx hm
  own := fun x y hm => by
    have hn := h.nodup
    simp only [List.map_append, List.map_cons, List.nodup_append, List.nodup_cons] at hn
    rcases List.mem_append.1 hm with ha | hm1
    · have hx : x ∈ List.map Prod.fst a := List.mem_map_of_mem (f := Prod.fst) ha
      have hne : x ≠ k := fun e => hn.2.2 x hx x (by simp [e]) rfl
      rw [hb x hne]; exact h.own x y (by simp [ha])
    · rcases List.mem_cons.1 hm1 with e | hm2
      · cases e; exact hk
      · have hx : x ∈ List.map Prod.fst b := List.mem_map_of_mem (f := Prod.fst) hm2
        have hne : x ≠ k := fun e => hn.2.1.1 (e ▸ hx)
        rw [hb x hne]; exact h.own x y (by simp [hm2])
  new := fun x y hm => by
    rcases List.mem_append.1 hm with hm | hm
    · exact h.new x y (by simp [hm])
    · rcases List.mem_cons.1 hm with e | hm
      · cases e; exact h.new k o (by simp)
      · exact h.new x y (by simp [hm])
  nodup := by have := h.nodup; simpa using this
end Go.Tn
end
section
namespace Go.Tn
open Go.RowKit
set_option linter.unusedSimpArgs false
set_option linter.unusedVariables false

def EnvOk (env : Env) (tmps : Array Value) : Prop := ∀ (t : Nat) (v : Value) (al : Option (Nat × Nat)), env[t]? = some (Slot.mk (some v) al) → tmps[t]? = some v
def AlOk (env : Env) (loc : Loc) : Prop := ∀ (t : Nat) (v : Option Value) (i j : Nat), env[t]? = some (Slot.mk v (some (i, j))) → ∃ b : LB, loc[i]? = some b ∧ v = some (.pointer (some ⟨b.k, j, none⟩))
theorem slot_eval {env : Env} {a : Act} (h : EnvOk env a.tmps) {x : Operand} {v : Value} {al : Option (Nat × Nat)} (hx : slotOf env x = ⟨some v, al⟩) : a.eval x = v := by
  cases x with
  | tmp t =>
    simp only [slotOf, List.getD_eq_getElem?_getD] at hx
    cases ht : env[t]? with
    | none => simp [ht] at hx
    | some s =>
      simp only [ht, Option.getD_some] at hx
      subst hx
      simp [Act.eval, h t v al ht]
  | const c => simp only [slotOf, Slot.mk.injEq, Option.some.injEq] at hx; exact hx.1
  | global g => simp only [slotOf, Slot.mk.injEq, Option.some.injEq] at hx; exact hx.1
  | func f => simp only [slotOf, Slot.mk.injEq, Option.some.injEq] at hx; exact hx.1
theorem slot_val {env : Env} {a : Act} (h : EnvOk env a.tmps) {x : Operand} {v : Value} (hx : (slotOf env x).v = some v) : a.eval x = v := by
  cases hs : slotOf env x with
  | mk u al => rw [hs] at hx; dsimp only at hx; subst hx; exact slot_eval h hs
theorem slot_al {env : Env} {loc : Loc} (h : AlOk env loc) {x : Operand} {v : Option Value} {i j : Nat} (hx : slotOf env x = ⟨v, some (i, j)⟩) :
    ∃ b, loc[i]? = some b ∧ v = some (.pointer (some ⟨b.k, j, none⟩)) := by
  cases x with
  | tmp t =>
    simp only [slotOf, List.getD_eq_getElem?_getD] at hx
    cases ht : env[t]? with
    | none => simp [ht] at hx
    | some s => simp only [ht, Option.getD_some] at hx; subst hx; exact h t v i j ht
  | const c => simp [slotOf] at hx
  | global g => simp [slotOf] at hx
  | func f => simp [slotOf] at hx
theorem vals_eval {env : Env} {a : Act} (h : EnvOk env a.tmps) : ∀ {xs : List Operand} {vs : List Value}, allVals (xs.map (slotOf env)) = some vs → xs.map a.eval = vs := by
  intro xs
  induction xs with
  | nil => intro vs hv; simp [allVals] at hv; simp [hv]
  | cons x r ih =>
    intro vs hv
    simp only [List.map_cons] at hv ⊢
    cases hx : slotOf env x with
    | mk u al =>
      rw [hx] at hv
      cases u with
      | none => simp [allVals] at hv
      | some u =>
        simp only [allVals] at hv
        cases hr : allVals (r.map (slotOf env)) with
        | none => simp [hr] at hv
        | some us =>
          simp only [hr, Option.map_some, Option.some.injEq] at hv
          subst hv
          rw [slot_eval h hx, ih hr]
theorem allVals_parts {env : Env} {a : Act} (h : EnvOk env a.tmps) {ps : List (Nat × Operand)} {vs : List Value} (hv : allVals ((ps.map fun (i, x) => (i, slotOf env x)).map (·.2)) = some vs) :
    (ps.map fun (i, x) => (i, a.eval x)) = (ps.map (·.1)).zip vs := by
  have e : (ps.map fun (i, x) => (i, slotOf env x)).map (·.2) = (ps.map (·.2)).map (slotOf env) := by simp [Function.comp_def]
  rw [e] at hv
  have := vals_eval h hv
  rw [← this]
  clear hv e this
  induction ps with
  | nil => rfl
  | cons p r ih => simp [ih]

/-- The operation runs to its end, or its call comes back, with R. -/
def Runs (P : Program) (o : Oper) (a : Act) (W : World) (R : Value → World → Prop) : Prop :=
  ∀ next Q, (∀ v W', R v W' → next (a.put o.dst v) W') → o.wp P a W next Q
theorem Runs.val {P : Program} {o : Oper} {a : Act} {W W' : World} {R : Value → World → Prop} {v : Value} (h : (execOp a.eval o).run P W = .ok (.value v) W') (hR : R v W') :
    Runs P o a W R := fun next Q hn => by unfold Oper.wp; rw [h]; exact hn _ _ hR
theorem Runs.skip {P : Program} {o : Oper} {a : Act} {W W' : World} {R : Value → World → Prop} (h : (execOp a.eval o).run P W = .ok .skip W') (hR : R undef W') :
    Runs P o a W R := fun next Q hn => by unfold Oper.wp; rw [h]; exact hn _ _ hR
theorem Runs.mono {P : Program} {o : Oper} {a : Act} {W : World} {R R' : Value → World → Prop} (h : Runs P o a W R) (hR : ∀ v W', R v W' → R' v W') : Runs P o a W R' :=
  fun next Q hn => h next Q fun v W' hv => hn v W' (hR v W' hv)
theorem Runs.does {P : Program} {o : Oper} {a : Act} {W : World} {R : Value → World → Prop} {f : FuncId} {args : List Value}
    (h : execOp a.eval o = callFunc f ⟨args⟩) (hd : Does P f args W R) : Runs P o a W R := fun next Q hn => by
  unfold Oper.wp
  rw [h]
  unfold Does at hd
  split at hd
  · rename_i v W' hr
    rw [hr]
    exact hn _ _ hd
  · rename_i g as W' hr
    rw [hr]
    refine Calls.mono hd ?_
    rintro e w ⟨v, rfl, hv⟩
    exact hn _ _ hv
  · exact hd.elim
theorem run_pureN {P : Program} {W W' : World} {s : Sem Value} {v : Value} (h : s.run P W = .ok v W') :
    (do pure (Next.value (← s)) : Sem Next).run P W = .ok (.value v) W' := by simp [h]

/-! ### the pure operations -/
theorem negBits (b : Nat) : True := trivial
theorem isNaN_cut (x y t : Nat) : isNaN64 ((Question.nanBits .f64 x y).cut t) := by
  have e : (Question.nanBits .f64 x y).cut t = (t % 2) * 2 ^ 63 + 0x7ff0000000000000 + 1 + (t / 2) % (2 ^ 52 - 1) := rfl
  have hi : Ieee.Format.infRung Ieee.double = 0x7ff0000000000000 := by decide
  unfold isNaN64
  rw [hi, e]
  have h1 : t % 2 < 2 := Nat.mod_lt _ (by decide)
  have h2 : t / 2 % (2 ^ 52 - 1) < 2 ^ 52 - 1 := Nat.mod_lt _ (by decide)
  generalize t / 2 % (2 ^ 52 - 1) = r at h2 ⊢
  generalize t % 2 = s at h1 ⊢
  omega
theorem run_floatArith {P : Program} {W : World} (op : BinOp) (x y : Nat) (ro : Option Nat)
    (ho : (op = .add ∧ ro = f64.add x y) ∨ (op = .sub ∧ ro = f64.sub x y) ∨ (op = .mul ∧ ro = f64.mul x y) ∨ (op = .quo ∧ ro = f64.div x y)) :
    ∃ r W', FRes ro r ∧ (Op.floatArith op .f64 x y).run P W = .ok (.float .f64 r) W' ∧ W'.heap = W.heap ∧ W'.os = W.os ∧ W'.tape = W.tape ∧ W'.output = W.output := by
  cases hr : ro with
  | some s =>
    refine ⟨s, W, rfl, ?_, rfl, rfl, rfl, rfl⟩
    rcases ho with ⟨rfl, h⟩ | ⟨rfl, h⟩ | ⟨rfl, h⟩ | ⟨rfl, h⟩ <;> rw [hr] at h <;> simp [Op.floatArith, FloatKind.format, ← h]
  | none =>
    refine ⟨(Question.nanBits .f64 x y).cut (W.tape W.drawn (.nanBits .f64 x y)), { W with drawn := W.drawn + 1 }, isNaN_cut _ _ _, ?_, rfl, rfl, rfl, rfl⟩
    rcases ho with ⟨rfl, h⟩ | ⟨rfl, h⟩ | ⟨rfl, h⟩ | ⟨rfl, h⟩ <;> rw [hr] at h <;> simp [Op.floatArith, FloatKind.format, ← h, Question.forced]

/-- what is new behind an operation -/
def OutOk (C : Ctx) (loc : Loc) (l : List (Nat × Obj)) (idx : Nat) (out : Out) (W : World) : Prop :=
  match out.nb with
  | none => Sep C.w0 C.mt l W ∧ ∀ i j, out.al = some (i, j) → ∃ b, loc[i]? = some b ∧ out.v = .pointer (some ⟨b.k, j, none⟩)
  | some nb => Sep C.w0 C.mt (nb.ent :: l) W ∧ ∀ i j, out.al = some (i, j) → ∃ b, nb = .loc b ∧ i = idx ∧ j = 0 ∧ out.v = .pointer (some ⟨b.k, 0, none⟩)
theorem OutOk.plain {C : Ctx} {loc : Loc} {l : List (Nat × Obj)} {idx : Nat} {v : Value} {W : World} (h : Sep C.w0 C.mt l W) : OutOk C loc l idx ⟨v, none, none⟩ W :=
  ⟨h, fun i j e => by cases e⟩

section
variable {C : Ctx} {o : Oper} {a : Act} {env : Env} {loc : Loc} {own : Own} {ex : List (Nat × Obj)} {W : World} {idx : Nat} {K : Out → Prop}
/-- What is asked of each operation. -/
def Good (C : Ctx) (o : Oper) (a : Act) (loc : Loc) (l : List (Nat × Obj)) (idx : Nat) (W : World) (K : Out → Prop) : Prop :=
  Runs C.P o a W fun v W' => ∃ out, K out ∧ out.v = v ∧ OutOk C loc l idx out W'

theorem good_det {l : List (Nat × Obj)} {v : Value} (hS : Sep C.w0 C.mt l W) (hr : (execOp a.eval o).run C.P W = .ok (.value v) W) (h : K ⟨v, none, none⟩) : Good C o a loc l idx W K :=
  .val hr ⟨_, h, rfl, .plain hS⟩
theorem good_intB {l : List (Nat × Obj)} {op : BinOp} {k : IntKind} {x y : Int} {s : Sem Value} (hS : Sep C.w0 C.mt l W)
    (hr : execOp a.eval o = (do pure (Next.value (← s)))) (hs : ∀ W, s.run C.P W = (if isShift op then Op.shift op k x k y else match op with
      | .add | .sub | .mul => Op.intArith op k x y | .quo | .rem => Op.intDiv op k x y | .and | .or | .xor | .andNot => Op.intBits op k x y | _ => Op.intCmp op x y).run C.P W)
    (h : (intB op k x y).T K) : Good C o a loc l idx W K := by
  have key : ∀ v, s.run C.P W = .ok v W → K ⟨v, none, none⟩ → Good C o a loc l idx W K := fun v hv hk => good_det hS (by rw [hr]; exact run_pureN hv) hk
  cases op <;> simp only [intB, intV, boolV, Res.T] at h
  case add => exact key _ (by rw [hs]; simp [isShift, Op.intArith]) h
  case sub => exact key _ (by rw [hs]; simp [isShift, Op.intArith]) h
  case mul => exact key _ (by rw [hs]; simp [isShift, Op.intArith]) h
  case quo => exact key _ (by rw [hs]; simp [isShift, Op.intDiv, h.1]) h.2
  case rem => exact key _ (by rw [hs]; simp [isShift, Op.intDiv, h.1]) h.2
  case and => exact key _ (by rw [hs]; simp [isShift, Op.intBits, bitsI]) h
  case or => exact key _ (by rw [hs]; simp [isShift, Op.intBits, bitsI]) h
  case xor => exact key _ (by rw [hs]; simp [isShift, Op.intBits, bitsI]) h
  case andNot => exact key _ (by rw [hs]; simp [isShift, Op.intBits, bitsI]) h
  case shl => exact key _ (by rw [hs]; simp [isShift, Op.shift, Int.not_lt.2 h.1]) h.2
  case shr => exact key _ (by rw [hs]; simp [isShift, Op.shift, Int.not_lt.2 h.1]) h.2
  case eql => exact key _ (by rw [hs]; simp [isShift, Op.intCmp]) h
  case neq => exact key _ (by rw [hs]; simp [isShift, Op.intCmp]) h
  case lss => exact key _ (by rw [hs]; simp [isShift, Op.intCmp]) h
  case leq => exact key _ (by rw [hs]; simp [isShift, Op.intCmp]) h
  case gtr => exact key _ (by rw [hs]; simp [isShift, Op.intCmp]) h
  case geq => exact key _ (by rw [hs]; simp [isShift, Op.intCmp]) h
theorem good_fl {l : List (Nat × Obj)} {op : BinOp} {x y : Nat} {ro : Option Nat} (hS : Sep C.w0 C.mt l W)
    (ho : (op = .add ∧ ro = f64.add x y) ∨ (op = .sub ∧ ro = f64.sub x y) ∨ (op = .mul ∧ ro = f64.mul x y) ∨ (op = .quo ∧ ro = f64.div x y))
    (hr : (execOp a.eval o).run C.P W = ((do pure (Next.value (← Op.floatArith op .f64 x y))) : Sem Next).run C.P W)
    (h : (Res.fl ro).T K) : Good C o a loc l idx W K := by
  obtain ⟨r, W', hf, hrun, h1, h2, h3, h4⟩ := run_floatArith (P := C.P) (W := W) op x y ro ho
  exact .val (by rw [hr]; exact run_pureN hrun) ⟨_, h r hf, rfl, .plain (hS.drewN h1 h2 h3 h4)⟩
end
end Go.Tn
end
section
namespace Go.Tn
open Go.RowKit
set_option linter.unusedSimpArgs false
set_option linter.unusedVariables false

theorem run_equalIn_ptr_nil {P : Program} {W : World} (d : Nat) (t e : TypeId) (p : Option Addr) (h : P.underlying t = some (.pointer e)) : (Op.equalIn (d + 1) t (.pointer p) (.pointer none)).run P W = .ok p.isNone W := by
  cases p <;> simp [Op.equalIn, run_underlying h]
theorem wrap_bd (k : IntKind) (n : Int) : k.min ≤ k.wrap n ∧ k.wrap n ≤ k.max := by
  cases k <;> simp only [IntKind.min, IntKind.max, IntKind.wrap, IntKind.signed, IntKind.bits] <;> simp <;> (try split) <;> omega
theorem run_eqGuard_other {P : Program} {W : World} (op : BinOp) (t : TypeId) (x y : Operand) (u v : Value)
    (h : ∀ cs ds, ¬ (u = .agg cs ∧ v = .agg ds)) (h' : ¬ (u = .nilIface ∧ v = .nilIface)) : (eqGuard op t x y u v).run P W = .ok () W := by
  unfold eqGuard
  cases op <;> simp <;> (cases u <;> cases v <;> simp_all)

section
variable {C : Ctx} {o : Oper} {a : Act} {env : Env} {loc : Loc} {own : Own} {ex : List (Nat × Obj)} {W : World} {idx : Nat} {K : Out → Prop}

theorem sep_pre {l ex : List (Nat × Obj)} (h : Sep C.w0 C.mt (l ++ ex) W) : Sep C.w0 C.mt l W := h.sub (List.sublist_append_left l ex)

theorem good_bin (hC : TabOk C.P C.tab) (hS : Sep C.w0 C.mt (ents loc own ++ ex) W) {op : BinOp} {t yt : TypeId} {x y : Operand} {u v : Value}
    (hop : o.op = .binOp op t x y yt) (hx : a.eval x = u) (hy : a.eval y = v) (h : (binX C ⟨loc, own⟩ op t x y u v).T K) :
    Good C o a loc (ents loc own ++ ex) idx W K := by
  have hr : execOp a.eval o = (do pure (Next.value (← (do eqGuard op t x y u v; binOp op t u v)))) := by simp only [execOp, hop, hx, hy]
  unfold binX at h
  split at h
  · rename_i k n k' m
    cases hk : (isShift op || agree k k') with
    | false => simp only [hk, cond_false] at h; exact h.elim
    | true =>
      simp only [hk, cond_true] at h
      refine good_intB (K := K) hS hr ?_ h
      intro W
      simp only [Sem.run_bind, run_eqGuard_other op t x y (.int k n) (.int k' m) (by simp) (by simp), Result.andThen_ok]
      cases hsh : isShift op with
      | true => cases op <;> first | (simp [isShift] at hsh; done) | (simp [binOp]; unfold Op.shift; rfl)
      | false =>
        simp only [hsh, Bool.false_or] at hk
        have := agree_eq hk
        subst this
        cases op <;> first | (simp [isShift] at hsh; done) | simp [binOp]
  · rename_i n m
    have hg : ∀ W, (eqGuard op t x y (.float .f64 n) (.float .f64 m)).run C.P W = .ok () W := fun W => run_eqGuard_other op t x y (.float .f64 n) (.float .f64 m) (by simp) (by simp)
    have hbool : ∀ b, (binOp op t (.float .f64 n) (.float .f64 m)).run C.P W = .ok (.bool b) W → K ⟨.bool b, none, none⟩ → Good C o a loc (ents loc own ++ ex) idx W K := fun b hb hk =>
      good_det hS (by rw [hr]; exact run_pureN (by simp [hg, hb])) hk
    cases op <;> simp only [floatB, boolV, Res.T] at h
    case add => exact good_fl hS (.inl ⟨rfl, rfl⟩) (by rw [hr]; simp [hg, binOp]) h
    case sub => exact good_fl hS (.inr (.inl ⟨rfl, rfl⟩)) (by rw [hr]; simp [hg, binOp]) h
    case mul => exact good_fl hS (.inr (.inr (.inl ⟨rfl, rfl⟩))) (by rw [hr]; simp [hg, binOp]) h
    case quo => exact good_fl hS (.inr (.inr (.inr ⟨rfl, rfl⟩))) (by rw [hr]; simp [hg, binOp]) h
    case eql => exact hbool _ (by simp [binOp, Op.floatCmp]; rfl) h
    case neq => exact hbool _ (by simp [binOp, Op.floatCmp]; rfl) h
    case lss => exact hbool _ (by simp [binOp, Op.floatCmp]; rfl) h
    case leq => exact hbool _ (by simp [binOp, Op.floatCmp]; rfl) h
    case gtr => exact hbool _ (by simp [binOp, Op.floatCmp]; rfl) h
    case geq => exact hbool _ (by simp [binOp, Op.floatCmp]; rfl) h
  · rename_i p
    split at h
    · rename_i e sz by' z ht
      have hu := under_ptr hC ht
      have hg : (eqGuard op t x y (.pointer p) (.pointer none)).run C.P W = .ok () W := run_eqGuard_other op t x y (.pointer p) (.pointer none) (by simp) (by simp)
      have he : (Op.equal t (.pointer p) (.pointer none)).run C.P W = .ok p.isNone W := by
        exact run_equalIn_ptr_nil 9999 t _ p hu
      cases op <;> simp only [boolV, Res.T] at h
      case eql => exact good_det hS (by rw [hr]; exact run_pureN (by simp [hg, binOp, he])) h
      case neq => exact good_det hS (by rw [hr]; exact run_pureN (by simp [hg, binOp, he])) h
    · exact h.elim
  · simp only [Res.T] at h
    obtain ⟨v, hv, hk⟩ := exS_out h
    exact good_det hS (by rw [hr]; exact run_pureN (hv W (sep_pre hS))) hk
  · simp only [Res.T] at h
    obtain ⟨v, hv, hk⟩ := exS_out h
    exact good_det hS (by rw [hr]; exact run_pureN (hv W (sep_pre hS))) hk
  · simp only [Res.T] at h
    obtain ⟨v, hv, hk⟩ := exS_out h
    exact good_det hS (by rw [hr]; exact run_pureN (hv W (sep_pre hS))) hk
  · exact h.elim

theorem good_un (hS : Sep C.w0 C.mt (ents loc own ++ ex) W) {op : UnOp} {t : TypeId} {x : Operand} {u : Value}
    (hop : o.op = .unOp op t x) (hx : a.eval x = u) (h : (unX op u).T K) : Good C o a loc (ents loc own ++ ex) idx W K := by
  have hr : execOp a.eval o = (do pure (Next.value (← Op.unary op u))) := by simp only [execOp, hop, hx]
  unfold unX at h
  split at h <;> simp only [intV, valV, boolV, Res.T] at h
  · exact good_det hS (by rw [hr]; exact run_pureN (by simp [Op.unary, Op.intArith])) h
  · rename_i k n
    have e : (Op.unary .xor (.int k n)).run C.P W = .ok (.int k (bitsI .xor k (cond k.signed (-1) k.max) n)) W := by
      cases k <;> simp [Op.unary, Op.intBits, bitsI, IntKind.signed]
    exact good_det hS (by rw [hr]; exact run_pureN e) h
  · exact good_det hS (by rw [hr]; exact run_pureN (by simp [Op.unary])) h
  · exact good_det hS (by rw [hr]; exact run_pureN (by simp [Op.unary])) h

theorem run_floatToInt {P : Program} (x : Nat) (k : IntKind) : ∃ n W', FToI x k n ∧ (Conv.floatToInt .f64 x k).run P W = .ok (.int k n) W' ∧ W'.heap = W.heap ∧ W'.os = W.os ∧ W'.tape = W.tape ∧ W'.output = W.output := by
  have any : ∃ n W', (k.min ≤ n ∧ n ≤ k.max) ∧ ((do pure (.int k (k.wrap (← choose (.floatToInt .f64 x k)))) : Sem Value)).run P W = .ok (.int k n) W' ∧ W'.heap = W.heap ∧ W'.os = W.os ∧ W'.tape = W.tape ∧ W'.output = W.output := by
    refine ⟨k.wrap ((Question.floatToInt .f64 x k).cut (W.tape W.drawn (.floatToInt .f64 x k)) : Nat), { W with drawn := W.drawn + 1 }, ?_, by simp [Question.forced], rfl, rfl, rfl, rfl⟩
    exact wrap_bd k _
  cases hd : (FloatKind.f64.decode x).toInt .zero with
  | none =>
    obtain ⟨n, W', h1, h2, h3⟩ := any
    exact ⟨n, W', by simp only [FToI, hd]; exact h1, by simp only [Conv.floatToInt, hd]; exact h2, h3⟩
  | some m =>
    by_cases hm : k.min ≤ m ∧ m ≤ k.max
    · exact ⟨m, W, by simp [FToI, hd, hm], by simp [Conv.floatToInt, hd, hm], rfl, rfl, rfl, rfl⟩
    · obtain ⟨n, W', h1, h2, h3⟩ := any
      exact ⟨n, W', by simp only [FToI, hd, if_neg hm]; exact h1, by simp only [Conv.floatToInt, hd, if_neg hm]; exact h2, h3⟩
end
end Go.Tn
end
section
namespace Go.Tn
open Go.RowKit
set_option linter.unusedSimpArgs false
set_option linter.unusedVariables false

/-! ### structs and arrays laid -/
theorem foldl_sets (off : Nat) : ∀ (vs : List Value) (i : Nat) (cs : Array Value), off + i + vs.length ≤ cs.size →
    ((vs.zipIdx i).foldl (fun (cs : Array Value) (p : Value × Nat) => cs.setIfInBounds (off + p.2) p.1) cs).toList = cs.toList.take (off + i) ++ vs ++ cs.toList.drop (off + i + vs.length) := by
  intro vs
  induction vs with
  | nil => intro i cs h; simp
  | cons v r ih =>
    intro i cs h
    simp only [List.length_cons] at h
    simp only [List.zipIdx_cons, List.foldl_cons]
    rw [ih (i + 1) _ (by simp; omega)]
    have hlt : off + i < cs.toList.length := by simp; omega
    simp only [Array.toList_setIfInBounds]
    have e1 : (cs.toList.set (off + i) v).take (off + (i + 1)) = cs.toList.take (off + i) ++ [v] := by
      rw [show off + (i + 1) = off + i + 1 by omega, List.take_succ_eq_append_getElem (by simpa using hlt)]
      simp [List.take_set_of_le]
    have e2 : (cs.toList.set (off + i) v).drop (off + (i + 1) + r.length) = cs.toList.drop (off + i + (r.length + 1)) := by
      rw [List.drop_set_of_lt (by omega)]; congr 1; omega
    rw [e1, e2]; simp
theorem fill_list (place : Nat → Option (Nat × Nat)) : ∀ (parts : List (Nat × Value)) (cells : Array Value) (r : List Value),
    fillL place cells.toList parts = some r → Instr.fill place cells parts = some ⟨r⟩ := by
  intro parts
  induction parts with
  | nil => intro cells r h; simp only [fillL, Option.some.injEq] at h; simp only [Instr.fill]; rw [← h]
  | cons p rest ih =>
    obtain ⟨i, v⟩ := p
    intro cells r h
    simp only [fillL] at h
    simp only [Instr.fill]
    cases hp : place i with
    | none => simp [hp] at h
    | some q =>
      obtain ⟨off, size⟩ := q
      simp only [hp] at h ⊢
      split at h
      · cases h
      · rename_i hc
        simp only [Array.length_toList, not_or, Decidable.not_not, Nat.not_lt] at hc
        have hb : (decide (v.cells.size ≠ size) || decide (off + v.cells.size > cells.size)) = false := by simp; omega
        rw [if_neg (by simpa using by omega)]
        refine ih _ _ ?_
        rw [← h]
        congr 1
        have := foldl_sets off v.cells.toList 0 cells (by simp; omega)
        simp only [Nat.add_zero] at this
        rw [← Array.foldl_toList, Array.toList_zipIdx]
        exact this

theorem run_mapM_list {α β : Type} {P : Program} {W : World} {f : α → Sem β} {g : α → β} : ∀ (xs : List α), (∀ x ∈ xs, (f x).run P W = .ok (g x) W) → (xs.mapM f).run P W = .ok (xs.map g) W := by
  intro xs
  induction xs with
  | nil => intro _; simp
  | cons x r ih =>
    intro h
    simp only [List.mapM_cons, Sem.run_bind, h x (by simp), Result.andThen_ok, ih (fun y hy => h y (by simp [hy])), Sem.run_pure, List.map_cons]
theorem run_mapM {α β : Type} {P : Program} {W : World} {f : α → Sem β} {g : α → β} (xs : Array α) (h : ∀ x ∈ xs.toList, (f x).run P W = .ok (g x) W) : (xs.mapM f).run P W = .ok (xs.map g) W := by
  rw [Array.mapM_eq_mapM_toList, Sem.run_map, run_mapM_list xs.toList h]
  simp only [Result.andThen_ok]
  congr 1
  apply Array.ext'
  simp

section
variable {C : Ctx} {o : Oper} {a : Act} {env : Env} {loc : Loc} {own : Own} {ex : List (Nat × Obj)} {W : World} {idx : Nat} {K : Out → Prop}

theorem sizeT_eq {t : TypeId} {i : TyI} (h : C.tab[t]? = some i) : sizeT C t = i.size := by simp [sizeT, h]

theorem run_build (hC : TabOk C.P C.tab) (hE : EnvOk env a.tmps) {t : TypeId} {ps : List (Nat × Operand)} {v : Value}
    (h : buildX C t (ps.map fun (i, x) => (i, slotOf env x)) = some v) : (Instr.build t ⟨ps.map fun (i, x) => (i, a.eval x)⟩).run C.P W = .ok v W := by
  unfold buildX at h
  split at h
  · rename_i i vs ht hvs
    have hp := allVals_parts hE hvs
    have e1 : (ps.map fun (i, x) => (i, slotOf env x)).map (·.1) = ps.map (·.1) := by simp [Function.comp_def]
    rw [e1] at h
    rw [hp]
    split at h
    · rename_i z hz
      have hzr := run_zeroValue hC (w := W) ht hz
      split at h
      · rename_i fs hti
        obtain ⟨fields, hu, hfs⟩ := under_struct hC ht hti
        cases hall : (fs.all fun (f : Nat × TypeId) => (C.tab[f.2]?).isSome) with
        | false => simp [hall] at h
        | true =>
          simp only [hall, cond_true, Option.map_eq_some_iff] at h
          obtain ⟨cs, hcs, rfl⟩ := h
          have hm : (fields.mapM fun f => (do pure (f.offset, ← sizeOf f.type) : Sem (Nat × Nat))).run C.P W = .ok (fields.map fun f => (f.offset, sizeT C f.type)) W := by
            refine run_mapM fields fun f hf => ?_
            have hmem : (f.offset, f.type) ∈ fs := by rw [← hfs]; exact List.mem_map_of_mem (f := fun f : Field => (f.offset, f.type)) hf
            have := List.all_eq_true.1 hall _ hmem
            obtain ⟨i, hi⟩ := Option.isSome_iff_exists.1 this
            simp [run_sizeOf hC hi, sizeT_eq hi]
          have hpl : (fun (j : Nat) => (fields.map fun f => (f.offset, sizeT C f.type))[j]?) = fun (j : Nat) => (fs[j]?).map fun (f : Nat × TypeId) => (f.1, sizeT C f.2) := by
            funext j
            rw [← hfs]
            simp [Array.getElem?_map, List.getElem?_map, Function.comp_def]
          have hf := fill_list _ _ z.cells _ hcs
          simp only [Instr.build, Sem.run_bind, hzr, Result.andThen_ok, run_underlying hu, hm]
          rw [hpl, hf]
          rfl
      · rename_i n e hti
        have hu : C.P.underlying t = some (.array n e) := by
          obtain ⟨ti, sz, by', zz⟩ := i
          dsimp only at hti; subst hti; exact under_array hC ht
        cases he : C.tab[e]? with
        | none => simp [he] at h
        | some ie =>
          simp only [he, Option.isSome_some, cond_true, Option.map_eq_some_iff] at h
          obtain ⟨cs, hcs, rfl⟩ := h
          have hf := fill_list _ _ z.cells _ hcs
          rw [sizeT_eq he] at hf
          simp only [Instr.build, Sem.run_bind, hzr, Result.andThen_ok, run_underlying hu, run_sizeOf hC he]
          rw [hf]
          rfl
      · cases h
    · cases h
  · cases h

theorem fill_slice {size : Nat} : ∀ (vs : List Value) (pre suf : List Value) (k : Nat), pre.length = k * size → (∀ v ∈ vs, v.cells.toList.length = size) → suf.length = vs.length * size →
    fillL (fun i => some (i * size, size)) (pre ++ suf) ((List.range' k vs.length).zip vs) = some (pre ++ vs.flatMap (·.cells.toList)) := by
  intro vs
  induction vs with
  | nil => intro pre suf k hp _ hs; simp at hs; simp [fillL, hs]
  | cons v r ih =>
    intro pre suf k hp hv hs
    have hvl := hv v (by simp)
    simp only [List.length_cons, List.range'_succ, List.zip_cons_cons, fillL]
    have hs' : suf.length = r.length * size + size := by simpa [Nat.add_mul] using hs
    rw [if_neg (by simp only [not_or, Decidable.not_not, Nat.not_lt, List.length_append]; exact ⟨hvl, by omega⟩)]
    have e1 : (pre ++ suf).take (k * size) = pre := by rw [← hp]; simp
    have e2 : (pre ++ suf).drop (k * size + v.cells.toList.length) = suf.drop size := by
      rw [hvl, ← hp, List.drop_append]; simp
    rw [e1, e2]
    have := ih (pre ++ v.cells.toList) (suf.drop size) (k + 1) (by simp only [List.length_append, hp, hvl]; rw [Nat.add_mul]; omega) (fun w hw => hv w (by simp [hw])) (by simp; omega)
    rw [this]
    simp

theorem eqL_eq : ∀ {xs ys : List Nat}, eqL xs ys = true → xs = ys
  | [], [], _ => rfl
  | x :: r, y :: s, h => by
    simp only [eqL, Bool.and_eq_true] at h
    rw [Nat.eq_of_beq_eq_true h.1, eqL_eq h.2]
  | [], _ :: _, h => by cases h
  | _ :: _, [], h => by cases h
theorem run_buildSlice (hC : TabOk C.P C.tab) (hE : EnvOk env a.tmps) {t e : TypeId} {len : Nat} {ps : List (Nat × Operand)} {cs : List Value}
    (h : buildSliceX C t len (ps.map fun (i, x) => (i, slotOf env x)) = some (e, cs)) :
    (Instr.buildSlice t len ⟨ps.map fun (i, x) => (i, a.eval x)⟩).run C.P W = .ok (.slice (some ⟨W.heap.size, 0, none⟩) len len) (W.alloc (.cells ⟨cs⟩ e)) := by
  unfold buildSliceX at h
  split at h
  · rename_i i vs ht hvs
    have hp := allVals_parts hE hvs
    have e1 : (ps.map fun (i, x) => (i, slotOf env x)).map (·.1) = ps.map (·.1) := by simp [Function.comp_def]
    rw [e1] at h
    rw [hp]
    split at h
    · rename_i e' hti
      cases hz0 : (Nat.beq len 0 && ((ps.map fun (i, x) => (i, slotOf env x)).isEmpty && (C.tab[e']?).isSome)) with
      | true =>
      rw [hz0] at h
      simp only [cond_true, Option.some.injEq, Prod.mk.injEq] at h
      obtain ⟨rfl, rfl⟩ := h
      simp only [Bool.and_eq_true] at hz0
      obtain ⟨z1, z2, z3⟩ := hz0
      have z1 := Nat.eq_of_beq_eq_true z1
      subst z1
      have hps : ps = [] := by cases ps with | nil => rfl | cons _ _ => simp at z2
      subst hps
      obtain ⟨ie, he⟩ := Option.isSome_iff_exists.1 z3
      have hu : C.P.underlying t = some (.slice e') := by
        obtain ⟨ti, sz, by', zz⟩ := i
        dsimp only at hti; subst hti; exact under_slice hC ht
      simp [Instr.buildSlice, run_underlying hu, run_sizeOf hC he, Instr.fill, newRow, Array.range]
      congr 2; apply Array.ext'; simp
      | false =>
      rw [hz0] at h
      simp only [cond_false] at h
      cases hcnd : (eqL (ps.map (·.1)) (List.range' 0 len) && (Nat.ble (len * sizeT C e') (2 ^ 24) && (Nat.blt 0 (len * sizeT C e') && ((vs.all fun v => Nat.beq v.cells.toList.length (sizeT C e')) && zeroFits C e')))) with
      | false => rw [hcnd] at h; cases h
      | true =>
        rw [hcnd] at h
        simp only [cond_true, Option.some.injEq, Prod.mk.injEq] at h
        simp only [Bool.and_eq_true] at hcnd
        obtain ⟨h1, h2, h3, h4, h5⟩ := hcnd
        replace h1 := eqL_eq h1
        replace h2 := Nat.le_of_ble_eq_true h2
        replace h3 : 0 < len * sizeT C e' := Nat.le_of_ble_eq_true h3
        obtain ⟨rfl, rfl⟩ := h
        have hu : C.P.underlying t = some (.slice e') := by
          obtain ⟨ti, sz, by', zz⟩ := i
          dsimp only at hti; subst hti; exact under_slice hC ht
        have hpos : 0 < sizeT C e' := Nat.pos_of_ne_zero fun h0 => by rw [h0] at h3; omega
        cases he : C.tab[e']? with
        | none => simp [sizeT, he] at hpos
        | some ie =>
          have hl : vs.length = len := by
            have h5 := congrArg List.length h1
            have h6 : vs.length = ps.length := by
              have e2 : (ps.map fun (i, x) => (i, slotOf env x)).map (·.2) = (ps.map (·.2)).map (slotOf env) := by simp [Function.comp_def]
              rw [e2] at hvs
              have := vals_eval hE hvs
              rw [← this]; simp
            simp at h5; omega
          obtain ⟨inf, u, i1, i2, i3, i4, i5, i6⟩ := ty_info hC he
          have hlz : len * ie.size ≠ 0 := by rw [sizeT_eq he] at h3; omega
          have hz : ∃ z, ie.zero = some z ∧ z.cells.size = ie.size := by
            unfold zeroFits at h5
            rw [he] at h5
            obtain ⟨ti, sz, by', zz⟩ := ie
            cases zz with
            | none => simp at h5
            | some z => exact ⟨z, rfl, by simpa using Nat.eq_of_beq_eq_true h5⟩
          obtain ⟨z, hz, hzs⟩ := hz
          have hzr := run_zeroValue hC (w := W) he hz
          have hf := fill_slice (size := ie.size) vs [] ((Array.range (len * ie.size)).map (z.cells[· % z.cells.size]!)).toList 0 (by simp) (fun v hv => by
            have := List.all_eq_true.1 h4 v hv
            rw [sizeT_eq he] at this; exact Nat.eq_of_beq_eq_true this) (by simp [hl])
          simp only [List.nil_append] at hf
          have hf' := fill_list _ _ ((Array.range (len * ie.size)).map (z.cells[· % z.cells.size]!)) _ hf
          rw [hl] at hf'
          rw [sizeT_eq he] at h2
          rw [h1]
          simp only [Instr.buildSlice, Sem.run_bind, run_underlying hu, Result.andThen_ok, run_sizeOf hC he, Nat.not_lt.2 h2, if_false, hlz, hzr, Sem.run_pure]
          rw [hf']
          rfl
    · cases h
  · cases h
end
end Go.Tn
end
section
namespace Go.Tn
open Go.RowKit
set_option linter.unusedSimpArgs false
set_option linter.unusedVariables false

section
variable {C : Ctx} {o : Oper} {a : Act} {env : Env} {loc : Loc} {own : Own} {ex : List (Nat × Obj)} {W : World} {idx : Nat} {K : Out → Prop}

theorem good_sem {l : List (Nat × Obj)} {s : Sem Value} {v : Value} (hS : Sep C.w0 C.mt l W) (hr : execOp a.eval o = (do pure (Next.value (← s)))) (hv : s.run C.P W = .ok v W) (h : K ⟨v, none, none⟩) : Good C o a loc l idx W K :=
  good_det hS (by rw [hr]; exact run_pureN hv) h
theorem good_conv (hC : TabOk C.P C.tab) (hS : Sep C.w0 C.mt (ents loc own ++ ex) W) {s d : TypeId} {x : Operand} {u : Value}
    (hop : o.op = .convert s d x) (hx : a.eval x = u) (h : (convX C s d u).T K) : Good C o a loc (ents loc own ++ ex) idx W K := by
  have hr : execOp a.eval o = (do pure (Next.value (← convert s d u))) := by simp only [execOp, hop, hx]
  unfold convX at h
  split at h
  · rename_i is id' hs hd
    obtain ⟨us, hus⟩ := Option.isSome_iff_exists.1 (under_some hC hs)
    split at h
    · rename_i k _ n hti
      have hu := under_int hC hd hti
      refine good_sem hS hr (v := .int k (k.wrap n)) ?_ h
      cases us <;> simp [convert, run_underlying hus, run_underlying hu, Conv.intToInt]
    · rename_i _ n hti
      have hu := under_float hC hd hti
      refine good_sem hS hr (v := .float .f64 (FloatKind.f64.nearest n)) ?_ h
      cases us <;> simp [convert, run_underlying hus, run_underlying hu, Conv.intToFloat]
    · rename_i k b hti
      have hu := under_int hC hd hti
      obtain ⟨n, W', hf, hrun, h1, h2, h3, h4⟩ := run_floatToInt (P := C.P) (W := W) b k
      have e : (convert s d (.float .f64 b)).run C.P W = .ok (.int k n) W' := by cases us <;> simp [convert, run_underlying hus, run_underlying hu, hrun]
      exact .val (by rw [hr]; exact run_pureN e) ⟨_, h n hf, rfl, .plain (hS.drewN h1 h2 h3 h4)⟩
    · rename_i b hti
      have hu := under_float hC hd hti
      refine good_sem hS hr (v := .float .f64 b) ?_ h
      cases us <;> simp [convert, run_underlying hus, run_underlying hu, Conv.floatToFloat]
    · exact h.elim
  · exact h.elim

theorem good_new {l : List (Nat × Obj)} (hS : Sep C.w0 C.mt l W) {t : TypeId} {cs : List Value}
    (hr : (execOp a.eval o).run C.P W = .ok (.value (.pointer (some ⟨W.heap.size, 0, none⟩))) (W.alloc (.cells ⟨cs⟩ t)))
    (h : K (newX C o.dst idx t cs W.heap.size)) : Good C o a loc l idx W K := by
  refine .val hr ⟨_, h, ?_, ?_⟩
  · unfold newX; cases isDyn C o.dst <;> rfl
  · unfold newX OutOk
    cases isDyn C o.dst with
    | true => exact ⟨hS.alloc _, fun i j e => by cases e⟩
    | false =>
      refine ⟨hS.alloc _, fun i j e => ?_⟩
      simp only [cond_false, Option.some.injEq, Prod.mk.injEq] at e
      exact ⟨_, rfl, e.1.symm, e.2.symm, rfl⟩

theorem good_alloc (hC : TabOk C.P C.tab) (hS : Sep C.w0 C.mt (ents loc own ++ ex) W) {t : TypeId} (hop : o.op = .alloc t) {ti : Ti} {sz by' : Nat} {z : Value}
    (ht : C.tab[t]? = some ⟨ti, sz, by', some z⟩) (h : ∀ k, K (newX C o.dst idx t z.cells.toList k)) : Good C o a loc (ents loc own ++ ex) idx W K := by
  refine good_new hS ?_ (h _)
  simp [execOp, hop, Instr.alloc, run_zeroValue hC ht rfl, newVar, newRow]
theorem good_box (hS : Sep C.w0 C.mt (ents loc own ++ ex) W) {t : TypeId} {x : Operand} {v : Value} (hop : o.op = .box t x) (hx : a.eval x = v)
    (h : ∀ k, K (newX C o.dst idx t v.cells.toList k)) : Good C o a loc (ents loc own ++ ex) idx W K := by
  refine good_new hS ?_ (h _)
  simp [execOp, hop, hx, Instr.box, newVar, newRow]

theorem sep_loc {b : LB} {i : Nat} {l : List (Nat × Obj)} (hS : Sep C.w0 C.mt (ents loc own ++ l) W) (hb : loc[i]? = some b) : W.heap[b.k]? = some (.cells ⟨b.cs⟩ b.t) :=
  hS.own b.k _ (by
    refine List.mem_append_left _ (List.mem_append_left _ ?_)
    exact List.mem_map_of_mem (f := LB.ent) (List.mem_of_getElem? hb))

theorem good_load (hC : TabOk C.P C.tab) (hE : EnvOk env a.tmps) (hA : AlOk env loc) (hS : Sep C.w0 C.mt (ents loc own ++ ex) W) {t : TypeId} {x : Operand}
    (hop : o.op = .load t x) (h : (loadX C ⟨loc, own⟩ t (slotOf env x)).T K) : Good C o a loc (ents loc own ++ ex) idx W K := by
  unfold loadX at h
  cases hs : slotOf env x with
  | mk v al =>
    rw [hs] at h
    cases al with
    | some p =>
      obtain ⟨i, j⟩ := p
      obtain ⟨b, hb, rfl⟩ := slot_al hA hs
      have hv := slot_eval hE hs
      simp only [hb] at h
      cases hl : loadL C t b.cs j with
      | none => simp only [hl, ofOpt] at h; exact h.elim
      | some u =>
        simp only [hl, ofOpt, valV, Res.T] at h
        refine good_det hS ?_ h
        simp [execOp, hop, hv, Instr.loadAt, Instr.sureAddr, run_loadL hC (sep_loc hS hb) hl]
    | none =>
      simp only at h
      split at h
      · rename_i ad
        have hv := slot_eval hE hs
        simp only [Res.T] at h
        obtain ⟨u, hu, hk⟩ := exS_out h
        refine good_det hS ?_ hk
        simp [execOp, hop, hv, Instr.loadAt, Instr.sureAddr, hu W (sep_pre hS)]
      · exact h.elim

theorem run_part (hC : TabOk C.P C.tab) {t : TypeId} {cs : Array Value} {off : Nat} {v : Value} (h : partX C t cs.toList off = some v) : (part t cs off).run C.P W = .ok v W := by
  unfold partX at h
  cases ht : C.tab[t]? with
  | none => simp [ht] at h
  | some i =>
    simp only [ht] at h
    cases hi : i.agg with
    | false =>
      simp only [hi, cond_false] at h
      have : cs[off]? = some v := by simpa using h
      simp [part, run_isAgg hC ht, hi, this]
    | true =>
      simp only [hi, cond_true, Option.some.injEq] at h
      subst h
      simp [part, run_isAgg hC ht, hi, run_sizeOf hC ht]
      apply Array.ext'
      simp [List.extract_eq_take_drop, Array.toList_extract]

theorem intOpt_eval (hE : EnvOk env a.tmps) {x : Option Operand} {n : Option Int} (h : intOpt (x.map (slotOf env)) = some n) :
    (x = none ∧ n = none) ∨ ∃ y k m, x = some y ∧ n = some m ∧ a.eval y = .int k m := by
  cases x with
  | none => simp [intOpt] at h; exact .inl ⟨rfl, h.symm⟩
  | some y =>
    simp only [Option.map_some] at h
    cases hs : slotOf env y with
    | mk v al =>
      rw [hs] at h
      unfold intOpt at h
      split at h
      · rename_i e; cases e
      · rename_i k m al' e
        cases e
        cases h
        exact .inr ⟨y, k, m, rfl, rfl, slot_eval hE hs⟩
      · cases h
theorem run_sliceBounds {P : Program} {sl : Bool} {len cap : Nat} {lo hi mx : Option Operand} {l h m : Option Int} (hE : EnvOk env a.tmps)
    (hl : intOpt (lo.map (slotOf env)) = some l) (hh : intOpt (hi.map (slotOf env)) = some h) (hm : intOpt (mx.map (slotOf env)) = some m)
    (hmh : mx = none ∨ hi ≠ none)
    (hb : 0 ≤ l.getD 0 ∧ l.getD 0 ≤ h.getD len ∧ h.getD len ≤ m.getD cap ∧ m.getD cap ≤ (cap : Int)) (hlc : len ≤ cap) :
    (Instr.sliceBounds sl len cap (lo.map a.eval) (hi.map a.eval) (mx.map a.eval)).run P W = .ok ((l.getD 0).toNat, (h.getD len).toNat, (m.getD cap).toNat) W := by
  obtain ⟨b0, b1, b2, b3⟩ := hb
  have key : ∀ (y : Option Operand) (n : Option Int) (d c : Nat) (code : BoundsCode), intOpt (y.map (slotOf env)) = some n → (y = none → c = d ∨ True) → 0 ≤ n.getD d → n.getD d ≤ (c : Int) →
      ∀ z, y = some z → (Instr.sliceBound (a.eval z) c code).run P W = .ok (n.getD d).toNat W := by
    intro y n d c code hn _ h0 h1 z hz
    rcases intOpt_eval hE hn with ⟨rfl, _⟩ | ⟨z', k, m, rfl, rfl, he⟩
    · cases hz
    · cases hz
      rw [he]
      simp only [Option.getD_some] at h0 h1 ⊢
      exact run_sliceBound W k m c code h0 h1
  have none_of : ∀ (y : Option Operand) (n : Option Int) (d : Nat), intOpt (y.map (slotOf env)) = some n → y = none → (n.getD d).toNat = d := by
    intro y n d hn hy
    rcases intOpt_eval hE hn with ⟨_, rfl⟩ | ⟨z, k, m, rfl, _, _⟩
    · simp
    · cases hy
  have hm0 : 0 ≤ m.getD cap := by omega
  have hh0 : 0 ≤ h.getD len := by omega
  have b2' : h.getD len ≤ ((m.getD cap).toNat : Int) := by omega
  have b1' : l.getD 0 ≤ ((h.getD len).toNat : Int) := by omega
  cases hmx : mx with
  | none =>
    have em := none_of mx m cap hm hmx
    have b2c : h.getD len ≤ (cap : Int) := by omega
    cases hhi : hi with
    | none =>
      have eh := none_of hi h len hh hhi
      rw [eh] at b1'
      cases hlo : lo with
      | none =>
        have el : (l.getD 0).toNat = 0 := none_of lo l 0 hl hlo
        rw [el, em, eh]
        simp [Instr.sliceBounds]
      | some z =>
        have hz := fun code => key lo l 0 len code hl (fun _ => .inr trivial) b0 b1' z hlo
        rw [em, eh]
        simp [Instr.sliceBounds, hz]

    | some y =>
      have hy := fun code => key hi h len cap code hh (fun _ => .inr trivial) hh0 b2c y hhi
      cases hlo : lo with
      | none =>
        have el : (l.getD 0).toNat = 0 := none_of lo l 0 hl hlo
        rw [el, em]
        cases sl <;> simp [Instr.sliceBounds, hy]
      | some z =>
        have hz := fun code => key lo l 0 (h.getD len).toNat code hl (fun _ => .inr trivial) b0 b1' z hlo
        rw [em]
        cases sl <;> simp [Instr.sliceBounds, hz, hy]
  | some x =>
    have hx := fun code => key mx m cap cap code hm (fun _ => .inr trivial) hm0 b3 x hmx
    cases hhi : hi with
    | none => rcases hmh with h | h <;> simp_all
    | some y =>
      have hy := fun code => key hi h len (m.getD cap).toNat code hh (fun _ => .inr trivial) hh0 b2' y hhi
      cases hlo : lo with
      | none =>
        have el : (l.getD 0).toNat = 0 := none_of lo l 0 hl hlo
        rw [el]
        cases sl <;> simp [Instr.sliceBounds, hx, hy]
      | some z =>
        have hz := fun code => key lo l 0 (h.getD len).toNat code hl (fun _ => .inr trivial) b0 b1' z hlo
        cases sl <;> simp [Instr.sliceBounds, hx, hz, hy]
end
end Go.Tn
end
section
namespace Go.Tn
open Go.RowKit
set_option linter.unusedSimpArgs false
set_option linter.unusedVariables false

section
variable {C : Ctx} {o : Oper} {a : Act} {env : Env} {loc : Loc} {own : Own} {ex : List (Nat × Obj)} {W : World} {idx : Nat} {K : Out → Prop}

theorem good_slice (hC : TabOk C.P C.tab) (hE : EnvOk env a.tmps) (hS : Sep C.w0 C.mt (ents loc own ++ ex) W) {t : TypeId} {x : Operand} {lo hi mx : Option Operand} {l h m : Option Int} {v : Value}
    (hop : o.op = .slice t x lo hi mx) (hx : a.eval x = v) (hl : intOpt (lo.map (slotOf env)) = some l) (hh : intOpt (hi.map (slotOf env)) = some h) (hm : intOpt (mx.map (slotOf env)) = some m)
    (hmh : (mx.isNone || hi.isSome) = true) (hk : (sliceX C t v l h m).T K) : Good C o a loc (ents loc own ++ ex) idx W K := by
  have hmh' : mx = none ∨ hi ≠ none := by cases mx <;> cases hi <;> simp_all
  have hr : execOp a.eval o = (do pure (Next.value (← Instr.sliceAt t v (lo.map a.eval) (hi.map a.eval) (mx.map a.eval)))) := by simp only [execOp, hop, hx]
  unfold sliceX at hk
  split at hk
  · rename_i e s1 s2 s3 p len cap ht
    have hu := under_slice hC ht
    cases he : C.tab[e]? with
    | none => simp only [he, Option.isSome_none, cond_false] at hk; exact hk.elim
    | some ie =>
      simp only [he, Option.isSome_some, cond_true, Res.T] at hk
      obtain ⟨⟨hlc, hb⟩, hk⟩ := hk
      refine good_sem hS hr ?_ hk
      have hsb := run_sliceBounds (P := C.P) (W := W) (sl := true) hE hl hh hm hmh' hb hlc
      simp only [Instr.sliceAt, Sem.run_bind, run_underlying hu, Result.andThen_ok, Instr.slice, hsb, run_sizeOf hC he, Sem.run_pure, sizeT_eq he]
  · rename_i n e s1 s2 s3 ad ht
    have hu := under_array hC ht
    cases he : C.tab[e]? with
    | none => simp only [he, Option.isSome_none, cond_false] at hk; exact hk.elim
    | some ie =>
      simp only [he, Option.isSome_some, cond_true, Res.T] at hk
      obtain ⟨hb, hk⟩ := hk
      refine good_sem hS hr ?_ hk
      have hsb := run_sliceBounds (P := C.P) (W := W) (sl := false) hE hl hh hm hmh' hb (Nat.le_refl n)
      simp only [Instr.sliceAt, Sem.run_bind, run_underlying hu, Result.andThen_ok, Instr.sureAddr, hsb, run_sizeOf hC he, Sem.run_pure, sizeT_eq he]
  · exact hk.elim

theorem al_add {loc : Loc} {al : Option (Nat × Nat)} {ad : Addr} {n : Nat} (h : ∀ i j, al = some (i, j) → ∃ b : LB, loc[i]? = some b ∧ ad = ⟨b.k, j, none⟩) :
    ∀ i j, (al.map fun p => (p.1, p.2 + n)) = some (i, j) → ∃ b : LB, loc[i]? = some b ∧ Value.pointer (some (ad.add n)) = .pointer (some ⟨b.k, j, none⟩) := by
  intro i j e
  cases al with
  | none => cases e
  | some p =>
    obtain ⟨i', j'⟩ := p
    simp only [Option.map_some, Option.some.injEq, Prod.mk.injEq] at e
    obtain ⟨rfl, rfl⟩ := e
    obtain ⟨b, hb, rfl⟩ := h i' j' rfl
    exact ⟨b, hb, by rw [add_none]⟩
theorem good_al {l : List (Nat × Obj)} {s : Sem Value} {v : Value} {al : Option (Nat × Nat)} (hS : Sep C.w0 C.mt l W) (hr : execOp a.eval o = (do pure (Next.value (← s)))) (hv : s.run C.P W = .ok v W)
    (hal : ∀ i j, al = some (i, j) → ∃ b : LB, loc[i]? = some b ∧ v = .pointer (some ⟨b.k, j, none⟩)) (h : K ⟨v, al, none⟩) : Good C o a loc l idx W K :=
  .val (by rw [hr]; exact run_pureN hv) ⟨_, h, rfl, hS, hal⟩
theorem slot_al' (hA : AlOk env loc) {x : Operand} {ad : Addr} {al : Option (Nat × Nat)} (hs : slotOf env x = ⟨some (.pointer (some ad)), al⟩) :
    ∀ i j, al = some (i, j) → ∃ b : LB, loc[i]? = some b ∧ ad = ⟨b.k, j, none⟩ := by
  intro i j e
  subst e
  obtain ⟨b, hb, e⟩ := slot_al hA hs
  cases e
  exact ⟨b, hb, rfl⟩
theorem slot_alv (hA : AlOk env loc) {x : Operand} {v : Value} {al : Option (Nat × Nat)} (hs : slotOf env x = ⟨some v, al⟩) :
    ∀ i j, al = some (i, j) → ∃ b : LB, loc[i]? = some b ∧ v = .pointer (some ⟨b.k, j, none⟩) := by
  intro i j e
  subst e
  obtain ⟨b, hb, e⟩ := slot_al hA hs
  cases e
  exact ⟨b, hb, rfl⟩

theorem good_fieldAddr (hC : TabOk C.P C.tab) (hE : EnvOk env a.tmps) (hA : AlOk env loc) (hS : Sep C.w0 C.mt (ents loc own ++ ex) W) {s : TypeId} {x : Operand} {f : Nat} {ad : Addr} {al : Option (Nat × Nat)}
    (hop : o.op = .fieldAddr s x f) (hs : slotOf env x = ⟨some (.pointer (some ad)), al⟩) (hk : (fieldAddrX C s f ad al).T K) : Good C o a loc (ents loc own ++ ex) idx W K := by
  have hx := slot_eval hE hs
  have hr : execOp a.eval o = (do pure (Next.value (← Instr.fieldAt s (.pointer (some ad)) f))) := by simp only [execOp, hop, hx]
  unfold fieldAddrX at hk
  split at hk
  · rename_i i hi
    split at hk
    · rename_i fs hti
      obtain ⟨fields, hu, hfs⟩ := under_struct hC hi hti
      split at hk
      · rename_i off t hf
        cases hz : (sizeT C t == 0) with
        | true => simp only [hz, cond_true] at hk; exact hk.elim
        | false =>
          simp only [hz, cond_false, Res.T] at hk
          have hz' : sizeT C t ≠ 0 := by simpa using hz
          cases ht : C.tab[t]? with
          | none => simp [sizeT, ht] at hz'
          | some it =>
            rw [sizeT_eq ht] at hz'
            rw [← hfs, List.getElem?_map] at hf
            cases hff : fields.toList[f]? with
            | none => simp [hff] at hf
            | some fd =>
              simp only [hff, Option.map_some, Option.some.injEq, Prod.mk.injEq] at hf
              obtain ⟨rfl, rfl⟩ := hf
              have hff' : fields[f]? = some fd := by simpa using hff
              refine good_al hS hr (v := .pointer (some (ad.add fd.offset))) ?_ (al_add (slot_al' hA hs)) (by cases al <;> exact hk)
              simp only [Instr.fieldAt, Sem.run_bind, run_underlying hu, Result.andThen_ok, hff', Instr.sureAddr, Sem.run_pure, fieldPlace, run_sizeOf hC ht, hz', if_false]
      · exact hk.elim
    · exact hk.elim
  · exact hk.elim

theorem good_indexAddr (hC : TabOk C.P C.tab) (hE : EnvOk env a.tmps) (hA : AlOk env loc) (hS : Sep C.w0 C.mt (ents loc own ++ ex) W) {t : TypeId} {x y : Operand} {v : Value} {al : Option (Nat × Nat)} {k : IntKind} {n : Int}
    (hop : o.op = .indexAddr t x y) (hs : slotOf env x = ⟨some v, al⟩) (hy : a.eval y = .int k n) (hk : (indexAddrX C t v al n).T K) : Good C o a loc (ents loc own ++ ex) idx W K := by
  have hx := slot_eval hE hs
  have hr : execOp a.eval o = (do pure (Next.value (← Instr.indexAt t v (.int k n)))) := by simp only [execOp, hop, hx, hy]
  unfold indexAddrX at hk
  split at hk
  · rename_i e s1 s2 s3 ad len cap ht
    have hu := under_slice hC ht
    cases he : C.tab[e]? with
    | none => simp only [he, Option.isSome_none, cond_false] at hk; exact hk.elim
    | some ie =>
      simp only [he, Option.isSome_some, cond_true, Res.T] at hk
      obtain ⟨ad, rfl, hb, hk⟩ := hk
      refine good_sem hS hr ?_ hk
      simp [Instr.indexAt, asIntOf, run_underlying hu, hb, run_sizeOf hC he, sizeT_eq he]
  · rename_i m e s1 s2 s3 ad ht
    have hu := under_array hC ht
    cases he : C.tab[e]? with
    | none => simp only [he, Option.isSome_none, cond_false] at hk; exact hk.elim
    | some ie =>
      simp only [he, Option.isSome_some, cond_true, Res.T] at hk
      refine good_al hS hr (v := .pointer (some (ad.add (n.toNat * sizeT C e)))) ?_ (al_add (slot_al' hA hs)) (by cases al <;> exact hk.2)
      simp [Instr.indexAt, asIntOf, run_underlying hu, Instr.sureAddr, hk.1, run_sizeOf hC he, sizeT_eq he]
  · exact hk.elim

theorem good_index (hC : TabOk C.P C.tab) (hE : EnvOk env a.tmps) (hS : Sep C.w0 C.mt (ents loc own ++ ex) W) {t : TypeId} {x y : Operand} {cs : Array Value} {k : IntKind} {n : Int}
    (hop : o.op = .index t x y) (hx : a.eval x = .agg cs) (hy : a.eval y = .int k n) (hk : (indexX C t cs.toList n).T K) : Good C o a loc (ents loc own ++ ex) idx W K := by
  have hr : execOp a.eval o = (do pure (Next.value (← Instr.index t (.agg cs) (.int k n)))) := by simp only [execOp, hop, hx, hy]
  unfold indexX at hk
  split at hk
  · rename_i m e s1 s2 s3 ht
    have hu := under_array hC ht
    cases he : C.tab[e]? with
    | none => simp only [he, Option.isSome_none, cond_false] at hk; exact hk.elim
    | some ie =>
      simp only [he, Option.isSome_some, cond_true, Res.T] at hk
      obtain ⟨v, ⟨hb, hv⟩, hk⟩ := exS_out hk
      refine good_sem hS hr ?_ hk
      rw [sizeT_eq he] at hv
      simp [Instr.index, asIntOf, run_underlying hu, hb, run_sizeOf hC he, run_part hC hv]
  · exact hk.elim

theorem good_makeSlice (hC : TabOk C.P C.tab) (hS : Sep C.w0 C.mt (ents loc own ++ ex) W) {t e : TypeId} {x y : Operand} {l c : Int} {s1 s2 : Nat} {s3 : Option Value} {ti : Ti} {bytes : Nat} {z : Value}
    (hop : o.op = .makeSlice t x y) (ht : C.tab[t]? = some ⟨.slice e, s1, s2, s3⟩) (hx : a.eval x = .int .i64 l) (hy : a.eval y = .int .i64 c) (he : C.tab[e]? = some ⟨ti, 1, bytes, some z⟩)
    (hz1 : Nat.beq z.cells.toList.length 1 = true)
    (hb : 0 ≤ l ∧ l ≤ c ∧ c < 2 ^ 46 ∧ (bytes : Int) * c ≤ 2 ^ 47) (hk : ∀ k, K ⟨.slice (some ⟨k, 0, none⟩) l.toNat c.toNat, none, some (.own k (.cells ⟨List.replicate c.toNat (z.cells.getD 0 undef)⟩ e))⟩) :
    Good C o a loc (ents loc own ++ ex) idx W K := by
  obtain ⟨h0, h1, h2, h3⟩ := hb
  have hu := under_slice hC ht
  obtain ⟨inf, u, i1, i2, i3, i4, i5, i6⟩ := ty_info hC he
  have hzr := run_zeroValue hC (w := W) he rfl
  have hw : ∀ n : Int, 0 ≤ n → n < 2 ^ 46 → IntKind.i64.wrap n = n := fun n h h' => IntWalk.i64_in n (by omega)
  have hzs : z.cells.size = 1 := by simpa using Nat.eq_of_beq_eq_true hz1
  have hcells : (Array.range c.toNat).map (z.cells[· % z.cells.size]!) = ⟨List.replicate c.toNat (z.cells.getD 0 undef)⟩ := by
    apply Array.ext'
    simp only [Array.toList_map, Array.toList_range]
    refine List.ext_getElem (by simp) fun i hi hj => ?_
    simp only [List.getElem_map, List.getElem_range, List.getElem_replicate, hzs, Nat.mod_one]
    simp [hzs, getElem!_def]
  have hr : execOp a.eval o = (do pure (Next.value (← Instr.makeSlice t (.int .i64 l) (.int .i64 c)))) := by simp only [execOp, hop, hx, hy]
  have hrun : (Instr.makeSlice t (.int .i64 l) (.int .i64 c)).run C.P W = .ok (.slice (some ⟨W.heap.size, 0, none⟩) l.toNat c.toNat) (W.alloc (.cells ⟨List.replicate c.toNat (z.cells.getD 0 undef)⟩ e)) := by
    have hb1 : ¬ ((inf.bytes : Int) * c > 2 ^ 48) := by rw [i5]; dsimp only; omega
    have hf : (c < 0 || (inf.bytes : Int) * c > 2 ^ 48 || l < 0 || l > c) = false := by
      simp; omega
    simp only [Instr.makeSlice, Sem.run_bind, run_underlying hu, Result.andThen_ok, asInt, asIntOf, Sem.run_pure, run_typeInfo i1, hw l h0 (by omega), hw c (by omega) h2]
    simp only [hf, Bool.false_eq_true, if_false, Sem.run_bind, run_askRoom, Result.andThen_ok, run_sizeOf hC he, Nat.mul_one, Sem.run_pure]
    by_cases hc0 : c.toNat = 0
    · simp only [hc0, if_true, Sem.run_bind, Sem.run_pure, Result.andThen_ok, newRow, run_newObj, List.replicate_zero, World.alloc_eq]; simp [Array.range]
    · simp only [hc0, if_false, Sem.run_bind, hzr, Result.andThen_ok, Sem.run_pure]
      rw [hcells]
      simp [newRow]
  exact .val (by rw [hr]; exact run_pureN hrun) ⟨_, hk _, rfl, hS.alloc _, fun i j e => by cases e⟩
end
end Go.Tn
end
section
namespace Go.Tn
open Go.RowKit
set_option linter.unusedSimpArgs false
set_option linter.unusedVariables false

section
variable {C : Ctx} {o : Oper} {a : Act} {env : Env} {loc : Loc} {own : Own} {ex : List (Nat × Obj)} {W : World} {idx : Nat} {K : Out → Prop}

theorem exec_call_fn {c : Call} {g : Operand} {f : FuncId} {first captured : Array Value} {as : List Value} (hop : o.op = .call c) (hcal : c.callee = .value g) (hg : a.eval g = .func (.func f) first captured)
    (has : c.args.toList.map a.eval = as) : execOp a.eval o = callFunc f ⟨first.toList ++ as ++ captured.toList⟩ := by
  have e : c.args.map a.eval = ⟨as⟩ := by apply Array.ext'; simpa using has
  simp only [execOp, hop, resolve, hcal, hg, Deferred.ofValue, pure_bind, invoke, e]
  congr 1
  apply Array.ext'
  simp
theorem good_call (hE : EnvOk env a.tmps) (hS : Sep C.w0 C.mt (ents loc own ++ ex) W) {c : Call} {g : Operand} {f : FuncId} {first captured : Array Value} {as : List Value}
    (hop : o.op = .call c) (hcal : c.callee = .value g) (hg : (slotOf env g).v = some (.func (.func f) first captured)) (has : allVals (c.args.toList.map (slotOf env)) = some as)
    (hk : (callX C ⟨loc, own⟩ o.type f (first.toList ++ as ++ captured.toList)).T K) : Good C o a loc (ents loc own ++ ex) idx W K := by
  have he := exec_call_fn hop hcal (slot_val hE hg) (vals_eval hE has)
  unfold callX at hk
  split at hk
  · simp only [Res.T] at hk
    obtain ⟨v, hv, hk⟩ := exS_out hk
    refine .mono (.does he (hv W (sep_pre hS))) ?_
    rintro v' W' ⟨rfl, hext⟩
    exact ⟨_, hk, rfl, .plain (hS.ext hext)⟩
  · simp only [Res.T] at hk
    obtain ⟨Φ, hΦ, hk⟩ := hk
    refine .mono (.does he (hΦ W (sep_pre hS))) ?_
    rintro v' W' ⟨hs, hv, hext⟩
    exact ⟨_, allS_at hk hs hv, rfl, .plain (hS.ext hext)⟩
  · exact hk.elim

theorem exec_builtin {c : Call} {b : Builtin} (hop : o.op = .call c) (hcal : c.callee = .builtin b) :
    ∃ cs, execOp a.eval o = builtin b c.argTypes o.type cs (c.args.map a.eval) := by
  refine ⟨c.args.map fun | .const _ => true | _ => false, ?_⟩
  simp only [execOp, hop, resolve, hcal, pure_bind, invoke]
  rfl
theorem args1 {c : Call} {x : Operand} (h : c.args.toList = [x]) : c.args.map a.eval = #[a.eval x] := by
  apply Array.ext'; simp [h]
theorem args2 {c : Call} {x y : Operand} (h : c.args.toList = [x, y]) : c.args.map a.eval = #[a.eval x, a.eval y] := by
  apply Array.ext'; simp [h]

theorem res_good (hC : TabOk C.P C.tab) (hE : EnvOk env a.tmps) (hA : AlOk env loc) (hS : Sep C.w0 C.mt (ents loc own ++ ex) W)
    (h : (resX C o (slotOf env) ⟨loc, own⟩ idx).T K) : Good C o a loc (ents loc own ++ ex) idx W K := by
  unfold resX at h
  split at h
  case h_1 x hop | h_2 x hop =>
    split at h
    · rename_i v al hs
      have hx := slot_eval hE hs
      exact .val (v := v) (by simp [execOp, hop, hx]) ⟨_, h, rfl, hS, slot_alv hA hs⟩
    · exact h.elim
  case h_3 c x y hop =>
    split at h
    · rename_i t u v hc hx hy
      have ec := slot_val hE hc
      have exx := slot_val hE hx
      have ey := slot_val hE hy
      simp only [Res.T] at h
      refine .val (v := cond t u v) (by cases t <;> simp [execOp, hop, ec, exx, ey, asBool]) ⟨_, h, rfl, hS, ?_⟩
      intro i j e
      cases t with
      | true =>
        simp only [cond_true] at e ⊢
        cases hs : slotOf env x with
        | mk w al => rw [hs] at e hx; dsimp only at e hx; subst hx; exact slot_alv hA hs i j e
      | false =>
        simp only [cond_false] at e ⊢
        cases hs : slotOf env y with
        | mk w al => rw [hs] at e hy; dsimp only at e hy; subst hy; exact slot_alv hA hs i j e
    · exact h.elim
  case h_4 op t x y yt hop =>
    split at h
    · rename_i u v hx hy
      exact good_bin hC hS hop (slot_val hE hx) (slot_val hE hy) h
    · exact h.elim
  case h_5 op t x hop =>
    split at h
    · rename_i v hx; exact good_un hS hop (slot_val hE hx) h
    · exact h.elim
  case h_6 s d x hop =>
    split at h
    · rename_i v hx; exact good_conv hC hS hop (slot_val hE hx) h
    · exact h.elim
  case h_7 t hop =>
    split at h
    · rename_i ti sz by' z ht; exact good_alloc hC hS hop ht h
    · exact h.elim
  case h_8 t x hop =>
    split at h
    · rename_i v hx; exact good_box hS hop (slot_val hE hx) h
    · exact h.elim
  case h_9 t ps hop =>
    cases hb : buildX C t (ps.toList.map fun (i, x) => (i, slotOf env x)) with
    | none => simp only [hb, ofOpt] at h; exact h.elim
    | some v =>
      simp only [hb, ofOpt] at h
      have hr : execOp a.eval o = (do pure (Next.value (← Instr.build t ⟨ps.toList.map fun (i, x) => (i, a.eval x)⟩))) := by
        simp only [execOp, hop]; congr 2; apply Array.ext'; simp
      exact good_sem hS hr (run_build hC hE hb) h
  case h_10 t len ps hop =>
    split at h
    · rename_i e cs hb
      have hr : execOp a.eval o = (do pure (Next.value (← Instr.buildSlice t len ⟨ps.toList.map fun (i, x) => (i, a.eval x)⟩))) := by
        simp only [execOp, hop]; congr 2; apply Array.ext'; simp
      exact .val (by rw [hr]; exact run_pureN (run_buildSlice hC hE hb)) ⟨_, h W.heap.size, rfl, hS.alloc _, fun i j e => by cases e⟩
    · exact h.elim
  case h_11 t x hop => exact good_load hC hE hA hS hop h
  case h_12 x hop =>
    split at h
    · rename_i ad hs
      obtain ⟨ad, rfl, h⟩ := h
      have hx := slot_eval hE hs
      exact good_det hS (by simp [execOp, hop, hx]) h
    · rename_i ad al hs
      have hx := slot_eval hE hs
      exact .val (v := .pointer (some ad)) (by simp [execOp, hop, hx]) ⟨_, h, rfl, hS, slot_alv hA hs⟩
    · exact h.elim
  case h_13 fn fs cs hop =>
    split at h
    · rename_i f c hf hc
      have ef : fs.map a.eval = ⟨f⟩ := by apply Array.ext'; simpa using vals_eval hE hf
      have ec : cs.map a.eval = ⟨c⟩ := by apply Array.ext'; simpa using vals_eval hE hc
      exact good_det hS (by simp [execOp, hop, Instr.makeFunc, ef, ec]) h
    · exact h.elim
  case h_14 => exact h.elim
  case h_15 t r hop =>
    split at h
    · rename_i k n ke ve s1 s2 s3 hr ht
      have hv := slot_val hE hr
      have hu := under_map hC ht
      refine .val (W' := W.alloc (.map #[] 0)) (v := .map (some W.heap.size)) ?_ ⟨_, h W.heap.size, rfl, hS.alloc _, fun i j e => by cases e⟩
      simp [execOp, hop, Instr.makeMap, hv, run_underlying hu, asInt, asIntOf]
    · exact h.elim
  case h_16 t x y hop =>
    split at h
    · rename_i e s1 s2 s3 l c ht hx hy
      split at h
      · rename_i ti bytes z he
        cases hz : Nat.beq z.cells.toList.length 1 with
        | false => simp only [hz, cond_false] at h; exact h.elim
        | true =>
          simp only [hz, cond_true, Res.T] at h
          exact good_makeSlice hC hS hop ht (slot_val hE hx) (slot_val hE hy) he hz h.1 h.2
      · exact h.elim
    · exact h.elim
  case h_17 t x lo hi mx hop =>
    split at h
    · rename_i v al l hh m hs hl hhh hm
      cases hc : (mx.isNone || hi.isSome) with
      | false => simp only [hc, cond_false] at h; exact h.elim
      | true => simp only [hc, cond_true] at h; exact good_slice hC hE hS hop (slot_eval hE hs) hl hhh hm hc h
    · exact h.elim
  case h_18 s x f hop =>
    split at h
    · rename_i ad al hs; exact good_fieldAddr hC hE hA hS hop hs h
    · exact h.elim
  case h_19 s x f hop =>
    split at h
    · rename_i cs fs s1 s2 s3 hx ht
      obtain ⟨fields, hu, hfs⟩ := under_struct hC ht rfl
      have hv := slot_val hE hx
      split at h
      · rename_i off t hf
        cases hp : partX C t cs.toList off with
        | none => simp only [hp, ofOpt] at h; exact h.elim
        | some u =>
          simp only [hp, ofOpt] at h
          rw [← hfs, List.getElem?_map] at hf
          cases hff : fields.toList[f]? with
          | none => simp [hff] at hf
          | some fd =>
            simp only [hff, Option.map_some, Option.some.injEq, Prod.mk.injEq] at hf
            obtain ⟨rfl, rfl⟩ := hf
            have hff' : fields[f]? = some fd := by simpa using hff
            have hr : execOp a.eval o = (do pure (Next.value (← Instr.field s (.agg cs) f))) := by simp only [execOp, hop, hv]
            exact good_sem hS hr (by simp [Instr.field, run_underlying hu, hff', asAgg, run_part hC hp]) h
      · exact h.elim
    · exact h.elim
  case h_20 t x y hop =>
    split at h
    · rename_i v al k n hs hy; exact good_indexAddr hC hE hA hS hop hs (slot_val hE hy) h
    · exact h.elim
  case h_21 t x y hop =>
    unfold idxX at h
    split at h
    · rename_i cs k n hx hy; exact good_index hC hE hS hop (slot_val hE hx) (slot_val hE hy) h
    · rename_i st u hx hy
      have ex := slot_val hE hx
      have ey := slot_val hE hy
      have hr : execOp a.eval o = (do pure (Next.value (← Instr.index t (.string st) u))) := by simp only [execOp, hop, ex, ey]
      simp only [Res.T] at h
      obtain ⟨r, hr', hk⟩ := exS_out h
      exact good_sem hS hr (hr' W (sep_pre hS)) hk
    · exact h.elim
  case h_22 t x y ok hop =>
    split at h
    · rename_i v u hx hy
      have ex := slot_val hE hx
      have ey := slot_val hE hy
      have hr : execOp a.eval o = (do pure (Next.value (← Instr.lookup t v u ok))) := by simp only [execOp, hop, ex, ey]
      obtain ⟨r, hr', hk⟩ := exS_out h
      exact good_sem hS hr (hr' W (sep_pre hS)) hk
    · exact h.elim
  case h_23 x i hop =>
    split at h
    · rename_i vs hx
      have ex := slot_val hE hx
      cases hi : vs.toList[i]? with
      | none => simp only [hi, ofOpt] at h; exact h.elim
      | some u =>
        simp only [hi, ofOpt] at h
        have hi' : vs[i]? = some u := by simpa using hi
        exact good_det hS (by simp [execOp, hop, ex, Instr.extract, hi']) h
    · exact h.elim
  case h_24 c hop =>
    split at h
    case h_1 hcal =>
      split at h
      · rename_i x t r hargs htys
        have hx1 := args1 (a := a) hargs
        have ht0 : c.argTypes[0]? = some t := by
          have := congrArg (fun l => l[0]?) htys
          simpa using this
        have hr : ∀ (v : Value), (Builtin.len_ c.argTypes o.type #[a.eval x]).run C.P W = .ok v W → (execOp a.eval o).run C.P W = .ok (.value v) W := fun v hv => by
          obtain ⟨cs, e⟩ := exec_builtin (o := o) (a := a) hop hcal
          rw [e, hx1]; simp only [builtin]; exact run_pureN hv
        split at h
        · rename_i p n cp e s1 s2 s3 hx ht
          have exx := slot_val hE hx
          have hu := under_slice hC ht
          exact good_det hS (hr _ (by simp [Builtin.len_, ht0, exx, run_underlying hu, goInt])) h
        · rename_i v n e s1 s2 s3 _ _ _ ht
          have hu := under_array hC ht
          exact good_det hS (hr _ (by simp [Builtin.len_, ht0, run_underlying hu, goInt])) h
        · exact h.elim
      · exact h.elim
    case h_2 hcal =>
      split at h
      · rename_i x y hargs
        split at h
        · rename_i k m k' n hx hy
          have ex := slot_val hE hx
          have ey := slot_val hE hy
          refine good_det hS ?_ h
          obtain ⟨cs, e⟩ := exec_builtin (o := o) (a := a) hop hcal
          rw [e, args2 hargs, ex, ey]; simp only [builtin]
          exact run_pureN (by simp [Builtin.max_, Builtin.max2])
        · exact h.elim
      · exact h.elim
    case h_3 hcal =>
      split at h
      · rename_i x y hargs
        split at h
        · rename_i k m k' n hx hy
          have ex := slot_val hE hx
          have ey := slot_val hE hy
          refine good_det hS ?_ h
          obtain ⟨cs, e⟩ := exec_builtin (o := o) (a := a) hop hcal
          rw [e, args2 hargs, ex, ey]; simp only [builtin]
          exact run_pureN (by simp [Builtin.min_, Builtin.min2])
        · exact h.elim
      · exact h.elim
    case h_4 g hcal =>
      split at h
      · rename_i f first captured as hg has
        exact good_call hE hS hop hcal hg has h
      · exact h.elim
    case h_5 => exact h.elim
  case h_25 => exact h.elim
end
end Go.Tn
end
section
namespace Go.Tn
open Go.RowKit
set_option linter.unusedSimpArgs false
set_option linter.unusedVariables false

structure Rel (C : Ctx) (σ : St) (tmps : Array Value) (W : World) : Prop where
  len : σ.env.length = tmps.size
  env : EnvOk σ.env tmps
  al : AlOk σ.env σ.loc
  sep : Sep C.w0 C.mt (ents σ.loc σ.own ++ σ.nw.map (·.2.ent)) W

theorem put_len {env : Env} {d : Option Nat} {s : Slot} : (put env d s).length = env.length := by cases d <;> simp [put]
theorem aput_size {a : Act} {d : Option Nat} {v : Value} : (a.put d v).tmps.size = a.tmps.size := by cases d <;> simp [Act.put]
theorem envOk_put {env : Env} {a : Act} (h : EnvOk env a.tmps) (hl : env.length = a.tmps.size) {d : Option Nat} {v : Value} {al : Option (Nat × Nat)} :
    EnvOk (put env d ⟨some v, al⟩) (a.put d v).tmps := by
  intro t u al' ht
  cases d with
  | none => exact h t u al' ht
  | some d =>
    simp only [put, List.getElem?_set] at ht
    simp only [Act.put, Array.getElem?_setIfInBounds]
    split at ht
    · rename_i e
      subst e
      rw [← hl]
      split at ht
      · rename_i hd; cases ht; rw [if_pos rfl, if_pos hd]
      · cases ht
    · rename_i e
      rw [if_neg e]
      exact h t u al' ht
theorem alOk_put {env : Env} {loc : Loc} (h : AlOk env loc) {d : Option Nat} {v : Value} {al : Option (Nat × Nat)}
    (hal : ∀ i j, al = some (i, j) → ∃ b : LB, loc[i]? = some b ∧ v = .pointer (some ⟨b.k, j, none⟩)) : AlOk (put env d ⟨some v, al⟩) loc := by
  intro t u i j ht
  cases d with
  | none => exact h t u i j ht
  | some d =>
    simp only [put, List.getElem?_set] at ht
    split at ht
    · split at ht
      · cases ht
        obtain ⟨b, hb, rfl⟩ := hal i j rfl
        exact ⟨b, hb, rfl⟩
      · cases ht
    · exact h t u i j ht
theorem alOk_app {env : Env} {loc : Loc} (h : AlOk env loc) (l : Loc) : AlOk env (loc ++ l) := by
  intro t u i j ht
  obtain ⟨b, hb, e⟩ := h t u i j ht
  refine ⟨b, ?_, e⟩
  have : i < loc.length := by
    rcases Nat.lt_or_ge i loc.length with h | h
    · exact h
    · rw [List.getElem?_eq_none h] at hb; cases hb
  rw [List.getElem?_append_left this]; exact hb
theorem alOk_set {env : Env} {loc : Loc} (h : AlOk env loc) {i : Nat} {b b' : LB} (hb : loc[i]? = some b) (hk : b'.k = b.k) : AlOk env (loc.set i b') := by
  intro t u i' j ht
  obtain ⟨b₁, hb₁, e⟩ := h t u i' j ht
  by_cases hi : i = i'
  · subst hi
    rw [hb] at hb₁
    cases hb₁
    have : i < loc.length := by
      rcases Nat.lt_or_ge i loc.length with h | h
      · exact h
      · rw [List.getElem?_eq_none h] at hb; cases hb
    exact ⟨b', by simp [this], by rw [hk]; exact e⟩
  · exact ⟨b₁, by rw [List.getElem?_set_ne hi]; exact hb₁, e⟩
theorem al_none {loc : Loc} {v : Value} : ∀ i j, (none : Option (Nat × Nat)) = some (i, j) → ∃ b : LB, loc[i]? = some b ∧ v = .pointer (some ⟨b.k, j, none⟩) := fun _ _ e => by cases e
theorem rel_put {C : Ctx} {σ : St} {a : Act} {W W' : World} (h : Rel C σ a.tmps W) {d : Option Nat} {v : Value} {al : Option (Nat × Nat)}
    (hal : ∀ i j, al = some (i, j) → ∃ b : LB, σ.loc[i]? = some b ∧ v = .pointer (some ⟨b.k, j, none⟩)) (hs : Sep C.w0 C.mt (ents σ.loc σ.own ++ σ.nw.map (·.2.ent)) W') :
    Rel C { σ with env := put σ.env d ⟨some v, al⟩ } (a.put d v).tmps W' where
  len := by rw [put_len, aput_size]; exact h.len
  env := envOk_put h.env h.len
  al := alOk_put h.al hal
  sep := hs

theorem set_split {loc : Loc} {i : Nat} {b b' : LB} (h : loc[i]? = some b) : loc = loc.take i ++ b :: loc.drop (i + 1) ∧ loc.set i b' = loc.take i ++ b' :: loc.drop (i + 1) := by
  have hi : i < loc.length := by
    rcases Nat.lt_or_ge i loc.length with h' | h'
    · exact h'
    · rw [List.getElem?_eq_none h'] at h; cases h
  have e : loc[i] = b := by rw [List.getElem?_eq_getElem hi] at h; exact Option.some.inj h
  refine ⟨?_, List.set_eq_take_append_cons_drop.trans (by simp [hi])⟩
  rw [← e, ← List.drop_eq_getElem_cons hi, List.take_append_drop]

section
variable {C : Ctx} {o : Oper} {a : Act} {σ : St} {W : World} {K : St → Prop}

theorem store_local (hC : TabOk C.P C.tab) {ex : List (Nat × Obj)} {loc : Loc} {own : Own} {t : TypeId} {i j : Nat} {b : LB} {v : Value} (hS : Sep C.w0 C.mt (ents loc own ++ ex) W) (hb : loc[i]? = some b)
    (hc : ((C.tab[t]?).isSome && (Nat.beq v.cells.toList.length (sizeT C t) && (Nat.ble (j + v.cells.toList.length) b.cs.length && v.cells.toList.all isOne))) = true) :
    ∃ W', (storeVar t ⟨b.k, j, none⟩ v).run C.P W = .ok () W' ∧ Sep C.w0 C.mt (ents (loc.set i ⟨b.k, b.t, b.cs.take j ++ v.cells.toList ++ b.cs.drop (j + v.cells.toList.length), []⟩) own ++ ex) W' := by
  simp only [Bool.and_eq_true] at hc
  obtain ⟨hpos, c1, c2, c3⟩ := hc
  replace c1 := Nat.eq_of_beq_eq_true c1
  replace c2 := Nat.le_of_ble_eq_true c2
  obtain ⟨it, ht⟩ := Option.isSome_iff_exists.1 hpos
  have hh := sep_loc hS hb
  obtain ⟨W', hr, h1, h2, h3, h4, h5, h6⟩ := run_storeCells (P := C.P) (k := b.k) (t := b.t) v.cells.toList W b.cs j 0 hh (by simpa using c2) c3
  refine ⟨W', ?_, ?_⟩
  · rw [sizeT_eq ht] at c1
    have c1' : v.cells.size = it.size := by simpa using c1
    simp [storeVar, run_sizeOf hC ht, c1', hr]
  · obtain ⟨e1, e2⟩ := set_split (b' := ⟨b.k, b.t, b.cs.take j ++ v.cells.toList ++ b.cs.drop (j + v.cells.toList.length), []⟩) hb
    rw [e2]
    have hS' : Sep C.w0 C.mt ((loc.take i).map LB.ent ++ (b.k, (.cells ⟨b.cs⟩ b.t : Obj)) :: ((loc.drop (i + 1)).map LB.ent ++ own ++ ex)) W := by
      have e : ents loc own ++ ex = (loc.take i).map LB.ent ++ (b.k, (.cells ⟨b.cs⟩ b.t : Obj)) :: ((loc.drop (i + 1)).map LB.ent ++ own ++ ex) := by
        conv => lhs; rw [ents, e1]
        simp [LB.ent]
      rw [← e]; exact hS
    simp only [Nat.add_zero] at h1
    have := hS'.store (W' := W') h1 h2 h3 h4 h5 h6
    have e : ents (loc.take i ++ (⟨b.k, b.t, b.cs.take j ++ v.cells.toList ++ b.cs.drop (j + v.cells.toList.length), []⟩ : LB) :: loc.drop (i + 1)) own ++ ex =
        (loc.take i).map LB.ent ++ (b.k, (.cells ⟨b.cs.take j ++ v.cells.toList ++ b.cs.drop (j + v.cells.toList.length)⟩ b.t : Obj)) :: ((loc.drop (i + 1)).map LB.ent ++ own ++ ex) := by
      simp [ents, LB.ent]
    rw [e]; exact this

/-- what a step leaves of the state before it -/
def StepEv (d : Option Nat) (σ σ' : St) : Prop :=
  (∃ s, σ'.env = put σ.env d s) ∧ ∀ (i : Nat) (b : LB), σ.loc[i]? = some b → ∃ b' : LB, σ'.loc[i]? = some b' ∧ b'.k = b.k ∧ b'.t = b.t ∧ (b' = b ∨ b'.cl = [])
theorem ev_same {d : Option Nat} {σ σ' : St} {s : Slot} (h : σ'.env = put σ.env d s) (hl : σ'.loc = σ.loc) : StepEv d σ σ' :=
  ⟨⟨s, h⟩, fun i b hb => ⟨b, by rw [hl]; exact hb, rfl, rfl, .inl rfl⟩⟩
def Post (C : Ctx) (a : Act) (σ : St) (d : Option Nat) (K : St → Prop) (v : Value) (W' : World) : Prop := ∃ σ', K σ' ∧ σ'.nw = [] ∧ Rel C σ' (a.put d v).tmps W' ∧ StepEv d σ σ'

theorem res_seq (hC : TabOk C.P C.tab) (hR : Rel C σ a.tmps W) (hn : σ.nw = []) (h : (resX C o (slotOf σ.env) σ.mem σ.loc.length).T fun out => K (σ.add o.dst out)) :
    Runs C.P o a W (Post C a σ o.dst K) := by
  have hS : Sep C.w0 C.mt (ents σ.loc σ.own ++ []) W := by have := hR.sep; rw [hn] at this; simpa using this
  refine (res_good hC hR.env hR.al hS h).mono ?_
  rintro v W' ⟨out, hk, rfl, ho⟩
  refine ⟨_, hk, ?_⟩
  unfold OutOk at ho
  cases hnb : out.nb with
  | none =>
    simp only [hnb] at ho
    simp only [St.add, hnb]
    refine ⟨hn, rel_put hR ho.2 ?_, ev_same rfl rfl⟩
    rw [hn]; simpa using ho.1
  | some nb =>
    simp only [hnb] at ho
    cases nb with
    | loc b =>
      simp only [St.add, hnb]
      refine ⟨hn, ?_, ⟨_, rfl⟩, fun i b' hb => ⟨b', ?_, rfl, rfl, .inl rfl⟩⟩
      rotate_left
      · have : i < σ.loc.length := by
          rcases Nat.lt_or_ge i σ.loc.length with h | h
          · exact h
          · rw [List.getElem?_eq_none h] at hb; cases hb
        simp only; rw [List.getElem?_append_left this]; exact hb
      constructor
      · simp only; rw [put_len, aput_size]; exact hR.len
      · exact envOk_put hR.env hR.len
      · refine alOk_put (alOk_app hR.al [b]) fun i j e => ?_
        obtain ⟨b', e1, rfl, rfl, hv⟩ := ho.2 i j e
        cases e1
        exact ⟨b, by simp, hv⟩
      · simp only [hn]
        refine ho.1.perm ?_
        simp only [List.append_nil, ents, List.map_append, List.map_cons, List.map_nil, List.append_assoc, NB.ent]
        refine List.perm_middle.symm.trans ?_
        simp
    | own k ob =>
      simp only [St.add, hnb]
      refine ⟨hn, ?_, ev_same rfl rfl⟩
      constructor
      · simp only; rw [put_len, aput_size]; exact hR.len
      · exact envOk_put hR.env hR.len
      · refine alOk_put hR.al fun i j e => ?_
        obtain ⟨b', e1, _⟩ := ho.2 i j e
        cases e1
      · simp only [hn]
        refine ho.1.perm ?_
        simp only [List.append_nil, ents, NB.ent, List.map_nil]
        exact List.perm_middle.symm

def isApp (o : Oper) : Bool := match o.op with | .call c => (match c.callee with | .builtin .append => true | _ => false) | _ => false
theorem isApp_call (h : isApp o = true) : ∃ c, o.op = .call c ∧ c.callee = .builtin .append := by
  unfold isApp at h
  split at h
  · rename_i c hop
    split at h
    · rename_i hc; exact ⟨c, hop, hc⟩
    · cases h
  · cases h
/-- an append, where some blocks are laid aside -/
theorem eff_app (happ : isApp o = true) (hR : Rel C σ a.tmps W) (h : (effX C o (slotOf σ.env) σ.mem σ.loc.length).T σ o.dst K) :
    Runs C.P o a W fun v W' => ∃ σ', K σ' ∧ σ'.nw = σ.nw ∧ Rel C σ' (a.put o.dst v).tmps W' ∧ StepEv o.dst σ σ' := by
  obtain ⟨c, hop, hcal⟩ := isApp_call happ
  have hS : Sep C.w0 C.mt (ents σ.loc (σ.own ++ σ.nw.map (·.2.ent))) W := by have := hR.sep; unfold ents at this ⊢; rw [← List.append_assoc]; exact this
  unfold effX at h
  simp only [hop, hcal] at h
  split at h
  · rename_i as has
    have ea : c.args.map a.eval = ⟨as⟩ := by apply Array.ext'; simpa using vals_eval hR.env has
    obtain ⟨cs, e⟩ := exec_builtin (o := o) (a := a) hop hcal
    obtain ⟨Φ, hΦ, hk⟩ := h
    obtain ⟨v, W', hrun, hsh, own', hv, hs'⟩ := hΦ _ W hS
    refine .val (v := v) (W' := W') (by rw [e, ea]; exact run_pureN hrun) ⟨_, allS_at hk hsh own' hv, rfl, ?_, ev_same rfl rfl⟩
    constructor
    · simp only; rw [put_len, aput_size]; exact hR.len
    · exact envOk_put hR.env hR.len
    · exact alOk_put hR.al al_none
    · unfold ents at hs' ⊢; rw [List.append_assoc]; exact hs'
  · exact h.elim
theorem eff_seq (hC : TabOk C.P C.tab) (hR : Rel C σ a.tmps W) (hn : σ.nw = []) (h : (effX C o (slotOf σ.env) σ.mem σ.loc.length).T σ o.dst K) :
    Runs C.P o a W (Post C a σ o.dst K) := by
  have hS : Sep C.w0 C.mt (ents σ.loc σ.own) W := by have := hR.sep; rw [hn] at this; simpa using this
  have hsep : ∀ {loc' : Loc} {own' : Own} {W' : World}, Sep C.w0 C.mt (ents loc' own') W' → Sep C.w0 C.mt (ents loc' own' ++ σ.nw.map (·.2.ent)) W' := fun h => by rw [hn]; simpa using h
  unfold effX at h
  split at h
  · rename_i t x y hop
    split at h
    · rename_i v hy
      have ey := slot_val hR.env hy
      unfold storeX at h
      cases hs : slotOf σ.env x with
      | mk xv al =>
        rw [hs] at h
        cases al with
        | some p =>
          obtain ⟨i, j⟩ := p
          obtain ⟨b, hb, rfl⟩ := slot_al hR.al hs
          have ex := slot_eval hR.env hs
          have hb' : σ.mem.loc[i]? = some b := hb
          simp only [hb'] at h
          cases hc : ((C.tab[t]?).isSome && (Nat.beq v.cells.toList.length (sizeT C t) && (Nat.ble (j + v.cells.toList.length) b.cs.length && v.cells.toList.all isOne))) with
          | false => rw [hc] at h; exact h.elim
          | true =>
            rw [hc] at h
            obtain ⟨W', hr, hs'⟩ := store_local (C := C) (ex := []) hC (by simpa using hS) hb hc
            refine .skip (W' := W') (by simp [execOp, hop, ex, ey, Instr.storeAt, Instr.sureAddr, hr]) ⟨_, h, hn, ?_, ⟨_, rfl⟩, fun i' b' hb' => ?_⟩
            rotate_left
            · by_cases e : i = i'
              · subst e
                rw [hb] at hb'; cases hb'
                have : i < σ.loc.length := by
                  rcases Nat.lt_or_ge i σ.loc.length with h | h
                  · exact h
                  · rw [List.getElem?_eq_none h] at hb; cases hb
                exact ⟨⟨b.k, b.t, b.cs.take j ++ v.cells.toList ++ b.cs.drop (j + v.cells.toList.length), []⟩, by simp only [St.mem]; rw [List.getElem?_set_self this], rfl, rfl, .inr rfl⟩
              · exact ⟨b', by simp only [St.mem]; rw [List.getElem?_set_ne e]; exact hb', rfl, rfl, .inl rfl⟩
            constructor
            · simp only; rw [put_len, aput_size]; exact hR.len
            · exact envOk_put hR.env hR.len
            · exact alOk_put (by exact alOk_set hR.al hb rfl) al_none
            · refine hsep ?_; simpa [St.mem] using hs'
        | none =>
          simp only at h
          split at h
          · rename_i ad
            have ex := slot_eval hR.env hs
            obtain ⟨own', hp, hk⟩ := h
            obtain ⟨W', hr, hs'⟩ := hp W hS
            refine .skip (W' := W') (by simp [execOp, hop, ex, ey, Instr.storeAt, Instr.sureAddr, hr]) ⟨_, hk, hn, ?_, ev_same rfl rfl⟩
            constructor
            · simp only; rw [put_len, aput_size]; exact hR.len
            · exact envOk_put hR.env hR.len
            · exact alOk_put hR.al al_none
            · exact hsep hs'
          · exact h.elim
    · exact h.elim
  · rename_i t m k x hop
    split at h
    · rename_i mv kv xv hm hk hx
      have em := slot_val hR.env hm
      have ek := slot_val hR.env hk
      have ex := slot_val hR.env hx
      obtain ⟨own', hp, hk⟩ := h
      obtain ⟨W', hr, hs'⟩ := hp W hS
      refine .skip (W' := W') (by simp [execOp, hop, em, ek, ex, hr]) ⟨_, hk, hn, ?_, ev_same rfl rfl⟩
      constructor
      · simp only; rw [put_len, aput_size]; exact hR.len
      · exact envOk_put hR.env hR.len
      · exact alOk_put hR.al al_none
      · exact hsep hs'
    · exact h.elim
  · rename_i c hop
    have phi : ∀ (s : Sem Value), (∃ as, allVals (c.args.toList.map (slotOf σ.env)) = some as) → (∀ W : World, (execOp a.eval o).run C.P W = ((do pure (Next.value (← s))) : Sem Next).run C.P W) →
        (∃ Φ, OpG C σ.loc σ.own s (shOf C o.type) Φ ∧ allS (shOf C o.type) fun v => ∀ own', Φ v own' → K { σ with env := put σ.env o.dst ⟨some v, none⟩, own := own' }) → Runs C.P o a W (Post C a σ o.dst K) := by
      rintro s ⟨as, has⟩ hr ⟨Φ, hΦ, hk⟩
      obtain ⟨v, W', hrun, hsh, own', hv, hs'⟩ := hΦ [] W (by rw [List.append_nil]; exact hS)
      rw [List.append_nil] at hs'
      refine .val (v := v) (W' := W') (by rw [hr W]; exact run_pureN hrun) ⟨_, allS_at hk hsh own' hv, hn, ?_, ev_same rfl rfl⟩
      constructor
      · simp only; rw [put_len, aput_size]; exact hR.len
      · exact envOk_put hR.env hR.len
      · exact alOk_put hR.al al_none
      · exact hsep hs'
    split at h
    · rename_i hcal
      split at h
      · rename_i as has
        have ea : c.args.map a.eval = ⟨as⟩ := by apply Array.ext'; simpa using vals_eval hR.env has
        obtain ⟨cs, e⟩ := exec_builtin (o := o) (a := a) hop hcal
        exact phi _ ⟨as, has⟩ (fun _ => by rw [e, ea]; rfl) h
      · exact h.elim
    · rename_i hcal
      split at h
      · rename_i as has
        have ea : c.args.map a.eval = ⟨as⟩ := by apply Array.ext'; simpa using vals_eval hR.env has
        obtain ⟨cs, e⟩ := exec_builtin (o := o) (a := a) hop hcal
        exact phi _ ⟨as, has⟩ (fun _ => by rw [e, ea]; rfl) h
      · exact h.elim
    · rename_i g hcal
      split at h
      · rename_i f first captured as hg has
        split at h
        · obtain ⟨Φ, hΦ, hk⟩ := h
          have he := exec_call_fn hop hcal (slot_val hR.env hg) (vals_eval hR.env has)
          refine .mono (.does he (hΦ W hS)) ?_
          rintro v W' ⟨hsh, own', hv, hs'⟩
          refine ⟨_, allS_at hk hsh own' hv, hn, ?_, ev_same rfl rfl⟩
          constructor
          · simp only; rw [put_len, aput_size]; exact hR.len
          · exact envOk_put hR.env hR.len
          · exact alOk_put hR.al al_none
          · exact hsep hs'
        · exact res_seq hC hR hn h
      · exact h.elim
    · exact res_seq hC hR hn h
  · exact res_seq hC hR hn h
end
end Go.Tn
end
section
namespace Go.Tn
open Go.RowKit
set_option linter.unusedSimpArgs false
set_option linter.unusedVariables false

section
variable {C : Ctx} {o : Oper} {a : Act} {σ : St} {W : World} {K : St → Prop}

theorem aput_defers {d : Option Nat} {v : Value} : (a.put d v).defers = a.defers := by cases d <;> rfl
theorem rel_skip (hR : Rel C σ a.tmps W) {d : Option Nat} : Rel C (σ.skip d) (a.put d undef).tmps W := rel_put hR al_none hR.sep
theorem rel_lit (hR : Rel C σ a.tmps W) {g : Nat} {b : Bool} (hg : σ.env.getD g ⟨none, none⟩ = ⟨some (.bool b), none⟩) : Rel C { σ with env := σ.env.set g (litB b) } a.tmps W := by
  have hg' : σ.env[g]? = some ⟨some (.bool b), none⟩ := by
    rw [List.getD_eq_getElem?_getD] at hg
    cases h : σ.env[g]? with
    | none => simp [h] at hg
    | some s => simp [h] at hg; rw [hg]
  have e : σ.env.set g (litB b) = σ.env := by
    have hlt : g < σ.env.length := by
      rcases Nat.lt_or_ge g σ.env.length with h | h
      · exact h
      · rw [List.getElem?_eq_none h] at hg'; cases hg'
    have : σ.env[g] = litB b := by rw [List.getElem?_eq_getElem hlt] at hg'; exact Option.some.inj hg'
    rw [← this]; simp
  rw [e]; exact hR
/-- What is wanted of a step. -/
def StepOk (C : Ctx) (ops : List Oper) (o : Oper) (a : Act) (W : World) (R : Act → World → Prop) : Prop :=
  ∀ next Q, (∀ a' W', R a' W' → next a' W') → if Region.wanted o (yielded ops.toArray a.tmps) then o.wp C.P a W next Q else next (a.put o.dst undef) W
theorem stepOk_yes {ops : List Oper} {R : Act → World → Prop} (hw : Region.wanted o (yielded ops.toArray a.tmps) = true) (h : Runs C.P o a W fun v W' => R (a.put o.dst v) W') : StepOk C ops o a W R :=
  fun next Q hn => by rw [if_pos hw]; exact h next Q fun v W' hv => hn _ _ hv
theorem stepOk_no {ops : List Oper} {R : Act → World → Prop} (hw : Region.wanted o (yielded ops.toArray a.tmps) = false) (h : R (a.put o.dst undef) W) : StepOk C ops o a W R :=
  fun next Q hn => by rw [if_neg (by simp [hw])]; exact hn _ _ h
theorem yielded_of {ops : List Oper} (hR : Rel C σ a.tmps W) {j g : Nat} {v : Value} {al : Option (Nat × Nat)} (hj : (ops[j]?).bind (·.dst) = some g) (hg : σ.env.getD g ⟨none, none⟩ = ⟨some v, al⟩) :
    yielded ops.toArray a.tmps j = match v with | .bool b => some b | _ => none := by
  have hg' : σ.env[g]? = some ⟨some v, al⟩ := by
    rw [List.getD_eq_getElem?_getD] at hg
    cases h : σ.env[g]? with
    | none => simp [h] at hg
    | some s => simp [h] at hg; rw [hg]
  have ht := hR.env g v al hg'
  unfold yielded
  simp only [List.getElem?_toArray, hj, Option.bind_some, ht]
  cases v <;> rfl
/-- behind a step: the state, and what is deferred stands -/
def Next (C : Ctx) (a : Act) (σ : St) (d : Option Nat) (K : St → Prop) (a' : Act) (W' : World) : Prop := a'.defers = a.defers ∧ ∃ σ', K σ' ∧ σ'.nw = [] ∧ Rel C σ' a'.tmps W' ∧ StepEv d σ σ'

theorem runs_next {d : Option Nat} (hd : d = o.dst) (h : Runs C.P o a W (Post C a σ o.dst K)) : Runs C.P o a W fun v W' => Next C a σ d K (a.put o.dst v) W' :=
  h.mono fun v W' hp => ⟨aput_defers, by subst hd; exact hp⟩
theorem lit_same {g : Nat} {b : Bool} (hg : σ.env.getD g ⟨none, none⟩ = ⟨some (.bool b), none⟩) : ({ σ with env := σ.env.set g (litB b) } : St) = σ := by
  have hg' : σ.env[g]? = some ⟨some (.bool b), none⟩ := by
    rw [List.getD_eq_getElem?_getD] at hg
    cases h : σ.env[g]? with
    | none => simp [h] at hg
    | some s => simp [h] at hg; rw [hg]
  have hlt : g < σ.env.length := by
    rcases Nat.lt_or_ge g σ.env.length with h | h
    · exact h
    · rw [List.getElem?_eq_none h] at hg'; cases hg'
  have : σ.env[g] = litB b := by rw [List.getElem?_eq_getElem hlt] at hg'; exact Option.some.inj hg'
  have e : σ.env.set g (litB b) = σ.env := by rw [← this]; simp
  rw [e]
theorem step_seq (hC : TabOk C.P C.tab) {ops : List Oper} (hR : Rel C σ a.tmps W) (hn : σ.nw = []) (h : stepS C ops o σ K) : StepOk C ops o a W (Next C a σ o.dst K) := by
  unfold stepS at h
  split at h
  · rename_i hg
    exact stepOk_yes (by simp [Region.wanted, hg]) (runs_next rfl (eff_seq hC hR hn h))
  · rename_i j want hgd
    split at h
    · rename_i g hj
      split at h
      · rename_i b hb
        have hy := yielded_of hR hj hb
        have hw : Region.wanted o (yielded ops.toArray a.tmps) = (b == want) := by simp [Region.wanted, hgd, hy]
        have es := lit_same hb
        have es' : σ.env.set g (litB b) = σ.env := congrArg St.env es
        cases b with
        | true =>
          simp only [cond_true] at h
          cases want with
          | true =>
            simp only [cond_true] at h
            rw [es] at h
            simp only [es'] at h
            exact stepOk_yes (by simp [hw]) (runs_next rfl (eff_seq hC hR hn h))
          | false =>
            simp only [cond_false] at h
            rw [es] at h
            exact stepOk_no (by simp [hw]) ⟨aput_defers, _, h, hn, rel_skip hR, ev_same rfl rfl⟩
        | false =>
          simp only [cond_false] at h
          cases want with
          | true =>
            simp only [cond_true] at h
            rw [es] at h
            exact stepOk_no (by simp [hw]) ⟨aput_defers, _, h, hn, rel_skip hR, ev_same rfl rfl⟩
          | false =>
            simp only [cond_false] at h
            rw [es] at h
            simp only [es'] at h
            exact stepOk_yes (by simp [hw]) (runs_next rfl (eff_seq hC hR hn h))
      · rename_i vs hb
        have hy := yielded_of hR hj hb
        exact stepOk_no (by simp [Region.wanted, hgd, hy]) ⟨aput_defers, _, h, hn, rel_skip hR, ev_same rfl rfl⟩
      · exact h.elim
    · exact h.elim
end

/-- What a stretch of code leaves of the state before it: slots that it doesn't write; blocks, and what stood in those that bear a mark of depth j. -/
structure Evol (D : Nat) (ws : List Nat) (σ σ' : St) : Prop where
  len : σ'.env.length = σ.env.length
  env : ∀ t, t ∉ ws → σ'.env[t]? = σ.env[t]?
  loc : ∀ (i : Nat) (b : LB), σ.loc[i]? = some b → ∃ b' : LB, σ'.loc[i]? = some b' ∧ b'.k = b.k ∧ b'.t = b.t ∧ ∀ j, j < D → j ∈ b'.cl → j ∈ b.cl ∧ b'.cs = b.cs
theorem Evol.refl {D : Nat} {ws : List Nat} (σ : St) : Evol D ws σ σ := ⟨rfl, fun _ _ => rfl, fun i b h => ⟨b, h, rfl, rfl, fun _ _ hj => ⟨hj, rfl⟩⟩⟩
theorem Evol.trans {D : Nat} {ws : List Nat} {a b c : St} (h : Evol D ws a b) (k : Evol D ws b c) : Evol D ws a c where
  len := k.len.trans h.len
  env := fun t ht => (k.env t ht).trans (h.env t ht)
  loc := fun i x hx => by
    obtain ⟨y, hy, e1, e2, e3⟩ := h.loc i x hx
    obtain ⟨z, hz, f1, f2, f3⟩ := k.loc i y hy
    refine ⟨z, hz, f1.trans e1, f2.trans e2, fun j hj hm => ?_⟩
    obtain ⟨g1, g2⟩ := f3 j hj hm
    obtain ⟨g3, g4⟩ := e3 j hj g1
    exact ⟨g3, g2.trans g4⟩
theorem Evol.mono {D D' : Nat} {ws ws' : List Nat} {a b : St} (h : Evol D ws a b) (hD : D' ≤ D) (hw : ∀ t, t ∈ ws → t ∈ ws') : Evol D' ws' a b where
  len := h.len
  env := fun t ht => h.env t fun hm => ht (hw t hm)
  loc := fun i x hx => by
    obtain ⟨y, hy, e1, e2, e3⟩ := h.loc i x hx
    exact ⟨y, hy, e1, e2, fun j hj => e3 j (by omega)⟩
theorem StepEv.evol {D : Nat} {d : Option Nat} {σ σ' : St} (h : StepEv d σ σ') : Evol D d.toList σ σ' where
  len := by obtain ⟨⟨s, e⟩, _⟩ := h; rw [e, put_len]
  env := fun t ht => by
    obtain ⟨⟨s, e⟩, _⟩ := h
    rw [e]
    cases d with
    | none => rfl
    | some d => simp only [Option.toList, List.mem_singleton] at ht; simp only [put]; rw [List.getElem?_set_ne (fun e => ht e.symm)]
  loc := fun i b hb => by
    obtain ⟨b', h1, h2, h3, h4⟩ := h.2 i b hb
    refine ⟨b', h1, h2, h3, fun j hj hm => ?_⟩
    rcases h4 with rfl | h4
    · exact ⟨hm, rfl⟩
    · rw [h4] at hm; cases hm

def opsW (l : List Oper) : List Nat := l.flatMap fun o => o.dst.toList
theorem reg_seq {C : Ctx} {K : St → Prop} (hC : TabOk C.P C.tab) {D : Nat} {ops : List Oper} {Q : Exit → Act → World → Prop} : ∀ (l : List Oper) (σ : St) (a : Act) (W : World), Rel C σ a.tmps W → σ.nw = [] → regS C ops K l σ →
    (∀ a' W' σ', a'.defers = a.defers → K σ' → σ'.nw = [] → Rel C σ' a'.tmps W' → Evol D (opsW l) σ σ' → Q .normal a' W') → wpList C.P ops.toArray Q l a W := by
  intro l
  induction l with
  | nil => intro σ a W hR hn h hq; exact hq a W σ rfl h hn hR (.refl σ)
  | cons o r ih =>
    intro σ a W hR hn h hq
    refine wpList_step fun K' hK' => ?_
    refine step_seq hC hR hn h K' Q fun a' W' hnx => hK' a' W' ?_
    obtain ⟨hd, σ', hk, hn', hR', hev⟩ := hnx
    refine ih σ' a' W' hR' hn' hk fun a'' W'' σ'' hd' hk' hn'' hR'' hev' => hq a'' W'' σ'' (hd'.trans hd) hk' hn'' hR'' ?_
    exact (hev.evol.mono (Nat.le_refl D) (fun t ht => by simp [opsW, ht])).trans (hev'.mono (Nat.le_refl D) (fun t ht => by simp only [opsW, List.flatMap_cons, List.mem_append]; exact .inr ht))

/-! ### code -/
/-- the values of some slots, by their shapes, told one after the other -/
def InvT : List Sh2 → Type
  | [] => Own → Prop
  | .one (.int _) :: r => Int → InvT r
  | .one .float :: r => Nat → InvT r
  | .one .bool :: r => Bool → InvT r
  | .one .ptr :: r => Option Addr → InvT r
  | .one .slice :: r => Option Addr → Nat → Nat → InvT r
  | .one .map :: r => Option Nat → InvT r
  | .one .any :: r => Value → InvT r
  | .one (.fn _) :: r => Value → InvT r
  | .agg _ :: r => List Value → InvT r
/-- the same, as a number that falls -/
def MuT : List Sh2 → Type
  | [] => Own → Nat
  | .one (.int _) :: r => Int → MuT r
  | .one .float :: r => Nat → MuT r
  | .one .bool :: r => Bool → MuT r
  | .one .ptr :: r => Option Addr → MuT r
  | .one .slice :: r => Option Addr → Nat → Nat → MuT r
  | .one .map :: r => Option Nat → MuT r
  | .one .any :: r => Value → MuT r
  | .one (.fn _) :: r => Value → MuT r
  | .agg _ :: r => List Value → MuT r
def sh1B : Sh1 → Value → Bool
  | .int k, .int k' _ => agree k k'
  | .float, .float .f64 _ => true
  | .bool, .bool _ => true
  | .ptr, .pointer _ => true
  | .slice, .slice _ _ _ => true
  | .map, .map _ => true
  | .any, _ => true
  | _, _ => false
def shl1 : List Sh1 → List Value → Bool
  | [], [] => true
  | s :: r, v :: vs => sh1B s v && shl1 r vs
  | _, _ => false
theorem sh1B_is {s : Sh1} {v : Value} (h : sh1B s v = true) : is1 s v := by
  unfold sh1B at h
  split at h
  case h_1 k k' n => have := agree_eq h; subst this; exact ⟨n, rfl⟩
  case h_2 x => exact ⟨x, rfl⟩
  case h_3 b => exact ⟨b, rfl⟩
  case h_4 a => exact ⟨a, rfl⟩
  case h_5 a n c => exact ⟨a, n, c, rfl⟩
  case h_6 r => exact ⟨r, rfl⟩
  case h_7 => trivial
  case h_8 => cases h
theorem shl1_is : ∀ {l : List Sh1} {vs : List Value}, shl1 l vs = true → isl1 l vs := by
  intro l
  induction l with
  | nil => intro vs h; cases vs with | nil => rfl | cons v r => cases h
  | cons s r ih =>
    intro vs h
    cases vs with
    | nil => cases h
    | cons v vs =>
      simp only [shl1, Bool.and_eq_true] at h
      exact ⟨v, vs, rfl, sh1B_is h.1, ih h.2⟩
def InvT.at : (l : List Sh2) → InvT l → List Value → Own → Prop
  | [], I, [], own => I own
  | .one (.int k) :: r, I, .int k' n :: vs, own => cond (agree k k') (InvT.at r (I n) vs own) False
  | .one .float :: r, I, .float .f64 x :: vs, own => InvT.at r (I x) vs own
  | .one .bool :: r, I, .bool b :: vs, own => InvT.at r (I b) vs own
  | .one .ptr :: r, I, .pointer a :: vs, own => InvT.at r (I a) vs own
  | .one .slice :: r, I, .slice a n c :: vs, own => InvT.at r (I a n c) vs own
  | .one .map :: r, I, .map m :: vs, own => InvT.at r (I m) vs own
  | .one .any :: r, I, v :: vs, own => InvT.at r (I v) vs own
  | .one (.fn _) :: r, I, v :: vs, own => InvT.at r (I v) vs own
  | .agg l :: r, I, .agg cs :: vs, own => cond (shl1 l cs.toList) (InvT.at r (I cs.toList) vs own) False
  | _, _, _, _ => False
def MuT.at : (l : List Sh2) → MuT l → List Value → Own → Nat
  | [], I, [], own => I own
  | .one (.int _) :: r, I, .int _ n :: vs, own => MuT.at r (I n) vs own
  | .one .float :: r, I, .float .f64 x :: vs, own => MuT.at r (I x) vs own
  | .one .bool :: r, I, .bool b :: vs, own => MuT.at r (I b) vs own
  | .one .ptr :: r, I, .pointer a :: vs, own => MuT.at r (I a) vs own
  | .one .slice :: r, I, .slice a n c :: vs, own => MuT.at r (I a n c) vs own
  | .one .map :: r, I, .map m :: vs, own => MuT.at r (I m) vs own
  | .one .any :: r, I, v :: vs, own => MuT.at r (I v) vs own
  | .one (.fn _) :: r, I, v :: vs, own => MuT.at r (I v) vs own
  | .agg _ :: r, I, .agg cs :: vs, own => MuT.at r (I cs.toList) vs own
  | _, _, _, _ => 0
end Go.Tn
end
section
namespace Go.Tn
open Go.RowKit
set_option linter.unusedSimpArgs false
set_option linter.unusedVariables false

/-! ### a region that draws its order -/
/-- what is new is laid aside, by the operation's number -/
def St.addD (σ : St) (i : Nat) (d : Option Nat) (out : Out) : St :=
  match out.nb with
  | none => { σ with env := put σ.env d ⟨some out.v, out.al⟩ }
  | some nb => { σ with env := put σ.env d ⟨some out.v, none⟩, nw := ins i nb σ.nw }
def flushL (ops : List Oper) : List (Nat × NB) → St → St
  | [], σ => σ
  | (i, .loc b) :: r, σ => flushL ops r { σ with env := put σ.env ((ops[i]?).bind (·.dst)) ⟨some (.pointer (some ⟨b.k, 0, none⟩)), some (σ.loc.length, 0)⟩, loc := σ.loc ++ [b] }
  | (_, .own k o) :: r, σ => flushL ops r { σ with own := (k, o) :: σ.own }
def St.flush (ops : List Oper) (σ : St) : St := flushL ops σ.nw { σ with nw := [] }
/-- what an append waits for is told, the rest stays laid aside -/
def St.flushP (ops : List Oper) (S : Nat → Bool) (σ : St) : St := flushL ops (σ.nw.filter fun p => S p.1) { σ with nw := σ.nw.filter fun p => !(S p.1) }
def St.flushO (ops : List Oper) (i : Nat) (o : Oper) (σ : St) : St := cond (isApp o) (σ.flushP ops fun x => Nat.blt x i) (σ.flush ops)
def isWr (C : Ctx) (o : Oper) : Bool :=
  match o.op with
  | .store .. | .mapUpdate .. => true
  | .call c => match c.callee with
    | .builtin .append | .builtin .copy => true
    | .value (.func f) => match C.ck f with | .gen => true | _ => false
    | _ => false
  | _ => false
/-! the look at the order -/
inductive Cls | p | a | e | l | w
def clsOf (C : Ctx) (o : Oper) : Cls :=
  cond (isWr C o) .w <|
  match o.op with
  | .move _ | .assign _ | .pick .. | .unOp .. | .fieldAddr .. | .indexAddr .. | .field .. | .extract .. | .build .. | .nilCheck _ | .makeFunc .. | .slice .. => .p
  | .binOp op t _ _ _ =>
    (match C.tab[t]? with
    | some i =>
      (match i.ti with
      | .int _ | .ptr _ => .p
      | .float => (match op with | .add | .sub | .mul | .quo => .a | _ => .p)
      | _ => .e)
    | none => .l)
  | .convert _ d _ => (match C.tab[d]? with | some i => (match i.ti with | .float => .p | _ => .a) | none => .l)
  | .alloc _ | .box .. | .buildSlice .. | .makeSlice .. | .makeMap .. => .a
  | .load .. | .index .. | .lookup .. => .e
  | .call c => match c.callee with
    | .builtin .len | .builtin .max | .builtin .min => .p
    | .value (.func f) => (match C.ck f with | .val => .e | _ => .l)
    | .value _ => .e
    | _ => .l
  | _ => .l
def isRoom : Op → Bool
  | .alloc _ | .box .. | .buildSlice .. | .makeSlice .. | .makeMap .. => true
  | _ => false
def isAt : Op → Bool
  | .nilCheck _ | .indexAddr .. => true
  | _ => false
/-- is the result of the kind that the class tells? -/
def okRes (c : Cls) (op : Op) (r : Res) : Bool :=
  match r with
  | .bad => true
  | .det0 o | .det _ o => (match c with | .p | .e | .a => o.nb.isNone | _ => false)
  | .exA0 .. | .exA .. => (match c with | .p => isAt op | _ => false)
  | .ex .. => (match c with | .e => true | _ => false)
  | .allk0 _ | .allk .. => (match c with | .a => isRoom op | _ => false)
  | .fl _ | .fi .. => (match c with | .a => true | _ => false)
  | .rl .. => (match c with | .l => true | _ => false)
def resE (C : Ctx) (o : Oper) (ρ : Operand → Slot) (m : Mem) : Res := match effX C o ρ m 0 with | .res r => cond (okRes (clsOf C o) o.op r) r .bad | _ => .bad
def newLocs (ops : List Oper) : List Nat := ops.flatMap fun o => match o.op with | .alloc _ | .box .. => o.dst.toList | _ => []
def looks (ops : List Oper) (o : Oper) : List Nat :=
  (o.op.operands.toList.filterMap fun | .tmp t => some t | _ => none) ++ (match o.guard with | some (g, _) => ((ops[g]?).bind (·.dst)).toList | none => [])
def memN (x : Nat) : List Nat → Bool
  | [] => false
  | y :: r => cond (Nat.beq x y) true (memN x r)
def apartN (ops : List Oper) (x y : Oper) : Bool :=
  (match x.dst with | some d => !(memN d (looks ops y)) && (match y.dst with | some e => !(Nat.beq d e) | none => true) | none => true) &&
  (match y.dst with | some e => !(memN e (looks ops x)) | none => true)
def isLoad (o : Oper) : Bool := match o.op with | .load .. => true | _ => false
def isStore (o : Oper) : Bool := match o.op with | .store .. => true | _ => false
/-- what a load looks at isn't written again -/
def warOk (ops : List Oper) (x y : Oper) : Bool :=
  cond (isLoad x) (match y.dst with | some d => !(memN d (looks ops x)) | none => true) true
/-- a list of constants, that no load of the region looks at -/
def isBuild (C : Ctx) (ops : List Oper) (o : Oper) : Bool :=
  (match o.op with | .buildSlice .. => true | _ => false) && (o.guard.isNone && ((looks ops o).isEmpty && ((match resE C o (slotOf []) ⟨[], []⟩ with | .allk0 _ => true | _ => false) && ops.all fun z => warOk ops z o)))
/-- may y, which stands behind x and isn't bound to, come ahead of it? -/
def okPair (C : Ctx) (ops : List Oper) (x y : Oper) : Bool :=
  apartN ops x y &&
  match clsOf C x, clsOf C y with
  | .p, .w => (looks ops x).all fun t => !(memN t (newLocs ops))
  | .e, .w => isLoad x && ((isStore y || isApp y) && ((looks ops x).all fun t => !(memN t (newLocs ops))))
  | .w, .a => isApp x && isBuild C ops y
  | .w, _ => false
  | .p, _ | .e, _ => true
  | .a, .p | .a, .a => true
  | _, _ => false
def distinct : List Nat → Bool
  | [] => true
  | x :: r => !(memN x r) && distinct r
def masks : List Oper → List Nat → List Nat
  | [], acc => acc
  | o :: r, acc => masks r (acc ++ [o.after.toList.foldl (fun s e => cond (Region.binds .any e) (s ||| 2 ^ e.on ||| acc.getD e.on 0) s) 0])
def okOrd (C : Ctx) (ops : List Oper) (ms : List Nat) : List Nat → List Nat → Bool
  | _, [] => true
  | done, y :: r =>
    (match ops[y]? with
     | some o => (o.after.toList.all fun e => !(Region.binds .any e) || memN e.on done) && ((done.all fun x => (ms.getD y 0).testBit x || (match ops[x]? with | some p => okPair C ops p o && cond (isApp p) (Nat.blt x y) true | none => false)) && (warOk ops o o && done.all fun x => match ops[x]? with | some p => warOk ops p o | none => false))
     | none => false) && okOrd C ops ms (done ++ [y]) r
def isPerm (n : Nat) (ord : List Nat) : Bool := Nat.beq ord.length n && (List.range' 0 n).all fun i => memN i ord
/-- where a store may come ahead of a load: the load reads another local block -/
def locApart (ops : List Oper) (ms : List Nat) (σ σ1 : St) (y : Nat) (done : List Nat) : Bool :=
  match ops[y]? with
  | some o =>
    match o.op with
    | .store _ a _ =>
      done.all fun x => (ms.getD y 0).testBit x || (match ops[x]? with
        | some p => (match p.op with
          | .load _ b => (match (slotOf σ.env b).al with
            | some (i, _) => Nat.blt i σ.loc.length && (match (slotOf σ1.env a).al with | some (j, _) => !(Nat.beq i j) | none => true)
            | none => false)
          | _ => true)
        | none => false)
    | .call _ =>
      cond (isApp o) (done.all fun x => (ms.getD y 0).testBit x || (match ops[x]? with
        | some p => (match p.op with
          | .load _ b => (match (slotOf σ.env b).al with
            | some (i, _) => Nat.blt i σ.loc.length
            | none => false)
          | _ => true)
        | none => false)) true
    | _ => true
  | none => false
def bodyD (C : Ctx) (ops : List Oper) (ms done : List Nat) (i : Nat) (o : Oper) (σ : St) (K : St → Prop) : Prop :=
  cond (isWr C o)
    (let σ1 := σ.flushO ops i o; cond (locApart ops ms σ σ1 i done) ((effX C o (slotOf σ1.env) σ1.mem σ1.loc.length).T σ1 o.dst K) False)
    ((resE C o (slotOf σ.env) σ.mem).T fun out => K (σ.addD i o.dst out))
def stepD (C : Ctx) (ops : List Oper) (ms done : List Nat) (i : Nat) (o : Oper) (σ : St) (K : St → Prop) : Prop :=
  match o.guard with
  | none => bodyD C ops ms done i o σ K
  | some (j, want) =>
    match (ops[j]?).bind (·.dst) with
    | some g =>
      match (σ.env.getD g ⟨none, none⟩) with
      | ⟨some (.bool b), none⟩ =>
        cond b
          (cond want (bodyD C ops ms done i o { σ with env := σ.env.set g (litB true) } K) (K (({ σ with env := σ.env.set g (litB true) } : St).skip o.dst)))
          (cond want (K (({ σ with env := σ.env.set g (litB false) } : St).skip o.dst)) (bodyD C ops ms done i o { σ with env := σ.env.set g (litB false) } K))
      | ⟨some (.tuple _), none⟩ => K (σ.skip o.dst)
      | _ => False
    | none => False
def regDl (C : Ctx) (ops : List Oper) (ms : List Nat) (K : St → Prop) : List Nat → List Nat → St → Prop
  | _, [], σ => K (σ.flush ops)
  | done, i :: r, σ => match ops[i]? with | some o => stepD C ops ms done i o σ (regDl C ops ms K (done ++ [i]) r) | none => False
/-- a region whose order is drawn, told in the order 'ord' -/
def regD (C : Ctx) (ops : List Oper) (ord : List Nat) (K : St → Prop) (σ : St) : Prop :=
  cond ((isPerm ops.length ord && (distinct ord && distinct (opsW ops))) && okOrd C ops (masks ops []) [] ord) (regDl C ops (masks ops []) K [] ord σ) False
end Go.Tn
end
