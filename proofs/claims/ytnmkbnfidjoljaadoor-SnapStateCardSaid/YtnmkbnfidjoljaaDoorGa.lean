/- From the code of a function to a plain text about it: proved once, for any program. -/
import Derived.WalkKit
import Derived.KernelRfl
import Derived.OrdersHeld
import Derived.Deep.LoopGhost

/- The bridge from a function's operations to a plain text about them: environments, shapes, and one operation at a time. -/

namespace Go.Sh
open Go
variable {dfs : List Deferred}

/-! ### environments -/

abbrev Env := List (Nat × Value)

def find : Env → Nat → Option Value
  | [], _ => none
  | (j, v) :: e, i => bif Nat.beq j i then some v else find e i

structure Agr (dfs : List Deferred) (n : Nat) (a : Act) (E : Env) : Prop where
  defers : a.defers = dfs
  size : a.tmps.size = n
  at_ : ∀ i v, find E i = some v → a.tmps.getD i undef = v

theorem Agr.put {n : Nat} {a : Act} {E : Env} (h : Agr dfs n a E) {d : Nat} (hd : Nat.blt d n = true) (v : Value) :
    Agr dfs n (a.put (some d) v) ((d, v) :: E) := by
  have hd' : d < n := by simpa [Nat.blt_eq] using hd
  refine ⟨h.defers, by simp [Act.put, h.size], ?_⟩
  intro i u hi
  simp only [find] at hi
  cases hb : Nat.beq d i with
  | true =>
    have : d = i := Nat.eq_of_beq_eq_true hb
    subst this
    rw [hb] at hi
    simp only [cond_true, Option.some.injEq] at hi
    subst hi
    have hs : d < a.tmps.size := by rw [h.size]; exact hd'
    simp [Act.put, Array.getD, hs]
  | false =>
    rw [hb] at hi
    simp only [cond_false] at hi
    have hne : d ≠ i := fun e => by subst e; simp at hb
    have := h.at_ i u hi
    simp only [Act.put, Array.getD_eq_getD_getElem?] at this ⊢
    rw [Array.getElem?_setIfInBounds_ne hne]
    exact this

def ev (E : Env) : Operand → Option Value
  | .tmp t => find E t
  | .const v => some v
  | .global g => some (.pointer (some ⟨g, 0, none⟩))
  | .func f => some (.func (.func f) #[] #[])

theorem ev_ok {n : Nat} {a : Act} {E : Env} (h : Agr dfs n a E) {x : Operand} {v : Value} (hv : ev E x = some v) : a.eval x = v := by
  cases x with
  | tmp t => exact h.at_ t v hv
  | const u => simpa [ev, Act.eval] using hv
  | global g => simpa [ev, Act.eval] using hv
  | func f => simpa [ev, Act.eval] using hv

def evK (E : Env) (x : Operand) (K : Value → Prop) : Prop :=
  match ev E x with
  | some v => K v
  | none => False

theorem evK_ok {n : Nat} {a : Act} {E : Env} (h : Agr dfs n a E) {x : Operand} {K : Value → Prop} (hk : evK E x K) : K (a.eval x) := by
  unfold evK at hk
  split at hk
  · rename_i v hv; rw [ev_ok h hv]; exact hk
  · exact hk.elim

def evL (E : Env) : List Operand → (List Value → Prop) → Prop
  | [], K => K []
  | x :: xs, K => evK E x fun v => evL E xs fun vs => K (v :: vs)

theorem evL_ok {n : Nat} {a : Act} {E : Env} (h : Agr dfs n a E) : ∀ (xs : List Operand) {K : List Value → Prop}, evL E xs K → K (xs.map a.eval)
  | [], _, hk => hk
  | x :: xs, K, hk => by
    have h1 := evK_ok h hk
    have h2 := evL_ok h xs h1
    simpa using h2

def evO (E : Env) : Option Operand → (Option Value → Prop) → Prop
  | none, K => K none
  | some x, K => evK E x fun v => K (some v)

theorem evO_ok {n : Nat} {a : Act} {E : Env} (h : Agr dfs n a E) : ∀ (x : Option Operand) {K : Option Value → Prop}, evO E x K → K (x.map a.eval)
  | none, _, hk => hk
  | some _, _, hk => evK_ok h hk

/-! ### shapes -/

inductive Shape where
  | int (k : IntKind)
  | bool | string | ptr | addr | slice | map | iface | any
  deriving DecidableEq

def shapeOf : Option TypeDesc → Shape
  | some (.int k) => .int k
  | some .bool => .bool
  | some .string => .string
  | some (.pointer _) => .ptr
  | some (.slice _) => .slice
  | some (.map _ _) => .map
  | _ => .any

def ldShape (P : Program) (t : TypeId) : Shape :=
  match P.underlying t with
  | some (.interface _) => .iface
  | d => shapeOf d

def tyShape (P : Program) (t : TypeId) : Shape := shapeOf (P.underlying t)

/-- Some value of a shape. -/
def ex (sh : Shape) (K : Value → Prop) : Prop :=
  match sh with
  | .int k => ∃ n, K (.int k n)
  | .bool => ∃ b, K (.bool b)
  | .string => ∃ s, K (.string s)
  | .ptr => ∃ p, K (.pointer p)
  | .addr => ∃ a, K (.pointer (some a))
  | .slice => ∃ p l c, K (.slice p l c)
  | .map => ∃ r, K (.map r)
  | .iface => ∃ t v, K (.iface t v)
  | .any => ∃ v, K v

theorem ex_ok {sh : Shape} {K : Value → Prop} (h : ex sh K) : ∃ v, K v := by
  cases sh <;> simp only [ex] at h
  case slice => obtain ⟨a, l, c, h⟩ := h; exact ⟨_, h⟩
  case iface => obtain ⟨t, v, h⟩ := h; exact ⟨_, h⟩
  all_goals (obtain ⟨x, h⟩ := h; exact ⟨_, h⟩)

def exL : List Shape → (List Value → Prop) → Prop
  | [], K => K []
  | s :: ss, K => ex s fun v => exL ss fun vs => K (v :: vs)

theorem exL_ok : ∀ {ss : List Shape} {K : List Value → Prop}, exL ss K → ∃ vs, K vs
  | [], _, h => ⟨[], h⟩
  | _ :: _, _, h => let ⟨_, h1⟩ := ex_ok h; let ⟨_, h2⟩ := exL_ok h1; ⟨_, h2⟩

/-- Some value of a result's type: a tuple of shapes, or one shape. -/
def exT (P : Program) (t : TypeId) (K : Value → Prop) : Prop :=
  match P.underlying t with
  | some (.tuple ts) => exL (ts.toList.map (tyShape P)) fun vs => K (.tuple vs.toArray)
  | _ => ex (tyShape P t) K

theorem exT_ok {P : Program} {t : TypeId} {K : Value → Prop} (h : exT P t K) : ∃ v, K v := by
  unfold exT at h
  split at h
  · obtain ⟨vs, h⟩ := exL_ok h; exact ⟨_, h⟩
  · exact ex_ok h

def allOf (sh : Shape) (K : Value → Prop) : Prop :=
  match sh with
  | .int k => ∀ n, K (.int k n)
  | .bool => ∀ b, K (.bool b)
  | .string => ∀ s, K (.string s)
  | .ptr => ∀ p, K (.pointer p)
  | .addr => ∀ a, K (.pointer (some a))
  | .slice => ∀ p l c, K (.slice p l c)
  | .map => ∀ r, K (.map r)
  | .iface => ∀ t v, K (.iface t v)
  | .any => ∀ v, K v

/-- Is a value of a shape? -/
def fits : Shape → Value → Bool
  | .int .i8, .int .i8 _ | .int .i16, .int .i16 _ | .int .i32, .int .i32 _ | .int .i64, .int .i64 _
  | .int .u8, .int .u8 _ | .int .u16, .int .u16 _ | .int .u32, .int .u32 _ | .int .u64, .int .u64 _ => true
  | .bool, .bool _ => true
  | .string, .string _ => true
  | .ptr, .pointer _ => true
  | .addr, .pointer (some _) => true
  | .slice, .slice _ _ _ => true
  | .map, .map _ => true
  | .iface, .iface _ _ => true
  | .any, _ => true
  | _, _ => false

theorem allOf_ok {sh : Shape} {K : Value → Prop} (h : allOf sh K) {v : Value} (hf : fits sh v = true) : K v := by
  cases sh with
  | any => exact h v
  | int k => cases v <;> cases k <;> simp only [fits, Bool.false_eq_true] at hf <;> rename_i k' n <;> cases k' <;> simp only [fits, Bool.false_eq_true] at hf <;> exact h _
  | slice => cases v <;> first | exact h _ _ _ | (simp only [fits, Bool.false_eq_true] at hf)
  | iface => cases v <;> first | exact h _ _ | (simp only [fits, Bool.false_eq_true] at hf)
  | addr => (cases v <;> try (simp only [fits, Bool.false_eq_true] at hf)); rename_i q; cases q with
    | none => simp only [fits, Bool.false_eq_true] at hf
    | some a => exact h a
  | _ => cases v <;> simp only [fits, Bool.false_eq_true] at hf <;> exact h _

def allL : List Shape → (List Value → Prop) → Prop
  | [], K => K []
  | s :: ss, K => allOf s fun v => allL ss fun vs => K (v :: vs)

def fitsL : List Shape → List Value → Bool
  | [], [] => true
  | s :: ss, v :: vs => fits s v && fitsL ss vs
  | _, _ => false

theorem allL_ok : ∀ {ss : List Shape} {K : List Value → Prop}, allL ss K → ∀ {vs}, fitsL ss vs = true → K vs
  | [], _, h, vs, hf => by cases vs <;> simp [fitsL] at hf; exact h
  | s :: ss, K, h, vs, hf => by
    cases vs with
    | nil => simp [fitsL] at hf
    | cons v vs =>
      simp only [fitsL, Bool.and_eq_true] at hf
      exact allL_ok (allOf_ok h hf.1) hf.2

/-! ### what an operation asks -/

/-- Something is run, and what it yields is handed on. -/
def Do (P : Program) (s : Sem Value) (w : World) (sh : Shape) (K : Value → World → Prop) : Prop := ex sh fun v => ∃ w', s.run P w = .ok v w' ∧ K v w'
def DoI (k : IntKind) (P : Program) (s : Sem Value) (w : World) (K : Int → World → Prop) : Prop := ∃ n w', s.run P w = .ok (.int k n) w' ∧ K n w'
def DoB (P : Program) (s : Sem Value) (w : World) (K : Bool → World → Prop) : Prop := ∃ b w', s.run P w = .ok (.bool b) w' ∧ K b w'
def DoS (P : Program) (s : Sem Value) (w : World) (K : ByteArray → World → Prop) : Prop := ∃ b w', s.run P w = .ok (.string b) w' ∧ K b w'
def DoP (P : Program) (s : Sem Value) (w : World) (K : Option Addr → World → Prop) : Prop := ∃ b w', s.run P w = .ok (.pointer b) w' ∧ K b w'
def DoL (P : Program) (s : Sem Value) (w : World) (K : Option Addr → Nat → Nat → World → Prop) : Prop := ∃ p l c w', s.run P w = .ok (.slice p l c) w' ∧ K p l c w'
def DoM (P : Program) (s : Sem Value) (w : World) (K : Option Nat → World → Prop) : Prop := ∃ r w', s.run P w = .ok (.map r) w' ∧ K r w'
def DoF (P : Program) (s : Sem Value) (w : World) (K : TypeId → Value → World → Prop) : Prop := ∃ t v w', s.run P w = .ok (.iface t v) w' ∧ K t v w'
def DoV (P : Program) (s : Sem Value) (w : World) (K : Value → World → Prop) : Prop := ∃ v w', s.run P w = .ok v w' ∧ K v w'
def DoA (P : Program) (s : Sem Value) (w : World) (K : Addr → World → Prop) : Prop := ∃ a w', s.run P w = .ok (.pointer (some a)) w' ∧ K a w'
def DoU (P : Program) (s : Sem Unit) (w : World) (K : World → Prop) : Prop := ∃ w', s.run P w = .ok () w' ∧ K w'
def DoT (P : Program) (t : TypeId) (s : Sem Value) (w : World) (K : Value → World → Prop) : Prop := exT P t fun v => ∃ w', s.run P w = .ok v w' ∧ K v w'

def doSh (P : Program) (s : Sem Value) (w : World) (sh : Shape) (K : Value → World → Prop) : Prop :=
  match sh with
  | .int k => DoI k P s w fun n w => K (.int k n) w
  | .bool => DoB P s w fun n w => K (.bool n) w
  | .string => DoS P s w fun n w => K (.string n) w
  | .ptr => DoP P s w fun n w => K (.pointer n) w
  | .addr => DoA P s w fun n w => K (.pointer (some n)) w
  | .slice => DoL P s w fun a l c w => K (.slice a l c) w
  | .map => DoM P s w fun n w => K (.map n) w
  | .iface => DoF P s w fun t v w => K (.iface t v) w
  | .any => DoV P s w fun n w => K n w

theorem doSh_ok {P : Program} {s : Sem Value} {w : World} {sh : Shape} {K : Value → World → Prop} (h : doSh P s w sh K) : ∃ v w', s.run P w = .ok v w' ∧ K v w' := by
  cases sh <;> simp only [doSh, DoI, DoB, DoS, DoP, DoA, DoL, DoM, DoF, DoV] at h
  case slice => obtain ⟨a, l, c, w', h1, h2⟩ := h; exact ⟨_, _, h1, h2⟩
  case iface => obtain ⟨t, v, w', h1, h2⟩ := h; exact ⟨_, _, h1, h2⟩
  all_goals (obtain ⟨x, w', h1, h2⟩ := h; exact ⟨_, _, h1, h2⟩)

/-- A variable is read; the world stays. -/
def LdI (k : IntKind) (P : Program) (t : TypeId) (a : Addr) (w : World) (K : Int → Prop) : Prop := ∃ n, (loadVar t a).run P w = .ok (.int k n) w ∧ K n
def LdB (P : Program) (t : TypeId) (a : Addr) (w : World) (K : Bool → Prop) : Prop := ∃ n, (loadVar t a).run P w = .ok (.bool n) w ∧ K n
def LdS (P : Program) (t : TypeId) (a : Addr) (w : World) (K : ByteArray → Prop) : Prop := ∃ n, (loadVar t a).run P w = .ok (.string n) w ∧ K n
def LdP (P : Program) (t : TypeId) (a : Addr) (w : World) (K : Option Addr → Prop) : Prop := ∃ n, (loadVar t a).run P w = .ok (.pointer n) w ∧ K n
def LdL (P : Program) (t : TypeId) (a : Addr) (w : World) (K : Option Addr → Nat → Nat → Prop) : Prop := ∃ p l c, (loadVar t a).run P w = .ok (.slice p l c) w ∧ K p l c
def LdM (P : Program) (t : TypeId) (a : Addr) (w : World) (K : Option Nat → Prop) : Prop := ∃ n, (loadVar t a).run P w = .ok (.map n) w ∧ K n
def LdF (P : Program) (t : TypeId) (a : Addr) (w : World) (K : TypeId → Value → Prop) : Prop := ∃ u v, (loadVar t a).run P w = .ok (.iface u v) w ∧ K u v
def LdV (P : Program) (t : TypeId) (a : Addr) (w : World) (K : Value → Prop) : Prop := ∃ n, (loadVar t a).run P w = .ok n w ∧ K n

def ldSh (P : Program) (t : TypeId) (a : Addr) (w : World) (sh : Shape) (K : Value → Prop) : Prop :=
  match sh with
  | .int k => LdI k P t a w fun n => K (.int k n)
  | .bool => LdB P t a w fun n => K (.bool n)
  | .string => LdS P t a w fun n => K (.string n)
  | .ptr => LdP P t a w fun n => K (.pointer n)
  | .addr => LdP P t a w fun n => K (.pointer n)
  | .slice => LdL P t a w fun p l c => K (.slice p l c)
  | .map => LdM P t a w fun n => K (.map n)
  | .iface => LdF P t a w fun u v => K (.iface u v)
  | .any => LdV P t a w fun n => K n

theorem ldSh_ok {P : Program} {t : TypeId} {a : Addr} {w : World} {sh : Shape} {K : Value → Prop} (h : ldSh P t a w sh K) : ∃ v, (loadVar t a).run P w = .ok v w ∧ K v := by
  cases sh <;> simp only [ldSh, LdI, LdB, LdS, LdP, LdL, LdM, LdF, LdV] at h
  case slice => obtain ⟨a, l, c, h1, h2⟩ := h; exact ⟨_, h1, h2⟩
  case iface => obtain ⟨t, v, h1, h2⟩ := h; exact ⟨_, h1, h2⟩
  all_goals (obtain ⟨x, h1, h2⟩ := h; exact ⟨_, h1, h2⟩)

/-- A pointer that is not nil. -/
def NN (p : Option Addr) (K : Addr → Prop) : Prop := ∃ a, p = some a ∧ K a
/-- An element's place. -/
def Ix (p : Option Addr) (len : Nat) (i : Int) (size : Nat) (K : Addr → Prop) : Prop := ∃ a, p = some a ∧ 0 ≤ i ∧ i < (len : Int) ∧ K (a.add (i.toNat * size))

/-- A function is called, and returns. -/
def Cs (P : Program) (f : FuncId) (args : Array Value) (w : World) (K : Value → World → Prop) : Prop := Calls P f args w fun e w' => ∃ v, e = .returned v ∧ K v w'
def Cl (P : Program) (t : TypeId) (f : FuncId) (args : Array Value) (w : World) (K : Value → World → Prop) : Prop :=
  Cs P f args w fun v w' => exT P t fun u => v = u ∧ K u w'
/-- Not below 0; not 0; two texts that may be joined. -/
def Nn (b : Int) : Prop := 0 ≤ b
def Nz (b : Int) : Prop := b ≠ 0
def Jo (a b : ByteArray) : Prop := ((a.size + b.size : Nat) : Int) ≤ IntKind.i64.max
/-- A function value, or a method of an interface value, is called. -/
def ClD (P : Program) (t : TypeId) (s : Sem Next) (w : World) (K : Value → World → Prop) : Prop :=
  ∃ f args, s.run P w = .ok (.enter f args) w ∧ Cl P t f args w K

def putK (n : Nat) (dst : Option Tmp) (v : Value) (E : Env) (K : Env → Prop) : Prop :=
  match dst with
  | none => K E
  | some d => bif Nat.blt d n then K ((d, v) :: E) else False

theorem putK_ok {n : Nat} {a : Act} {E : Env} (h : Agr dfs n a E) {dst : Option Tmp} {v : Value} {K : Env → Prop} (hk : putK n dst v E K) :
    ∃ E', K E' ∧ Agr dfs n (a.put dst v) E' := by
  cases dst with
  | none => exact ⟨E, hk, h⟩
  | some d =>
    simp only [putK] at hk
    cases hb : Nat.blt d n with
    | true => rw [hb] at hk; exact ⟨_, hk, h.put hb v⟩
    | false => rw [hb] at hk; exact hk.elim

def kindEq : IntKind → IntKind → Bool
  | .i8, .i8 | .i16, .i16 | .i32, .i32 | .i64, .i64 | .u8, .u8 | .u16, .u16 | .u32, .u32 | .u64, .u64 => true
  | _, _ => false

theorem kindEq_ok {j k : IntKind} (h : kindEq j k = true) : j = k := by cases j <;> cases k <;> simp_all [kindEq]

/-- Comparisons, behind names that nothing opens by itself. -/
def eqI (a b : Int) : Bool := a == b
def neI (a b : Int) : Bool := a != b
def ltI (a b : Int) : Bool := a < b
def leI (a b : Int) : Bool := a ≤ b
def gtI (a b : Int) : Bool := a > b
def geI (a b : Int) : Bool := a ≥ b
def eqS (a b : ByteArray) : Bool := a.toList == b.toList
def mxI (a b : Int) : Int := if b > a then b else a
def mnI (a b : Int) : Int := if b < a then b else a

def bitsOf (op : BinOp) (k : IntKind) (x y : Int) : Int :=
  match op with
  | .and => k.wrap (BitVec.ofInt k.bits x &&& BitVec.ofInt k.bits y).toNat
  | .or => k.wrap (BitVec.ofInt k.bits x ||| BitVec.ofInt k.bits y).toNat
  | .xor => k.wrap (BitVec.ofInt k.bits x ^^^ BitVec.ofInt k.bits y).toNat
  | _ => k.wrap (BitVec.ofInt k.bits x &&& ~~~(BitVec.ofInt k.bits y)).toNat

end Go.Sh

namespace Go.Sh
open Go
variable {dfs : List Deferred}

/-- The run of a binary operation on two values. -/
def binS (op : BinOp) (t : TypeId) (x y : Operand) (a b : Value) : Sem Value := do eqGuard op t x y a b; binOp op t a b

/-- Are the values of this type looked into as a whole? -/
def aggT (P : Program) (t : TypeId) : Bool :=
  match P.underlying t with
  | some (.struct _) => true
  | some (.array _ _) => true
  | some (.interface _) => true
  | _ => false

def wpBin (P : Program) (n : Nat) (op : BinOp) (t : TypeId) (x y : Operand) (va vb : Value) (dst : Option Tmp) (ot : TypeId) (E : Env) (w : World) (K : Env → World → Prop) : Prop :=
  bif aggT P t then doSh P (binS op t x y va vb) w (tyShape P ot) fun v w => putK n dst v E fun E => K E w else
  match va, vb with
  | .int k a, .int k' b =>
    match op with
    | .shl => Nn b ∧ putK n dst (.int k (k.wrap (a * 2 ^ (min b.toNat k.bits)))) E fun E => K E w
    | .shr => Nn b ∧ putK n dst (.int k (a.fdiv (2 ^ (min b.toNat k.bits)))) E fun E => K E w
    | .quo => bif kindEq k k' then Nz b ∧ putK n dst (.int k (k.wrap (a.tdiv b))) E fun E => K E w else False
    | .rem => bif kindEq k k' then Nz b ∧ putK n dst (.int k (a.tmod b)) E fun E => K E w else False
    | .add => bif kindEq k k' then putK n dst (.int k (k.wrap (a + b))) E fun E => K E w else False
    | .sub => bif kindEq k k' then putK n dst (.int k (k.wrap (a - b))) E fun E => K E w else False
    | .mul => bif kindEq k k' then putK n dst (.int k (k.wrap (a * b))) E fun E => K E w else False
    | .and => bif kindEq k k' then putK n dst (.int k (bitsOf .and k a b)) E fun E => K E w else False
    | .or => bif kindEq k k' then putK n dst (.int k (bitsOf .or k a b)) E fun E => K E w else False
    | .xor => bif kindEq k k' then putK n dst (.int k (bitsOf .xor k a b)) E fun E => K E w else False
    | .andNot => bif kindEq k k' then putK n dst (.int k (bitsOf .andNot k a b)) E fun E => K E w else False
    | .eql => bif kindEq k k' then putK n dst (.bool (eqI a b)) E fun E => K E w else False
    | .neq => bif kindEq k k' then putK n dst (.bool (neI a b)) E fun E => K E w else False
    | .lss => bif kindEq k k' then putK n dst (.bool (ltI a b)) E fun E => K E w else False
    | .leq => bif kindEq k k' then putK n dst (.bool (leI a b)) E fun E => K E w else False
    | .gtr => bif kindEq k k' then putK n dst (.bool (gtI a b)) E fun E => K E w else False
    | .geq => bif kindEq k k' then putK n dst (.bool (geI a b)) E fun E => K E w else False
  | .string a, .string b =>
    match op with
    | .eql => putK n dst (.bool (eqS a b)) E fun E => K E w
    | .neq => putK n dst (.bool !(eqS a b)) E fun E => K E w
    | .add => Jo a b ∧ putK n dst (.string (a ++ b)) E fun E => K E w
    | _ => doSh P (binS op t x y va vb) w (tyShape P ot) fun v w => putK n dst v E fun E => K E w
  | .pointer a, .pointer none =>
    match P.underlying t with
    | some (.pointer _) =>
      match op with
      | .eql => putK n dst (.bool a.isNone) E fun E => K E w
      | .neq => putK n dst (.bool !a.isNone) E fun E => K E w
      | _ => False
    | _ => False
  | va, vb => doSh P (binS op t x y va vb) w (tyShape P ot) fun v w => putK n dst v E fun E => K E w

/-- What a binary operation on two integers of one kind comes to. -/
def intRun (op : BinOp) (k : IntKind) (a b : Int) : Sem Value :=
  match op with
  | .add | .sub | .mul => Op.intArith op k a b
  | .quo | .rem => Op.intDiv op k a b
  | .and | .or | .xor | .andNot => Op.intBits op k a b
  | _ => Op.intCmp op a b

theorem binOp_int (op : BinOp) (t : TypeId) (k : IntKind) (a b : Int) (h : op ≠ .shl ∧ op ≠ .shr) : binOp op t (.int k a) (.int k b) = intRun op k a b := by
  cases op <;> first | (exact absurd rfl h.1) | (exact absurd rfl h.2) | (simp only [binOp, intRun]; rw [if_neg (by simp)])

theorem equalIn_ptr_nil (P : Program) (w : World) (d : Nat) (t e : TypeId) (hu : P.underlying t = some (.pointer e)) (a : Option Addr) :
    (Op.equalIn (d + 1) t (.pointer a) (.pointer none)).run P w = .ok a.isNone w := by
  cases a <;> simp [Op.equalIn, run_underlying hu]

theorem equal_ptr_nil (P : Program) (w : World) (t e : TypeId) (hu : P.underlying t = some (.pointer e)) (a : Option Addr) :
    (Op.equal t (.pointer a) (.pointer none)).run P w = .ok a.isNone w := equalIn_ptr_nil P w 9999 t e hu a

theorem binS_eql_nil (P : Program) (w : World) (t e : TypeId) (x y : Operand) (hu : P.underlying t = some (.pointer e)) (a : Option Addr) :
    (binS .eql t x y (.pointer a) (.pointer none)).run P w = .ok (.bool a.isNone) w := by
  have h : binS .eql t x y (.pointer a) (.pointer none) = (do let r ← Op.equal t (.pointer a) (.pointer none); pure (.bool r)) := by cases a <;> rfl
  rw [h]
  simp only [Sem.run_bind, equal_ptr_nil P w t e hu, Result.andThen_ok, Sem.run_pure]

theorem binS_neq_nil (P : Program) (w : World) (t e : TypeId) (x y : Operand) (hu : P.underlying t = some (.pointer e)) (a : Option Addr) :
    (binS .neq t x y (.pointer a) (.pointer none)).run P w = .ok (.bool !a.isNone) w := by
  have h : binS .neq t x y (.pointer a) (.pointer none) = (do let r ← Op.equal t (.pointer a) (.pointer none); pure (.bool !r)) := by cases a <;> rfl
  rw [h]
  simp only [Sem.run_bind, equal_ptr_nil P w t e hu, Result.andThen_ok, Sem.run_pure]

theorem wpBin_ok {P : Program} {n : Nat} {op : BinOp} {t : TypeId} {x y : Operand} {va vb : Value} {dst : Option Tmp} {ot : TypeId} {E : Env} {w : World} {K : Env → World → Prop}
    (h : wpBin P n op t x y va vb dst ot E w K) : ∃ v w', (binS op t x y va vb).run P w = .ok v w' ∧ putK n dst v E fun E => K E w' := by
  unfold wpBin at h
  cases hag : aggT P t with
  | true => rw [hag] at h; exact doSh_ok h
  | false =>
  rw [hag, cond_false] at h
  split at h
  · rename_i k a k' b
    have hg : (eqGuard op t x y (.int k a) (.int k' b)).run P w = .ok () w := by
      cases op <;> simp [eqGuard]
    have hs : (binS op t x y (.int k a) (.int k' b)).run P w = (binOp op t (.int k a) (.int k' b)).run P w := by simp [binS, hg]
    rw [hs]
    split at h
    · obtain ⟨h0, h⟩ := h; exact ⟨_, w, by simp [binOp, Op.shift, Int.not_lt.2 (show 0 ≤ b from h0)], h⟩
    · obtain ⟨h0, h⟩ := h; exact ⟨_, w, by simp [binOp, Op.shift, Int.not_lt.2 (show 0 ≤ b from h0)], h⟩
    all_goals
      cases hk : kindEq k k' with
      | false => rw [hk] at h; exact h.elim
      | true =>
        rw [hk] at h
        have := kindEq_ok hk
        subst this
        simp only [cond_true] at h
        first
          | (obtain ⟨h0, h⟩ := h; exact ⟨_, w, by rw [binOp_int _ _ _ _ _ (by simp)]; simp only [intRun, Op.intDiv]; rw [if_neg (show ¬ b = 0 from h0)]; rfl, h⟩)
          | exact ⟨_, w, by rw [binOp_int _ _ _ _ _ (by simp)]; rfl, h⟩
  · rename_i a b
    have hg : (eqGuard op t x y (.string a) (.string b)).run P w = .ok () w := by
      cases op <;> simp [eqGuard]
    have hs : (binS op t x y (.string a) (.string b)).run P w = (binOp op t (.string a) (.string b)).run P w := by simp [binS, hg]
    split at h
    · rw [hs]; exact ⟨_, w, by simp [binOp, Op.stringOp, eqS], h⟩
    · rw [hs]; exact ⟨_, w, by simp [binOp, Op.stringOp, eqS], h⟩
    · rw [hs]; obtain ⟨h0, h⟩ := h; have h0 : ((a.size + b.size : Nat) : Int) ≤ IntKind.i64.max := h0; exact ⟨_, w, by simp only [binOp, Op.stringOp]; rw [if_neg (by omega)]; rfl, h⟩
    · exact doSh_ok h
  · rename_i a
    split at h
    · rename_i e hu
      split at h
      · exact ⟨_, w, binS_eql_nil P w t e x y hu a, h⟩
      · exact ⟨_, w, binS_neq_nil P w t e x y hu a, h⟩
      · exact h.elim
    · exact h.elim
  · exact doSh_ok h

def unS (op : UnOp) (v : Value) : Sem Value := Op.unary op v

def argsArr (vs : List Value) : Array Value := vs.toArray

def callable (P : Program) (f : FuncId) : Bool :=
  match P.funcs[f]? with
  | some fn => fn.body.isSome && !(fn.name == "runtime.NumGoroutine")
  | none => false

theorem callable_ok {P : Program} {f : FuncId} (h : callable P f = true) (args : Array Value) (w : World) : (callFunc f args).run P w = .ok (.enter f args) w := by
  unfold callable at h
  split at h
  · rename_i fn hf
    simp only [Bool.and_eq_true, Bool.not_eq_true'] at h
    have hb : fn.body.isNone = false := by cases hb : fn.body <;> simp_all
    simp only [callFunc, Sem.run_bind, run_program, Result.andThen_ok, hf, h.2, hb, Bool.false_eq_true, if_false, Sem.run_pure]
  · cases h

/-- One operation. -/
def wpo (P : Program) (n : Nat) (o : Oper) (E : Env) (w : World) (K : Env → World → Prop) : Prop :=
  match o.op with
  | .move x => evK E x fun v => putK n o.dst v E fun E => K E w
  | .assign x => evK E x fun v => putK n o.dst v E fun E => K E w
  | .pick c a b => evK E c fun vc => match vc with
    | .bool true => evK E a fun v => putK n o.dst v E fun E => K E w
    | .bool false => evK E b fun v => putK n o.dst v E fun E => K E w
    | _ => False
  | .alloc e => DoA P (Instr.alloc e true (.tuple #[])) w fun p w => putK n o.dst (.pointer (some p)) E fun E => K E w
  | .box e x => evK E x fun v => DoA P (Instr.box e v) w fun p w => putK n o.dst (.pointer (some p)) E fun E => K E w
  | .build t parts => evL E (parts.toList.map (·.2)) fun vs =>
      DoV P (Instr.build t (List.zip (parts.toList.map (·.1)) vs).toArray) w fun v w => putK n o.dst v E fun E => K E w
  | .buildSlice t len parts => evL E (parts.toList.map (·.2)) fun vs =>
      DoL P (Instr.buildSlice t len (List.zip (parts.toList.map (·.1)) vs).toArray) w fun a l c w => putK n o.dst (.slice a l c) E fun E => K E w
  | .load t x => evK E x fun v => match v with
    | .pointer (some a) => ldSh P t a w (ldShape P t) fun v => putK n o.dst v E fun E => K E w
    | _ => False
  | .store t x y => evK E x fun v => evK E y fun u => match v with
    | .pointer (some a) => DoU P (storeVar t a u) w fun w => putK n o.dst undef E fun E => K E w
    | _ => False
  | .nilCheck x => evK E x fun v => match v with
    | .pointer p => NN p fun a => putK n o.dst (.pointer (some a)) E fun E => K E w
    | .func (.func f) a b => putK n o.dst (.func (.func f) a b) E fun E => K E w
    | .iface u v => putK n o.dst (.iface u v) E fun E => K E w
    | _ => False
  | .binOp op t x y _ => evK E x fun va => evK E y fun vb => wpBin P n op t x y va vb o.dst o.type E w K
  | .unOp op _ x => evK E x fun v => match op, v with
    | .not, .bool b => putK n o.dst (.bool !b) E fun E => K E w
    | .neg, .int k a => putK n o.dst (.int k (k.wrap (0 - a))) E fun E => K E w
    | .xor, .int k a => putK n o.dst (.int k (bitsOf .xor k (if k.signed then -1 else k.max) a)) E fun E => K E w
    | _, _ => False
  | .convert s d x => evK E x fun v => match P.underlying s, P.underlying d, v with
    | some _, some (.int k), .int _ a => putK n o.dst (.int k (k.wrap a)) E fun E => K E w
    | some .string, some .string, .string b => putK n o.dst (.string b) E fun E => K E w
    | _, _, v => doSh P (convert s d v) w (tyShape P d) fun v w => putK n o.dst v E fun E => K E w
  | .sliceToArrayPointer t x => evK E x fun v => DoA P (Instr.arrayAt t v) w fun p w => putK n o.dst (.pointer (some p)) E fun E => K E w
  | .makeInterface t x => evK E x fun v => match P.underlying t with
    | some (.interface _) => False
    | some _ => putK n o.dst (.iface t v) E fun E => K E w
    | none => False
  | .makeFunc fn first captured => evL E first.toList fun vs => evL E captured.toList fun us => putK n o.dst (.func fn vs.toArray us.toArray) E fun E => K E w
  | .makeMap t r => evO E r fun v => DoM P (Instr.makeMap t v) w fun p w => putK n o.dst (.map p) E fun E => K E w
  | .makeSlice t l c => evK E l fun vl => evK E c fun vc => DoL P (Instr.makeSlice t vl vc) w fun a l c w => putK n o.dst (.slice a l c) E fun E => K E w
  | .slice t x lo hi mx => evK E x fun v => evO E lo fun vl => evO E hi fun vh => evO E mx fun vm =>
      doSh P (Instr.sliceAt t v vl vh vm) w (match P.underlying t with | some .string => .string | _ => .slice) fun v w => putK n o.dst v E fun E => K E w
  | .fieldAddr s x f => evK E x fun v => match P.underlying s, v with
    | some (.struct fs), .pointer (some a) => (match fs[f]? with
      | some fd => (match P.info? fd.type with
        | some i => bif Nat.beq i.size 0 then False else putK n o.dst (.pointer (some (a.add fd.offset))) E fun E => K E w
        | none => False)
      | none => False)
    | _, _ => False
  | .field t x f => evK E x fun v => doSh P (Instr.field t v f) w (tyShape P o.type) fun v w => putK n o.dst v E fun E => K E w
  | .indexAddr t x i => evK E x fun v => evK E i fun vi => match P.underlying t, v, vi with
    | some (.slice e), .slice p len _, .int _ i => (match P.info? e with
      | some inf => Ix p len i inf.size fun a => putK n o.dst (.pointer (some a)) E fun E => K E w
      | none => False)
    | some (.array len e), .pointer (some a), .int _ i => (match P.info? e with
      | some inf => Ix (some a) len i inf.size fun a => putK n o.dst (.pointer (some a)) E fun E => K E w
      | none => False)
    | _, _, _ => False
  | .index t x i => evK E x fun v => evK E i fun vi => doSh P (Instr.index t v vi) w (tyShape P o.type) fun v w => putK n o.dst v E fun E => K E w
  | .lookup t x i ok => evK E x fun v => evK E i fun vi => DoT P o.type (Instr.lookup t v vi ok) w fun v w => putK n o.dst v E fun E => K E w
  | .mapUpdate t m k x => evK E m fun vm => evK E k fun vk => evK E x fun vx => DoU P (Instr.mapUpdate t vm vk vx) w fun w => putK n o.dst undef E fun E => K E w
  | .insert t m k x => evK E m fun vm => evK E k fun vk => evK E x fun vx => DoU P (Instr.mapUpdate t vm vk vx) w fun w => putK n o.dst undef E fun E => K E w
  | .range t x => evK E x fun v => DoA P (Instr.range t v) w fun p w => putK n o.dst (.pointer (some p)) E fun E => K E w
  | .next it s => evK E it fun v => DoV P (Instr.next v s o.type) w fun v w => putK n o.dst v E fun E => K E w
  | .entry it => evK E it fun v => DoT P o.type (Instr.entry v) w fun v w => putK n o.dst v E fun E => K E w
  | .extract t ix => evK E t fun v => match v with
    | .tuple vs => (match vs[ix]? with
      | some u => putK n o.dst u E fun E => K E w
      | none => False)
    | _ => False
  | .call c =>
    match c.callee with
    | .builtin .len => evL E c.args.toList fun vs => (match (c.argTypes[0]?).bind P.underlying, vs with
      | some (.slice _), [.slice _ l _] => putK n o.dst (.int .i64 l) E fun E => K E w
      | some .string, [.string s] => putK n o.dst (.int .i64 s.size) E fun E => K E w
      | _, vs => DoI .i64 P (Builtin.len_ c.argTypes o.type vs.toArray) w fun v w => putK n o.dst (.int .i64 v) E fun E => K E w)
    | .builtin .append => evL E c.args.toList fun vs => DoL P (Builtin.append_ c.argTypes o.type vs.toArray) w fun a l k w => putK n o.dst (.slice a l k) E fun E => K E w
    | .builtin .copy => evL E c.args.toList fun vs => DoI .i64 P (Builtin.copy_ c.argTypes o.type vs.toArray) w fun v w => putK n o.dst (.int .i64 v) E fun E => K E w
    | .builtin .max => evL E c.args.toList fun vs => (match vs with
      | [.int k a, .int _ b] => putK n o.dst (.int k (mxI a b)) E fun E => K E w
      | _ => False)
    | .builtin .min => evL E c.args.toList fun vs => (match vs with
      | [.int k a, .int _ b] => putK n o.dst (.int k (mnI a b)) E fun E => K E w
      | _ => False)
    | .builtin .clear => evL E c.args.toList fun vs => DoT P o.type (Builtin.clear_ c.argTypes o.type vs.toArray) w fun v w => putK n o.dst v E fun E => K E w
    | .builtin .delete => evL E c.args.toList fun vs => DoT P o.type (Builtin.delete_ c.argTypes o.type vs.toArray) w fun v w => putK n o.dst v E fun E => K E w
    | .builtin _ => False
    | .value (.func f) => evL E c.args.toList fun vs => bif callable P f then Cl P o.type f vs.toArray w fun v w => putK n o.dst v E fun E => K E w else False
    | .value x => evK E x fun vf => evL E c.args.toList fun vs => match vf with
      | .func (.func f) first captured => bif callable P f then Cl P o.type f (first ++ vs.toArray ++ captured) w fun v w => putK n o.dst v E fun E => K E w else False
      | _ => False
    | .invoke r name => evK E r fun vr => evL E c.args.toList fun vs => ClD P o.type (callMethod vr name vs.toArray) w fun v w => putK n o.dst v E fun E => K E w
  | _ => False

end Go.Sh

namespace Go.Sh
open Go
variable {dfs : List Deferred}

section
variable {P : Program} {n : Nat} {o : Oper} {a : Act} {E : Env} {w w' : World} {K : Env → World → Prop} {next : Act → World → Prop} {Q : Exit → Act → World → Prop}

theorem upon_val (h : Agr dfs n a E) (hk : ∀ u E' w', Agr dfs n (a.put o.dst u) E' → K E' w' → next (a.put o.dst u) w') {v : Value}
    (hrun : (execOp a.eval o).run P w = .ok (.value v) w') (hp : putK n o.dst v E fun E => K E w') : o.wp P a w next Q := by
  unfold Oper.wp
  rw [hrun, Oper.upon_value]
  obtain ⟨E', h1, h2⟩ := putK_ok h hp
  exact hk _ _ _ h2 h1

theorem upon_unit (h : Agr dfs n a E) (hk : ∀ u E' w', Agr dfs n (a.put o.dst u) E' → K E' w' → next (a.put o.dst u) w')
    (hrun : (execOp a.eval o).run P w = .ok .skip w') (hp : putK n o.dst undef E fun E => K E w') : o.wp P a w next Q := by
  unfold Oper.wp
  rw [hrun, Oper.upon_skip]
  obtain ⟨E', h1, h2⟩ := putK_ok h hp
  exact hk _ _ _ h2 h1

theorem upon_call (h : Agr dfs n a E) (hk : ∀ u E' w', Agr dfs n (a.put o.dst u) E' → K E' w' → next (a.put o.dst u) w') {f : FuncId} {args : Array Value} {t : TypeId}
    (hrun : (execOp a.eval o).run P w = .ok (.enter f args) w) (hc : Cl P t f args w fun v w => putK n o.dst v E fun E => K E w) : o.wp P a w next Q := by
  unfold Oper.wp
  rw [hrun, Oper.upon_enter]
  refine Calls.mono hc ?_
  rintro e w2 ⟨u, rfl, he⟩
  obtain ⟨v, rfl, hp⟩ := exT_ok he
  obtain ⟨E', h1, h2⟩ := putK_ok h hp
  exact hk _ _ _ h2 h1
end

/-- A run of values and a run of its value alone. -/
theorem run_v {P : Program} {s : Sem Value} {w w' : World} {v : Value} (h : s.run P w = .ok v w') : (do pure (Next.value (← s)) : Sem Next).run P w = .ok (.value v) w' := by
  simp [h]
theorem run_u {P : Program} {s : Sem Unit} {w w' : World} (h : s.run P w = .ok () w') : (do s; pure Next.skip : Sem Next).run P w = .ok .skip w' := by
  simp [h]

theorem map_snd_eq {parts : Array (Nat × Operand)} {ρ : Operand → Value} :
    (List.zip (parts.toList.map (·.1)) ((parts.toList.map (·.2)).map ρ)).toArray = parts.map fun (i, x) => (i, ρ x) := by
  apply Array.ext'
  simp only [Array.toList_map]
  rw [List.map_map, List.zip_map, List.zip_eq_zipWith, ]
  induction parts.toList with
  | nil => rfl
  | cons p l ih => simp_all [List.zipWith, Prod.map]

end Go.Sh

namespace Go.Sh
open Go
variable {dfs : List Deferred}

theorem exT_of_doT {P : Program} {t : TypeId} {s : Sem Value} {w : World} {K : Value → World → Prop} (h : DoT P t s w K) : ∃ v w', s.run P w = .ok v w' ∧ K v w' := by
  obtain ⟨v, w', h1, h2⟩ := exT_ok h
  exact ⟨v, w', h1, h2⟩

set_option maxHeartbeats 1000000 in
theorem wpo_ok {P : Program} {n : Nat} {o : Oper} {a : Act} {E : Env} {w : World} {K : Env → World → Prop} {next : Act → World → Prop} {Q : Exit → Act → World → Prop}
    (h : Agr dfs n a E) (hk : ∀ u E' w', Agr dfs n (a.put o.dst u) E' → K E' w' → next (a.put o.dst u) w') (hw : wpo P n o E w K) : o.wp P a w next Q := by
  obtain ⟨dst, op, type, pos, after, guard⟩ := o
  cases op <;> simp only [wpo] at hw
  case move x => exact upon_val h hk rfl (evK_ok h hw)
  case assign x => exact upon_val h hk rfl (evK_ok h hw)
  case pick c x y =>
    have hw := evK_ok h hw
    split at hw
    · rename_i hc
      exact upon_val h hk (by simp [execOp, hc, asBool]) (evK_ok h hw)
    · rename_i hc
      exact upon_val h hk (by simp [execOp, hc, asBool]) (evK_ok h hw)
    · exact hw.elim
  case alloc e =>
    obtain ⟨p, w', h1, h2⟩ := hw
    exact upon_val h hk (run_v h1) h2
  case box e x =>
    obtain ⟨p, w', h1, h2⟩ := evK_ok h hw
    exact upon_val h hk (run_v h1) h2
  case build t parts =>
    have hw := evL_ok h _ hw
    rw [map_snd_eq] at hw
    obtain ⟨p, w', h1, h2⟩ := hw
    exact upon_val h hk (run_v h1) h2
  case buildSlice t len parts =>
    have hw := evL_ok h _ hw
    rw [map_snd_eq] at hw
    obtain ⟨p, l, c, w', h1, h2⟩ := hw
    exact upon_val h hk (run_v h1) h2
  case load t x =>
    have hw := evK_ok h hw
    split at hw
    · rename_i ad hv
      obtain ⟨v, h1, h2⟩ := ldSh_ok hw
      refine upon_val h hk (run_v (w' := w) ?_) h2
      simp [Instr.loadAt, hv, Instr.sureAddr, h1]
    · exact hw.elim
  case store t x y =>
    have hw := evK_ok h hw
    have hw := evK_ok h hw
    split at hw
    · rename_i ad hv
      obtain ⟨w', h1, h2⟩ := hw
      refine upon_unit h hk (run_u (w' := w') ?_) h2
      simp [Instr.storeAt, hv, Instr.sureAddr, h1]
    · exact hw.elim
  case nilCheck x =>
    have hw := evK_ok h hw
    split at hw
    · rename_i p hv
      obtain ⟨ad, rfl, h2⟩ := hw
      exact upon_val h hk (w' := w) (by simp [execOp, hv]) h2
    · rename_i f x y hv
      exact upon_val h hk (w' := w) (by simp [execOp, hv]) hw
    · rename_i u v hv
      exact upon_val h hk (w' := w) (by simp [execOp, hv]) hw
    · exact hw.elim
  case binOp op t x y yt =>
    have hw := evK_ok h hw
    have hw := evK_ok h hw
    obtain ⟨v, w', h1, h2⟩ := wpBin_ok hw
    exact upon_val h hk (run_v h1) h2
  case unOp op t x =>
    have hw := evK_ok h hw
    generalize hv : a.eval x = va at hw
    have hrun : ∀ {u : Value} {K' : Env → World → Prop}, (Op.unary op va).run P w = .ok u w → (execOp a.eval ⟨dst, .unOp op t x, type, pos, after, guard⟩).run P w = .ok (.value u) w := by
      intro u _ hu
      exact run_v (by rw [hv]; exact hu)
    split at hw
    · exact upon_val h hk (hrun (K' := K) rfl) hw
    · exact upon_val h hk (hrun (K' := K) rfl) hw
    · exact upon_val h hk (hrun (K' := K) rfl) hw
    · exact hw.elim
  case convert s d x =>
    have hw := evK_ok h hw
    split at hw
    · rename_i ds dk k b hs hd hv
      refine upon_val h hk (run_v (w' := w) ?_) hw
      rw [hv]
      simp [convert, run_underlying hs, run_underlying hd, Conv.intToInt]
    · rename_i b hs hd hv
      refine upon_val h hk (run_v (w' := w) ?_) hw
      rw [hv]
      simp [convert, run_underlying hs, run_underlying hd]
    · obtain ⟨v, w', h1, h2⟩ := doSh_ok hw
      exact upon_val h hk (run_v h1) h2
  case sliceToArrayPointer t x =>
    obtain ⟨p, w', h1, h2⟩ := evK_ok h hw
    exact upon_val h hk (run_v h1) h2
  case makeInterface t x =>
    have hw := evK_ok h hw
    split at hw
    · exact hw.elim
    · rename_i d hne hu
      refine upon_val h hk (run_v (w' := w) ?_) hw
      simp only [Instr.makeInterface, Sem.run_bind, run_underlying hu, Result.andThen_ok]
      cases d <;> first | rfl | (exact (hne _ rfl).elim)
    · exact hw.elim
  case makeFunc fn x y =>
    have hw := evL_ok h _ hw
    have hw := evL_ok h _ hw
    refine upon_val h hk (w' := w) ?_ hw
    refine run_v (w' := w) ?_
    simp [Instr.makeFunc, ← Array.toList_map]
  case makeMap t r =>
    obtain ⟨p, w', h1, h2⟩ := evO_ok h _ hw
    exact upon_val h hk (run_v h1) h2
  case makeSlice t x y =>
    have hw := evK_ok h hw
    obtain ⟨p, l, c, w', h1, h2⟩ := evK_ok h hw
    exact upon_val h hk (run_v h1) h2
  case slice t x lo hi mx =>
    have hw := evK_ok h hw
    have hw := evO_ok h _ hw
    have hw := evO_ok h _ hw
    have hw := evO_ok h _ hw
    obtain ⟨v, w', h1, h2⟩ := doSh_ok hw
    exact upon_val h hk (run_v h1) h2
  case fieldAddr s x f =>
    have hw := evK_ok h hw
    split at hw
    · rename_i fs ad hs hv
      split at hw
      · rename_i fd hf
        split at hw
        · rename_i i hi
          cases hb : Nat.beq i.size 0 with
          | true => rw [hb] at hw; exact hw.elim
          | false =>
            rw [hb] at hw
            have hne : i.size ≠ 0 := fun e => by rw [e] at hb; cases hb
            refine upon_val h hk (run_v (w' := w) ?_) hw
            simp [Instr.fieldAt, run_underlying hs, hf, hv, Instr.sureAddr, fieldPlace, sizeOf, typeInfo, hi, hne]
        · exact hw.elim
      · exact hw.elim
    · exact hw.elim
  case field t x f =>
    obtain ⟨v, w', h1, h2⟩ := doSh_ok (evK_ok h hw)
    exact upon_val h hk (run_v h1) h2
  case indexAddr t x i =>
    have hw := evK_ok h hw
    have hw := evK_ok h hw
    split at hw
    · rename_i e p len cp k i hu hv hi
      split at hw
      · rename_i inf hinf
        obtain ⟨ad, rfl, h0, h1, h2⟩ := hw
        refine upon_val h hk (run_v (w' := w) ?_) h2
        simp only [Instr.indexAt, hi, hv, asIntOf, Sem.run_bind, Sem.run_pure, Result.andThen_ok, run_underlying hu]
        simp [h0, h1, sizeOf, typeInfo, hinf]
      · exact hw.elim
    · rename_i len e p k i hu hv hi
      split at hw
      · rename_i inf hinf
        obtain ⟨ad, hp, h0, h1, h2⟩ := hw
        simp only [Option.some.injEq] at hp
        subst hp
        refine upon_val h hk (run_v (w' := w) ?_) h2
        simp only [Instr.indexAt, hi, hv, asIntOf, Sem.run_bind, Sem.run_pure, Result.andThen_ok, run_underlying hu]
        simp [h0, h1, sizeOf, typeInfo, hinf, Instr.sureAddr]
      · exact hw.elim
    · exact hw.elim
  case index t x i =>
    obtain ⟨v, w', h1, h2⟩ := doSh_ok (evK_ok h (evK_ok h hw))
    exact upon_val h hk (run_v h1) h2
  case lookup t x i ok =>
    obtain ⟨v, w', h1, h2⟩ := exT_of_doT (evK_ok h (evK_ok h hw))
    exact upon_val h hk (run_v h1) h2
  case mapUpdate t m k x =>
    obtain ⟨w', h1, h2⟩ := evK_ok h (evK_ok h (evK_ok h hw))
    exact upon_unit h hk (run_u h1) h2
  case insert t m k x =>
    obtain ⟨w', h1, h2⟩ := evK_ok h (evK_ok h (evK_ok h hw))
    exact upon_unit h hk (run_u h1) h2
  case range t x =>
    obtain ⟨p, w', h1, h2⟩ := evK_ok h hw
    exact upon_val h hk (run_v h1) h2
  case next it s =>
    obtain ⟨p, w', h1, h2⟩ := evK_ok h hw
    exact upon_val h hk (run_v h1) h2
  case entry it =>
    obtain ⟨v, w', h1, h2⟩ := exT_of_doT (evK_ok h hw)
    exact upon_val h hk (run_v h1) h2
  case extract t ix =>
    have hw := evK_ok h hw
    split at hw
    · rename_i vs hv
      split at hw
      · rename_i u hu
        refine upon_val h hk (run_v (w' := w) ?_) hw
        simp [Instr.extract, hv, hu]
      · exact hw.elim
    · exact hw.elim
  case call c =>
    obtain ⟨callee, args, argTypes⟩ := c
    have harr : (args.toList.map a.eval).toArray = args.map a.eval := by apply Array.ext'; simp
    cases callee with
    | builtin b =>
      have hres : ∀ (s : Sem Value) (v : Value) (w' : World), (∀ cs, builtin b argTypes type cs (args.map a.eval) = (do pure (.value (← s)))) → s.run P w = .ok v w' →
          (execOp a.eval ⟨dst, .call ⟨.builtin b, args, argTypes⟩, type, pos, after, guard⟩).run P w = .ok (.value v) w' := by
        intro s v w' hb hs
        simp only [execOp, resolve, Sem.run_bind, Sem.run_pure, Result.andThen_ok, invoke]
        rw [hb]
        exact run_v hs
      cases b <;> simp only at hw
      case append =>
        obtain ⟨p, l, c, w', h1, h2⟩ := evL_ok h _ hw
        rw [harr] at h1
        exact upon_val h hk (hres _ _ _ (fun _ => rfl) h1) h2
      case copy =>
        obtain ⟨v, w', h1, h2⟩ := evL_ok h _ hw
        rw [harr] at h1
        exact upon_val h hk (hres _ _ _ (fun _ => rfl) h1) h2
      case clear =>
        obtain ⟨v, w', h1, h2⟩ := exT_of_doT (evL_ok h _ hw)
        rw [harr] at h1
        exact upon_val h hk (hres _ _ _ (fun _ => rfl) h1) h2
      case delete =>
        obtain ⟨v, w', h1, h2⟩ := exT_of_doT (evL_ok h _ hw)
        rw [harr] at h1
        exact upon_val h hk (hres _ _ _ (fun _ => rfl) h1) h2
      case len =>
        have hw := evL_ok h _ hw
        split at hw
        · rename_i e p l c ht hv
          refine upon_val h hk (hres _ _ w (fun _ => rfl) ?_) hw
          have : args.map a.eval = #[.slice p l c] := by rw [← harr, hv]
          rw [this]
          cases h0 : argTypes[0]? with
          | none => rw [h0] at ht; cases ht
          | some t0 =>
            rw [h0] at ht
            simp only [Option.bind_some] at ht
            simp [Builtin.len_, h0, run_underlying ht, goInt]
        · rename_i s ht hv
          refine upon_val h hk (hres _ _ w (fun _ => rfl) ?_) hw
          have : args.map a.eval = #[.string s] := by rw [← harr, hv]
          rw [this]
          cases h0 : argTypes[0]? with
          | none => rw [h0] at ht; cases ht
          | some t0 =>
            rw [h0] at ht
            simp only [Option.bind_some] at ht
            simp [Builtin.len_, h0, run_underlying ht, goInt]
        · obtain ⟨v, w', h1, h2⟩ := hw
          rw [harr] at h1
          exact upon_val h hk (hres _ _ _ (fun _ => rfl) h1) h2
      case max =>
        have hw := evL_ok h _ hw
        split at hw
        · rename_i k x k' y hv
          refine upon_val h hk (hres _ _ w (fun _ => rfl) ?_) hw
          have : args.map a.eval = #[.int k x, .int k' y] := by rw [← harr, hv]
          rw [this]
          simp [Builtin.max_, Builtin.max2, mxI]
        · exact hw.elim
      case min =>
        have hw := evL_ok h _ hw
        split at hw
        · rename_i k x k' y hv
          refine upon_val h hk (hres _ _ w (fun _ => rfl) ?_) hw
          have : args.map a.eval = #[.int k x, .int k' y] := by rw [← harr, hv]
          rw [this]
          simp [Builtin.min_, Builtin.min2, mnI]
        · exact hw.elim
    | value x =>
      have stat : ∀ f, a.eval x = .func (.func f) #[] #[] → callable P f = true → (execOp a.eval ⟨dst, .call ⟨.value x, args, argTypes⟩, type, pos, after, guard⟩).run P w = .ok (.enter f (args.map a.eval)) w := by
        intro f hx hc
        simp only [execOp, resolve, hx, Deferred.ofValue, Sem.run_bind, Sem.run_pure, Result.andThen_ok, invoke]
        simpa using callable_ok hc (args.map a.eval) w
      have dyn : ∀ f x1 x2, a.eval x = .func (.func f) x1 x2 → callable P f = true → (execOp a.eval ⟨dst, .call ⟨.value x, args, argTypes⟩, type, pos, after, guard⟩).run P w = .ok (.enter f (x1 ++ args.map a.eval ++ x2)) w := by
        intro f x1 x2 hx hc
        simp only [execOp, resolve, hx, Deferred.ofValue, Sem.run_bind, Sem.run_pure, Result.andThen_ok, invoke]
        exact callable_ok hc _ w
      have hx : (∃ f, x = .func f) ∨ ∀ f, x ≠ .func f := by
        cases x with
        | func f => exact .inl ⟨f, rfl⟩
        | _ => exact .inr (by intro f hf; cases hf)
      rcases hx with ⟨f, rfl⟩ | hx
      · have hw := evL_ok h _ hw
        cases hc : callable P f with
        | false => rw [hc] at hw; exact hw.elim
        | true =>
          rw [hc, harr] at hw
          exact upon_call h hk (stat f rfl hc) hw
      · have hw : evK E x fun vf => evL E args.toList fun vs => match vf with
          | .func (.func f) first captured => bif callable P f then Cl P type f (first ++ vs.toArray ++ captured) w fun v w => putK n dst v E fun E => K E w else False
          | _ => False := by
          cases x with
          | func f => exact absurd rfl (hx f)
          | _ => exact hw
        have hw := evL_ok h _ (evK_ok h hw)
        generalize hv : a.eval x = vf at hw
        split at hw
        · rename_i f x1 x2
          cases hc : callable P f with
          | false => rw [hc] at hw; exact hw.elim
          | true =>
            rw [hc, harr] at hw
            exact upon_call h hk (dyn f x1 x2 hv hc) hw
        · exact hw.elim
    | invoke r name =>
      have hw := evL_ok h _ (evK_ok h hw)
      obtain ⟨f, as, h1, h2⟩ := hw
      refine upon_call h hk ?_ h2
      rw [harr] at h1
      simp only [execOp, resolve, Sem.run_bind, Sem.run_pure, Result.andThen_ok, invoke]
      have e0 : (#[a.eval r] ++ Array.map a.eval args)[0]? = some (a.eval r) := by
        rw [Array.getElem?_append_left (by simp)]; rfl
      have e1 : (#[a.eval r] ++ Array.map a.eval args).extract 1 (#[a.eval r] ++ Array.map a.eval args).size = Array.map a.eval args := by
        apply Array.ext'
        simp only [Array.toList_extract, Array.toList_append, Array.size_append, List.extract_eq_take_drop, Array.toList_map, List.size_toArray, Array.size_map, List.length_cons, List.length_nil]
        show List.take (0 + 1 + args.size - 1) (List.map a.eval args.toList) = _
        rw [List.take_of_length_le (by simp)]
      rw [e0, e1]
      exact h1

end Go.Sh

namespace Go.Sh
open Go
variable {dfs : List Deferred}

/-! ### regions that draw their order: what only reads is taken first, and is looked at again behind whatever may come ahead of it -/

section
variable {P : Program} {ops : Array Oper} {Q : Exit → Act → World → Prop}

/-- Does operation j wait for operation i by an edge of its own? -/
def waits (ops : Array Oper) (j i : Nat) : Bool :=
  match ops[j]? with
  | some oj => oj.after.any fun e => Region.binds .any e && Nat.beq e.on i
  | none => false

abbrev Obs := List (Nat × (World → Prop))

def obsLeft (ops : Array Oper) (j : Nat) : Obs → Obs
  | [] => []
  | (i, S) :: l => bif waits ops j i then obsLeft ops j l else (i, S) :: obsLeft ops j l

def obsHold : Obs → World → Prop
  | [], _ => True
  | (_, S) :: l, w => S w ∧ obsHold l w

/-- Whatever order is picked from here on; what was taken first holds behind each operation that could come ahead of it. -/
def anyX (P : Program) (ops : Array Oper) (Q : Exit → Act → World → Prop) : Nat → Array Bool → Obs → Act → World → Prop
  | 0, listed, _, a, w => Region.ready .any ops listed = [] ∧ Q .normal a w
  | fuel + 1, listed, obs, a, w =>
    (Region.ready .any ops listed = [] → Q .normal a w) ∧
    ∀ i ∈ Region.ready .any ops listed, wpOp P ops Q i (fun a' w' => obsHold (obsLeft ops i obs) w' ∧ anyX P ops Q fuel (listed.setIfInBounds i true) (obsLeft ops i obs) a' w') a w

theorem any_of_anyX : ∀ (fuel : Nat) (listed : Array Bool) (obs : Obs) (a : Act) (w : World), anyX P ops Q fuel listed obs a w → wpAny P .any ops Q fuel listed a w
  | 0, _, _, _, _, h => h
  | fuel + 1, _, _, _, _, h => ⟨h.1, fun i hi => wpOp_mono (fun a' w' h' => any_of_anyX fuel _ _ a' w' h'.2) (h.2 i hi)⟩

theorem not_waits {listed : Array Bool} {i j : Nat} (hi : i ∈ Region.ready .any ops listed) (hj : j ∈ Region.ready .any ops listed) : waits ops j i = false := by
  obtain ⟨hiu, _⟩ := mem_ready.1 hi
  obtain ⟨_, oj, hoj, hall⟩ := mem_ready.1 hj
  cases hw : waits ops j i with
  | false => rfl
  | true =>
    simp only [waits, hoj] at hw
    obtain ⟨e, he, hb⟩ := Array.any_eq_true'.1 hw
    simp only [Bool.and_eq_true] at hb
    have hon : e.on = i := Nat.eq_of_beq_eq_true hb.2
    have h1 := hall e he hb.1
    rw [hon] at h1
    rcases Nat.lt_or_ge i listed.size with h' | h'
    · simp [h'] at hiu h1; rw [hiu] at h1; cases h1
    · simp [Array.getElem?_eq_none h'] at h1

theorem anyX_first {i : Nat} {oi : Oper} {v : Value} {S : World → Prop} (hi : ops[i]? = some oi) (hsel : ∀ (j : Nat) (o : Oper) cs b, ops[j]? = some o → o.op ≠ .select cs b)
    (hQ : ∀ c a w, Q (.panic c) (a.put oi.dst v) w → Q (.panic c) a w) :
    ∀ (fuel : Nat) (listed : Array Bool) (obs : Obs) (a : Act) (w : World),
      (∀ j oj, ops[j]? = some oj → j ≠ i → listed.getD j true = false → (∀ e ∈ oj.after, Region.binds .any e = true → e.on ≠ i) → oi.apart ops oj = true) →
      i ∈ Region.ready .any ops listed → YieldsIf P ops S oi v a → S w → obsHold obs w →
      anyX P ops Q fuel (listed.setIfInBounds i true) ((i, S) :: obs) (a.put oi.dst v) w → anyX P ops Q (fuel + 1) listed obs a w := by
  intro fuel
  induction fuel with
  | zero =>
    intro listed obs a w _ hr hy hS hO H
    refine ⟨fun h => (by rw [h] at hr; cases hr), fun j hj => ?_⟩
    by_cases hji : j = i
    · subst hji
      have : ∀ l : Obs, obsHold l w → obsHold (obsLeft ops j l) w := by
        intro l
        induction l with
        | nil => exact id
        | cons p l ih => intro h; simp only [obsLeft]; cases waits ops j p.1 <;> simp only [cond_true, cond_false]; exact ⟨h.1, ih h.2⟩; exact ih h.2
      exact hy.wpOp hi hS ⟨this _ hO, H⟩
    · have := ready_mono hj hji
      rw [H.1] at this
      cases this
  | succ fuel ih =>
    intro listed obs a w hfree hr hy hS hO H
    refine ⟨fun h => (by rw [h] at hr; cases hr), fun j hj => ?_⟩
    have hdrop : ∀ (k : Nat) (l : Obs), obsHold l w → obsHold (obsLeft ops k l) w := by
      intro k l
      induction l with
      | nil => exact id
      | cons p l ih => intro h; simp only [obsLeft]; cases waits ops k p.1 <;> simp only [cond_true, cond_false]; exact ⟨h.1, ih h.2⟩; exact ih h.2
    by_cases hji : j = i
    · subst hji
      refine hy.wpOp hi hS ⟨hdrop _ _ hO, ?_⟩
      -- what was promised of more is promised of less
      exact anyX_less _ _ _ _ _ _ (by intro p hp; exact List.mem_cons_of_mem _ (mem_left hp)) H
    · have h1 := H.2 j (ready_mono hj hji)
      obtain ⟨hjun, oj, hoj, hall⟩ := mem_ready.1 hj
      have hnot : ∀ e ∈ oj.after, Region.binds .any e = true → e.on ≠ i := fun e he hb heq => by
        have h1 := hall e he hb
        have h0 := (mem_ready.1 hr).1
        rw [heq] at h1
        rcases Nat.lt_or_ge i listed.size with h' | h'
        · simp [h'] at h0 h1; rw [h0] at h1; cases h1
        · simp [Array.getElem?_eq_none h'] at h1
      have hw := not_waits hr hj
      have h2 := wpOp_putIf hoj (hfree j oj hoj hji hjun hnot) (fun cs b => hsel i oi cs b hi) (fun cs b => hsel j oj cs b hoj) hQ hy h1
      have hfree' : ∀ k ok, ops[k]? = some ok → k ≠ i → (listed.setIfInBounds j true).getD k true = false →
          (∀ e ∈ ok.after, Region.binds .any e = true → e.on ≠ i) → oi.apart ops ok = true := fun k ok hk hki hun hno => by
        refine hfree k ok hk hki ?_ hno
        by_cases hjk : j = k
        · subst hjk; exact hjun
        · rw [getD_set_ne true hjk] at hun; exact hun
      refine wpOp_mono (fun a' w' h3 => ?_) h2
      have h4 := h3.2
      simp only [obsLeft, hw, cond_false, obsHold] at h4
      obtain ⟨⟨hS', hO'⟩, h5⟩ := h4
      refine ⟨hO', ih (listed.setIfInBounds j true) _ a' w' hfree' (ready_mono hr (Ne.symm hji)) h3.1 hS' hO' ?_⟩
      rw [Array.setIfInBounds_comm _ _ hji]
      exact h5
where
  mem_left {ops : Array Oper} {j : Nat} : ∀ {l : Obs} {p}, p ∈ obsLeft ops j l → p ∈ l := by
    intro l
    induction l with
    | nil => intro p h; exact h
    | cons q l ih =>
      intro p h
      simp only [obsLeft] at h
      cases hw : waits ops j q.1 <;> rw [hw] at h <;> simp only [cond_true, cond_false] at h
      · rcases List.mem_cons.1 h with rfl | h
        · exact List.mem_cons_self
        · exact List.mem_cons_of_mem _ (ih h)
      · exact List.mem_cons_of_mem _ (ih h)
  hold_mem {w : World} : ∀ {l : Obs}, obsHold l w ↔ ∀ p ∈ l, p.2 w := by
    intro l
    induction l with
    | nil => simp [obsHold]
    | cons q l ih => simp [obsHold, ih]
  left_mem {ops : Array Oper} {j : Nat} : ∀ {l : Obs} {p}, p ∈ obsLeft ops j l ↔ p ∈ l ∧ waits ops j p.1 = false := by
    intro l
    induction l with
    | nil => intro p; simp [obsLeft]
    | cons q l ih =>
      intro p
      simp only [obsLeft]
      cases hw : waits ops j q.1 <;> simp only [cond_true, cond_false, List.mem_cons, ih]
      · constructor
        · rintro (rfl | h)
          · exact ⟨.inl rfl, hw⟩
          · exact ⟨.inr h.1, h.2⟩
        · rintro ⟨rfl | h, h2⟩
          · exact .inl rfl
          · exact .inr ⟨h, h2⟩
      · constructor
        · rintro h; exact ⟨.inr h.1, h.2⟩
        · rintro ⟨rfl | h, h2⟩
          · rw [hw] at h2; cases h2
          · exact ⟨h, h2⟩
  anyX_less : ∀ (fuel : Nat) (listed : Array Bool) (obs obs' : Obs) (a : Act) (w : World), (∀ p, p ∈ obs' → p ∈ obs) →
      anyX P ops Q fuel listed obs a w → anyX P ops Q fuel listed obs' a w
    | 0, _, _, _, _, _, _, h => h
    | fuel + 1, listed, obs, obs', a, w, hs, h => ⟨h.1, fun i hi => wpOp_mono (fun a' w' h' => by
        have hs' : ∀ p, p ∈ obsLeft ops i obs' → p ∈ obsLeft ops i obs := fun p hp => by
          rw [left_mem] at hp ⊢
          exact ⟨hs p hp.1, hp.2⟩
        exact ⟨by rw [hold_mem] at *; exact fun p hp => h'.1 p (hs' p hp), anyX_less fuel _ _ _ a' w' hs' h'.2⟩) (h.2 i hi)⟩

theorem anyX_done {listed : Array Bool} {obs : Obs} {a : Act} {w : World} (hr : Region.ready .any ops listed = []) (h : Q .normal a w) :
    ∀ fuel, anyX P ops Q fuel listed obs a w
  | 0 => ⟨hr, h⟩
  | _ + 1 => ⟨fun _ => h, by rw [hr]; simp⟩
end
end Go.Sh

namespace Go.Sh
open Go
variable {dfs : List Deferred}

/-- In this world, too, it yields the same and leaves the world alone. -/
def Still (P : Program) (s : Sem Value) (v : Value) (w : World) : Prop := s.run P w = .ok v w

def RdI (k : IntKind) (P : Program) (s : Sem Value) (w : World) (K : Int → Prop) : Prop := ∃ n, s.run P w = .ok (.int k n) w ∧ K n
def RdB (P : Program) (s : Sem Value) (w : World) (K : Bool → Prop) : Prop := ∃ n, s.run P w = .ok (.bool n) w ∧ K n
def RdS (P : Program) (s : Sem Value) (w : World) (K : ByteArray → Prop) : Prop := ∃ n, s.run P w = .ok (.string n) w ∧ K n
def RdP (P : Program) (s : Sem Value) (w : World) (K : Option Addr → Prop) : Prop := ∃ n, s.run P w = .ok (.pointer n) w ∧ K n
def RdA (P : Program) (s : Sem Value) (w : World) (K : Addr → Prop) : Prop := ∃ n, s.run P w = .ok (.pointer (some n)) w ∧ K n
def RdL (P : Program) (s : Sem Value) (w : World) (K : Option Addr → Nat → Nat → Prop) : Prop := ∃ p l c, s.run P w = .ok (.slice p l c) w ∧ K p l c
def RdM (P : Program) (s : Sem Value) (w : World) (K : Option Nat → Prop) : Prop := ∃ n, s.run P w = .ok (.map n) w ∧ K n
def RdF (P : Program) (s : Sem Value) (w : World) (K : TypeId → Value → Prop) : Prop := ∃ t v, s.run P w = .ok (.iface t v) w ∧ K t v
def RdV (P : Program) (s : Sem Value) (w : World) (K : Value → Prop) : Prop := ∃ n, s.run P w = .ok n w ∧ K n

abbrev Again := Option (World → Prop)

def rdSh (P : Program) (s : Sem Value) (w : World) (sh : Shape) (K : Value → Again → Prop) : Prop :=
  match sh with
  | .int k => RdI k P s w fun n => K (.int k n) (some (Still P s (.int k n)))
  | .bool => RdB P s w fun n => K (.bool n) (some (Still P s (.bool n)))
  | .string => RdS P s w fun n => K (.string n) (some (Still P s (.string n)))
  | .ptr => RdP P s w fun n => K (.pointer n) (some (Still P s (.pointer n)))
  | .addr => RdA P s w fun n => K (.pointer (some n)) (some (Still P s (.pointer (some n))))
  | .slice => RdL P s w fun p l c => K (.slice p l c) (some (Still P s (.slice p l c)))
  | .map => RdM P s w fun n => K (.map n) (some (Still P s (.map n)))
  | .iface => RdF P s w fun t v => K (.iface t v) (some (Still P s (.iface t v)))
  | .any => RdV P s w fun n => K n (some (Still P s n))

def rdT (P : Program) (t : TypeId) (s : Sem Value) (w : World) (K : Value → Again → Prop) : Prop := exT P t fun v => s.run P w = .ok v w ∧ K v (some (Still P s v))

def holdsA : Again → World → Prop
  | none, _ => True
  | some S, w => S w

theorem rdSh_ok {P : Program} {s : Sem Value} {w : World} {sh : Shape} {K : Value → Again → Prop} (h : rdSh P s w sh K) :
    ∃ v, s.run P w = .ok v w ∧ K v (some (Still P s v)) := by
  cases sh <;> simp only [rdSh, RdI, RdB, RdS, RdP, RdA, RdL, RdM, RdF, RdV] at h
  case slice => obtain ⟨a, l, c, h1, h2⟩ := h; exact ⟨_, h1, h2⟩
  case iface => obtain ⟨t, v, h1, h2⟩ := h; exact ⟨_, h1, h2⟩
  all_goals (obtain ⟨x, h1, h2⟩ := h; exact ⟨_, h1, h2⟩)

def pureBin (op : BinOp) (va vb : Value) : Bool :=
  match va, vb with
  | .int _ _, .int _ _ => true
  | .string _, .string _ => (match op with | .eql | .neq | .add => true | _ => false)
  | .pointer _, .pointer none => true
  | _, _ => false

theorem wpBin_pure {P : Program} {n : Nat} {op : BinOp} {t : TypeId} {x y : Operand} {va vb : Value} {dst : Option Tmp} {ot : TypeId} {E : Env} {w : World} {K : Env → World → Prop}
    (hag : aggT P t = false) (hp : pureBin op va vb = true) (h : wpBin P n op t x y va vb dst ot E w K) : ∃ v, (∀ w2, (binS op t x y va vb).run P w2 = .ok v w2) ∧ putK n dst v E fun E => K E w := by
  unfold wpBin at h
  rw [hag, cond_false] at h
  split at h
  · rename_i k a k' b
    have hg : ∀ w2, (eqGuard op t x y (.int k a) (.int k' b)).run P w2 = .ok () w2 := by
      intro w2; cases op <;> simp [eqGuard]
    have hs : ∀ w2, (binS op t x y (.int k a) (.int k' b)).run P w2 = (binOp op t (.int k a) (.int k' b)).run P w2 := by intro w2; simp [binS, hg]
    split at h
    · obtain ⟨h0, h⟩ := h; exact ⟨_, fun w2 => by rw [hs]; simp [binOp, Op.shift, Int.not_lt.2 (show 0 ≤ b from h0)], h⟩
    · obtain ⟨h0, h⟩ := h; exact ⟨_, fun w2 => by rw [hs]; simp [binOp, Op.shift, Int.not_lt.2 (show 0 ≤ b from h0)], h⟩
    all_goals
      cases hk : kindEq k k' with
      | false => rw [hk] at h; exact h.elim
      | true =>
        rw [hk] at h
        have := kindEq_ok hk
        subst this
        simp only [cond_true] at h
        first
          | (obtain ⟨h0, h⟩ := h; exact ⟨_, fun w2 => by rw [hs, binOp_int _ _ _ _ _ (by simp)]; simp only [intRun, Op.intDiv]; rw [if_neg (show ¬ b = 0 from h0)]; rfl, h⟩)
          | exact ⟨_, fun w2 => by rw [hs, binOp_int _ _ _ _ _ (by simp)]; rfl, h⟩
  · rename_i a b
    have hg : ∀ w2, (eqGuard op t x y (.string a) (.string b)).run P w2 = .ok () w2 := by
      intro w2; cases op <;> simp [eqGuard]
    have hs : ∀ w2, (binS op t x y (.string a) (.string b)).run P w2 = (binOp op t (.string a) (.string b)).run P w2 := by intro w2; simp [binS, hg]
    split at h
    · exact ⟨_, fun w2 => by rw [hs]; simp [binOp, Op.stringOp, eqS], h⟩
    · exact ⟨_, fun w2 => by rw [hs]; simp [binOp, Op.stringOp, eqS], h⟩
    · obtain ⟨h0, h⟩ := h; have h0 : ((a.size + b.size : Nat) : Int) ≤ IntKind.i64.max := h0; exact ⟨_, fun w2 => by rw [hs]; simp only [binOp, Op.stringOp]; rw [if_neg (by omega)]; rfl, h⟩
    · rename_i h1 h2 h3
      cases op <;> simp [pureBin] at hp <;> first | exact absurd rfl h1 | exact absurd rfl h2 | exact absurd rfl h3
  · rename_i a
    split at h
    · rename_i e hu
      split at h
      · exact ⟨_, fun w2 => binS_eql_nil P w2 t e x y hu a, h⟩
      · exact ⟨_, fun w2 => binS_neq_nil P w2 t e x y hu a, h⟩
      · exact h.elim
    · exact h.elim
  · rename_i h1 h2 h3
    exfalso
    unfold pureBin at hp
    split at hp
    · exact h1 _ _ _ _ rfl rfl
    · exact h2 _ _ rfl rfl
    · exact h3 _ rfl rfl
    · cases hp

def viaBin (P : Program) (op : BinOp) (t : TypeId) (x y : Operand) (va vb : Value) (ot : TypeId) (w : World) (K : Value → Prop) : Prop :=
  wpBin P 1 op t x y va vb (some 0) ot [] w fun E _ => match E with
    | (_, v) :: _ => K v
    | [] => False

/-- One operation that only reads: its value, and what says that it would yield it again. -/
def wpq (P : Program) (o : Oper) (E : Env) (w : World) (K : Value → Again → Prop) : Prop :=
  match o.op with
  | .move x => evK E x fun v => K v none
  | .assign x => evK E x fun v => K v none
  | .pick c a b => evK E c fun vc => match vc with
    | .bool true => evK E a fun v => K v none
    | .bool false => evK E b fun v => K v none
    | _ => False
  | .build t parts => evL E (parts.toList.map (·.2)) fun vs =>
      rdSh P (Instr.build t (List.zip (parts.toList.map (·.1)) vs).toArray) w .any K
  | .load t x => evK E x fun v => match v with
    | .pointer (some a) => ldSh P t a w (ldShape P t) fun v => K v (some (Still P (loadVar t a) v))
    | _ => False
  | .nilCheck x => evK E x fun v => match v with
    | .pointer p => NN p fun a => K (.pointer (some a)) none
    | .func (.func f) a b => K (.func (.func f) a b) none
    | .iface u v => K (.iface u v) none
    | _ => False
  | .binOp op t x y _ => evK E x fun va => evK E y fun vb => bif aggT P t then rdSh P (binS op t x y va vb) w (tyShape P o.type) K else
      bif pureBin op va vb then viaBin P op t x y va vb o.type w fun v => K v none
      else rdSh P (binS op t x y va vb) w (tyShape P o.type) K
  | .unOp op _ x => evK E x fun v => match op, v with
    | .not, .bool b => K (.bool !b) none
    | .neg, .int k a => K (.int k (k.wrap (0 - a))) none
    | .xor, .int k a => K (.int k (bitsOf .xor k (if k.signed then -1 else k.max) a)) none
    | _, _ => False
  | .convert s d x => evK E x fun v => match P.underlying s, P.underlying d, v with
    | some _, some (.int k), .int _ a => K (.int k (k.wrap a)) none
    | some .string, some .string, .string b => K (.string b) none
    | _, _, v => rdSh P (convert s d v) w (tyShape P d) K
  | .sliceToArrayPointer t x => evK E x fun v => rdSh P (Instr.arrayAt t v) w .addr K
  | .makeInterface t x => evK E x fun v => match P.underlying t with
    | some (.interface _) => False
    | some _ => K (.iface t v) none
    | none => False
  | .makeFunc fn first captured => evL E first.toList fun vs => evL E captured.toList fun us => K (.func fn vs.toArray us.toArray) none
  | .slice t x lo hi mx => evK E x fun v => evO E lo fun vl => evO E hi fun vh => evO E mx fun vm =>
      rdSh P (Instr.sliceAt t v vl vh vm) w (match P.underlying t with | some .string => .string | _ => .slice) K
  | .fieldAddr s x f => evK E x fun v => match P.underlying s, v with
    | some (.struct fs), .pointer (some a) => (match fs[f]? with
      | some fd => (match P.info? fd.type with
        | some i => bif Nat.beq i.size 0 then False else K (.pointer (some (a.add fd.offset))) none
        | none => False)
      | none => False)
    | _, _ => False
  | .field t x f => evK E x fun v => rdSh P (Instr.field t v f) w (tyShape P o.type) K
  | .indexAddr t x i => evK E x fun v => evK E i fun vi => match P.underlying t, v, vi with
    | some (.slice e), .slice p len _, .int _ i => (match P.info? e with
      | some inf => Ix p len i inf.size fun a => K (.pointer (some a)) none
      | none => False)
    | some (.array len e), .pointer (some a), .int _ i => (match P.info? e with
      | some inf => Ix (some a) len i inf.size fun a => K (.pointer (some a)) none
      | none => False)
    | _, _, _ => False
  | .index t x i => evK E x fun v => evK E i fun vi => rdSh P (Instr.index t v vi) w (tyShape P o.type) K
  | .lookup t x i ok => evK E x fun v => evK E i fun vi => rdT P o.type (Instr.lookup t v vi ok) w K
  | .entry it => evK E it fun v => rdT P o.type (Instr.entry v) w K
  | .extract t ix => evK E t fun v => match v with
    | .tuple vs => (match vs[ix]? with
      | some u => K u none
      | none => False)
    | _ => False
  | .call c =>
    match c.callee with
    | .builtin .len => evL E c.args.toList fun vs => (match (c.argTypes[0]?).bind P.underlying, vs with
      | some (.slice _), [.slice _ l _] => K (.int .i64 l) none
      | some .string, [.string s] => K (.int .i64 s.size) none
      | _, vs => rdSh P (Builtin.len_ c.argTypes o.type vs.toArray) w (.int .i64) K)
    | .builtin .max => evL E c.args.toList fun vs => (match vs with
      | [.int k a, .int _ b] => K (.int k (mxI a b)) none
      | _ => False)
    | .builtin .min => evL E c.args.toList fun vs => (match vs with
      | [.int k a, .int _ b] => K (.int k (mnI a b)) none
      | _ => False)
    | _ => False
  | _ => False

def quiet (P : Program) (o : Oper) : Bool :=
  match o.op with
  | .move _ | .assign _ | .pick .. | .build .. | .load .. | .nilCheck _ | .binOp .. | .unOp .. | .sliceToArrayPointer .. | .makeInterface .. | .makeFunc .. | .slice ..
  | .fieldAddr .. | .field .. | .indexAddr .. | .index .. | .lookup .. | .entry _ | .extract .. => true
  | .convert s d _ => (match P.underlying s, P.underlying d with | some .string, some (.slice _) => false | some .string, _ => true | some (.slice _), some (.slice _) => false | _, _ => true)
  | .call c => (match c.callee with | .builtin .len | .builtin .max | .builtin .min => true | _ => false)
  | _ => false

set_option maxHeartbeats 1000000 in
theorem wpq_ok {P : Program} {n : Nat} {o : Oper} {a : Act} {E : Env} {w : World} {K : Value → Again → Prop}
    (h : Agr dfs n a E) (hw : wpq P o E w K) : ∃ v S, holdsA S w ∧ (∀ w', holdsA S w' → (execOp a.eval o).run P w' = .ok (.value v) w') ∧ K v S := by
  obtain ⟨dst, op, type, pos, after, guard⟩ := o
  have rd : ∀ {s : Sem Value} {sh : Shape}, rdSh P s w sh K → (∀ (w' : World) (v : Value), s.run P w' = .ok v w' → (execOp a.eval ⟨dst, op, type, pos, after, guard⟩).run P w' = .ok (.value v) w') →
      ∃ v S, holdsA S w ∧ (∀ w', holdsA S w' → (execOp a.eval ⟨dst, op, type, pos, after, guard⟩).run P w' = .ok (.value v) w') ∧ K v S := by
    intro s sh h1 h2
    obtain ⟨v, h3, h4⟩ := rdSh_ok h1
    exact ⟨v, some (Still P s v), h3, fun w' hs => h2 w' v hs, h4⟩
  cases op <;> simp only [wpq] at hw
  case move x => exact ⟨_, none, trivial, fun _ _ => rfl, evK_ok h hw⟩
  case assign x => exact ⟨_, none, trivial, fun _ _ => rfl, evK_ok h hw⟩
  case pick c x y =>
    have hw := evK_ok h hw
    split at hw
    · rename_i hc
      exact ⟨_, none, trivial, fun _ _ => by simp [execOp, hc, asBool], evK_ok h hw⟩
    · rename_i hc
      exact ⟨_, none, trivial, fun _ _ => by simp [execOp, hc, asBool], evK_ok h hw⟩
    · exact hw.elim
  case build t parts =>
    have hw := evL_ok h _ hw
    rw [map_snd_eq] at hw
    exact rd hw fun w' v hv => run_v hv
  case load t x =>
    have hw := evK_ok h hw
    split at hw
    · rename_i ad hv
      obtain ⟨v, h1, h2⟩ := ldSh_ok hw
      refine ⟨v, some (Still P (loadVar t ad) v), h1, fun w' hs => run_v (w' := w') ?_, h2⟩
      have hs : (loadVar t ad).run P w' = .ok v w' := hs
      simp [Instr.loadAt, hv, Instr.sureAddr, hs]
    · exact hw.elim
  case nilCheck x =>
    have hw := evK_ok h hw
    split at hw
    · rename_i p hv
      obtain ⟨ad, rfl, h2⟩ := hw
      exact ⟨_, none, trivial, fun w' _ => by simp [execOp, hv], h2⟩
    · rename_i f x y hv
      exact ⟨_, none, trivial, fun w' _ => by simp [execOp, hv], hw⟩
    · rename_i u v hv
      exact ⟨_, none, trivial, fun w' _ => by simp [execOp, hv], hw⟩
    · exact hw.elim
  case binOp op t x y yt =>
    have hw := evK_ok h (evK_ok h hw)
    cases hag : aggT P t with
    | true => rw [hag] at hw; exact rd hw fun w' v hv => run_v hv
    | false =>
    rw [hag, cond_false] at hw
    cases hp : pureBin op (a.eval x) (a.eval y) with
    | true =>
      rw [hp] at hw
      simp only [cond_true, viaBin] at hw
      obtain ⟨v, h1, h2⟩ := wpBin_pure hag hp hw
      exact ⟨v, none, trivial, fun w' _ => run_v (h1 w'), h2⟩
    | false =>
      rw [hp] at hw
      exact rd hw fun w' v hv => run_v hv
  case unOp op t x =>
    have hw := evK_ok h hw
    generalize hv : a.eval x = va at hw
    have hrun : ∀ {u : Value} {w' : World}, (Op.unary op va).run P w' = .ok u w' → (execOp a.eval ⟨dst, .unOp op t x, type, pos, after, guard⟩).run P w' = .ok (.value u) w' := by
      intro u _ hu
      exact run_v (by rw [hv]; exact hu)
    split at hw
    · exact ⟨_, none, trivial, fun w' _ => hrun rfl, hw⟩
    · exact ⟨_, none, trivial, fun w' _ => hrun rfl, hw⟩
    · exact ⟨_, none, trivial, fun w' _ => hrun rfl, hw⟩
    · exact hw.elim
  case convert s d x =>
    have hw := evK_ok h hw
    split at hw
    · rename_i ds dk k b hs hd hv
      refine ⟨_, none, trivial, fun w' _ => run_v (w' := w') ?_, hw⟩
      rw [hv]
      simp [convert, run_underlying hs, run_underlying hd, Conv.intToInt]
    · rename_i b hs hd hv
      refine ⟨_, none, trivial, fun w' _ => run_v (w' := w') ?_, hw⟩
      rw [hv]
      simp [convert, run_underlying hs, run_underlying hd]
    · exact rd hw fun w' v hv => run_v hv
  case sliceToArrayPointer t x => exact rd (evK_ok h hw) fun w' v hv => run_v hv
  case makeInterface t x =>
    have hw := evK_ok h hw
    split at hw
    · exact hw.elim
    · rename_i d hne hu
      refine ⟨_, none, trivial, fun w' _ => run_v (w' := w') ?_, hw⟩
      simp only [Instr.makeInterface, Sem.run_bind, run_underlying hu, Result.andThen_ok]
      cases d <;> first | rfl | (exact (hne _ rfl).elim)
    · exact hw.elim
  case makeFunc fn x y =>
    have hw := evL_ok h _ (evL_ok h _ hw)
    refine ⟨_, none, trivial, fun w' _ => ?_, hw⟩
    refine run_v (w' := w') ?_
    simp [Instr.makeFunc, ← Array.toList_map]
  case slice t x lo hi mx =>
    exact rd (evO_ok h _ (evO_ok h _ (evO_ok h _ (evK_ok h hw)))) fun w' v hv => run_v hv
  case fieldAddr s x f =>
    have hw := evK_ok h hw
    split at hw
    · rename_i fs ad hs hv
      split at hw
      · rename_i fd hf
        split at hw
        · rename_i i hi
          cases hb : Nat.beq i.size 0 with
          | true => rw [hb] at hw; exact hw.elim
          | false =>
            rw [hb] at hw
            have hne : i.size ≠ 0 := fun e => by rw [e] at hb; cases hb
            refine ⟨_, none, trivial, fun w' _ => run_v (w' := w') ?_, hw⟩
            simp [Instr.fieldAt, run_underlying hs, hf, hv, Instr.sureAddr, fieldPlace, sizeOf, typeInfo, hi, hne]
        · exact hw.elim
      · exact hw.elim
    · exact hw.elim
  case field t x f => exact rd (evK_ok h hw) fun w' v hv => run_v hv
  case indexAddr t x i =>
    have hw := evK_ok h (evK_ok h hw)
    split at hw
    · rename_i e p len cp k i hu hv hi
      split at hw
      · rename_i inf hinf
        obtain ⟨ad, rfl, h0, h1, h2⟩ := hw
        refine ⟨_, none, trivial, fun w' _ => run_v (w' := w') ?_, h2⟩
        simp only [Instr.indexAt, hi, hv, asIntOf, Sem.run_bind, Sem.run_pure, Result.andThen_ok, run_underlying hu]
        simp [h0, h1, sizeOf, typeInfo, hinf]
      · exact hw.elim
    · rename_i len e p k i hu hv hi
      split at hw
      · rename_i inf hinf
        obtain ⟨ad, hp, h0, h1, h2⟩ := hw
        simp only [Option.some.injEq] at hp
        subst hp
        refine ⟨_, none, trivial, fun w' _ => run_v (w' := w') ?_, h2⟩
        simp only [Instr.indexAt, hi, hv, asIntOf, Sem.run_bind, Sem.run_pure, Result.andThen_ok, run_underlying hu]
        simp [h0, h1, sizeOf, typeInfo, hinf, Instr.sureAddr]
      · exact hw.elim
    · exact hw.elim
  case index t x i => exact rd (evK_ok h (evK_ok h hw)) fun w' v hv => run_v hv
  case lookup t x i ok =>
    obtain ⟨v, h1, h2⟩ := exT_ok (evK_ok h (evK_ok h hw))
    exact ⟨v, some (Still P _ v), h1, fun w' hs => run_v hs, h2⟩
  case entry it =>
    obtain ⟨v, h1, h2⟩ := exT_ok (evK_ok h hw)
    exact ⟨v, some (Still P _ v), h1, fun w' hs => run_v hs, h2⟩
  case extract t ix =>
    have hw := evK_ok h hw
    split at hw
    · rename_i vs hv
      split at hw
      · rename_i u hu
        refine ⟨_, none, trivial, fun w' _ => run_v (w' := w') ?_, hw⟩
        simp [Instr.extract, hv, hu]
      · exact hw.elim
    · exact hw.elim
  case call c =>
    obtain ⟨callee, args, argTypes⟩ := c
    have harr : (args.toList.map a.eval).toArray = args.map a.eval := by apply Array.ext'; simp
    cases callee with
    | builtin b =>
      have hres : ∀ (s : Sem Value) (v : Value) (w' : World), (∀ cs, builtin b argTypes type cs (args.map a.eval) = (do pure (.value (← s)))) → s.run P w' = .ok v w' →
          (execOp a.eval ⟨dst, .call ⟨.builtin b, args, argTypes⟩, type, pos, after, guard⟩).run P w' = .ok (.value v) w' := by
        intro s v w' hb hs
        simp only [execOp, resolve, Sem.run_bind, Sem.run_pure, Result.andThen_ok, invoke]
        rw [hb]
        exact run_v hs
      cases b <;> simp only at hw
      case len =>
        have hw := evL_ok h _ hw
        split at hw
        · rename_i e p l c ht hv
          refine ⟨_, none, trivial, fun w' _ => hres _ _ w' (fun _ => rfl) ?_, hw⟩
          have : args.map a.eval = #[.slice p l c] := by rw [← harr, hv]
          rw [this]
          cases h0 : argTypes[0]? with
          | none => rw [h0] at ht; cases ht
          | some t0 =>
            rw [h0] at ht
            simp only [Option.bind_some] at ht
            simp [Builtin.len_, h0, run_underlying ht, goInt]
        · rename_i s ht hv
          refine ⟨_, none, trivial, fun w' _ => hres _ _ w' (fun _ => rfl) ?_, hw⟩
          have : args.map a.eval = #[.string s] := by rw [← harr, hv]
          rw [this]
          cases h0 : argTypes[0]? with
          | none => rw [h0] at ht; cases ht
          | some t0 =>
            rw [h0] at ht
            simp only [Option.bind_some] at ht
            simp [Builtin.len_, h0, run_underlying ht, goInt]
        · rw [harr] at hw
          exact rd hw fun w' v hv => hres _ _ w' (fun _ => rfl) hv
      case max =>
        have hw := evL_ok h _ hw
        split at hw
        · rename_i k x k' y hv
          refine ⟨_, none, trivial, fun w' _ => hres _ _ w' (fun _ => rfl) ?_, hw⟩
          have : args.map a.eval = #[.int k x, .int k' y] := by rw [← harr, hv]
          rw [this]
          simp [Builtin.max_, Builtin.max2, mxI]
        · exact hw.elim
      case min =>
        have hw := evL_ok h _ hw
        split at hw
        · rename_i k x k' y hv
          refine ⟨_, none, trivial, fun w' _ => hres _ _ w' (fun _ => rfl) ?_, hw⟩
          have : args.map a.eval = #[.int k x, .int k' y] := by rw [← harr, hv]
          rw [this]
          simp [Builtin.min_, Builtin.min2, mnI]
        · exact hw.elim
    | value x => exact hw.elim
    | invoke r name => exact hw.elim

end Go.Sh

namespace Go.Sh
open Go
variable {dfs : List Deferred}

/-- Two ways, by a bool. -/
def Br (b : Bool) (X Y : Prop) : Prop :=
  match b with
  | true => X
  | false => Y

theorem Br.mk {b : Bool} {X Y : Prop} (h1 : b = true → X) (h2 : b = false → Y) : Br b X Y := by cases b <;> simp_all [Br]

def memD : List Nat → Nat → Bool
  | [], _ => false
  | i :: l, j => bif Nat.beq i j then true else memD l j

/-- An operation under its guard: carried out, passed by, or the two ways parted. -/
def guardK (ops : Array Oper) (o : Oper) (D : List Nat) (E : Env) (exec skip : Prop) (part : Nat → Nat → Bool → Prop) : Prop :=
  match o.guard with
  | none => exec
  | some (j, want) =>
    match (ops[j]?).bind (·.dst) with
    | none => False
    | some t =>
      match find E t with
      | some (.bool b) => bif memD D j then (match b with
          | true => bif want then exec else skip
          | false => bif want then skip else exec) else part j t b
      | some (.tuple _) => skip
      | _ => False

theorem yielded_of {n : Nat} {a : Act} {E : Env} (h : Agr dfs n a E) {ops : Array Oper} {j t : Nat} (ht : (ops[j]?).bind (·.dst) = some t) {b : Bool} (hb : find E t = some (.bool b)) :
    yielded ops a.tmps j = some b := by
  have := h.at_ t _ hb
  unfold yielded
  rw [ht]
  simp only [Option.bind_some]
  rw [Array.getD_eq_getD_getElem?] at this
  cases hq : a.tmps[t]? with
  | none => rw [hq] at this; simp [undef] at this
  | some v => rw [hq] at this; simp only [Option.getD_some] at this; rw [this]

theorem yielded_not {n : Nat} {a : Act} {E : Env} (h : Agr dfs n a E) {ops : Array Oper} {j t : Nat} (ht : (ops[j]?).bind (·.dst) = some t) {vs : Array Value} (hb : find E t = some (.tuple vs)) :
    yielded ops a.tmps j = none := by
  have := h.at_ t _ hb
  unfold yielded
  rw [ht]
  simp only [Option.bind_some]
  rw [Array.getD_eq_getD_getElem?] at this
  cases hq : a.tmps[t]? with
  | none => rfl
  | some v => rw [hq] at this; simp only [Option.getD_some] at this; rw [this]

/-- What a guard's three ways come to. -/
theorem guardK_ok {n : Nat} {a : Act} {E : Env} (h : Agr dfs n a E) {ops : Array Oper} {o : Oper} {D : List Nat} {exec skip : Prop} {part : Nat → Nat → Bool → Prop}
    (hk : guardK ops o D E exec skip part) :
    (Region.wanted o (yielded ops a.tmps) = true ∧ exec) ∨ (Region.wanted o (yielded ops a.tmps) = false ∧ skip) ∨
    (∃ j t b, part j t b ∧ (ops[j]?).bind (·.dst) = some t ∧ find E t = some (.bool b)) := by
  unfold guardK at hk
  split at hk
  · rename_i hg; exact .inl ⟨by simp [Region.wanted, hg], hk⟩
  · rename_i j want hg
    split at hk
    · exact hk.elim
    · rename_i t ht
      split at hk
      · rename_i b hb
        have hy := yielded_of h ht hb
        cases hm : memD D j with
        | true =>
          rw [hm] at hk
          simp only [cond_true] at hk
          cases b <;> cases want <;> simp only [cond_true, cond_false] at hk
          · exact .inl ⟨by simp [Region.wanted, hg, hy], hk⟩
          · exact .inr (.inl ⟨by simp [Region.wanted, hg, hy], hk⟩)
          · exact .inr (.inl ⟨by simp [Region.wanted, hg, hy], hk⟩)
          · exact .inl ⟨by simp [Region.wanted, hg, hy], hk⟩
        | false =>
          rw [hm] at hk
          exact .inr (.inr ⟨j, t, b, hk, ht, hb⟩)
      · rename_i vs hb
        have hy := yielded_not h ht hb
        exact .inr (.inl ⟨by simp [Region.wanted, hg, hy], hk⟩)
      · exact hk.elim

theorem Agr.dup {n : Nat} {a : Act} {E : Env} (h : Agr dfs n a E) {t : Nat} {v : Value} (ht : find E t = some v) : Agr dfs n a ((t, v) :: E) := by
  refine ⟨h.defers, h.size, fun i u hi => ?_⟩
  simp only [find] at hi
  cases hb : Nat.beq t i with
  | true =>
    have : t = i := Nat.eq_of_beq_eq_true hb
    subst this
    rw [hb] at hi
    simp only [cond_true, Option.some.injEq] at hi
    subst hi
    exact h.at_ _ _ ht
  | false => rw [hb] at hi; exact h.at_ _ _ hi

/-- An environment of slots that nothing here writes. -/
def Off (m : Nat) (F : Env) : Prop := ∀ p ∈ F, Nat.testBit m p.1 = false

theorem find_mem : ∀ {F : Env} {i : Nat} {v : Value}, find F i = some v → ∃ p ∈ F, p.1 = i
  | [], _, _, h => by cases h
  | (j, u) :: F, i, v, h => by
    simp only [find] at h
    cases hb : Nat.beq j i with
    | true => exact ⟨(j, u), List.mem_cons_self, Nat.eq_of_beq_eq_true hb⟩
    | false =>
      rw [hb] at h
      obtain ⟨p, hp, hpi⟩ := find_mem (F := F) h
      exact ⟨p, List.mem_cons_of_mem _ hp, hpi⟩

theorem Agr.off {n : Nat} {a : Act} {F : Env} (h : Agr dfs n a F) {m : Nat} (hm : Off m F) {dst : Option Tmp} (hd : ∀ d, dst = some d → Nat.testBit m d = true) (v : Value) :
    Agr dfs n (a.put dst v) F := by
  cases dst with
  | none => exact h
  | some d =>
    refine ⟨h.defers, by simp [Act.put, h.size], fun i u hi => ?_⟩
    have hne : d ≠ i := by
      intro e
      obtain ⟨p, hp, hpi⟩ := find_mem hi
      have h1 := hm p hp
      rw [hpi, ← e, hd d rfl] at h1
      cases h1
    have := h.at_ i u hi
    simp only [Act.put, Array.getD_eq_getD_getElem?] at this ⊢
    rw [Array.getElem?_setIfInBounds_ne hne]
    exact this

/-- Several such environments at once. -/
def AgA (dfs : List Deferred) (n : Nat) (a : Act) (Fs : List Env) : Prop := ∀ F ∈ Fs, Agr dfs n a F
def OffA (m : Nat) (Fs : List Env) : Prop := ∀ F ∈ Fs, Off m F

theorem AgA.off {n : Nat} {a : Act} {Fs : List Env} (h : AgA dfs n a Fs) {m : Nat} (hm : OffA m Fs) {dst : Option Tmp} (hd : ∀ d, dst = some d → Nat.testBit m d = true) (v : Value) :
    AgA dfs n (a.put dst v) Fs := fun F hF => Agr.off (h F hF) (hm F hF) hd v

/-! ### a region that draws no order -/

def wpS (P : Program) (n : Nat) (ops : Array Oper) : Nat → List Oper → List Nat → Env → World → (Env → World → Prop) → Prop
  | 0, _, _, _, _, _ => False
  | _ + 1, [], _, E, w, K => K E w
  | gas + 1, o :: rest, D, E, w, K =>
    guardK ops o D E
      (wpo P n o E w fun E w => wpS P n ops gas rest D E w K)
      (putK n o.dst undef E fun E => wpS P n ops gas rest D E w K)
      (fun j t b => Br b (wpS P n ops gas (o :: rest) (j :: D) ((t, .bool true) :: E) w K) (wpS P n ops gas (o :: rest) (j :: D) ((t, .bool false) :: E) w K))

theorem wpS_ok {P : Program} {n : Nat} {ops : Array Oper} {Q : Exit → Act → World → Prop} {K : Env → World → Prop} {m : Nat} {F : List Env} (hF : OffA m F)
    (hK : ∀ a E w, Agr dfs n a E → AgA dfs n a F → K E w → Q .normal a w) :
    ∀ (gas : Nat) (l : List Oper) (D : List Nat) (E : Env) (w : World) (a : Act), (∀ o ∈ l, ∀ d, o.dst = some d → Nat.testBit m d = true) → Agr dfs n a E → AgA dfs n a F →
      wpS P n ops gas l D E w K → wpList P ops Q l a w
  | 0, _, _, _, _, _, _, _, _, h => by unfold wpS at h; exact h.elim
  | _ + 1, [], _, E, w, a, _, ha, hf, h => by unfold wpS at h; exact hK _ _ _ ha hf h
  | gas + 1, o :: rest, D, E, w, a, hm, ha, hf, h => by
    have hmo := hm o List.mem_cons_self
    have hmr : ∀ o ∈ rest, ∀ d, o.dst = some d → Nat.testBit m d = true := fun o ho => hm o (List.mem_cons_of_mem _ ho)
    unfold wpS at h
    rcases guardK_ok ha h with ⟨hw, h⟩ | ⟨hw, h⟩ | ⟨j, t, b, h, ht, hb⟩
    · unfold wpList
      rw [if_pos hw]
      exact .inl (wpo_ok ha (fun u E' w' ha' hk => wpS_ok hF hK gas rest D E' w' _ hmr ha' (hf.off hF hmo u) hk) h)
    · unfold wpList
      rw [hw]
      simp only [Bool.false_eq_true, if_false]
      obtain ⟨E', h1, h2⟩ := putK_ok ha h
      exact wpS_ok hF hK gas rest D E' w _ hmr h2 (hf.off hF hmo _) h1
    · cases b with
      | true => exact wpS_ok hF hK gas (o :: rest) (j :: D) _ w a hm (ha.dup hb) hf h
      | false => exact wpS_ok hF hK gas (o :: rest) (j :: D) _ w a hm (ha.dup hb) hf h

/-! ### a region that draws its order -/

def nextQuiet (P : Program) (ops : Array Oper) (listed : Array Bool) : Option Nat :=
  (Region.ready .any ops listed).find? fun i => (match ops[i]? with | some o => quiet P o | none => false) && Region.free .any ops listed i

def allC : List Nat → (Nat → Prop) → Prop
  | [], _ => True
  | [i], F => F i
  | i :: rs, F => F i ∧ allC rs F

theorem allC_mem : ∀ {l : List Nat} {F : Nat → Prop}, allC l F → ∀ i ∈ l, F i
  | [], _, _, i, hi => by cases hi
  | [j], F, h, i, hi => by
    have : i = j := by simpa using hi
    subst this; exact h
  | j :: k :: rs, F, h, i, hi => by
    rcases List.mem_cons.1 hi with rfl | hi
    · exact h.1
    · exact allC_mem h.2 i hi

def addObs (i : Nat) (S : Again) (obs : Obs) : Obs :=
  match S with
  | none => obs
  | some S => (i, S) :: obs

def obsK (obs : Obs) (w : World) (R : Prop) : Prop :=
  match obs with
  | [] => R
  | obs => obsHold obs w ∧ R

theorem obsK_ok {obs : Obs} {w : World} {R : Prop} (h : obsK obs w R) : obsHold obs w ∧ R := by
  cases obs with
  | nil => exact ⟨trivial, h⟩
  | cons p l => exact h

def wpX (P : Program) (n : Nat) (ops : Array Oper) : Nat → Nat → Array Bool → Obs → List Nat → Env → World → (Env → World → Prop) → Prop
  | 0, _, _, _, _, _, _, _ => False
  | gas + 1, f, listed, obs, D, E, w, K =>
    match nextQuiet P ops listed with
    | some i =>
      match ops[i]?, f with
      | some o, f' + 1 =>
        guardK ops o D E
          (wpq P o E w fun v S => putK n o.dst v E fun E => wpX P n ops gas f' (listed.setIfInBounds i true) (addObs i S obs) D E w K)
          (putK n o.dst undef E fun E => wpX P n ops gas f' (listed.setIfInBounds i true) obs D E w K)
          (fun j t b => Br b (wpX P n ops gas f listed obs (j :: D) ((t, .bool true) :: E) w K) (wpX P n ops gas f listed obs (j :: D) ((t, .bool false) :: E) w K))
      | _, _ => False
    | none =>
      match Region.ready .any ops listed, f with
      | [], _ => K E w
      | rs, f' + 1 => allC rs fun i =>
        match ops[i]? with
        | some o =>
          guardK ops o D E
            (wpo P n o E w fun E w => obsK (obsLeft ops i obs) w (wpX P n ops gas f' (listed.setIfInBounds i true) (obsLeft ops i obs) D E w K))
            (putK n o.dst undef E fun E => wpX P n ops gas f' (listed.setIfInBounds i true) (obsLeft ops i obs) D E w K)
            (fun j t b => Br b (wpX P n ops gas f listed obs (j :: D) ((t, .bool true) :: E) w K) (wpX P n ops gas f listed obs (j :: D) ((t, .bool false) :: E) w K))
        | none => False
      | _, _ => False

theorem obsHold_left {ops : Array Oper} {i : Nat} {w : World} : ∀ {l : Obs}, obsHold l w → obsHold (obsLeft ops i l) w
  | [], _ => trivial
  | p :: l, h => by
    simp only [obsLeft]
    cases waits ops i p.1 <;> simp only [cond_true, cond_false]
    · exact ⟨h.1, obsHold_left h.2⟩
    · exact obsHold_left h.2

theorem obsHold_add {i : Nat} {S : Again} {obs : Obs} {w : World} (hS : holdsA S w) (h : obsHold obs w) : obsHold (addObs i S obs) w := by
  cases S with
  | none => exact h
  | some S => exact ⟨hS, h⟩

theorem anyX_less {P : Program} {ops : Array Oper} {Q : Exit → Act → World → Prop} {fuel : Nat} {listed : Array Bool} {obs obs' : Obs} {a : Act} {w : World} (hs : ∀ p, p ∈ obs' → p ∈ obs)
    (h : anyX P ops Q fuel listed obs a w) : anyX P ops Q fuel listed obs' a w := anyX_first.anyX_less fuel listed obs obs' a w hs h

/-- What was promised of nothing may be promised of whatever always holds. -/
theorem anyX_triv {P : Program} {ops : Array Oper} {Q : Exit → Act → World → Prop} : ∀ (fuel : Nat) (listed : Array Bool) (obs obs' : Obs) (a : Act) (w : World),
    (∀ p, p ∈ obs' → p ∈ obs ∨ ∀ w, p.2 w) → anyX P ops Q fuel listed obs a w → anyX P ops Q fuel listed obs' a w
  | 0, _, _, _, _, _, _, h => h
  | fuel + 1, listed, obs, obs', a, w, hs, h => ⟨h.1, fun i hi => wpOp_mono (fun a' w' h' => by
      have hs' : ∀ p, p ∈ obsLeft ops i obs' → p ∈ obsLeft ops i obs ∨ ∀ w, p.2 w := fun p hp => by
        rw [anyX_first.left_mem] at hp ⊢
        rcases hs p hp.1 with h1 | h1
        · exact .inl ⟨h1, hp.2⟩
        · exact .inr h1
      refine ⟨?_, anyX_triv fuel _ _ _ a' w' hs' h'.2⟩
      rw [anyX_first.hold_mem] at *
      intro p hp
      rcases hs' p hp with h1 | h1
      · exact h'.1 p h1
      · exact h1 w') (h.2 i hi)⟩

theorem mem_of_find {l : List Nat} {p : Nat → Bool} {i : Nat} (h : l.find? p = some i) : i ∈ l ∧ p i = true :=
  ⟨List.mem_of_find?_eq_some h, List.find?_some h⟩

theorem wpX_ok {P : Program} {n : Nat} {ops : Array Oper} {Q : Exit → Act → World → Prop} {K : Env → World → Prop} {m : Nat} {F : List Env} (hF : OffA m F)
    (hm : ∀ (i : Nat) (o : Oper), ops[i]? = some o → ∀ d, o.dst = some d → Nat.testBit m d = true) (hK : ∀ a E w, Agr dfs n a E → AgA dfs n a F → K E w → Q .normal a w)
    (hQ : ∀ c a w, ¬ Q (.panic c) a w) (hsel : Region.noSelect ops = true) :
    ∀ (gas f : Nat) (listed : Array Bool) (obs : Obs) (D : List Nat) (E : Env) (w : World) (a : Act), Agr dfs n a E → AgA dfs n a F → obsHold obs w → wpX P n ops gas f listed obs D E w K →
      anyX P ops Q f listed obs a w
  | 0, _, _, _, _, _, _, _, _, _, _, h => by unfold wpX at h; exact h.elim
  | gas + 1, f, listed, obs, D, E, w, a, ha, hf, hO, h => by
    unfold wpX at h
    split at h
    · rename_i i hnq
      obtain ⟨hmem, hp⟩ := mem_of_find hnq
      simp only [Bool.and_eq_true] at hp
      split at h
      · rename_i o f' ho
        have take : ∀ (v : Value) (S : Again) (E' : Env), YieldsIf P ops (holdsA S) o v a → holdsA S w → Agr dfs n (a.put o.dst v) E' →
            wpX P n ops gas f' (listed.setIfInBounds i true) (addObs i S obs) D E' w K → anyX P ops Q (f' + 1) listed obs a w := by
          intro v S E' hy hS ha' hx
          have hrec := wpX_ok hF hm hK hQ hsel gas f' _ _ D E' w _ ha' (hf.off hF (hm i o ho) v) (obsHold_add hS hO) hx
          refine anyX_first ho (Region.noSelect_spec hsel) (fun c a w hq => absurd hq (hQ _ _ _)) f' listed obs a w (Region.free_spec ho hp.2) hmem hy hS hO ?_
          refine anyX_triv _ _ _ _ _ _ ?_ hrec
          intro p hp
          cases S with
          | none =>
            rcases List.mem_cons.1 hp with rfl | hp
            · exact .inr fun _ => trivial
            · exact .inl hp
          | some S => exact .inl hp
        rcases guardK_ok ha h with ⟨hw, h⟩ | ⟨hw, h⟩ | ⟨j, t, b, h, ht, hb⟩
        · obtain ⟨v, S, h1, h2, h3⟩ := wpq_ok (n := n) ha h
          obtain ⟨E', h4, h5⟩ := putK_ok ha h3
          exact take v S E' (.inl ⟨hw, h2⟩) h1 h5 h4
        · obtain ⟨E', h4, h5⟩ := putK_ok ha h
          exact take undef none E' (.inr ⟨hw, rfl⟩) trivial h5 h4
        · cases b with
          | true => exact wpX_ok hF hm hK hQ hsel gas _ listed obs (j :: D) _ w a (ha.dup hb) hf hO h
          | false => exact wpX_ok hF hm hK hQ hsel gas _ listed obs (j :: D) _ w a (ha.dup hb) hf hO h
      · exact h.elim
    · split at h
      · rename_i hr
        exact anyX_done hr (hK _ _ _ ha hf h) _
      · rename_i r0 f1 f' hne
        -- a guard may part the ways before anything is carried out: each operation that may come up is looked at by itself
        have key : ∀ i ∈ Region.ready .any ops listed, wpOp P ops Q i (fun a' w' => obsHold (obsLeft ops i obs) w' ∧ anyX P ops Q f' (listed.setIfInBounds i true) (obsLeft ops i obs) a' w') a w := by
          intro i hi
          have h := allC_mem h i hi
          cases ho : ops[i]? with
          | none => simp only [ho] at h
          | some o =>
            simp only [ho] at h
            rcases guardK_ok ha h with ⟨hw, h⟩ | ⟨hw, h⟩ | ⟨j, t, b, h, ht, hb⟩
            · unfold wpOp
              simp only [ho, hw, if_true]
              refine .inl (wpo_ok ha (fun u E' w' ha' hk => ?_) h)
              obtain ⟨h1, h2⟩ := obsK_ok hk
              exact ⟨h1, wpX_ok hF hm hK hQ hsel gas f' _ _ D E' w' _ ha' (hf.off hF (hm i o ho) u) h1 h2⟩
            · unfold wpOp
              simp only [ho, hw, Bool.false_eq_true, if_false]
              obtain ⟨E', h1, h2⟩ := putK_ok ha h
              exact ⟨obsHold_left hO, wpX_ok hF hm hK hQ hsel gas f' _ _ D E' w _ h2 (hf.off hF (hm i o ho) _) (obsHold_left hO) h1⟩
            · have hrec : anyX P ops Q (f' + 1) listed obs a w := by
                cases b with
                | true => exact wpX_ok hF hm hK hQ hsel gas _ listed obs (j :: D) _ w a (ha.dup hb) hf hO h
                | false => exact wpX_ok hF hm hK hQ hsel gas _ listed obs (j :: D) _ w a (ha.dup hb) hf hO h
              exact hrec.2 i hi
        exact ⟨fun h0 => absurd h0 (by intro e; exact hne (by simpa using e)), key⟩
      · exact h.elim

end Go.Sh

namespace Go.Sh
open Go
variable {dfs : List Deferred}

/-! ### what code reads and writes -/

def bit (t : Nat) : Nat := 1 <<< t
def opdMask : Operand → Nat
  | .tmp t => bit t
  | _ => 0
def opUses (o : Oper) : Nat := o.op.operands.toList.foldl (fun m x => m ||| opdMask x) 0
def opDst (o : Oper) : Nat := match o.dst with | some d => bit d | none => 0

def codeUses : Code → Nat
  | .region _ ops _ => ops.toList.foldl (fun m o => m ||| opUses o) 0
  | .seq a b => codeUses a ||| codeUses b
  | .cond c a b => opdMask c ||| (codeUses a ||| codeUses b)
  | .block _ c => codeUses c
  | .loop c => codeUses c
  | _ => 0
def codeDsts : Code → Nat
  | .region _ ops _ => ops.toList.foldl (fun m o => m ||| opDst o) 0
  | .seq a b => codeDsts a ||| codeDsts b
  | .cond _ a b => codeDsts a ||| codeDsts b
  | .block _ c => codeDsts c
  | .loop c => codeDsts c
  | _ => 0

/-- What is still wanted behind a code: behind its end, at a return, at the ends of blocks. -/
structure Lv where
  out : Nat
  ret : Nat
  ex : List (Nat × Nat)

def exitM : List (Nat × Nat) → Nat → Nat
  | [], _ => 0
  | (j, m) :: l, id => bif Nat.beq j id then m else exitM l id
def kill (m d : Nat) : Nat := m ^^^ (m &&& d)
def opLive (m : Nat) (o : Oper) : Nat := kill m (opDst o) ||| opUses o
/-- What is wanted ahead of a code. -/
def liveIn (r : Nat) : Code → List (Nat × Nat) → Nat → Nat
  | .skip, _, m => m
  | .region _ ops _, _, m => ops.toList.foldr (fun o m => opLive m o) m
  | .seq a b, X, m => liveIn r a X (liveIn r b X m)
  | .cond c a b, X, m => opdMask c ||| (liveIn r a X m ||| liveIn r b X m)
  | .block id c, X, m => liveIn r c ((id, m) :: X) m
  | .loop c, X, _ => liveIn r c X (liveIn r c X 0)
  | .exit id, X, _ => exitM X id
  | .ret, _, _ => r
  | _, _, _ => 0
def Lv.at (l : Lv) (c : Code) : Lv := ⟨liveIn l.ret c l.ex l.out, l.ret, l.ex⟩
def Lv.head (l : Lv) (c : Code) : Lv := ⟨liveIn l.ret (.loop c) l.ex l.out, l.ret, l.ex⟩
def Lv.into (l : Lv) (id : Nat) : Lv := ⟨l.out, l.ret, (id, l.out) :: l.ex⟩

def hasExit (id : Nat) : Code → Bool
  | .seq a b => hasExit id a || hasExit id b
  | .cond _ a b => hasExit id a || hasExit id b
  | .block _ c => hasExit id c
  | .loop c => hasExit id c
  | .exit j => Nat.beq j id
  | _ => false
/-- May the code's end be reached? -/
def falls : Code → Bool
  | .skip => true
  | .region _ _ _ => true
  | .seq a b => falls a && falls b
  | .cond _ a b => falls a || falls b
  | .block id c => falls c || hasExit id c
  | _ => false
/-- How many ways lead out of a block by its number. -/
def exits (id : Nat) : Code → Nat
  | .seq a b => exits id a + exits id b
  | .cond _ a b => exits id a + exits id b
  | .block _ c => exits id c
  | .loop c => exits id c
  | .exit j => bif Nat.beq j id then 1 else 0
  | _ => 0

def opShape (P : Program) (o : Oper) : Shape :=
  match o.op with
  | .alloc _ | .box .. | .fieldAddr .. | .indexAddr .. | .nilCheck _ | .range .. | .sliceToArrayPointer .. => .addr
  | .binOp op t _ _ _ => (match op with | .eql | .neq | .lss | .leq | .gtr | .geq => .bool | _ => tyShape P t)
  | .unOp _ t _ => tyShape P t
  | .pick .. => .bool
  | .convert _ d _ => tyShape P d
  | .load t _ => tyShape P t
  | .makeMap .. => .map
  | .makeSlice .. | .buildSlice .. => .slice
  | _ => tyShape P o.type

def shapeIn (P : Program) : Code → Nat → Option Shape
  | .region _ ops _, t => (ops.toList.find? fun o => match o.dst with | some d => Nat.beq d t | none => false).map (opShape P)
  | .seq a b, t => match shapeIn P a t with | some s => some s | none => shapeIn P b t
  | .cond _ a b, t => match shapeIn P a t with | some s => some s | none => shapeIn P b t
  | .block _ c, t => shapeIn P c t
  | .loop c, t => shapeIn P c t
  | _, _ => none

def shapesOf (P : Program) (c : Code) (ts : List Nat) : List Shape := ts.map fun t => (shapeIn P c t).getD .any

def here (E : Env) (t : Nat) : Bool := match find E t with | some _ => true | none => false
def strike (m : Nat) (E : Env) : Env := E.filter fun p => !Nat.testBit m p.1
def zipE : List Nat → List Value → Env → Env
  | t :: ts, v :: vs, E => (t, v) :: zipE ts vs E
  | _, _, E => E
def vals (E : Env) (ts : List Nat) (K : List Value → Prop) : Prop := evL E (ts.map .tmp) K
def slots (n : Nat) (p : Nat → Bool) : List Nat := (List.range n).filter p

/-- Ways that meet again. -/
def Jn (body rest : (List Value → World → Prop) → Prop) : Prop := ∃ R : List Value → World → Prop, body R ∧ rest R

/-- A loop. -/
def Lp (init : List Value) (w : World) (body : (Nat → List Value → World → Prop) → Prop) : Prop := ∃ I : Nat → List Value → World → Prop, (∃ k, I k init w) ∧ body I
/-- The next round, with fewer to come. -/
def Nx (I : Nat → List Value → World → Prop) (k : Nat) (vs : List Value) (w : World) : Prop := ∃ k', k' < k ∧ I k' vs w

def hand (E : Env) (ts : List Nat) (shs : List Shape) (R : List Value → World → Prop) (w : World) : Prop :=
  vals E ts fun vs => bif fitsL shs vs then R vs w else False

def loudPar (P : Program) (ops : Array Oper) : Bool :=
  let b := Region.before ops
  let l := (List.range ops.size).filter fun i => match ops[i]? with | some o => !quiet P o | none => false
  l.any fun j => l.any fun i => Nat.blt i j && !Nat.testBit (b.getD j 0) i
def guarded (ops : Array Oper) : Bool := ops.toList.any fun o => o.guard.isSome
def branchy (P : Program) (ops : Array Oper) (draw : Bool) : Bool := guarded ops || (draw && loudPar P ops)

/-- A world that differs in the count of draws alone. -/
structure Alk (w w' : World) : Prop where
  heap : w'.heap = w.heap
  os : w'.os = w.os
  tape : w'.tape = w.tape
  output : w'.output = w.output

/-- The tape is asked. -/
def Dr (w : World) (K : World → Prop) : Prop := ∀ w', Alk w w' → K w'

def wpRun (P : Program) (n : Nat) (ops : Array Oper) (draw : Bool) (E : Env) (w : World) (K : Env → World → Prop) : Prop :=
  match draw with
  | false => wpS P n ops (2 * ops.size + 2) ops.toList [] E w K
  | true => bif Region.noSelect ops then Dr w fun w => wpX P n ops (2 * ops.size + 2) ops.size (Array.replicate ops.size false) [] [] E w K else False

abbrev Kont := Env → World → Prop
def exitK : List (Nat × Kont) → Nat → Option Kont
  | [], _ => none
  | (j, K) :: l, id => bif Nat.beq j id then some K else exitK l id

def wpc (P : Program) (n : Nat) : Code → Lv → Env → World → Kont → Kont → List (Nat × Kont) → Prop
  | .skip, _, E, w, KN, _, _ => KN E w
  | .region id ops draw, lv, E, w, KN, _, _ =>
    bif branchy P ops draw then
      let ds := codeDsts (.region id ops draw)
      let ts := slots n fun t => Nat.testBit (ds &&& lv.out) t
      let shs := shapesOf P (.region id ops draw) ts
      Jn (fun R => wpRun P n ops draw E w fun E w => hand E ts shs R w) fun R => allL shs fun vs => ∀ w, R vs w → KN (zipE ts vs (strike ds E)) w
    else wpRun P n ops draw E w KN
  | .seq a b, lv, E, w, KN, KR, KX => wpc P n a (lv.at b) E w (fun E w => wpc P n b lv E w KN KR KX) KR KX
  | .cond c a b, lv, E, w, KN, KR, KX => evK E c fun v => match v with
    | .bool t =>
      bif falls a && falls b then
        let ds := codeDsts (.cond c a b)
        let da := codeDsts a
        let db := codeDsts b
        let ts := slots n fun t => Nat.testBit (ds &&& lv.out) t && (here E t || (Nat.testBit da t && Nat.testBit db t))
        let shs := shapesOf P (.cond c a b) ts
        Jn (fun R => Br t (wpc P n a lv E w (fun E w => hand E ts shs R w) KR KX) (wpc P n b lv E w (fun E w => hand E ts shs R w) KR KX))
          fun R => allL shs fun vs => ∀ w, R vs w → KN (zipE ts vs (strike ds E)) w
      else Br t (wpc P n a lv E w KN KR KX) (wpc P n b lv E w KN KR KX)
    | _ => False
  | .block id c, lv, E, w, KN, KR, KX =>
    bif Nat.ble 2 (exits id c + (bif falls c then 1 else 0)) then
      let ds := codeDsts c
      let ts := slots n fun t => Nat.testBit (ds &&& lv.out) t && here E t
      let shs := shapesOf P c ts
      Jn (fun R => wpc P n c (lv.into id) E w (fun E w => hand E ts shs R w) KR ((id, fun E w => hand E ts shs R w) :: KX)) fun R => allL shs fun vs => ∀ w, R vs w → KN (zipE ts vs (strike ds E)) w
    else wpc P n c (lv.into id) E w KN KR ((id, KN) :: KX)
  | .loop c, lv, E, w, _, KR, KX =>
    let ds := codeDsts c
    let lv' := lv.head c
    let ts := slots n fun t => Nat.testBit (ds &&& lv'.out) t && here E t
    let shs := shapesOf P c ts
    vals E ts fun init => bif fitsL shs init then
      Lp init w fun I => allL shs fun vs => ∀ k w, I k vs w → wpc P n c lv' (zipE ts vs (strike ds E)) w (fun E w => hand E ts shs (Nx I k) w) KR KX
    else False
  | .exit id, _, E, w, _, _, KX => match exitK KX id with | some K => K E w | none => False
  | .ret, _, E, w, _, KR, _ => KR E w
  | _, _, _, _, _, _, _ => False

theorem find_strike {m : Nat} : ∀ {E : Env} {i : Nat} {v : Value}, find (strike m E) i = some v → find E i = some v
  | [], _, _, h => h
  | (j, u) :: E, i, v, h => by
    simp only [strike, List.filter_cons] at h
    cases hb : Nat.testBit m j with
    | true =>
      rw [hb] at h
      simp only [Bool.not_true, Bool.false_eq_true, if_false] at h
      have h1 := find_strike (m := m) (E := E) h
      simp only [find]
      cases hji : Nat.beq j i with
      | true =>
        have : j = i := Nat.eq_of_beq_eq_true hji
        subst this
        exfalso
        have : ∀ (E : Env), find (strike m E) j = none := by
          intro E
          induction E with
          | nil => rfl
          | cons p E ih =>
            simp only [strike, List.filter_cons]
            cases hp : Nat.testBit m p.1 with
            | true => simpa [strike] using ih
            | false =>
              simp only [Bool.not_false, if_true, find]
              have : Nat.beq p.1 j = false := by
                cases hq : Nat.beq p.1 j with
                | false => rfl
                | true => rw [Nat.eq_of_beq_eq_true hq, hb] at hp; cases hp
              rw [this]
              exact ih
        rw [show (List.filter (fun p => !Nat.testBit m p.1) E) = strike m E from rfl, this E] at h
        cases h
      | false => exact h1
    | false =>
      rw [hb] at h
      simp only [Bool.not_false, if_true, find] at h ⊢
      cases hji : Nat.beq j i with
      | true => rw [hji] at h; exact h
      | false => rw [hji] at h; exact find_strike (m := m) (E := E) h

theorem Agr.strike {n : Nat} {a : Act} {E : Env} (h : Agr dfs n a E) (m : Nat) : Agr dfs n a (strike m E) :=
  ⟨h.defers, h.size, fun i v hi => h.at_ i v (find_strike hi)⟩

theorem Agr.zip {n : Nat} {a : Act} {E : Env} (h : Agr dfs n a E) : ∀ (ts : List Nat), Agr dfs n a (zipE ts ((ts.map .tmp).map a.eval) E)
  | [] => h
  | t :: ts => by
    have ih := Agr.zip h ts
    refine ⟨ih.defers, ih.size, fun i v hi => ?_⟩
    simp only [List.map_cons, zipE, find] at hi
    cases hb : Nat.beq t i with
    | true =>
      have : t = i := Nat.eq_of_beq_eq_true hb
      subst this
      rw [hb] at hi
      simpa [Act.eval] using hi
    | false => rw [hb] at hi; exact ih.at_ i v hi

theorem hand_ok {n : Nat} {a : Act} {E : Env} (h : Agr dfs n a E) {ts : List Nat} {shs : List Shape} {R : List Value → World → Prop} {w : World} (hh : hand E ts shs R w) :
    fitsL shs ((ts.map .tmp).map a.eval) = true ∧ R ((ts.map .tmp).map a.eval) w := by
  have := evL_ok h _ hh
  cases hf : fitsL shs ((ts.map .tmp).map a.eval) with
  | true => rw [hf] at this; exact ⟨rfl, this⟩
  | false => rw [hf] at this; exact this.elim

end Go.Sh

namespace Go.Sh
open Go
variable {dfs : List Deferred}

theorem testBit_bit (t : Nat) : Nat.testBit (bit t) t = true := by
  simp [bit, Nat.shiftLeft_eq]

theorem or_left {a b i : Nat} (h : Nat.testBit a i = true) : Nat.testBit (a ||| b) i = true := by simp [Nat.testBit_or, h]
theorem or_right {a b i : Nat} (h : Nat.testBit b i = true) : Nat.testBit (a ||| b) i = true := by simp [Nat.testBit_or, h]

theorem dsts_mem : ∀ (l : List Oper) (m : Nat) (i : Nat), (Nat.testBit m i = true ∨ ∃ o ∈ l, o.dst = some i) → Nat.testBit (l.foldl (fun m o => m ||| opDst o) m) i = true
  | [], m, i, h => by
    rcases h with h | ⟨o, ho, _⟩
    · exact h
    · cases ho
  | o :: l, m, i, h => by
    simp only [List.foldl_cons]
    refine dsts_mem l _ i ?_
    rcases h with h | ⟨o', ho', hd⟩
    · exact .inl (or_left h)
    · rcases List.mem_cons.1 ho' with rfl | ho'
      · exact .inl (or_right (by simp [opDst, hd, testBit_bit]))
      · exact .inr ⟨o', ho', hd⟩

theorem off_or1 {a b : Nat} {F : Env} (h : Off (a ||| b) F) : Off a F ∧ Off b F := by
  constructor
  · intro p hp
    have := h p hp
    simp only [Nat.testBit_or, Bool.or_eq_false_iff] at this
    exact this.1
  · intro p hp
    have := h p hp
    simp only [Nat.testBit_or, Bool.or_eq_false_iff] at this
    exact this.2

theorem off_or {a b : Nat} {F : List Env} (h : OffA (a ||| b) F) : OffA a F ∧ OffA b F := ⟨fun E hE => (off_or1 (h E hE)).1, fun E hE => (off_or1 (h E hE)).2⟩

theorem off_strike (m : Nat) (E : Env) : Off m (strike m E) := by
  intro p hp
  simp only [strike, List.mem_filter] at hp
  simpa using hp.2

theorem off_cons {m : Nat} {E : Env} {F : List Env} (h2 : OffA m F) : OffA m (strike m E :: F) := by
  intro G hG
  rcases List.mem_cons.1 hG with rfl | hG
  · exact off_strike m E
  · exact h2 G hG

theorem AgA.cons {n : Nat} {a : Act} {E : Env} {F : List Env} (hE : Agr dfs n a E) (hF : AgA dfs n a F) (m : Nat) : AgA dfs n a (Go.Sh.strike m E :: F) := by
  intro G hG
  rcases List.mem_cons.1 hG with rfl | hG
  · exact hE.strike m
  · exact hF G hG

theorem AgA.head {n : Nat} {a : Act} {E : Env} {F : List Env} (h : AgA dfs n a (E :: F)) : Agr dfs n a E := h E List.mem_cons_self
theorem AgA.tail {n : Nat} {a : Act} {E : Env} {F : List Env} (h : AgA dfs n a (E :: F)) : AgA dfs n a F := fun G hG => h G (List.mem_cons_of_mem _ hG)

/-- An environment behind another one serves where it agrees by itself. -/
theorem Agr.zipOn {n : Nat} {a : Act} {E : Env} (h : Agr dfs n a E) (ts : List Nat) : Agr dfs n a (zipE ts ((ts.map .tmp).map a.eval) E) := h.zip ts

/-- What is asked of the ways that lead on. -/
structure Ks (dfs : List Deferred) (n : Nat) (F : List Env) (KN KR : Kont) (KX : List (Nat × Kont)) (Q : Exit → Act → World → Prop) : Prop where
  normal : ∀ a E w, Agr dfs n a E → AgA dfs n a F → KN E w → Q .normal a w
  ret : ∀ a E w, Agr dfs n a E → KR E w → Q .ret a w
  exit : ∀ id K, exitK KX id = some K → ∀ a E w, Agr dfs n a E → AgA dfs n a F → K E w → Q (.exit id) a w

theorem wpRun_ok {P : Program} {n id : Nat} {ops : Array Oper} {draw : Bool} {E : Env} {F : List Env} {w : World} {a : Act} {K : Kont} {Q : Exit → Act → World → Prop}
    (hm : P.follows .mixedOrders = true) (hF : OffA (codeDsts (.region id ops draw)) F) (hK : ∀ a E w, Agr dfs n a E → AgA dfs n a F → K E w → Q .normal a w)
    (ha : Agr dfs n a E) (hf : AgA dfs n a F) (h : wpRun P n ops draw E w K) : (Code.region id ops draw).wp P Q a w := by
  have hd : ∀ o ∈ ops.toList, ∀ d, o.dst = some d → Nat.testBit (codeDsts (.region id ops draw)) d = true := fun o ho d hd => dsts_mem _ _ _ (.inr ⟨o, ho, hd⟩)
  cases draw with
  | false =>
    refine wp_region_list ?_
    exact wpS_ok hF hK _ _ _ _ _ _ hd ha hf h
  | true =>
    simp only [wpRun] at h
    cases hs : Region.noSelect ops with
    | false => rw [hs] at h; exact h.elim
    | true =>
      rw [hs] at h
      refine Code.wp_mono (Q := fun e a w => e = .normal ∧ Q .normal a w) (fun e a w hq => by obtain ⟨rfl, hq⟩ := hq; exact hq) ?_
      refine wp_region_any hm (any_of_anyX _ _ [] _ _ ?_)
      have h' : wpX P n ops (2 * ops.size + 2) ops.size (Array.replicate ops.size false) [] [] E { w with drawn := w.drawn + 1 } K := h _ ⟨rfl, rfl, rfl, rfl⟩
      exact wpX_ok (Q := fun e a w => e = .normal ∧ Q .normal a w) hF (fun i o ho => hd o (Array.mem_toList_iff.2 (Array.mem_of_getElem? ho))) (fun a E w h1 h2 h3 => ⟨rfl, hK a E w h1 h2 h3⟩) (fun _ _ _ h => by cases h.1) hs _ _ _ _ _ _ _ _ ha hf trivial h'

theorem Jn_ok {shs : List Shape} {body : (List Value → World → Prop) → Prop} {rest : List Value → World → Prop} (h : Jn body fun R => allL shs fun vs => ∀ w, R vs w → rest vs w) :
    ∃ R : List Value → World → Prop, body R ∧ ∀ vs w, fitsL shs vs = true → R vs w → rest vs w := by
  obtain ⟨R, h1, h2⟩ := h
  exact ⟨R, h1, fun vs w hf hr => allL_ok h2 hf w hr⟩

/-- What is handed on to a meeting of ways leads on from there. -/
theorem meet {n : Nat} {a : Act} {E E' : Env} {F : List Env} {ds : Nat} {ts : List Nat} {shs : List Shape} {R : List Value → World → Prop} {w : World} {K : Kont}
    (ha : Agr dfs n a E') (hf : AgA dfs n a (strike ds E :: F)) (hh : hand E' ts shs R w) (hr : ∀ vs w, fitsL shs vs = true → R vs w → K (zipE ts vs (strike ds E)) w) :
    ∃ E'', Agr dfs n a E'' ∧ K E'' w := by
  obtain ⟨h1, h2⟩ := hand_ok ha hh
  exact ⟨_, hf.head.zipOn ts, hr _ _ h1 h2⟩

theorem wpc_ok {P : Program} {n : Nat} (hm : P.follows .mixedOrders = true) : ∀ (c : Code) (lv : Lv) (E : Env) (F : List Env) (w : World) (a : Act) (KN KR : Kont) (KX : List (Nat × Kont)) (Q : Exit → Act → World → Prop),
    OffA (codeDsts c) F → Ks dfs n F KN KR KX Q → Agr dfs n a E → AgA dfs n a F → wpc P n c lv E w KN KR KX → c.wp P Q a w := by
  intro c
  induction c with
  | skip => intro lv E F w a KN KR KX Q hF hK ha hf h; exact wp_skip (hK.normal _ _ _ ha hf h)
  | ret => intro lv E F w a KN KR KX Q hF hK ha hf h; exact wp_ret (hK.ret _ _ _ ha h)
  | exit id =>
    intro lv E F w a KN KR KX Q hF hK ha hf h
    simp only [wpc] at h
    split at h
    · rename_i K hk; exact wp_exit (hK.exit id K hk _ _ _ ha hf h)
    · exact h.elim
  | region id ops draw =>
    intro lv E F w a KN KR KX Q hF hK ha hf h
    simp only [wpc] at h
    cases hb : branchy P ops draw with
    | false => rw [hb] at h; exact wpRun_ok hm hF (fun a E w h1 h2 h3 => hK.normal _ _ _ h1 h2 h3) ha hf h
    | true =>
      rw [hb] at h
      simp only [cond_true] at h
      obtain ⟨R, h1, h2⟩ := Jn_ok h
      refine wpRun_ok hm (F := strike _ E :: F) (off_cons hF) (fun a' E' w' ha' hf' hh => ?_) ha (AgA.cons ha hf _) h1
      obtain ⟨E'', h3, h4⟩ := meet ha' hf' hh h2
      exact hK.normal _ _ _ h3 hf'.tail h4
  | seq x y ihx ihy =>
    intro lv E F w a KN KR KX Q hF hK ha hf h
    obtain ⟨hFx, hFy⟩ := off_or hF
    simp only [wpc] at h
    refine wp_seq (ihx _ E F w a _ KR KX _ hFx ⟨?_, ?_, ?_⟩ ha hf h)
    · intro a' E' w' ha' hf' hk; exact ihy _ E' F w' a' KN KR KX Q hFy hK ha' hf' hk
    · intro a' E' w' ha' hk; exact hK.ret _ _ _ ha' hk
    · intro id K hid a' E' w' ha' hf' hk; exact hK.exit id K hid _ _ _ ha' hf' hk
  | cond c x y ihx ihy =>
    intro lv E F w a KN KR KX Q hF hK ha hf h
    obtain ⟨hFx, hFy⟩ := off_or hF
    simp only [wpc] at h
    have h := evK_ok ha h
    generalize hv : a.eval c = v at h
    cases v with
    | bool t =>
      simp only at h
      cases hb : falls x && falls y with
      | false =>
        rw [hb] at h
        simp only [cond_false] at h
        exact wp_cond_split hv (fun ht => ihx lv E F w a KN KR KX Q hFx hK ha hf (by subst ht; exact h)) (fun ht => ihy lv E F w a KN KR KX Q hFy hK ha hf (by subst ht; exact h))
      | true =>
        rw [hb] at h
        simp only [cond_true] at h
        obtain ⟨ts, shs, h⟩ : ∃ ts shs, Jn (fun R => Br t (wpc P n x lv E w (fun E w => hand E ts shs R w) KR KX) (wpc P n y lv E w (fun E w => hand E ts shs R w) KR KX))
          fun R => allL shs fun vs => ∀ w, R vs w → KN (zipE ts vs (strike (codeDsts (.cond c x y)) E)) w := ⟨_, _, h⟩
        obtain ⟨R, h1, h2⟩ := Jn_ok h
        have hF' : OffA (codeDsts (.cond c x y)) (strike (codeDsts (.cond c x y)) E :: F) := off_cons hF
        obtain ⟨hFx', hFy'⟩ := off_or hF'
        have hks : Ks dfs n (strike (codeDsts (.cond c x y)) E :: F) (fun E' w' => hand E' ts shs R w') KR KX Q := by
          refine ⟨?_, fun a' E' w' ha' hk => hK.ret _ _ _ ha' hk, fun id K hid a' E' w' ha' hf' hk => hK.exit id K hid _ _ _ ha' hf'.tail hk⟩
          intro a' E' w' ha' hf' hh
          obtain ⟨E'', h3, h4⟩ := meet ha' hf' hh h2
          exact hK.normal _ _ _ h3 hf'.tail h4
        exact wp_cond_split hv (fun ht => ihx lv E _ w a _ KR KX Q hFx' hks ha (AgA.cons ha hf _) (by subst ht; exact h1)) (fun ht => ihy lv E _ w a _ KR KX Q hFy' hks ha (AgA.cons ha hf _) (by subst ht; exact h1))
    | _ => exact h.elim
  | block id c ih =>
    intro lv E F w a KN KR KX Q hF hK ha hf h
    simp only [wpc] at h
    refine wp_block ?_
    cases hb : Nat.ble 2 (exits id c + (bif falls c then 1 else 0)) with
    | false =>
      rw [hb] at h
      simp only [cond_false] at h
      refine ih _ E F w a KN KR _ _ hF ⟨fun a' E' w' ha' hf' hk => hK.normal _ _ _ ha' hf' hk, fun a' E' w' ha' hk => hK.ret _ _ _ ha' hk, ?_⟩ ha hf h
      intro id' K hid a' E' w' ha' hf' hk
      simp only [exitK] at hid
      cases hbe : Nat.beq id id' with
      | true =>
        rw [hbe] at hid
        simp only [cond_true, Option.some.injEq] at hid
        subst hid
        have := Nat.eq_of_beq_eq_true hbe
        subst this
        simp only [Exit.inBlock, if_true]
        exact hK.normal _ _ _ ha' hf' hk
      | false =>
        rw [hbe] at hid
        have hne : id' ≠ id := fun e => by subst e; simp at hbe
        simp only [Exit.inBlock, hne, if_false]
        exact hK.exit id' K hid _ _ _ ha' hf' hk
    | true =>
      rw [hb] at h
      simp only [cond_true] at h
      obtain ⟨ts, shs, h⟩ : ∃ ts shs, Jn (fun R => wpc P n c (lv.into id) E w (fun E w => hand E ts shs R w) KR ((id, fun E w => hand E ts shs R w) :: KX))
        fun R => allL shs fun vs => ∀ w, R vs w → KN (zipE ts vs (strike (codeDsts c) E)) w := ⟨_, _, h⟩
      obtain ⟨R, h1, h2⟩ := Jn_ok h
      have hF' : OffA (codeDsts c) (strike (codeDsts c) E :: F) := off_cons hF
      have hmeet : ∀ a' E' w', Agr dfs n a' E' → AgA dfs n a' (strike (codeDsts c) E :: F) → hand E' ts shs R w' → Q .normal a' w' := by
        intro a' E' w' ha' hf' hh
        obtain ⟨E'', h3, h4⟩ := meet ha' hf' hh h2
        exact hK.normal _ _ _ h3 hf'.tail h4
      refine ih _ E (strike (codeDsts c) E :: F) w a _ KR _ _ hF' ⟨fun a' E' w' ha' hf' hk => hmeet _ _ _ ha' hf' hk, fun a' E' w' ha' hk => hK.ret _ _ _ ha' hk, ?_⟩ ha (AgA.cons ha hf _) h1
      intro id' K hid a' E' w' ha' hf' hk
      simp only [exitK] at hid
      cases hbe : Nat.beq id id' with
      | true =>
        rw [hbe] at hid
        simp only [cond_true, Option.some.injEq] at hid
        subst hid
        have := Nat.eq_of_beq_eq_true hbe
        subst this
        simp only [Exit.inBlock, if_true]
        exact hmeet _ _ _ ha' hf' hk
      | false =>
        rw [hbe] at hid
        have hne : id' ≠ id := fun e => by subst e; simp at hbe
        simp only [Exit.inBlock, hne, if_false]
        exact hK.exit id' K hid _ _ _ ha' hf'.tail hk
  | loop c ih =>
    intro lv E F w a KN KR KX Q hF hK ha hf h
    simp only [wpc] at h
    have h := evL_ok ha _ h
    generalize hts : (slots n fun t => Nat.testBit (codeDsts c &&& (lv.head c).out) t && here E t) = ts at h
    generalize hsh : shapesOf P c ts = shs at h
    cases hfit : fitsL shs ((ts.map .tmp).map a.eval) with
    | false => rw [hfit] at h; exact h.elim
    | true =>
      rw [hfit] at h
      simp only [cond_true] at h
      obtain ⟨I, ⟨k0, h0⟩, hstep⟩ := h
      have hF' : OffA (codeDsts c) (strike (codeDsts c) E :: F) := off_cons hF
      refine wp_loop_ghost (fun k a' w' => AgA dfs n a' (strike (codeDsts c) E :: F) ∧ ∃ vs, fitsL shs vs = true ∧ Agr dfs n a' (zipE ts vs (strike (codeDsts c) E)) ∧ I k vs w') k0
        ⟨AgA.cons ha hf _, _, hfit, (ha.strike _).zipOn ts, h0⟩ ?_
      rintro k a' w' ⟨hf', vs, hvs, hvz, hI⟩
      refine ih _ (zipE ts vs (strike (codeDsts c) E)) (strike (codeDsts c) E :: F) w' a' _ KR KX _ hF' ⟨?_, ?_, ?_⟩ hvz hf' (allL_ok hstep hvs k w' hI)
      · intro a2 E2 w2 ha2 hf2 hh
        obtain ⟨h1, k', hk', h2⟩ := hand_ok ha2 hh
        exact ⟨k', hk', hf2, _, h1, hf2.head.zipOn ts, h2⟩
      · intro a2 E2 w2 ha2 hk; exact hK.ret _ _ _ ha2 hk
      · intro id K hid a2 E2 w2 ha2 hf2 hk
        exact hK.exit id K hid _ _ _ ha2 hf2.tail hk
  | rangeFunc f ps x y => intro lv E F w a KN KR KX Q hF hK ha hf h; exact h.elim
  | scope c => intro lv E F w a KN KR KX Q hF hK ha hf h; exact h.elim
  | label l => intro lv E F w a KN KR KX Q hF hK ha hf h; exact h.elim
  | goto l => intro lv E F w a KN KR KX Q hF hK ha hf h; exact h.elim
  | refuse s => intro lv E F w a KN KR KX Q hF hK ha hf h; exact h.elim

end Go.Sh

namespace Go.Sh
open Go
variable {dfs : List Deferred}

def resL (P : Program) (E : Env) (w : World) : List ResultVar → (List Value → Prop) → Prop
  | [], K => K []
  | .tmp t :: rs, K => evK E (.tmp t) fun v => resL P E w rs fun vs => K (v :: vs)
  | .cell a t :: rs, K => evK E (.tmp a) fun v => match v with
    | .pointer (some ad) => ldSh P t ad w (tyShape P t) fun v => resL P E w rs fun vs => K (v :: vs)
    | _ => False

def resK (P : Program) (fn : Func) (R : Value → World → Prop) (E : Env) (w : World) : Prop :=
  match fn.results.toList with
  | [r] => resL P E w [r] fun vs => match vs with
    | [v] => R v w
    | _ => False
  | rs => resL P E w rs fun vs => R (.tuple vs.toArray) w

def resMask : List ResultVar → Nat
  | [] => 0
  | .tmp t :: rs => bit t ||| resMask rs
  | .cell a _ :: rs => bit a ||| resMask rs

def resS (tmps : Array Value) : ResultVar → Sem Value
  | .tmp t => pure (tmps.getD t undef)
  | .cell a t => do loadVar t (← asAddr (tmps.getD a undef))

theorem resL_ok {P : Program} {n : Nat} {a : Act} {E : Env} {w : World} (ha : Agr dfs n a E) : ∀ (rs : List ResultVar) {K : List Value → Prop}, resL P E w rs K →
    ∃ vs, (rs.mapM (resS a.tmps)).run P w = .ok vs w ∧ vs.length = rs.length ∧ K vs
  | [], K, h => ⟨[], rfl, rfl, h⟩
  | .tmp t :: rs, K, h => by
    obtain ⟨vs, h1, h2, h3⟩ := resL_ok ha rs (evK_ok ha h)
    refine ⟨a.tmps.getD t undef :: vs, ?_, by simp [h2], by simpa [Act.eval] using h3⟩
    simp [List.mapM_cons, resS, h1]
  | .cell ad t :: rs, K, h => by
    have h := evK_ok ha h
    split at h
    · rename_i p hp
      obtain ⟨v, hv, h⟩ := ldSh_ok h
      obtain ⟨vs, h1, h2, h3⟩ := resL_ok ha rs h
      refine ⟨v :: vs, ?_, by simp [h2], h3⟩
      have hp' : a.tmps.getD ad undef = .pointer (some p) := hp
      simp [List.mapM_cons, resS, h1, hp', asAddr, hv]
    · exact h.elim

theorem results_eq (fn : Func) (tmps : Array Value) (P : Program) (w : World) {vs : List Value} (h : (fn.results.toList.mapM (resS tmps)).run P w = .ok vs w) :
    (results fn tmps).run P w = .ok (if h : vs.toArray.size = 1 then vs.toArray[0] else .tuple vs.toArray) w := by
  have h0 : fn.results.mapM (resS tmps) = List.toArray <$> fn.results.toList.mapM (resS tmps) := Array.mapM_eq_mapM_toList
  have h1 : results fn tmps = (do let vs ← fn.results.mapM (resS tmps); pure (if h : vs.size = 1 then vs[0] else .tuple vs)) := by
    unfold results
    congr 1
  rw [h1, h0]
  simp [h]

theorem resK_ok {P : Program} {fn : Func} {n : Nat} {a : Act} {E : Env} {w : World} {R : Value → World → Prop} (ha : Agr dfs n a E) (h : resK P fn R E w) :
    ∃ v, (results fn a.tmps).run P w = .ok v w ∧ R v w := by
  unfold resK at h
  split at h
  · rename_i r hr
    obtain ⟨vs, h1, h2, h3⟩ := resL_ok ha _ h
    split at h3
    · rename_i v
      refine ⟨v, ?_, h3⟩
      rw [results_eq fn a.tmps P w (vs := [v]) (by rw [hr]; exact h1)]
      simp
    · exact h3.elim
  · rename_i hr
    obtain ⟨vs, h1, h2, h3⟩ := resL_ok ha _ h
    refine ⟨_, ?_, h3⟩
    rw [results_eq fn a.tmps P w h1]
    have : vs.toArray.size ≠ 1 := by
      intro e
      have e' : fn.results.toList.length = 1 := by rw [← h2]; simpa using e
      obtain ⟨r, hr'⟩ := List.length_eq_one_iff.1 e'
      exact hr r hr'
    rw [dif_neg this]

/-- A function called with these values. -/
def wpF (P : Program) (fn : Func) (args : List Value) (w : World) (R : Value → World → Prop) : Prop :=
  match fn.body with
  | some c => bif Nat.ble args.length fn.ntmps then
      wpc P fn.ntmps c ⟨resMask fn.results.toList, resMask fn.results.toList, []⟩ (zipE (List.range args.length) args []) w (resK P fn R) (resK P fn R) []
    else False
  | none => False

theorem zip_args (args : List Value) (m : Nat) : ∀ (k : Nat) (l : List Value), (∀ i v, l[i]? = some v → (args.toArray ++ Array.replicate m undef).getD (k + i) undef = v) →
    ∀ i v, find (zipE (List.range' k l.length) l []) i = some v → (args.toArray ++ Array.replicate m undef).getD i undef = v
  | _, [], _, i, v, h => by cases h
  | k, u :: l, hl, i, v, h => by
    simp only [List.length_cons, List.range'_succ, zipE, find] at h
    cases hb : Nat.beq k i with
    | true =>
      have : k = i := Nat.eq_of_beq_eq_true hb
      subst this
      rw [hb] at h
      simp only [cond_true, Option.some.injEq] at h
      subst h
      simpa using hl 0 u rfl
    | false =>
      rw [hb] at h
      refine zip_args args m (k + 1) l (fun i v hi => ?_) i v h
      have := hl (i + 1) v (by simpa using hi)
      rw [show k + 1 + i = k + (i + 1) by omega]
      exact this

theorem wpF_ok {P : Program} (hm : P.follows .mixedOrders = true) {f : FuncId} {fn : Func} (hf : P.funcs[f]? = some fn) {args : List Value} {w : World} {R : Value → World → Prop}
    (h : wpF P fn args w R) : Cs P f args.toArray w R := by
  unfold wpF at h
  split at h
  · rename_i c hb
    cases hle : Nat.ble args.length fn.ntmps with
    | false => rw [hle] at h; exact h.elim
    | true =>
      rw [hle] at h
      simp only [cond_true] at h
      have hle' : args.length ≤ fn.ntmps := Nat.le_of_ble_eq_true hle
      refine calls_of_wp hf hb ?_
      refine wpc_ok (dfs := []) hm c _ _ [] w _ _ _ [] _ (fun F hF => by cases hF) ⟨?_, ?_, ?_⟩ ?_ (fun F hF => by cases hF) h
      · intro a E w' ha _ hk
        obtain ⟨v, h1, h2⟩ := resK_ok ha hk
        exact ⟨ha.defers, v, h1, v, rfl, h2⟩
      · intro a E w' ha hk
        obtain ⟨v, h1, h2⟩ := resK_ok ha hk
        exact ⟨ha.defers, v, h1, v, rfl, h2⟩
      · intro id K hk; cases hk
      · refine ⟨rfl, by simp; omega, ?_⟩
        intro i v hi
        rw [List.range_eq_range'] at hi
        refine zip_args args (fn.ntmps - args.toArray.size) 0 args ?_ i v hi
        intro j u hj
        have hlt := (List.getElem?_eq_some_iff.1 hj).1
        rw [Array.getD_eq_getD_getElem?, Nat.zero_add, Array.getElem?_append_left (by simpa using hlt)]
        simp [hj]
  · exact h.elim

end Go.Sh
