/- Worlds over a base, and pieces apart from one another. -/
import Derived.Test.YtnmkbnfidjoljaaDoorGa
import Derived.Laws.AppendOwn
import Derived.Laws.CopyRow
import Derived.Laws.MakeOwn
import Derived.Laws.IdiomStrings
import Derived.Laws.Slices
import Derived.ChangeKeysEq
import Derived.DeepKeys4
import Derived.StringKeys
import Derived.RangeFuncIn
import Derived.RangeFuncCalls
import Derived.RangeFuncRecord
import Derived.TacticsIn
import Derived.OrdersIn
import Derived.RangeFuncNested

/-! Memory in separate pieces, over a base that stays. -/
namespace Go.Sl
open Go Go.Sh

abbrev Hp := Nat → Option Obj
abbrev HP := Hp → Prop

def Disj (h1 h2 : Hp) : Prop := ∀ b, h1 b = none ∨ h2 b = none
def Sub (h k : Hp) : Prop := ∀ b o, h b = some o → k b = some o

/-- The pieces of a list lie in a heap, apart from one another. -/
def Sep : List HP → Hp → Prop
  | [], _ => True
  | p :: l, h => ∃ h1 h2, Disj h1 h2 ∧ Sub h1 h ∧ Sub h2 h ∧ p h1 ∧ Sep l h2

theorem Sub.refl (h : Hp) : Sub h h := fun _ _ e => e
theorem Sub.trans {a b c : Hp} (h1 : Sub a b) (h2 : Sub b c) : Sub a c := fun x o e => h2 x o (h1 x o e)
theorem Disj.symm {a b : Hp} (h : Disj a b) : Disj b a := fun x => (h x).symm
theorem Disj.mono {a b a' b' : Hp} (h : Disj a b) (h1 : Sub a' a) (h2 : Sub b' b) : Disj a' b' := fun x => by
  cases e1 : a' x with
  | none => exact .inl rfl
  | some o =>
    cases e2 : b' x with
    | none => exact .inr rfl
    | some u =>
      rcases h x with h | h
      · rw [h1 x o e1] at h; cases h
      · rw [h2 x u e2] at h; cases h

theorem Sep.mono {l : List HP} {h k : Hp} (hs : Sub h k) (hl : Sep l h) : Sep l k := by
  cases l with
  | nil => trivial
  | cons p l =>
    obtain ⟨h1, h2, d, s1, s2, hp, hl⟩ := hl
    exact ⟨h1, h2, d, s1.trans hs, s2.trans hs, hp, hl⟩

/-- Two heaps as one. -/
def join (h k : Hp) : Hp := fun b => (h b).or (k b)
theorem sub_join_left (h k : Hp) : Sub h (join h k) := fun b o e => by simp [join, e]
theorem sub_join_right {h k : Hp} (d : Disj h k) : Sub k (join h k) := fun b o e => by
  rcases d b with h0 | h0
  · simp [join, h0, e]
  · rw [h0] at e; cases e
theorem join_sub {h k m : Hp} (h1 : Sub h m) (h2 : Sub k m) : Sub (join h k) m := fun b o e => by
  simp only [join] at e
  cases hb : h b with
  | none => rw [hb] at e; exact h2 b o (by simpa using e)
  | some u => rw [hb] at e; simp at e; subst e; exact h1 b _ hb
theorem disj_join {h k m : Hp} (h1 : Disj h m) (h2 : Disj k m) : Disj (join h k) m := fun b => by
  rcases h1 b with e | e
  · rcases h2 b with e2 | e2
    · exact .inl (by simp [join, e, e2])
    · exact .inr e2
  · exact .inr e

theorem Sep.append {l m : List HP} {h : Hp} : Sep (l ++ m) h ↔ ∃ h1 h2, Disj h1 h2 ∧ Sub h1 h ∧ Sub h2 h ∧ Sep l h1 ∧ Sep m h2 := by
  induction l generalizing h with
  | nil =>
    constructor
    · intro hm; exact ⟨fun _ => none, h, fun _ => .inl rfl, fun _ _ e => by simp at e, Sub.refl h, trivial, hm⟩
    · rintro ⟨h1, h2, _, _, s2, _, hm⟩; exact Sep.mono s2 hm
  | cons p l ih =>
    constructor
    · rintro ⟨h1, h2, d, s1, s2, hp, hl⟩
      obtain ⟨k1, k2, d', t1, t2, hl, hm⟩ := ih.1 hl
      refine ⟨join h1 k1, k2, disj_join (d.mono (Sub.refl _) t2) d', join_sub s1 (t1.trans s2), t2.trans s2, ⟨h1, k1, d.mono (Sub.refl _) t1, sub_join_left _ _, sub_join_right (d.mono (Sub.refl _) t1), hp, hl⟩, hm⟩
    · rintro ⟨h1, h2, d, s1, s2, ⟨k1, k2, d', t1, t2, hp, hl⟩, hm⟩
      refine ⟨k1, join k2 h2, ?_, t1.trans s1, join_sub (t2.trans s1) s2, hp, ih.2 ⟨k2, h2, d.mono t2 (Sub.refl _), sub_join_left _ _, sub_join_right (d.mono t2 (Sub.refl _)), hl, hm⟩⟩
      exact (disj_join d'.symm (d.symm.mono (Sub.refl _) t1)).symm

theorem Sep.comm {l m : List HP} {h : Hp} (hs : Sep (l ++ m) h) : Sep (m ++ l) h := by
  obtain ⟨h1, h2, d, s1, s2, hl, hm⟩ := Sep.append.1 hs
  exact Sep.append.2 ⟨h2, h1, d.symm, s2, s1, hm, hl⟩

theorem Sep.cons {p : HP} {l m : List HP} (hlm : ∀ h, Sep l h → Sep m h) {h : Hp} (hs : Sep (p :: l) h) : Sep (p :: m) h := by
  obtain ⟨h1, h2, d, s1, s2, hp, hl⟩ := hs
  exact ⟨h1, h2, d, s1, s2, hp, hlm _ hl⟩

theorem Sep.swap {p q : HP} {l : List HP} {h : Hp} (hs : Sep (p :: q :: l) h) : Sep (q :: p :: l) h := by
  obtain ⟨h1, h2, d, s1, s2, hp, k1, k2, d', t1, t2, hq, hl⟩ := hs
  refine ⟨k1, join h1 k2, ?_, t1.trans s2, join_sub s1 (t2.trans s2), hq, h1, k2, d.mono (Sub.refl _) t2, sub_join_left _ _, sub_join_right (d.mono (Sub.refl _) t2), hp, hl⟩
  exact (disj_join (d.mono (Sub.refl _) t1) d'.symm).symm

/-- Number k of a list comes first. -/
def pullL : Nat → List HP → List HP
  | 0, l => l
  | _ + 1, [] => []
  | k + 1, p :: l => match pullL k l with
    | [] => [p]
    | q :: m => q :: p :: m

theorem Sep.pull : ∀ (k : Nat) {l : List HP} {h : Hp}, Sep l h → Sep (pullL k l) h
  | 0, _, _, hs => hs
  | _ + 1, [], _, _ => trivial
  | k + 1, p :: l, h, hs => by
    have h1 := Sep.cons (m := pullL k l) (fun _ => Sep.pull k) hs
    simp only [pullL]
    split
    · rename_i e; rw [e] at h1; exact h1
    · rename_i q m e; rw [e] at h1; exact h1.swap

/-- Block b is this. -/
def blk (b : Nat) (o : Obj) : HP := fun h => h b = some o
/-- Something, in pieces of its own. -/
def box {α : Type} (f : α → List HP) : HP := fun h => ∃ x, Sep (f x) h
/-- Several pieces as one. -/
def all (l : List HP) : HP := Sep l
/-- What is so. -/
def so (φ : Prop) : HP := fun _ => φ

theorem Sep.unpack {l m : List HP} {h : Hp} (hs : Sep (all l :: m) h) : Sep (l ++ m) h := by
  obtain ⟨h1, h2, d, s1, s2, hl, hm⟩ := hs
  exact Sep.append.2 ⟨h1, h2, d, s1, s2, hl, hm⟩
theorem Sep.packup {l m : List HP} {h : Hp} (hs : Sep (l ++ m) h) : Sep (all l :: m) h := by
  obtain ⟨h1, h2, d, s1, s2, hl, hm⟩ := Sep.append.1 hs
  exact ⟨h1, h2, d, s1, s2, hl, hm⟩
theorem Sep.opened {α : Type} {f : α → List HP} {m : List HP} {h : Hp} (hs : Sep (box f :: m) h) : ∃ x, Sep (f x ++ m) h := by
  obtain ⟨h1, h2, d, s1, s2, ⟨x, hl⟩, hm⟩ := hs
  exact ⟨x, Sep.append.2 ⟨h1, h2, d, s1, s2, hl, hm⟩⟩
theorem Sep.shut {α : Type} {f : α → List HP} {m : List HP} {h : Hp} (x : α) (hs : Sep (f x ++ m) h) : Sep (box f :: m) h := by
  obtain ⟨h1, h2, d, s1, s2, hl, hm⟩ := Sep.append.1 hs
  exact ⟨h1, h2, d, s1, s2, ⟨x, hl⟩, hm⟩
theorem Sep.fact {φ : Prop} {m : List HP} {h : Hp} (hs : Sep (so φ :: m) h) : φ ∧ Sep m h := by
  obtain ⟨h1, h2, d, s1, s2, hl, hm⟩ := hs
  exact ⟨hl, Sep.mono s2 hm⟩
theorem Sep.known {φ : Prop} {m : List HP} {h : Hp} (hφ : φ) (hs : Sep m h) : Sep (so φ :: m) h :=
  ⟨fun _ => none, h, fun _ => .inl rfl, fun _ _ e => by simp at e, Sub.refl h, hφ, hs⟩
theorem Sep.tail {p : HP} {m : List HP} {h : Hp} (hs : Sep (p :: m) h) : Sep m h := by
  obtain ⟨h1, h2, d, s1, s2, hl, hm⟩ := hs
  exact Sep.mono s2 hm

/-! ### worlds over a base: what never changes, and pieces apart from it -/

structure Bs where
  os : Os
  tape : Nat → Question → Nat
  output : Array (Nat × ByteArray)
  z : Hp

def own (z : Hp) : HP := fun h => Sub z h
def hp (w : World) : Hp := fun b => w.heap[b]?

structure Sat (B : Bs) (w : World) (l : List HP) : Prop where
  os : w.os = B.os
  tape : w.tape = B.tape
  output : w.output = B.output
  sep : Sep (own B.z :: l) (hp w)

/-- A base that has more. -/
structure Bs.le (B B' : Bs) : Prop where
  os : B'.os = B.os
  tape : B'.tape = B.tape
  output : B'.output = B.output
  z : Sub B.z B'.z

theorem Bs.le.refl (B : Bs) : B.le B := ⟨rfl, rfl, rfl, Sub.refl _⟩
theorem Bs.le.trans {A B C : Bs} (h1 : A.le B) (h2 : B.le C) : A.le C := ⟨h2.os.trans h1.os, h2.tape.trans h1.tape, h2.output.trans h1.output, h1.z.trans h2.z⟩

def Bs.of (w : World) : Bs := ⟨w.os, w.tape, w.output, hp w⟩
theorem Sat.start (w : World) : Sat (Bs.of w) w [] := ⟨rfl, rfl, rfl, hp w, fun _ => none, fun _ => .inr rfl, Sub.refl _, fun _ _ e => by simp at e, Sub.refl _, trivial⟩

variable {B B' : Bs} {w w' : World} {l m : List HP}

theorem Sat.map (h : Sat B w l) (f : ∀ h, Sep l h → Sep m h) : Sat B w m := ⟨h.os, h.tape, h.output, Sep.cons f h.sep⟩
theorem Sat.pull (k : Nat) (h : Sat B w l) : Sat B w (pullL k l) := h.map fun _ => Sep.pull k
theorem Sat.tail {p : HP} (h : Sat B w (p :: l)) : Sat B w l := h.map fun _ => Sep.tail
theorem Sat.unpack (h : Sat B w (all l :: m)) : Sat B w (l ++ m) := h.map fun _ => Sep.unpack
theorem Sat.packup (h : Sat B w (l ++ m)) : Sat B w (all l :: m) := h.map fun _ => Sep.packup
theorem Sat.shut {α : Type} {f : α → List HP} (x : α) (h : Sat B w (f x ++ m)) : Sat B w (box f :: m) := h.map fun _ => Sep.shut x
theorem Sat.known {φ : Prop} (hφ : φ) (h : Sat B w l) : Sat B w (so φ :: l) := h.map fun _ => Sep.known hφ
theorem Sat.nil (h : Sat B w l) : Sat B w [] := h.map fun _ _ => trivial

theorem Sat.opened {α : Type} {f : α → List HP} (h : Sat B w (box f :: m)) : ∃ x, Sat B w (f x ++ m) := by
  obtain ⟨a, b, c, h1, h2, d, s1, s2, hp, hl⟩ := h
  obtain ⟨x, hx⟩ := hl.opened
  exact ⟨x, a, b, c, h1, h2, d, s1, s2, hp, hx⟩
theorem Sat.fact {φ : Prop} (h : Sat B w (so φ :: l)) : φ ∧ Sat B w l := by
  obtain ⟨a, b, c, h1, h2, d, s1, s2, hp, hl⟩ := h
  exact ⟨hl.fact.1, a, b, c, h1, h2, d, s1, s2, hp, hl.fact.2⟩
/-- A piece is seen through. -/
theorem Sat.see {p : HP} {φ : Prop} (h : Sat B w (p :: l)) (f : ∀ k, p k → φ) : φ := by
  obtain ⟨a, b, c, h1, h2, d, s1, s2, hp, k1, k2, d', t1, t2, hq, hl⟩ := h
  exact f _ hq
/-- A piece in another form. -/
theorem Sat.swapWith {p q : HP} (h : Sat B w (p :: l)) (f : ∀ k, p k → q k) : Sat B w (q :: l) := h.map fun _ ⟨k1, k2, d', t1, t2, hq, hl⟩ => ⟨k1, k2, d', t1, t2, f _ hq, hl⟩
theorem Sat.ex {α : Type} {p : α → HP} (h : Sat B w ((fun k => ∃ x, p x k) :: l)) : ∃ x, Sat B w (p x :: l) := by
  obtain ⟨a, b, c, h1, h2, d, s1, s2, hp, k1, k2, d', t1, t2, ⟨x, hq⟩, hl⟩ := h
  exact ⟨x, a, b, c, h1, h2, d, s1, s2, hp, k1, k2, d', t1, t2, hq, hl⟩

theorem Sat.alk (h : Sat B w l) (ha : Alk w w') : Sat B w' l := by
  obtain ⟨h1, h2, h3, hs⟩ := h
  refine ⟨ha.os.trans h1, ha.tape.trans h2, ha.output.trans h3, ?_⟩
  have : hp w' = hp w := by unfold hp; rw [ha.heap]
  rw [this]; exact hs

theorem Sat.drew (h : Sat B w l) : Sat B w.drew l := h.alk ⟨rfl, rfl, rfl, rfl⟩

/-- What never changes. -/
theorem Sat.z {b : Nat} {o : Obj} (h : Sat B w l) (hb : B.z b = some o) : w.heap[b]? = some o := by
  obtain ⟨h1, h2, h3, k1, k2, d, s1, s2, hp, _⟩ := h
  exact s1 b o (hp b o hb)

theorem Sat.blk {b : Nat} {o : Obj} (h : Sat B w (blk b o :: l)) : w.heap[b]? = some o := by
  obtain ⟨h1, h2, h3, k1, k2, d, s1, s2, hp, q1, q2, e, t1, t2, hq, _⟩ := h
  exact s2 b o (t1 b o hq)

theorem Sat.alloc (h : Sat B w l) (o : Obj) : Sat B (w.alloc o) (Sl.blk w.heap.size o :: l) := by
  obtain ⟨h1, h2, h3, hs⟩ := h
  have hold : Sub (hp w) (hp (w.alloc o)) := fun b u e => by
    unfold hp at e ⊢
    rw [heap_alloc_old w o (Array.getElem?_eq_some_iff.1 e).1]; exact e
  refine ⟨h1, h2, h3, ?_⟩
  have : Sep (Sl.blk w.heap.size o :: own B.z :: l) (hp (w.alloc o)) := by
    refine ⟨fun b => if b = w.heap.size then some o else none, hp w, ?_, ?_, hold, by simp [Sl.blk], hs⟩
    · intro b
      by_cases hb : b = w.heap.size
      · right; subst hb; simp [hp]
      · left; simp [hb]
    · intro b u e
      by_cases hb : b = w.heap.size
      · subst hb
        simp only [if_true] at e
        unfold hp
        rw [heap_alloc_new w o]; exact e
      · simp [hb] at e
  exact this.swap

/-- A block of its own is written. -/
def World.put (w : World) (b : Nat) (o : Obj) : World := { w with heap := w.heap.setIfInBounds b o }

theorem Sep.put {b : Nat} {o o' : Obj} (h : Sep (Sl.blk b o :: l) (hp w)) : Sep (Sl.blk b o' :: l) (hp (World.put w b o')) := by
  obtain ⟨k1, k2, d, s1, s2, hq, hs⟩ := h
  have hlt : b < w.heap.size := (Array.getElem?_eq_some_iff.1 (s1 b o hq)).1
  refine ⟨fun c => if c = b then some o' else none, k2, ?_, ?_, ?_, by simp [Sl.blk], hs⟩
  · intro c
    by_cases hc : c = b
    · right
      subst hc
      rcases d c with e | e
      · rw [show k1 c = some o from hq] at e; cases e
      · exact e
    · left; simp [hc]
  · intro c u e
    by_cases hc : c = b
    · subst hc
      simp only [if_true] at e
      simp [hp, World.put, hlt]; simpa using e
    · simp [hc] at e
  · intro c u e
    have hc : c ≠ b := by
      intro hc
      subst hc
      rcases d c with e' | e'
      · rw [show k1 c = some o from hq] at e'; cases e'
      · rw [e] at e'; cases e'
    have := s2 c u e
    simpa [hp, World.put, Array.getElem?_setIfInBounds_ne (Ne.symm hc)] using this

theorem Sat.put {b : Nat} {o o' : Obj} (h : Sat B w (Sl.blk b o :: l)) : Sat B (World.put w b o') (Sl.blk b o' :: l) :=
  ⟨h.os, h.tape, h.output, (Sep.put h.sep.swap).swap⟩

/-- A block is to stay as it is. -/
def Bs.and (B : Bs) (b : Nat) (o : Obj) : Bs := { B with z := fun c => if c = b then some o else B.z c }

theorem Sat.freeze {b : Nat} {o : Obj} (h : Sat B w (Sl.blk b o :: l)) : Sat (B.and b o) w l ∧ B.le (B.and b o) ∧ (B.and b o).z b = some o := by
  obtain ⟨h1, h2, h3, k1, k2, d, s1, s2, hz, q1, q2, e, t1, t2, hq, hl⟩ := h
  have hfree : ∀ c, c = b → B.z c = none := fun c hc => by
    subst hc
    cases hx : B.z c with
    | none => rfl
    | some u =>
      rcases d c with e' | e'
      · rw [hz c u hx] at e'; cases e'
      · rw [t1 c o hq] at e'; cases e'
  refine ⟨⟨h1, h2, h3, join k1 q1, q2, disj_join (d.mono (Sub.refl _) t2) e, join_sub s1 (t1.trans s2), t2.trans s2, ?_, hl⟩, ⟨rfl, rfl, rfl, ?_⟩, by simp [Bs.and]⟩
  · intro c u hc
    simp only [Bs.and] at hc
    by_cases hcb : c = b
    · subst hcb
      simp only [if_true] at hc
      exact sub_join_right (d.mono (Sub.refl _) t1) c u (hc ▸ hq)
    · rw [if_neg hcb] at hc
      exact sub_join_left _ _ c u (hz c u hc)
  · intro c u hc
    simp only [Bs.and]
    by_cases hcb : c = b
    · rw [hfree c hcb] at hc; cases hc
    · rw [if_neg hcb]; exact hc

theorem Sat.freeze' {b : Nat} {o : Obj} (h : Sat B w (Sl.blk b o :: l)) : B.z b = none := by
  obtain ⟨h1, h2, h3, k1, k2, d, s1, s2, hz, q1, q2, e, t1, t2, hq, hl⟩ := h
  cases hx : B.z b with
  | none => rfl
  | some u =>
    rcases d b with e' | e'
    · rw [hz b u hx] at e'; cases e'
    · rw [t1 b o hq] at e'; cases e'

theorem Sat.unfreeze {b : Nat} {o : Obj} (hb : B.z b = none) (h : Sat (B.and b o) w l) : Sat B w (Sl.blk b o :: l) := by
  obtain ⟨h1, h2, h3, k1, k2, d, s1, s2, hz, hl⟩ := h
  refine ⟨h1, h2, h3, fun c => if c = b then none else k1 c, fun c => if c = b then some o else k2 c, ?_, ?_, ?_, ?_, fun c => if c = b then some o else none, k2, ?_, ?_, ?_, by simp [Sl.blk], hl⟩
  · intro c
    by_cases hc : c = b
    · left; simp [hc]
    · rcases d c with e | e
      · left; simp [hc, e]
      · right; simp [hc, e]
  · intro c u e
    by_cases hc : c = b
    · simp [hc] at e
    · simp only [hc, if_false] at e; exact s1 c u e
  · intro c u e
    by_cases hc : c = b
    · subst hc
      simp only [if_true] at e
      exact s1 c u (hz c u (by simpa [Bs.and] using e))
    · simp only [hc, if_false] at e; exact s2 c u e
  · intro c u e
    by_cases hc : c = b
    · subst hc; rw [hb] at e; cases e
    · simp only [hc, if_false]; exact hz c u (by simpa [Bs.and, hc] using e)
  · intro c
    by_cases hc : c = b
    · right
      subst hc
      rcases d c with e | e
      · rw [hz c o (by simp [Bs.and])] at e; cases e
      · exact e
    · left; simp [hc]
  · intro c u e
    by_cases hc : c = b
    · subst hc; simpa using e
    · simp [hc] at e
  · intro c u e
    by_cases hc : c = b
    · subst hc
      rcases d c with e' | e'
      · rw [hz c o (by simp [Bs.and])] at e'; cases e'
      · rw [e'] at e; cases e
    · simpa [hc] using e

theorem Sat.thaw (hle : B.le B') (h : Sat B' w l) : Sat B w l := by
  obtain ⟨h1, h2, h3, k1, k2, d, s1, s2, hz, hl⟩ := h
  exact ⟨h1.trans hle.os, h2.trans hle.tape, h3.trans hle.output, k1, k2, d, s1, s2, hle.z.trans hz, hl⟩

end Go.Sl

namespace Go.Sl
open Go Go.Sh

/-! ### words of the text -/

theorem NN.some {a : Addr} {K : Addr → Prop} (h : K a) : NN (some a) K := ⟨a, rfl, h⟩
theorem Br.t {X Y : Prop} (h : X) : Br true X Y := h
theorem Br.f {X Y : Prop} (h : Y) : Br false X Y := h
theorem NN_some {a : Addr} {K : Addr → Prop} : NN (some a) K = K a := by
  apply propext; constructor
  · rintro ⟨b, hb, h⟩; cases hb; exact h
  · exact NN.some
theorem Br_true {X Y : Prop} : Br true X Y = X := rfl
theorem Br_false {X Y : Prop} : Br false X Y = Y := rfl

theorem add_mk (b o k : Nat) : Addr.add ⟨b, o, none⟩ k = ⟨b, o + k, none⟩ := by
  unfold Addr.add; split <;> simp_all

theorem Ix.mk {a : Addr} {len : Nat} {i : Int} {size : Nat} {K : Addr → Prop} (h0 : 0 ≤ i) (h1 : i < len) (h : K (a.add (i.toNat * size))) : Ix (some a) len i size K :=
  ⟨a, rfl, h0, h1, h⟩

/-- A meeting of ways that hand nothing on but the world. -/
theorem Jn.dup {body : (List Value → World → Prop) → Prop} {rest : World → Prop} (h : body fun vs w => vs = [] ∧ rest w) :
    Jn body fun R => ∀ w, R [] w → rest w := ⟨_, h, fun _ hr => hr.2⟩
theorem Jn.dupB {body : (List Value → World → Prop) → Prop} {rest : Bool → World → Prop} (h : body fun vs w => ∃ b, vs = [.bool b] ∧ rest b w) :
    Jn body fun R => ∀ b w, R [.bool b] w → rest b w := ⟨_, h, fun b w ⟨c, hc, hr⟩ => by cases hc; exact hr⟩
theorem Jn.dupI {k : IntKind} {body : (List Value → World → Prop) → Prop} {rest : Int → World → Prop} (h : body fun vs w => ∃ b, vs = [.int k b] ∧ rest b w) :
    Jn body fun R => ∀ b w, R [.int k b] w → rest b w := ⟨_, h, fun b w ⟨c, hc, hr⟩ => by cases hc; exact hr⟩
/-- A meeting of ways, by what holds there. -/
theorem Jn.by {body rest : (List Value → World → Prop) → Prop} (R : List Value → World → Prop) (h1 : body R) (h2 : rest R) : Jn body rest := ⟨R, h1, h2⟩
theorem Lp.by {init : List Value} {w : World} {body : (Nat → List Value → World → Prop) → Prop} (I : Nat → List Value → World → Prop) (k : Nat) (h0 : I k init w) (h : body I) : Lp init w body :=
  ⟨I, ⟨k, h0⟩, h⟩
theorem Nx.by {I : Nat → List Value → World → Prop} {k : Nat} {vs : List Value} {w : World} (k' : Nat) (h1 : k' < k) (h2 : I k' vs w) : Nx I k vs w := ⟨k', h1, h2⟩

theorem Cs.mono {P : Program} {f : FuncId} {args : Array Value} {w : World} {K K' : Value → World → Prop} (h : Cs P f args w K) (hk : ∀ v w', K v w' → K' v w') : Cs P f args w K' :=
  Calls.mono h fun _ _ ⟨v, e, hv⟩ => ⟨v, e, hk _ _ hv⟩

/-! ### types -/

/-- A type whose variables take one cell. -/
def scal (P : Program) (t : TypeId) : Bool :=
  match P.underlying t with
  | some (.struct _) => false
  | some (.array _ _) => false
  | some _ => (match P.info? t with | some i => Nat.beq i.size 1 | none => false)
  | none => false
/-- How many cells the variables of a struct's or an array's type take. -/
def wide (P : Program) (t : TypeId) : Option Nat :=
  match P.underlying t with
  | some (.struct _) => (P.info? t).map (·.size)
  | some (.array _ _) => (P.info? t).map (·.size)
  | _ => none

variable {P : Program} {B : Bs} {w : World} {l : List HP}

theorem isAgg_scal {t : TypeId} (h : scal P t = true) (w : World) : (isAgg t).run P w = .ok false w := by
  unfold scal at h
  cases hu : P.underlying t with
  | none => rw [hu] at h; cases h
  | some d => cases d <;> simp_all [isAgg, run_underlying hu]

theorem sizeOf_scal {t : TypeId} (h : scal P t = true) (w : World) : (sizeOf t).run P w = .ok 1 w := by
  unfold scal at h
  cases hi : P.info? t with
  | none => rw [hi] at h; split at h <;> cases h
  | some i =>
    rw [hi] at h
    have : i.size = 1 := by
      split at h
      · cases h
      · cases h
      · exact Nat.eq_of_beq_eq_true h
      · cases h
    simp [sizeOf, typeInfo, hi, this]

theorem isAgg_wide {t n : Nat} (h : wide P t = some n) (w : World) : (isAgg t).run P w = .ok true w := by
  unfold wide at h
  cases hu : P.underlying t with
  | none => rw [hu] at h; cases h
  | some d => cases d <;> simp_all [isAgg, run_underlying hu]

theorem sizeOf_wide {t n : Nat} (h : wide P t = some n) (w : World) : (sizeOf t).run P w = .ok n w := by
  unfold wide at h
  cases hi : P.info? t with
  | none => rw [hi] at h; split at h <;> cases h
  | some i =>
    rw [hi] at h
    have : i.size = n := by
      split at h
      · simpa using h
      · simpa using h
      · cases h
    simp [sizeOf, typeInfo, hi, this]

/-! ### loads and stores, the cells of a block as a list -/

/-- Block b is these cells, of a type's variables. -/
def bk (b : Nat) (e : TypeId) (L : List Value) : HP := blk b (.cells L.toArray e (0, 0))

theorem Sat.bk {b : Nat} {e : TypeId} {L : List Value} (h : Sat B w (Sl.bk b e L :: l)) : w.heap[b]? = some (.cells L.toArray e (0, 0)) := Sat.blk h

theorem cell_of {b off : Nat} {L : List Value} {e : TypeId} {fr : Nat × Nat} {v : Value} (hb : w.heap[b]? = some (.cells L.toArray e fr)) (hc : L[off]? = some v) : w.cell? ⟨b, off, none⟩ = some v := by
  simp [World.cell?, hb, hc]

theorem ld1 {t b off : Nat} {L : List Value} {e : TypeId} {fr : Nat × Nat} {v : Value} (ht : scal P t = true) (hb : w.heap[b]? = some (.cells L.toArray e fr)) (hc : L[off]? = some v) :
    (loadVar t ⟨b, off, none⟩).run P w = .ok v w := by
  unfold loadVar
  simp only [Sem.run_bind, isAgg_scal ht, Result.andThen_ok, Bool.false_eq_true, if_false]
  simp [run_load, cell_of hb hc]

theorem run_loadCells_at (b : Nat) (L : List Value) (e : TypeId) (fr : Nat × Nat) (hb : w.heap[b]? = some (.cells L.toArray e fr)) (n off : Nat) (h : off + n ≤ L.length) :
    (loadCells ⟨b, off, none⟩ n).run P w = .ok ((L.drop off).take n).toArray w := by
  have hl : ∀ j u, ((L.drop off).take n)[j]? = some u → w.cell? ((⟨b, off, none⟩ : Addr).add j) = some u := by
    intro j u hj
    rw [add_mk]
    refine cell_of hb ?_
    rw [List.getElem?_take] at hj
    split at hj
    · simpa [List.getElem?_drop] using hj
    · cases hj
  have hlen : ((L.drop off).take n).length = n := by simp; omega
  have := run_firstCells_some (P := P) w 1 n ⟨b, off, none⟩ n n ((L.drop off).take n) (by rw [hlen]; omega) hl
  simpa [Builtin.firstCells] using this

theorem ldA {t n b off : Nat} {L : List Value} {e : TypeId} {fr : Nat × Nat} (ht : wide P t = some n) (hb : w.heap[b]? = some (.cells L.toArray e fr)) (hc : off + n ≤ L.length) :
    (loadVar t ⟨b, off, none⟩).run P w = .ok (.agg ((L.drop off).take n).toArray) w := by
  unfold loadVar
  simp only [Sem.run_bind, isAgg_wide ht, sizeOf_wide ht, Result.andThen_ok, if_true, run_loadCells_at b L e fr hb n off hc, Sem.run_pure]

theorem put_setRow {b : Nat} {c c' : Array Value} {e : TypeId} {fr : Nat × Nat} (hb : w.heap[b]? = some (.cells c e fr)) :
    w.setRow b c' = World.put w b (.cells c' e fr) := by
  have h0 : (w.setRow b c').heap = w.heap.setIfInBounds b (.cells c' e fr) := by
    apply Array.ext_getElem?
    intro i
    by_cases hi : i = b
    · subst hi
      have hlt := (Array.getElem?_eq_some_iff.1 hb).1
      rw [setRow_heap w i c c' e fr hb]
      simp [hlt]
    · rw [setRow_other w b i c' hi]
      simp [Array.getElem?_setIfInBounds_ne (Ne.symm hi)]
  unfold World.put
  rw [← h0]
  rfl

/-- Values that each take one cell. -/
def ones (vs : List Value) : Prop := ∀ v ∈ vs, v.oneCell' = true

theorem st_list {b off : Nat} {L vs : List Value} {e : TypeId} (h1 : ones vs) (hb : w.heap[b]? = some (.cells L.toArray e (0, 0))) (hc : off + vs.length ≤ L.length) :
    (storeCells ⟨b, off, none⟩ vs).run P w = .ok () (World.put w b (.cells (L.take off ++ vs ++ L.drop (off + vs.length)).toArray e (0, 0))) := by
  have := run_storeCells_at (P := P) b off e vs 0 L.toArray w hb (by simpa using hc) h1
  simp only [Nat.add_zero] at this
  rw [this, put_setRow hb]

theorem set_split (L : List Value) (off : Nat) (v : Value) (h : off < L.length) : L.take off ++ [v] ++ L.drop (off + 1) = L.set off v := by
  rw [List.set_eq_take_append_cons_drop, if_pos h]; simp

theorem st1 {t b off : Nat} {L : List Value} {e : TypeId} {v : Value} (ht : scal P t = true) (h1 : v.oneCell' = true) (hb : w.heap[b]? = some (.cells L.toArray e (0, 0))) (hc : off < L.length) :
    (storeVar t ⟨b, off, none⟩ v).run P w = .ok () (World.put w b (.cells (L.set off v).toArray e (0, 0))) := by
  have hv : v.cells = #[v] := by cases v <;> simp_all [Value.oneCell', Value.cells]
  have h := st_list (P := P) (vs := [v]) (by intro u hu; simp only [List.mem_singleton] at hu; subst hu; exact h1) hb (show off + 1 ≤ L.length by omega)
  have h : (storeCells ⟨b, off, none⟩ [v]).run P w = .ok () (World.put w b (.cells (L.take off ++ [v] ++ L.drop (off + 1)).toArray e (0, 0))) := h
  rw [set_split L off v hc] at h
  unfold storeVar
  simp only [hv, Sem.run_bind, sizeOf_scal ht, Result.andThen_ok]
  simpa using h

theorem stA {t n b off : Nat} {L vs : List Value} {e : TypeId} (ht : wide P t = some n) (hn : vs.length = n) (h1 : ones vs) (hb : w.heap[b]? = some (.cells L.toArray e (0, 0))) (hc : off + n ≤ L.length) :
    (storeVar t ⟨b, off, none⟩ (.agg vs.toArray)).run P w = .ok () (World.put w b (.cells (L.take off ++ vs ++ L.drop (off + n)).toArray e (0, 0))) := by
  have h := st_list (P := P) h1 hb (by rw [hn]; exact hc)
  rw [hn] at h
  unfold storeVar
  simp only [Value.cells, Sem.run_bind, sizeOf_wide ht, Result.andThen_ok]
  simp [hn, h]

/-! ### the same, over a list of pieces -/

theorem Sat.st1 {t b off : Nat} {L : List Value} {e : TypeId} {v : Value} {K : World → Prop} (h : Sat B w (Sl.bk b e L :: l)) (ht : scal P t = true) (h1 : v.oneCell' = true) (hc : off < L.length)
    (hk : ∀ w', Sat B w' (Sl.bk b e (L.set off v) :: l) → K w') : DoU P (storeVar t ⟨b, off, none⟩ v) w K :=
  ⟨_, Sl.st1 ht h1 h.bk hc, hk _ (Sat.put h)⟩

theorem Sat.stA {t n b off : Nat} {L vs : List Value} {e : TypeId} {K : World → Prop} (h : Sat B w (Sl.bk b e L :: l)) (ht : wide P t = some n) (hn : vs.length = n) (h1 : ones vs) (hc : off + n ≤ L.length)
    (hk : ∀ w', Sat B w' (Sl.bk b e (L.take off ++ vs ++ L.drop (off + n)) :: l) → K w') : DoU P (storeVar t ⟨b, off, none⟩ (.agg vs.toArray)) w K :=
  ⟨_, Sl.stA ht hn h1 h.bk hc, hk _ (Sat.put h)⟩

/-- A type's zero cells. -/
def zeros (P : Program) (t : TypeId) : Option (List Value) := ((P.info? t).bind (·.zero)).map fun v => v.cells.toList

theorem run_zero {t : TypeId} {L : List Value} (h : zeros P t = some L) (w : World) : ∃ z : Value, (zeroValue t).run P w = .ok z w ∧ z.cells = L.toArray := by
  unfold zeros at h
  cases hi : P.info? t with
  | none => rw [hi] at h; cases h
  | some i =>
    rw [hi] at h
    cases hz : i.zero with
    | none => simp [hz] at h
    | some z =>
      simp only [Option.bind_some, hz, Option.map_some, Option.some.injEq] at h
      exact ⟨z, by simp [zeroValue, typeInfo, hi, hz], by rw [← h]⟩

theorem Sat.new {e : TypeId} {v : Value} {K : Addr → World → Prop} (h : Sat B w l) (hk : ∀ b w', Sat B w' (Sl.bk b e v.cells.toList :: l) → K ⟨b, 0, none⟩ w') : DoA P (Instr.box e v) w K := by
  refine ⟨_, _, ?_, hk w.heap.size _ (Sat.alloc h (.cells v.cells.toList.toArray e (0, 0)))⟩
  simp [Instr.box, newVar, newRow]

theorem Sat.var {e : TypeId} {L : List Value} {K : Addr → World → Prop} (h : Sat B w l) (hz : zeros P e = some L) (hk : ∀ b w', Sat B w' (Sl.bk b e L :: l) → K ⟨b, 0, none⟩ w') :
    DoA P (Instr.alloc e true (.tuple #[])) w K := by
  obtain ⟨z, h1, h2⟩ := run_zero hz w
  refine ⟨_, _, ?_, hk w.heap.size _ (Sat.alloc h (.cells L.toArray e (0, 0)))⟩
  simp [Instr.alloc, h1, newVar, newRow, h2]

end Go.Sl

namespace Go.Sl
open Go Go.Sh

/-! ### bytes -/

def bcell (c : UInt8) : Value := .int .u8 (c.toNat : Int)
def bcells (l : List UInt8) : List Value := l.map bcell
theorem bcells_length (l : List UInt8) : (bcells l).length = l.length := by simp [bcells]
theorem bcells_append (a b : List UInt8) : bcells (a ++ b) = bcells a ++ bcells b := by simp [bcells]
theorem ones_bcells (l : List UInt8) : ones (bcells l) := by
  intro v hv
  simp only [bcells, List.mem_map] at hv
  obtain ⟨c, _, rfl⟩ := hv
  rfl
theorem bcells_inj {a b : List UInt8} (h : bcells a = bcells b) : a = b := by
  induction a generalizing b with
  | nil => cases b with
    | nil => rfl
    | cons y b => simp [bcells] at h
  | cons x a ih =>
    cases b with
    | nil => simp [bcells] at h
    | cons y b =>
      simp only [bcells, List.map_cons, List.cons.injEq, bcell, Value.int.injEq, true_and] at h
      obtain ⟨h1, h2⟩ := h
      have : x = y := UInt8.toNat_inj.1 (by omega)
      rw [this, ih h2]
/-- The text of bytes. -/
def str (l : List UInt8) : ByteArray := ⟨l.toArray⟩
theorem str_inj {a b : List UInt8} (h : str a = str b) : a = b := by
  have := congrArg (fun s => s.data.toList) h
  simpa [str] using this
theorem str_data (s : ByteArray) : str s.data.toList = s := by cases s; rfl
theorem size_str (l : List UInt8) : (str l).size = l.length := by simp [str, ByteArray.size]

/-! ### reading -/

/-- Cells behind a pointer that never change. -/
def Rd (B : Bs) (p : Option Addr) (cs : List Value) : Prop :=
  cs = [] ∨ ∃ b off L e fr, p = some ⟨b, off, none⟩ ∧ B.z b = some (.cells (L : List Value).toArray e fr) ∧ off + cs.length ≤ L.length ∧ (L.drop off).take cs.length = cs

theorem Rd.mono {B B' : Bs} {p : Option Addr} {cs : List Value} (hle : B.le B') (h : Rd B p cs) : Rd B' p cs := by
  rcases h with h | ⟨b, off, L, e, fr, h1, h2, h3⟩
  · exact .inl h
  · exact .inr ⟨b, off, L, e, fr, h1, hle.z _ _ h2, h3⟩
theorem Rd.nil (B : Bs) (p : Option Addr) : Rd B p [] := .inl rfl

variable {P : Program} {B : Bs} {w : World} {F : List HP}

theorem Rd.cell {a : Addr} {cs : List Value} (h : Rd B (some a) cs) (hs : Sat B w F) : ∀ j u, cs[j]? = some u → w.cell? (a.add j) = some u := by
  intro j u hj
  rcases h with rfl | ⟨b, off, L, e, fr, h1, h2, h3, h4⟩
  · simp at hj
  · simp only [Option.some.injEq] at h1
    subst h1
    rw [add_mk]
    refine cell_of (hs.z h2) ?_
    rw [← h4, List.getElem?_take] at hj
    split at hj
    · simpa using hj
    · cases hj

/-- The place of a part. -/
def part? (p : Option Addr) (k : Nat) : Option Addr := p.map (·.add k)

theorem Rd.sub {p : Option Addr} {cs : List Value} (h : Rd B p cs) (i n : Nat) (hn : i + n ≤ cs.length) : Rd B (p.map (·.add i)) ((cs.drop i).take n) := by
  rcases h with rfl | ⟨b, off, L, e, fr, h1, h2, h3, h4⟩
  · simp only [List.length_nil] at hn
    left; simp
  · right
    refine ⟨b, off + i, L, e, fr, by rw [h1]; simp [add_mk], h2, ?_, ?_⟩
    · simp only [List.length_take, List.length_drop]; omega
    · have hl : ((cs.drop i).take n).length = n := by simp; omega
      rw [hl]
      conv => rhs; rw [← h4]
      rw [List.drop_take, List.drop_drop, List.take_take]
      congr 1
      exact (Nat.min_eq_left (by omega)).symm

theorem Rd.take {p : Option Addr} {cs : List Value} (h : Rd B p cs) (n : Nat) : Rd B p (cs.take n) := by
  rcases h with rfl | ⟨b, off, L, e, fr, h1, h2, h3, h4⟩
  · left; simp
  · right
    refine ⟨b, off, L, e, fr, h1, h2, ?_, ?_⟩
    · simp only [List.length_take]; omega
    · rw [List.length_take, ← h4]
      rw [List.take_take]
      simp only [List.length_take, List.length_drop]
      congr 1
      omega

/-- A load of one cell of what never changes. -/
theorem Rd.ld1 {a : Addr} {cs : List Value} {v : Value} {t j : Nat} (h : Rd B (some a) cs) (hs : Sat B w F) (ht : scal P t = true) (hj : cs[j]? = some v) : (loadVar t (a.add j)).run P w = .ok v w := by
  unfold loadVar
  simp only [Sem.run_bind, isAgg_scal ht, Result.andThen_ok, Bool.false_eq_true, if_false]
  simp [run_load, h.cell hs j v hj]

theorem Rd.ldA {a : Addr} {cs : List Value} {t n j : Nat} (h : Rd B (some a) cs) (hs : Sat B w F) (ht : wide P t = some n) (hj : j + n ≤ cs.length) : (loadVar t (a.add j)).run P w = .ok (.agg ((cs.drop j).take n).toArray) w := by
  rcases h with rfl | ⟨b, off, L, e, fr, h1, h2, h3, h4⟩
  · simp only [List.length_nil] at hj
    have : j = 0 := by omega
    have : n = 0 := by omega
    subst_vars
    unfold loadVar
    simp [isAgg_wide ht, sizeOf_wide ht, loadCells, loadCellsFrom]
  · simp only [Option.some.injEq] at h1
    subst h1
    rw [add_mk, Sl.ldA ht (hs.z h2) (by omega)]
    rw [← h4, List.drop_take, List.drop_drop, List.take_take]
    congr 5
    omega

/-! ### growing -/

/-- What a slice's type's elements are: their type, cells, bytes. -/
structure El (P : Program) (t e k by_ : Nat) : Prop where
  und : P.underlying t = some (.slice e)
  ex : ∃ i z, P.info? e = some i ∧ i.zero = some z ∧ i.size = k ∧ i.bytes = by_ ∧ z.cells.size = k
  pos : 0 < k
  posb : 0 < by_

def elOk (P : Program) (t e k by_ : Nat) : Bool :=
  match P.underlying t with
  | some (.slice e') => Nat.beq e' e && (match P.info? e with
    | some i => (match i.zero with
      | some z => Nat.beq i.size k && (Nat.beq i.bytes by_ && (Nat.beq z.cells.size k && (Nat.blt 0 k && Nat.blt 0 by_)))
      | none => false)
    | none => false)
  | _ => false

theorem El.of {t e k by_ : Nat} (h : elOk P t e k by_ = true) : El P t e k by_ := by
  unfold elOk at h
  split at h
  · rename_i e' hu
    rw [Bool.and_eq_true] at h
    have he := Nat.eq_of_beq_eq_true h.1
    subst he
    have h := h.2
    split at h
    · rename_i i hi
      split at h
      · rename_i z hz
        simp only [Bool.and_eq_true, Nat.blt_eq] at h
        obtain ⟨h1, h2, h3, h4, h5⟩ := h
        exact ⟨hu, ⟨i, z, hi, hz, Nat.eq_of_beq_eq_true h1, Nat.eq_of_beq_eq_true h2, Nat.eq_of_beq_eq_true h3⟩, h4, h5⟩
      · cases h
    · cases h
  · cases h

/-- The cells of a slice that nobody else has. -/
def buf (e k : Nat) (p : Option Addr) (l c : Nat) (cs : List Value) : HP := fun h =>
  (p = none ∧ l = 0 ∧ c = 0 ∧ cs = []) ∨ ∃ b cur, p = some ⟨b, 0, none⟩ ∧ l ≤ c ∧ (cur : List Value).length = c * k ∧ cs.length = l * k ∧ cur.take (l * k) = cs ∧ h b = some (.cells cur.toArray e (0, 0))

theorem Sat.buf0 {e k : Nat} (h : Sat B w F) : Sat B w (buf e k none 0 0 [] :: F) :=
  (h.known trivial).swapWith (p := so True) fun _ _ => .inl ⟨rfl, rfl, rfl, rfl⟩

theorem Sat.toBuf {e k b : Nat} {L : List Value} {n : Nat} (hn : L.length = n * k) (h : Sat B w (Sl.bk b e L :: F)) : Sat B w (buf e k (some ⟨b, 0, none⟩) n n L :: F) :=
  h.swapWith fun _ hk => .inr ⟨b, L, rfl, Nat.le_refl _, hn, hn, by rw [← hn]; simp, hk⟩

theorem Sat.toBuf' {e k b l c : Nat} {L cs : List Value} (hl : l ≤ c) (hn : L.length = c * k) (ht : L.take (l * k) = cs) (h : Sat B w (Sl.bk b e L :: F)) : Sat B w (buf e k (some ⟨b, 0, none⟩) l c cs :: F) :=
  h.swapWith fun _ hk => .inr ⟨b, L, rfl, hl, hn, by rw [← ht, List.length_take, hn]; exact Nat.min_eq_left (Nat.mul_le_mul_right _ hl), ht, hk⟩

/-- A slice's cells are to stay. -/
theorem Sat.fix {e k : Nat} {p : Option Addr} {l c : Nat} {cs : List Value} (h : Sat B w (buf e k p l c cs :: F)) : ∃ B', B.le B' ∧ Sat B' w F ∧ Rd B' p cs ∧ cs.length = l * k := by
  by_cases hp : p = none
  · obtain ⟨h1, h2⟩ : cs = [] ∧ l = 0 := h.see fun _ hk => by
      rcases hk with ⟨_, h, _, h2⟩ | ⟨b, cur, h, _⟩
      · exact ⟨h2, h⟩
      · rw [hp] at h; cases h
    subst h1 h2
    exact ⟨B, Bs.le.refl B, h.tail, .inl rfl, by simp⟩
  · obtain ⟨b, h⟩ := Sat.ex (p := fun b : Nat => fun k' => ∃ cur, p = some ⟨b, 0, none⟩ ∧ l ≤ c ∧ (cur : List Value).length = c * k ∧ cs.length = l * k ∧ cur.take (l * k) = cs ∧ k' b = some (.cells cur.toArray e (0, 0)))
      (h.swapWith fun _ hk => by
        rcases hk with ⟨h, _⟩ | hk
        · exact absurd h hp
        · exact hk)
    obtain ⟨cur, h⟩ := Sat.ex h
    obtain ⟨h1, h2, h3, h4, h5⟩ := h.see (φ := p = some ⟨b, 0, none⟩ ∧ l ≤ c ∧ cur.length = c * k ∧ cs.length = l * k ∧ cur.take (l * k) = cs) fun _ hk => ⟨hk.1, hk.2.1, hk.2.2.1, hk.2.2.2.1, hk.2.2.2.2.1⟩
    have h' := Sat.freeze (h.swapWith (q := Sl.blk b (.cells cur.toArray e (0, 0))) fun _ hk => hk.2.2.2.2.2)
    refine ⟨_, h'.2.1, h'.1, .inr ⟨b, 0, cur, e, (0, 0), h1, h'.2.2, ?_, ?_⟩, h4⟩
    · rw [h4, h3, Nat.zero_add]; exact Nat.mul_le_mul_right _ h2
    · rw [h4]; simpa using h5

theorem Sat.bufCases {e k : Nat} {p : Option Addr} {l c : Nat} {cs : List Value} (h : Sat B w (buf e k p l c cs :: F)) :
    (p = none ∧ l = 0 ∧ c = 0 ∧ cs = []) ∨ ∃ b cur, p = some ⟨b, 0, none⟩ ∧ l ≤ c ∧ (cur : List Value).length = c * k ∧ cs.length = l * k ∧ cur.take (l * k) = cs ∧ Sat B w (Sl.bk b e cur :: F) := by
  by_cases hp : p = none
  · left
    exact h.see fun _ hk => by
      rcases hk with ⟨_, h, h3, h2⟩ | ⟨b, cur, h, _⟩
      · exact ⟨hp, h, h3, h2⟩
      · rw [hp] at h; cases h
  · right
    obtain ⟨b, h⟩ := Sat.ex (p := fun b : Nat => fun k' => ∃ cur, p = some ⟨b, 0, none⟩ ∧ l ≤ c ∧ (cur : List Value).length = c * k ∧ cs.length = l * k ∧ cur.take (l * k) = cs ∧ k' b = some (.cells cur.toArray e (0, 0)))
      (h.swapWith fun _ hk => by
        rcases hk with ⟨h, _⟩ | hk
        · exact absurd h hp
        · exact hk)
    obtain ⟨cur, h⟩ := Sat.ex h
    obtain ⟨h1, h2, h3, h4, h5⟩ := h.see (φ := p = some ⟨b, 0, none⟩ ∧ l ≤ c ∧ cur.length = c * k ∧ cs.length = l * k ∧ cur.take (l * k) = cs) fun _ hk => ⟨hk.1, hk.2.1, hk.2.2.1, hk.2.2.2.1, hk.2.2.2.2.1⟩
    exact ⟨b, cur, h1, h2, h3, h4, h5, h.swapWith fun _ hk => hk.2.2.2.2.2⟩

/-- A slice's cells stay for a while. -/
theorem Sat.lend {e k : Nat} {p : Option Addr} {l c : Nat} {cs : List Value} (h : Sat B w (buf e k p l c cs :: F)) :
    ∃ B', B.le B' ∧ Sat B' w F ∧ Rd B' p cs ∧ cs.length = l * k ∧ ∀ w' G, Sat B' w' G → Sat B w' (buf e k p l c cs :: G) := by
  rcases h.bufCases with ⟨rfl, rfl, rfl, rfl⟩ | ⟨b, cur, rfl, h2, h3, h4, h5, hb⟩
  · exact ⟨B, Bs.le.refl B, h.tail, .inl rfl, by simp, fun w' G h => h.buf0⟩
  · have hf := Sat.freeze hb
    refine ⟨_, hf.2.1, hf.1, .inr ⟨b, 0, cur, e, (0, 0), rfl, hf.2.2, ?_, ?_⟩, h4, fun w' G h => ?_⟩
    · rw [h4, h3, Nat.zero_add]; exact Nat.mul_le_mul_right _ h2
    · rw [h4]; simpa using h5
    · exact Sat.toBuf' h2 h3 h5 (Sat.unfreeze (Sat.freeze' hb) h)

end Go.Sl

namespace Go.Sl
open Go Go.Sh

variable {P : Program} {B : Bs} {w : World} {F : List HP}

theorem setRow_put {b : Nat} {c c' : Array Value} {e : TypeId} {fr : Nat × Nat} (hb : w.heap[b]? = some (.cells c e fr)) : w.setRow b c' = World.put w b (.cells c' e fr) := put_setRow hb

theorem zeroCells_length (z : Array Value) (n : Nat) : (Builtin.zeroCells z n).toList.length = n * z.size := by simp [Builtin.zeroCells]

theorem Sat.append {t e k by_ ty : Nat} {p q : Option Addr} {l c m mc : Nat} {xs news : List Value} {K : Option Addr → Nat → Nat → World → Prop}
    (h : Sat B w (buf e k p l c xs :: F)) (el : El P t e k by_) (hr : Rd B q news) (hm : news.length = m * k) (h1 : ones news) (hb : (l + m) * by_ ≤ 140737488355328)
    (hk : ∀ p' c' w', Sat B w' (buf e k p' (l + m) c' (xs ++ news) :: F) → K p' (l + m) c' w') :
    DoL P (Builtin.append_ #[t, t] ty #[.slice p l c, .slice q m mc]) w K := by
  obtain ⟨i, z, hi, hz, hs, hby, hzs⟩ := el.ex
  have ht := el.und
  have hpos := el.pos
  have h63 : l + m ≤ 140737488355328 := Nat.le_trans (Nat.le_mul_of_pos_right _ el.posb) hb
  subst hs hby
  have grown : ∀ (old : Nat) (ys : List Value), ys = xs → xs.length = l * i.size → Sat B w F →
      Sat B (w.drew.alloc (.cells (ys.toArray ++ news.toArray ++ Builtin.zeroCells z.cells (grownCap w (l + m) old e - (l + m))) e))
        (buf e i.size (some ⟨w.heap.size, 0, none⟩) (l + m) (grownCap w (l + m) old e) (xs ++ news) :: F) := by
    intro old ys hys hx hF
    subst hys
    have hge := grownCap_ge w (l + m) old e
    have h2 := (hF.drew).alloc (.cells (ys ++ news ++ (Builtin.zeroCells z.cells (grownCap w (l + m) old e - (l + m))).toList).toArray e)
    have h3 := Sat.toBuf' (k := i.size) (l := l + m) (c := grownCap w (l + m) old e) (cs := ys ++ news) (L := ys ++ news ++ (Builtin.zeroCells z.cells (grownCap w (l + m) old e - (l + m))).toList) hge
      (by simp only [List.length_append, zeroCells_length, hx, hm, hzs]; rw [← Nat.add_mul, ← Nat.add_mul]; congr 1; omega)
      (by rw [Nat.add_mul, ← hx, ← hm, ← List.length_append]; exact List.take_left) h2
    have hc : ys.toArray ++ news.toArray ++ Builtin.zeroCells z.cells (grownCap w (l + m) old e - (l + m)) = (ys ++ news ++ (Builtin.zeroCells z.cells (grownCap w (l + m) old e - (l + m))).toList).toArray := by
      apply Array.ext'; simp
    rw [hc]
    exact h3
  have hnone : q = none → m = 0 ∧ news = [] := by
    intro hq
    rcases hr with h | ⟨b, off, L, e, fr, h1, _⟩
    · subst h
      simp only [List.length_nil] at hm
      rcases Nat.mul_eq_zero.1 hm.symm with h | h
      · exact ⟨h, rfl⟩
      · omega
    · rw [hq] at h1; cases h1
  rcases h.bufCases with ⟨rfl, rfl, rfl, rfl⟩ | ⟨b, cur, rfl, hlc, hcl, hxl, htk, hbk⟩
  · by_cases hm0 : m = 0
    · subst hm0
      have hn : news = [] := List.eq_nil_of_length_eq_zero (by simpa using hm)
      subst hn
      refine ⟨none, 0, 0, w, ?_, hk none 0 w h⟩
      cases q <;> simp [Builtin.append_, run_underlying ht, sizeOf, typeInfo, hi, Builtin.lenOf, Builtin.firstCells, loadCells, loadCellsFrom]
    · cases q with
      | none => exact absurd (hnone rfl).1 hm0
      | some a =>
        have hr' := run_append_nil (P := P) w t ty e i z ht hi hz a m mc news hm (hr.cell h) (by omega) (by omega) (by simp only [Nat.zero_add] at hb; omega)
        have hg := grown 0 [] rfl (by simp) h.tail
        simp only [Nat.zero_add, List.nil_append, Array.empty_append] at hg
        refine ⟨_, m, _, _, hr', ?_⟩
        have := hk _ _ _ (by simpa using hg)
        simpa using this
  · by_cases hroom : l + m ≤ c
    · cases q with
      | none =>
        obtain ⟨hm0, hn⟩ := hnone rfl
        subst hm0 hn
        refine ⟨some ⟨b, 0, none⟩, l, c, w, ?_, ?_⟩
        · have : l ≤ c := hlc
          simp [Builtin.append_, run_underlying ht, sizeOf, typeInfo, hi, Builtin.lenOf, Builtin.firstCells, this, storeCells]
        · have := hk (some ⟨b, 0, none⟩) c w (by simpa using h)
          simpa using this
      | some a =>
        have hfit : l * i.size + news.length ≤ cur.toArray.size := by rw [hm, List.size_toArray, hcl, ← Nat.add_mul]; exact Nat.mul_le_mul_right _ hroom
        have hr' := run_append_room (P := P) w t ty e i ht hi b l c cur.toArray hbk.bk a m mc news hm (hr.cell h) h1 hroom hfit
        rw [put_setRow hbk.bk] at hr'
        refine ⟨_, _, _, _, hr', hk _ _ _ ?_⟩
        have h2 := hbk.put (o' := .cells (cur.toArray.toList.take (l * i.size) ++ news ++ cur.toArray.toList.drop (l * i.size + news.length)).toArray e (0, 0))
        refine Sat.toBuf' (L := cur.toArray.toList.take (l * i.size) ++ news ++ cur.toArray.toList.drop (l * i.size + news.length)) hroom ?_ ?_ h2
        · simp only [List.size_toArray] at hfit
          simp only [List.length_append, List.length_take, List.length_drop]
          omega
        · simp only
          rw [htk, Nat.add_mul, ← hm, ← hxl, ← List.length_append]
          exact List.take_left
    · have holds : ∀ j u, xs[j]? = some u → w.cell? ((⟨b, 0, none⟩ : Addr).add j) = some u := by
        intro j u hj
        rw [add_mk]
        refine cell_of hbk.bk ?_
        rw [← htk, List.getElem?_take] at hj
        split at hj
        · simpa using hj
        · cases hj
      cases q with
      | none => exact absurd (hnone rfl).1 (by omega)
      | some a =>
        have hr' := run_append_grow (P := P) w t ty e i z ht hi hz ⟨b, 0, none⟩ l c xs hxl holds a m mc news hm (hr.cell h) (by omega) (by omega) (growslice_fits (by omega) hb)
        exact ⟨_, _, _, _, hr', hk _ _ _ (grown c xs rfl hxl h.tail)⟩

/-! ### new slices -/

theorem Sat.buildSlice {t e k by_ n : Nat} {parts : Array (Nat × Value)} {L : List Value} {K : Option Addr → Nat → Nat → World → Prop} (h : Sat B w F) (el : El P t e k by_) (hn : n * k ≤ 16777216)
    (hf : ∀ zs : List Value, zs.length = n * k → Instr.fill (fun i => some (i * k, k)) zs.toArray parts.toList = some L.toArray) (hl : L.length = n * k)
    (hk : ∀ p w', Sat B w' (buf e k p n n L :: F) → K p n n w') : DoL P (Instr.buildSlice t n parts) w K := by
  obtain ⟨i, z, hi, hz, hs, hby, hzs⟩ := el.ex
  subst hs
  refine ⟨some ⟨w.heap.size, 0, none⟩, n, n, w.alloc (.cells L.toArray e (0, 0)), ?_, hk _ _ (Sat.toBuf hl (h.alloc _))⟩
  have hn' : ¬ (2 ^ 24 < n * i.size) := by simpa using hn
  by_cases h0 : n * i.size = 0
  · have h2 : Instr.fill (fun j => some (j * i.size, i.size)) #[] parts.toList = some L.toArray := hf [] (by simpa using h0.symm)
    have h3 : Array.range 0 = #[] := rfl
    simp [Instr.buildSlice, run_underlying el.und, sizeOf, typeInfo, hi, h0, newRow, h2, h3]
  · have h2 := hf (((Array.range (n * i.size)).map (z.cells[· % z.cells.size]!)).toList) (by simp)
    rw [Array.toArray_toList] at h2
    simp [Instr.buildSlice, run_underlying el.und, sizeOf, typeInfo, zeroValue, hi, hz, hn', h0, newRow, h2]

theorem fill_one {k : Nat} {v : Value} {L zs : List Value} (hv : v.cells = L.toArray) (hL : L.length = 1 * k) (hz : zs.length = 1 * k) : Instr.fill (fun i => some (i * k, k)) zs.toArray [(0, v)] = some L.toArray := by
  simp only [Instr.fill]
  rw [if_neg (by simp [hv, hL, hz])]
  congr 1
  rw [← Array.foldl_toList, Array.toList_zipIdx, hv]
  have : ∀ (ys : List Value) (o : Nat) (zs : List Value), o + ys.length = zs.length → (ys.zipIdx o).foldl (fun cs (x : Value × Nat) => cs.setIfInBounds (0 * k + x.2) x.1) zs.toArray = (zs.take o ++ ys).toArray := by
    intro ys
    induction ys with
    | nil => intro o zs h; simp only [List.length_nil] at h; simp [List.take_of_length_le (show zs.length ≤ o by omega)]
    | cons y ys ih =>
      intro o zs h
      simp only [List.length_cons] at h
      have := ih (o + 1) (zs.set o y) (by simp; omega)
      rw [List.zipIdx_cons, List.foldl_cons]
      simp only [Nat.zero_mul, Nat.zero_add, List.setIfInBounds_toArray] at this ⊢
      rw [this]
      congr 1
      rw [List.take_set, List.take_add_one, List.getElem?_eq_getElem (by omega)]
      rw [List.set_append_right _ _ (by simp; omega)]
      simp [show min o zs.length = o by omega]
  have h2 := this L 0 zs (by omega)
  simpa using h2

theorem Sat.buildOne {t e k by_ : Nat} {v : Value} {L : List Value} {K : Option Addr → Nat → Nat → World → Prop} (h : Sat B w F) (el : El P t e k by_) (hn : k ≤ 16777216) (hv : v.cells = L.toArray) (hl : L.length = k)
    (hk : ∀ p w', Sat B w' (buf e k p 1 1 L :: F) → K p 1 1 w') : DoL P (Instr.buildSlice t 1 #[(0, v)]) w K :=
  h.buildSlice el (by omega) (fun zs hz => fill_one hv (by omega) hz) (by omega) hk

theorem Sat.build1 {t e by_ : Nat} {a : Value} {K : Option Addr → Nat → Nat → World → Prop} (h : Sat B w F) (el : El P t e 1 by_) (ha : a.cells = #[a])
    (hk : ∀ p w', Sat B w' (buf e 1 p 1 1 [a] :: F) → K p 1 1 w') : DoL P (Instr.buildSlice t 1 #[(0, a)]) w K :=
  h.buildOne el (by omega) (by simpa using ha) rfl hk

theorem len1 {zs : List Value} {n : Nat} (h : zs.length = n + 1) : ∃ x ys, zs = x :: ys ∧ ys.length = n := by
  cases zs with
  | nil => simp at h
  | cons x ys => exact ⟨x, ys, rfl, by simpa using h⟩
theorem len0 {zs : List Value} (h : zs.length = 0) : zs = [] := List.eq_nil_of_length_eq_zero h

theorem Sat.build2 {t e by_ : Nat} {a b : Value} {K : Option Addr → Nat → Nat → World → Prop} (h : Sat B w F) (el : El P t e 1 by_) (ha : a.cells = #[a]) (hb : b.cells = #[b])
    (hk : ∀ p w', Sat B w' (buf e 1 p 2 2 [a, b] :: F) → K p 2 2 w') : DoL P (Instr.buildSlice t 2 #[(0, a), (1, b)]) w K :=
  h.buildSlice el (by omega) (fun zs hz => by
    obtain ⟨x, y0, rfl, h0⟩ := len1 hz
    obtain ⟨y, y1, rfl, h1⟩ := len1 h0
    have hh := len0 h1; subst hh
    simp [Instr.fill, ha, hb]) rfl hk
theorem Sat.build3 {t e by_ : Nat} {a b c : Value} {K : Option Addr → Nat → Nat → World → Prop} (h : Sat B w F) (el : El P t e 1 by_) (ha : a.cells = #[a]) (hb : b.cells = #[b]) (hc : c.cells = #[c])
    (hk : ∀ p w', Sat B w' (buf e 1 p 3 3 [a, b, c] :: F) → K p 3 3 w') : DoL P (Instr.buildSlice t 3 #[(0, a), (1, b), (2, c)]) w K :=
  h.buildSlice el (by omega) (fun zs hz => by
    obtain ⟨x, y0, rfl, h0⟩ := len1 hz
    obtain ⟨y, y1, rfl, h1⟩ := len1 h0
    obtain ⟨z, y2, rfl, h2⟩ := len1 h1
    have hh := len0 h2; subst hh
    simp [Instr.fill, ha, hb, hc]) rfl hk
theorem Sat.build4 {t e by_ : Nat} {a b c d : Value} {K : Option Addr → Nat → Nat → World → Prop} (h : Sat B w F) (el : El P t e 1 by_) (ha : a.cells = #[a]) (hb : b.cells = #[b]) (hc : c.cells = #[c]) (hd : d.cells = #[d])
    (hk : ∀ p w', Sat B w' (buf e 1 p 4 4 [a, b, c, d] :: F) → K p 4 4 w') : DoL P (Instr.buildSlice t 4 #[(0, a), (1, b), (2, c), (3, d)]) w K :=
  h.buildSlice el (by omega) (fun zs hz => by
    obtain ⟨x, y0, rfl, h0⟩ := len1 hz
    obtain ⟨y, y1, rfl, h1⟩ := len1 h0
    obtain ⟨z, y2, rfl, h2⟩ := len1 h1
    obtain ⟨u, y3, rfl, h3⟩ := len1 h2
    have hh := len0 h3; subst hh
    simp [Instr.fill, ha, hb, hc, hd]) rfl hk

end Go.Sl

namespace Go.Sl
open Go Go.Sh

variable {P : Program} {B : Bs} {w : World} {F : List HP}

/-! ### texts and bytes -/

theorem Rd.string {s d e : Nat} {p : Option Addr} {l c : Nat} {bs : List UInt8} {K : ByteArray → World → Prop} (h : Sat B w F) (hr : Rd B p (bcells bs)) (hl : l = bs.length)
    (hs : P.underlying s = some (.slice e)) (he : P.underlying e = some (.int .u8)) (hd : P.underlying d = some .string) (hk : K (str bs) w) : DoS P (convert s d (.slice p l c)) w K := by
  subst hl
  refine ⟨str bs, w, ?_, hk⟩
  cases p with
  | none =>
    rcases hr with h0 | ⟨b, off, L, e', fr, h1, _⟩
    · have : bs = [] := by simpa [bcells] using h0
      subst this
      exact run_convert_bytes_nil w s e hs he 0 c d hd
    · cases h1
  | some a =>
    have := run_convert_bytes_back (P := P) w s d e a c bs hs he hd fun j hj => hr.cell h j _ (by simp [bcells, bcell, List.getElem?_eq_getElem hj])
    rw [this]
    rfl

theorem Sat.bytesOf {s d e : Nat} {bs : List UInt8} {K : Option Addr → Nat → Nat → World → Prop} (h : Sat B w F) (hs : P.underlying s = some .string) (hd : P.underlying d = some (.slice e)) (he : P.underlying e = some (.int .u8))
    (hk : ∀ B' p c w', B.le B' → Sat B' w' F → Rd B' p (bcells bs) → K p bs.length c w') : DoL P (convert s d (.string (str bs))) w K := by
  have hr := run_bytes_of_string (P := P) w s d e (str bs) hs hd he
  have h2 := (h.drew.alloc (.cells (bytesRow (str bs) (grownCap w (str bs).size 0 e)) e ((bytesRow (str bs) (grownCap w (str bs).size 0 e)).size, (bytesRow (str bs) (grownCap w (str bs).size 0 e)).size + 1))).freeze
  refine ⟨_, _, _, _, hr, ?_⟩
  rw [size_str]
  rw [size_str] at h2
  refine hk _ _ _ _ h2.2.1 h2.1 (.inr ⟨_, 0, (bytesRow (str bs) (grownCap w bs.length 0 e)).toList, e, _, rfl, by simpa using h2.2.2, ?_, ?_⟩)
  · simp [bytesRow, str, bcells]
  · simp [bytesRow, str, bcells, bcell]

/-! ### parts of slices -/

theorem DoL.part {t e k by_ : Nat} {p : Option Addr} {l c : Nat} {lo hi mx : Option Value} {a b m : Nat} {K : Option Addr → Nat → Nat → World → Prop} (el : El P t e k by_)
    (hb : (Instr.sliceBounds true l c lo hi mx).run P w = .ok (a, b, m) w) (hk : K (if m = a then p else p.map (·.add (a * k))) (b - a) (m - a) w) : DoL P (Instr.sliceAt t (.slice p l c) lo hi mx) w K := by
  obtain ⟨i, z, hi', hz, hs, hby, hzs⟩ := el.ex
  subst hs
  refine ⟨_, _, _, _, ?_, hk⟩
  simp [Instr.sliceAt, Instr.slice, run_underlying el.und, hb, sizeOf, typeInfo, hi']

theorem bounds_lh {isS : Bool} {l c : Nat} {i j : Int} (h0 : 0 ≤ i) (h1 : i ≤ j) (h2 : j ≤ c) : (Instr.sliceBounds isS l c (some (.int .i64 i)) (some (.int .i64 j)) none).run P w = .ok (i.toNat, j.toNat, c) w := by
  have e : (j.toNat : Int) = j := Int.toNat_of_nonneg (by omega)
  simp [Instr.sliceBounds, run_sliceBound, *, (by omega : 0 ≤ j)]
theorem bounds_h {isS : Bool} {l c : Nat} {j : Int} (h0 : 0 ≤ j) (h2 : j ≤ c) : (Instr.sliceBounds isS l c none (some (.int .i64 j)) none).run P w = .ok (0, j.toNat, c) w := by
  simp [Instr.sliceBounds, run_sliceBound, *]
theorem bounds_l {isS : Bool} {l c : Nat} {i : Int} (h0 : 0 ≤ i) (h2 : i ≤ l) : (Instr.sliceBounds isS l c (some (.int .i64 i)) none none).run P w = .ok (i.toNat, l, c) w := by
  simp [Instr.sliceBounds, run_sliceBound, *]
theorem bounds_all {isS : Bool} {l c : Nat} : (Instr.sliceBounds isS l c none none none).run P w = .ok (0, l, c) w := by
  simp [Instr.sliceBounds]
theorem bounds_hm {isS : Bool} {l c : Nat} {j m : Int} (h0 : 0 ≤ j) (h1 : j ≤ m) (h2 : m ≤ c) : (Instr.sliceBounds isS l c none (some (.int .i64 j)) (some (.int .i64 m))).run P w = .ok (0, j.toNat, m.toNat) w := by
  have e : (m.toNat : Int) = m := Int.toNat_of_nonneg (by omega)
  simp [Instr.sliceBounds, run_sliceBound, *, (by omega : 0 ≤ m)]
theorem bounds_lhm {isS : Bool} {l c : Nat} {i j m : Int} (h00 : 0 ≤ i) (h0 : i ≤ j) (h1 : j ≤ m) (h2 : m ≤ c) : (Instr.sliceBounds isS l c (some (.int .i64 i)) (some (.int .i64 j)) (some (.int .i64 m))).run P w = .ok (i.toNat, j.toNat, m.toNat) w := by
  have e : (m.toNat : Int) = m := Int.toNat_of_nonneg (by omega)
  have e2 : (j.toNat : Int) = j := Int.toNat_of_nonneg (by omega)
  simp [Instr.sliceBounds, run_sliceBound, *, (by omega : 0 ≤ m), (by omega : 0 ≤ j)]

/-- All of an array, or a part. -/
theorem DoL.array {t e n k : Nat} {ad : Addr} {lo hi mx : Option Value} {a b m : Nat} {K : Option Addr → Nat → Nat → World → Prop} (hu : P.underlying t = some (.array n e)) (hk' : (P.info? e).map (·.size) = some k)
    (hb : (Instr.sliceBounds false n n lo hi mx).run P w = .ok (a, b, m) w) (hk : K (some (if m = a then ad else ad.add (a * k))) (b - a) (m - a) w) : DoL P (Instr.sliceAt t (.pointer (some ad)) lo hi mx) w K := by
  cases hi' : P.info? e with
  | none => simp [hi'] at hk'
  | some i =>
    have : i.size = k := by simpa [hi'] using hk'
    subst this
    refine ⟨_, _, _, _, ?_, hk⟩
    simp [Instr.sliceAt, Instr.sureAddr, run_underlying hu, hb, sizeOf, typeInfo, hi']

/-! ### copies -/

theorem Sat.copy {t t2 e b off ty : Nat} {L cs : List Value} {q : Option Addr} {n m dc sc : Nat} {K : Int → World → Prop} {eT : TypeId} (h : Sat B w (Sl.bk b e L :: F)) (hr : Rd B q cs) (hu : P.underlying t = some (.slice eT)) (hs : (P.info? eT).map (·.size) = some 1)
    (hn : cs.length = Nat.min m n) (hfit : off + cs.length ≤ L.length) (h1 : ones cs)
    (hk : ∀ w', Sat B w' (Sl.bk b e (L.take off ++ cs ++ L.drop (off + cs.length)) :: F) → K (cs.length : Int) w') : DoI .i64 P (Builtin.copy_ #[t, t2] ty #[.slice (some ⟨b, off, none⟩) n dc, .slice q m sc]) w K := by
  cases q with
  | none =>
    rcases hr with h0 | ⟨b', off', L', e', fr, h1, _⟩
    · subst h0
      refine ⟨0, w, ?_, by simpa using hk w (by simpa using h)⟩
      cases hq : P.info? eT with
      | none => simp [hq] at hs
      | some i =>
        have : Nat.min m n = 0 := by simpa using hn.symm
        simp [Builtin.copy_, run_underlying hu, Builtin.lenOf, Builtin.firstCells, sizeOf, typeInfo, hq, storeCells, this]
        rfl
    · cases h1
  | some a =>
    have hr' := run_copy_row (P := P) w t t2 ty eT b off n dc a m sc L.toArray e cs hu hs h.bk hn (hr.cell h) (by simpa using hfit) h1
    rw [put_setRow h.bk] at hr'
    exact ⟨_, _, hr', hk _ h.put⟩

end Go.Sl

namespace Go.Sl
open Go Go.Sh
open Go.WideMaps (KeyLaw)

variable {P : Program} {B : Bs} {w : World} {F : List HP}

/-! ### maps -/

/-- A map's block: its keys and values, in the order of their coming; no key twice. -/
def mp (P : Program) (k : TypeId) (r : Nat) (kv : List (Value × Value)) : HP := fun h =>
  ∃ es clock, h r = some (.map es clock) ∧ es.toList.map (fun e => (e.key, e.val)) = kv ∧ (∀ p ∈ kv, ∃ l, keyOf P k p.1 = some l) ∧ (kv.map (·.1)).Nodup

theorem Sat.mpOpen {k r : Nat} {kv : List (Value × Value)} (h : Sat B w (mp P k r kv :: F)) : ∃ es clock, Sat B w (Sl.blk r (.map es clock) :: F) ∧ es.toList.map (fun e => (e.key, e.val)) = kv ∧ (∀ p ∈ kv, ∃ l, keyOf P k p.1 = some l) ∧ (kv.map (·.1)).Nodup := by
  obtain ⟨es, h⟩ := Sat.ex h
  obtain ⟨clock, h⟩ := Sat.ex h
  have h1 := h.see (φ := es.toList.map (fun e => (e.key, e.val)) = kv ∧ (∀ p ∈ kv, ∃ l, keyOf P k p.1 = some l) ∧ (kv.map (·.1)).Nodup) fun _ hk => hk.2
  exact ⟨es, clock, h.swapWith fun _ hk => hk.1, h1⟩

theorem Sat.mpShut {k r clock : Nat} {es : Array MapEntry} {kv : List (Value × Value)} (h : Sat B w (Sl.blk r (.map es clock) :: F)) (h1 : es.toList.map (fun e => (e.key, e.val)) = kv) (h2 : ∀ p ∈ kv, ∃ l, keyOf P k p.1 = some l) (h3 : (kv.map (·.1)).Nodup) : Sat B w (mp P k r kv :: F) :=
  h.swapWith fun _ hk => ⟨es, clock, hk, h1, h2, h3⟩

theorem Sat.makeMap {t k : Nat} {K : Option Nat → World → Prop} (h : Sat B w F) (hk : ∀ r w', Sat B w' (mp P k r [] :: F) → K (some r) w') : DoM P (Instr.makeMap t none) w K :=
  ⟨_, _, by simp [Instr.makeMap], hk _ _ (Sat.mpShut (h.alloc (.map #[] 0)) rfl (by simp) (by simp))⟩

theorem Sat.lookup {t k e r : Nat} {kv : List (Value × Value)} {key z : Value} {kl : Lit} (h : Sat B w (mp P k r kv :: F)) (KL : KeyLaw P k) (ht : P.underlying t = some (.map k e)) (hz : (zeroValue e).run P w = .ok z w) (hkey : keyOf P k key = some kl) :
    ((∀ p ∈ kv, p.1 ≠ key) ∧ (Instr.lookup t (.map (some r)) key true).run P w = .ok (.tuple #[z, .bool false]) w) ∨
    ∃ v, (key, v) ∈ kv ∧ (Instr.lookup t (.map (some r)) key true).run P w = .ok (.tuple #[v, .bool true]) w := by
  obtain ⟨es, clock, hb, h1, h2, h3⟩ := h.mpOpen
  have hks : ∀ x ∈ es.toList, ∃ l, keyOf P k x.key = some l := fun x hx => h2 (x.key, x.val) (h1 ▸ List.mem_map.2 ⟨x, hx, rfl⟩)
  rcases KL.find w hkey es.toList hks with ⟨f1, f2⟩ | ⟨j, e0, f1, f2, f3⟩
  · refine .inl ⟨?_, by simp [Instr.lookup, run_underlying ht, MapKept.run_getObj_map hb.blk, KL.check w _ hkey, f1, hz, Result.andThen]⟩
    intro p hp
    rw [← h1] at hp
    obtain ⟨x, hx, rfl⟩ := List.mem_map.1 hp
    exact f2 x hx
  · refine .inr ⟨e0.val, ?_, by simp [Instr.lookup, run_underlying ht, MapKept.run_getObj_map hb.blk, KL.check w _ hkey, f1, Result.andThen]⟩
    rw [← h1, ← f3]
    exact List.mem_map.2 ⟨e0, List.mem_of_getElem? f2, rfl⟩

theorem Sat.mapUpdate {t k e r : Nat} {kv : List (Value × Value)} {key v : Value} {kl : Lit} {K : World → Prop} (h : Sat B w (mp P k r kv :: F)) (KL : KeyLaw P k) (ht : P.underlying t = some (.map k e)) (hkey : keyOf P k key = some kl)
    (hk1 : (∀ p ∈ kv, p.1 ≠ key) → ∀ w', Sat B w' (mp P k r (kv ++ [(key, v)]) :: F) → K w')
    (hk2 : ∀ j o, kv[j]? = some (key, o) → ∀ w', Sat B w' (mp P k r (kv.set j (key, v)) :: F) → K w') : DoU P (Instr.mapUpdate t (.map (some r)) key v) w K := by
  obtain ⟨es, clock, hb, h1, h2, h3⟩ := h.mpOpen
  have hks : ∀ x ∈ es.toList, ∃ l, keyOf P k x.key = some l := fun x hx => h2 (x.key, x.val) (h1 ▸ List.mem_map.2 ⟨x, hx, rfl⟩)
  rcases KL.find w hkey es.toList hks with ⟨f1, f2⟩ | ⟨j, e0, f1, f2, f3⟩
  · have hno : ∀ p ∈ kv, p.1 ≠ key := by
      intro p hp
      rw [← h1] at hp
      obtain ⟨x, hx, rfl⟩ := List.mem_map.1 hp
      exact f2 x hx
    refine ⟨World.put w r (.map (es.push ⟨key, v, clock⟩) (clock + 1)), ?_, hk1 hno _ ?_⟩
    · simp [Instr.mapUpdate, run_underlying ht, MapKept.run_getObj_map hb.blk, KL.check w false hkey, f1, MapKept.run_setObj_map _ hb.blk, Result.andThen, World.put]
    · refine Sat.mpShut hb.put (by simp [h1]) ?_ ?_
      · intro p hp
        rcases List.mem_append.1 hp with hp | hp
        · exact h2 p hp
        · simp only [List.mem_singleton] at hp; subst hp; exact ⟨_, hkey⟩
      · rw [List.map_append, List.nodup_append]
        refine ⟨h3, by simp, ?_⟩
        intro a ha b hb
        simp only [List.map_cons, List.map_nil, List.mem_singleton] at hb
        subst hb
        obtain ⟨p, hp, rfl⟩ := List.mem_map.1 ha
        exact hno p hp
  · have hj : es[j]? = some e0 := by simpa using f2
    have hkj : kv[j]? = some (key, e0.val) := by rw [← h1, List.getElem?_map, f2, ← f3]; rfl
    refine ⟨World.put w r (.map (es.modify j (fun e' => { e' with key := key, val := v })) clock), ?_, hk2 j e0.val hkj _ ?_⟩
    · simp [Instr.mapUpdate, run_underlying ht, MapKept.run_getObj_map hb.blk, KL.check w false hkey, f1, hj, f3, KL.stays w hkey, MapKept.run_setObj_map _ hb.blk, Result.andThen, World.put]
    · have hset : (kv.set j (key, v)).map (·.1) = kv.map (·.1) := by
        rw [List.map_set]
        apply List.ext_getElem?
        intro i
        rw [List.getElem?_set]
        split
        · rename_i hij; subst hij
          split
          · rw [List.getElem?_map, hkj]; rfl
          · rename_i hlt
            rw [List.getElem?_eq_none (by simpa using hlt)]
        · rfl
      refine Sat.mpShut hb.put ?_ ?_ (by rw [hset]; exact h3)
      · rw [Array.toList_modify, ← h1]
        apply List.ext_getElem?
        intro i
        simp only [List.getElem?_map, List.getElem?_modify, List.getElem?_set]
        by_cases hij : j = i
        · subst hij
          have hlt : j < es.size := by
            have := (List.getElem?_eq_some_iff.1 f2).1
            simpa using this
          simp [hlt]
        · simp [hij]
      · intro p hp
        rcases List.mem_or_eq_of_mem_set hp with hp | hp
        · exact h2 p hp
        · subst hp; exact ⟨_, hkey⟩

theorem Sat.mapLen {t ty k e r : Nat} {kv : List (Value × Value)} {K : Int → World → Prop} (h : Sat B w (mp P k r kv :: F)) (ht : P.underlying t = some (.map k e)) (hk : K kv.length w) : DoI .i64 P (Builtin.len_ #[t] ty #[.map (some r)]) w K := by
  obtain ⟨es, clock, hb, h1, h2, h3⟩ := h.mpOpen
  refine ⟨es.size, w, ?_, ?_⟩
  · simp [Builtin.len_, run_underlying ht, MapKept.run_getObj_map hb.blk, goInt, Result.andThen]
  · have : kv.length = es.size := by rw [← h1]; simp
    rw [← this]; exact hk

/-! ### values put together -/

/-- A struct's fields: where, how many cells; its zero cells. -/
def parts (P : Program) (t : TypeId) : Option (List (Nat × Nat) × List Value) :=
  match P.underlying t with
  | some (.struct fs) => (fs.toList.mapM fun f => (P.info? f.type).map fun i => (f.offset, i.size)).bind fun pl => (zeros P t).map fun z => (pl, z)
  | _ => none

theorem run_mapM_list {α β : Type} (f : α → Sem β) (g : α → Option β) (hg : ∀ a b, g a = some b → (f a).run P w = .ok b w) : ∀ (l : List α) (r : List β), l.mapM g = some r → (l.mapM f).run P w = .ok r w := by
  intro l
  induction l with
  | nil => intro r h; simp at h; subst h; simp
  | cons a l ih =>
    intro r h
    simp only [List.mapM_cons, Option.bind_eq_bind] at h
    cases ha : g a with
    | none => rw [ha] at h; simp at h
    | some b =>
      rw [ha] at h
      cases hl : l.mapM g with
      | none => rw [hl] at h; simp at h
      | some r' =>
        rw [hl] at h
        simp at h
        subst h
        simp [List.mapM_cons, hg a b ha, ih r' hl]

theorem bld_run {t : Nat} {pl : List (Nat × Nat)} {zs cs : List Value} {ps : Array (Nat × Value)} (hp : parts P t = some (pl, zs)) (hf : Instr.fill (fun i => pl[i]?) zs.toArray ps.toList = some cs.toArray) :
    (Instr.build t ps).run P w = .ok (.agg cs.toArray) w := by
  unfold parts at hp
  split at hp
  · rename_i fs hu
    cases hm : (fs.toList.mapM fun f => (P.info? f.type).map fun i => (f.offset, i.size)) with
    | none => rw [hm] at hp; simp at hp
    | some pl' =>
      rw [hm] at hp
      cases hz : zeros P t with
      | none => rw [hz] at hp; simp at hp
      | some z =>
        rw [hz] at hp
        simp only [Option.bind_some, Option.map_some, Option.some.injEq, Prod.mk.injEq] at hp
        obtain ⟨rfl, rfl⟩ := hp
        obtain ⟨zv, hzr, hzc⟩ := run_zero hz w
        have h1 := run_mapM_list (P := P) (w := w) (fun f : Field => (do pure (f.offset, ← sizeOf f.type) : Sem (Nat × Nat))) _ (by
          intro f b hb
          cases hi : P.info? f.type with
          | none => rw [hi] at hb; simp at hb
          | some i => rw [hi] at hb; simp at hb; subst hb; simp [sizeOf, typeInfo, hi]) fs.toList pl' hm
        have h2 : (fs.mapM fun f : Field => (do pure (f.offset, ← sizeOf f.type) : Sem (Nat × Nat))).run P w = .ok pl'.toArray w := by
          rw [Array.mapM_eq_mapM_toList]
          simp only [Sem.run_map, h1]
          rfl
        have hfun : (fun x : Nat => pl'.toArray[x]?) = fun i : Nat => pl'[i]? := by funext i; simp
        unfold Instr.build
        simp only [Sem.run_bind, hzr, Result.andThen_ok, run_underlying hu, h2, hzc]
        simp [hf]
  · cases hp

/-- One part is laid into the cells. -/
theorem fill_step {place : Nat → Option (Nat × Nat)} {zs L : List Value} {i off size : Nat} {v : Value} {rest : List (Nat × Value)} (hp : place i = some (off, size)) (hv : v.cells = L.toArray) (hL : L.length = size) (hz : off + size ≤ zs.length) :
    Instr.fill place zs.toArray ((i, v) :: rest) = Instr.fill place (zs.take off ++ L ++ zs.drop (off + size)).toArray rest := by
  simp only [Instr.fill, hp]
  rw [if_neg (by simp [hv, hL]; omega)]
  congr 1
  rw [← Array.foldl_toList, Array.toList_zipIdx, hv]
  have : ∀ (ys : List Value) (o : Nat) (zs : List Value), off + o + ys.length ≤ zs.length → (ys.zipIdx o).foldl (fun cs (x : Value × Nat) => cs.setIfInBounds (off + x.2) x.1) zs.toArray = (zs.take (off + o) ++ ys ++ zs.drop (off + o + ys.length)).toArray := by
    intro ys
    induction ys with
    | nil => intro o zs h; simp
    | cons y ys ih =>
      intro o zs h
      simp only [List.length_cons] at h
      rw [List.zipIdx_cons, List.foldl_cons]
      simp only [List.setIfInBounds_toArray]
      rw [ih (o + 1) (zs.set (off + o) y) (by simp; omega)]
      congr 1
      rw [List.take_set, ← Nat.add_assoc, List.take_add_one, List.getElem?_eq_getElem (by omega)]
      rw [List.set_append_right _ _ (by simp; omega)]
      rw [List.drop_set_of_lt (by omega)]
      simp [show min (off + o) zs.length = off + o by omega]
      congr 1
      omega
  have h2 := this L 0 zs (by omega)
  simp only [Nat.add_zero] at h2
  rw [h2, hL]

theorem fill_nil {place : Nat → Option (Nat × Nat)} {zs : List Value} : Instr.fill place zs.toArray [] = some zs.toArray := rfl

end Go.Sl

namespace Go.Sl
open Go Go.Sh

/-! ### branches, loops, numbers -/

theorem Br.lt {a b : Int} {X Y : Prop} (h1 : a < b → X) (h2 : b ≤ a → Y) : Br (ltI a b) X Y := by
  by_cases h : a < b
  · rw [show ltI a b = true by simp [ltI, h]]; exact h1 h
  · rw [show ltI a b = false by simp [ltI]; omega]; exact h2 (by omega)
theorem Br.gt {a b : Int} {X Y : Prop} (h1 : b < a → X) (h2 : a ≤ b → Y) : Br (gtI a b) X Y := by
  by_cases h : b < a
  · rw [show gtI a b = true by simp [gtI, h]]; exact h1 h
  · rw [show gtI a b = false by simp [gtI]; omega]; exact h2 (by omega)
theorem Br.le {a b : Int} {X Y : Prop} (h1 : a ≤ b → X) (h2 : b < a → Y) : Br (leI a b) X Y := by
  by_cases h : a ≤ b
  · rw [show leI a b = true by simp [leI, h]]; exact h1 h
  · rw [show leI a b = false by simp [leI]; omega]; exact h2 (by omega)
theorem Br.ge {a b : Int} {X Y : Prop} (h1 : b ≤ a → X) (h2 : a < b → Y) : Br (geI a b) X Y := by
  by_cases h : b ≤ a
  · rw [show geI a b = true by simp [geI, h]]; exact h1 h
  · rw [show geI a b = false by simp [geI]; omega]; exact h2 (by omega)
theorem Br.eq {a b : Int} {X Y : Prop} (h1 : a = b → X) (h2 : a ≠ b → Y) : Br (eqI a b) X Y := by
  by_cases h : a = b
  · rw [show eqI a b = true by simp [eqI, h]]; exact h1 h
  · rw [show eqI a b = false by simp [eqI]; omega]; exact h2 (h)
theorem Br.ne {a b : Int} {X Y : Prop} (h1 : a ≠ b → X) (h2 : a = b → Y) : Br (neI a b) X Y := by
  by_cases h : a = b
  · rw [show neI a b = false by simp [neI, h]]; exact h2 h
  · rw [show neI a b = true by simp [neI]; omega]; exact h1 h
theorem Br.bool {b : Bool} {X Y : Prop} (h1 : b = true → X) (h2 : b = false → Y) : Br b X Y := by
  cases b
  · exact h2 rfl
  · exact h1 rfl
theorem Br.not {b : Bool} {X Y : Prop} (h : Br b Y X) : Br (!b) X Y := by cases b <;> exact h

/-- A loop that counts up. -/
theorem Lp.up {init : List Value} {w : World} {body : (Nat → List Value → World → Prop) → Prop} (N : Nat) (J : Nat → List Value → World → Prop) (h0 : J 0 init w)
    (h : ∀ I : Nat → List Value → World → Prop, (∀ i l vs w, i < N → l = N - i → J (i + 1) vs w → Nx I l vs w) → (∀ l vs w, I l vs w → ∃ i, i ≤ N ∧ l = N - i ∧ J i vs w) → body I) : Lp init w body := by
  refine Lp.by (fun k vs w => ∃ i, i ≤ N ∧ k = N - i ∧ J i vs w) N ⟨0, Nat.zero_le _, by simp, h0⟩ (h _ ?_ fun _ _ _ hi => hi)
  intro i l vs w hi hl hj
  exact Nx.by (N - (i + 1)) (by omega) ⟨i + 1, by omega, rfl, hj⟩

theorem w64 {x : Int} (h0 : -9223372036854775808 ≤ x) (h1 : x < 9223372036854775808) : IntKind.i64.wrap x = x := by rw [IntKind.wrap_i64]; omega

/-- The byte of a number. -/
def by8 (x : Int) : UInt8 := UInt8.ofNat (x % 256).toNat
theorem wrap_u8 (x : Int) : Value.int .u8 (IntKind.u8.wrap x) = bcell (by8 x) := by
  have h1 : (0:Int) ≤ x % 256 := Int.emod_nonneg _ (by omega)
  have h2 : x % 256 < 256 := Int.emod_lt_of_pos _ (by omega)
  have : IntKind.u8.wrap x = x % 256 := by simp [IntKind.wrap, IntKind.bits, IntKind.signed]
  rw [this]
  simp only [bcell, by8, Value.int.injEq, true_and]
  rw [UInt8.toNat_ofNat']
  have : (x % 256).toNat % 2 ^ 8 = (x % 256).toNat := Nat.mod_eq_of_lt (by omega)
  rw [this]
  omega

/-- A number's eight bytes, the lowest first. -/
def num8 (n : Int) : List UInt8 := (List.range 8).map fun i => by8 (n / 2 ^ (8 * i))
theorem num8_length (n : Int) : (num8 n).length = 8 := by simp [num8]

theorem by8_congr {x y : Int} (h : x % 256 = y % 256) : by8 x = by8 y := by simp [by8, h]

theorem u64_fdiv (n : Int) (i : Nat) (hi : i < 8) : by8 (Int.fdiv (IntKind.u64.wrap n) (2 ^ (8 * i))) = by8 (n / 2 ^ (8 * i)) := by
  apply by8_congr
  rw [IntKind.wrap_u64, Int.fdiv_eq_ediv_of_nonneg _ (by exact Int.le_of_lt (Int.pow_pos (by omega)))]
  match i, hi with
  | 0, _ => simp only [Nat.mul_zero, Int.pow_zero]; omega
  | 1, _ => simp only [Nat.mul_one, show (2:Int) ^ 8 = 256 from rfl]; omega
  | 2, _ => simp only [show 8 * 2 = 16 from rfl, show (2:Int) ^ 16 = 65536 from rfl]; omega
  | 3, _ => simp only [show 8 * 3 = 24 from rfl, show (2:Int) ^ 24 = 16777216 from rfl]; omega
  | 4, _ => simp only [show 8 * 4 = 32 from rfl, show (2:Int) ^ 32 = 4294967296 from rfl]; omega
  | 5, _ => simp only [show 8 * 5 = 40 from rfl, show (2:Int) ^ 40 = 1099511627776 from rfl]; omega
  | 6, _ => simp only [show 8 * 6 = 48 from rfl, show (2:Int) ^ 48 = 281474976710656 from rfl]; omega
  | 7, _ => simp only [show 8 * 7 = 56 from rfl, show (2:Int) ^ 56 = 72057594037927936 from rfl]; omega

theorem num8_take (n : Int) (i : Nat) (hi : i < 8) : (num8 n).take (i + 1) = (num8 n).take i ++ [by8 (n / 2 ^ (8 * i))] := by
  rw [List.take_add_one]
  congr 1
  simp [num8, hi]

variable {B : Bs} {w : World} {F : List HP}

/-- An element's place. -/
theorem Rd.ix {q : Option Addr} {cs : List Value} {len size j : Nat} {K : Addr → Prop} (hr : Rd B q cs) (hj : j < len) (hc : 0 < cs.length) (h : ∀ a, Rd B (some a) cs → K (a.add (j * size))) : Ix q len (j : Int) size K := by
  rcases hr with rfl | ⟨b, off, L, e, fr, h1, h2⟩
  · simp at hc
  · refine ⟨⟨b, off, none⟩, h1, by omega, by omega, ?_⟩
    have := h ⟨b, off, none⟩ (.inr ⟨b, off, L, e, fr, rfl, h2⟩)
    simpa using this

theorem bc1 (x : Int) : [Value.int .u8 (IntKind.u8.wrap x)] = bcells [by8 x] := by rw [wrap_u8]; rfl
theorem bc3 (x y z : Int) : [Value.int .u8 (IntKind.u8.wrap x), Value.int .u8 (IntKind.u8.wrap y), Value.int .u8 (IntKind.u8.wrap z)] = bcells [by8 x, by8 y, by8 z] := by rw [wrap_u8, wrap_u8, wrap_u8]; rfl

/-- Numbers as cells. -/
def icells (ns : List Int) : List Value := ns.map (Value.int .i64)
theorem icells_length (ns : List Int) : (icells ns).length = ns.length := by simp [icells]

end Go.Sl

namespace Go.Sl
open Go Go.Sh

/-! ### numbers out of bytes -/

theorem toNat_ofInt {x : Int} {k : Nat} (h0 : 0 ≤ x) (h1 : x < 2 ^ k) : (BitVec.ofInt k x).toNat = x.toNat := by
  rw [BitVec.toNat_ofInt, Int.emod_eq_of_lt h0 (by exact_mod_cast h1)]

theorem or_add {x c : Int} {s : Nat} (h0 : 0 ≤ x) (h1 : x < 2 ^ s) (h2 : 0 ≤ c) (h3 : c < 256) (h4 : s ≤ 56) : bitsOf .or .u64 x (c * 2 ^ s) = x + c * 2 ^ s := by
  have hs : (2:Int) ^ s ≤ 2 ^ 56 := by exact_mod_cast Nat.pow_le_pow_right (by omega) h4
  have h55 : (2:Int) ^ 56 = 72057594037927936 := by decide
  have h64 : (2:Int) ^ 64 = 18446744073709551616 := by decide
  have hc : c * 2 ^ s ≤ 255 * 2 ^ s := Int.mul_le_mul_of_nonneg_right (by omega) (by exact Int.le_of_lt (Int.pow_pos (by omega)))
  have hc0 : 0 ≤ c * 2 ^ s := Int.mul_nonneg h2 (Int.le_of_lt (Int.pow_pos (by omega)))
  have e0 : bitsOf .or .u64 x (c * 2 ^ s) = IntKind.u64.wrap (((BitVec.ofInt 64 x ||| BitVec.ofInt 64 (c * 2 ^ s)) : BitVec 64).toNat : Int) := rfl
  rw [e0, BitVec.toNat_or, toNat_ofInt h0 (by omega), toNat_ofInt hc0 (by omega), IntKind.wrap_u64]
  obtain ⟨a, rfl⟩ := Int.eq_ofNat_of_zero_le h0
  obtain ⟨d, rfl⟩ := Int.eq_ofNat_of_zero_le h2
  have e : ((d : Int) * 2 ^ s).toNat = 2 ^ s * d := by
    have : ((d : Int) * 2 ^ s) = ((2 ^ s * d : Nat) : Int) := by push_cast; rw [Int.mul_comm]
    rw [this, Int.toNat_natCast]
  rw [e, Int.toNat_natCast, Nat.or_comm, ← Nat.two_pow_add_eq_or_of_lt (by exact_mod_cast h1)]
  have : ((2 ^ s * d + a : Nat) : Int) = (a : Int) + (d : Int) * 2 ^ s := by push_cast; rw [Int.mul_comm, Int.add_comm]
  rw [this]
  omega

theorem or_addS {x c : Int} {s : Nat} (h0 : 0 ≤ x) (h1 : x < 2 ^ s) (h2 : 0 ≤ c) (h3 : c < 256) (h4 : s ≤ 40) : bitsOf .or .i64 x (c * 2 ^ s) = x + c * 2 ^ s := by
  have hs : (2:Int) ^ s ≤ 2 ^ 40 := by exact_mod_cast Nat.pow_le_pow_right (by omega) h4
  have h55 : (2:Int) ^ 40 = 1099511627776 := by decide
  have h64 : (2:Int) ^ 64 = 18446744073709551616 := by decide
  have hc : c * 2 ^ s ≤ 255 * 2 ^ s := Int.mul_le_mul_of_nonneg_right (by omega) (by exact Int.le_of_lt (Int.pow_pos (by omega)))
  have hc0 : 0 ≤ c * 2 ^ s := Int.mul_nonneg h2 (Int.le_of_lt (Int.pow_pos (by omega)))
  have e0 : bitsOf .or .i64 x (c * 2 ^ s) = IntKind.i64.wrap (((BitVec.ofInt 64 x ||| BitVec.ofInt 64 (c * 2 ^ s)) : BitVec 64).toNat : Int) := rfl
  rw [e0, BitVec.toNat_or, toNat_ofInt h0 (by omega), toNat_ofInt hc0 (by omega), IntKind.wrap_i64]
  obtain ⟨a, rfl⟩ := Int.eq_ofNat_of_zero_le h0
  obtain ⟨d, rfl⟩ := Int.eq_ofNat_of_zero_le h2
  have e : ((d : Int) * 2 ^ s).toNat = 2 ^ s * d := by
    have : ((d : Int) * 2 ^ s) = ((2 ^ s * d : Nat) : Int) := by push_cast; rw [Int.mul_comm]
    rw [this, Int.toNat_natCast]
  rw [e, Int.toNat_natCast, Nat.or_comm, ← Nat.two_pow_add_eq_or_of_lt (by exact_mod_cast h1)]
  have : ((2 ^ s * d + a : Nat) : Int) = (a : Int) + (d : Int) * 2 ^ s := by push_cast; rw [Int.mul_comm, Int.add_comm]
  rw [this]
  omega

/-- The number of bytes, the lowest first. -/
def le : List UInt8 → Int
  | [] => 0
  | c :: l => c.toNat + 256 * le l

theorem le_bounds : ∀ l : List UInt8, 0 ≤ le l ∧ le l < 2 ^ (8 * l.length)
  | [] => by simp [le]
  | c :: l => by
    have ⟨h1, h2⟩ := le_bounds l
    have hc : c.toNat < 256 := c.toNat_lt
    have : (2:Int) ^ (8 * (c :: l).length) = 256 * 2 ^ (8 * l.length) := by
      rw [List.length_cons, show 8 * (l.length + 1) = 8 + 8 * l.length by omega, Int.pow_add]; rfl
    rw [this]
    simp only [le]
    omega

theorem le_append (l m : List UInt8) : le (l ++ m) = le l + 2 ^ (8 * l.length) * le m := by
  induction l with
  | nil => simp [le]
  | cons c l ih =>
    have : (2:Int) ^ (8 * (c :: l).length) = 256 * 2 ^ (8 * l.length) := by
      rw [List.length_cons, show 8 * (l.length + 1) = 8 + 8 * l.length by omega, Int.pow_add]; rfl
    simp only [List.cons_append, le, ih, this, Int.mul_add, Int.mul_assoc]
    omega

theorem by8_toNat (x : Int) : ((by8 x).toNat : Int) = x % 256 := by
  have h1 : (0:Int) ≤ x % 256 := Int.emod_nonneg _ (by omega)
  have h2 : x % 256 < 256 := Int.emod_lt_of_pos _ (by omega)
  simp only [by8, UInt8.toNat_ofNat']
  have : (x % 256).toNat % 2 ^ 8 = (x % 256).toNat := Nat.mod_eq_of_lt (by omega)
  rw [this]; omega

theorem num8_eq (n : Int) : num8 n = [by8 n, by8 (n / 256), by8 (n / 65536), by8 (n / 16777216), by8 (n / 4294967296), by8 (n / 1099511627776), by8 (n / 281474976710656), by8 (n / 72057594037927936)] := by
  simp [num8, List.range, List.range.loop]

theorem le_num8 (n : Int) : le (num8 n) = n % 18446744073709551616 := by
  rw [num8_eq]
  simp only [le, by8_toNat]
  omega

/-- A signed number of eight bytes. -/
def num (l : List UInt8) : Int := IntKind.i64.wrap (le l)
theorem num_num8 {n : Int} (h0 : -9223372036854775808 ≤ n) (h1 : n < 9223372036854775808) : num (num8 n) = n := by
  unfold num
  rw [le_num8, IntKind.wrap_i64]
  omega
theorem num8_inj {a b : Int} (ha : -9223372036854775808 ≤ a) (ha' : a < 9223372036854775808) (hb : -9223372036854775808 ≤ b) (hb' : b < 9223372036854775808) (h : num8 a = num8 b) : a = b := by
  rw [← num_num8 ha ha', h, num_num8 hb hb']

theorem byte_shl {c : UInt8} {i : Nat} (hi : i < 8) : IntKind.u64.wrap (IntKind.u64.wrap (c.toNat : Int) * 2 ^ (8 * i)) = (c.toNat : Int) * 2 ^ (8 * i) := by
  have hc : c.toNat < 256 := c.toNat_lt
  rw [IntKind.wrap_u64, IntKind.wrap_u64]
  match i, hi with
  | 0, _ => simp only [Nat.mul_zero, Int.pow_zero]; omega
  | 1, _ => simp only [Nat.mul_one, show (2:Int) ^ 8 = 256 from rfl]; omega
  | 2, _ => simp only [show 8 * 2 = 16 from rfl, show (2:Int) ^ 16 = 65536 from rfl]; omega
  | 3, _ => simp only [show 8 * 3 = 24 from rfl, show (2:Int) ^ 24 = 16777216 from rfl]; omega
  | 4, _ => simp only [show 8 * 4 = 32 from rfl, show (2:Int) ^ 32 = 4294967296 from rfl]; omega
  | 5, _ => simp only [show 8 * 5 = 40 from rfl, show (2:Int) ^ 40 = 1099511627776 from rfl]; omega
  | 6, _ => simp only [show 8 * 6 = 48 from rfl, show (2:Int) ^ 48 = 281474976710656 from rfl]; omega
  | 7, _ => simp only [show 8 * 7 = 56 from rfl, show (2:Int) ^ 56 = 72057594037927936 from rfl]; omega

end Go.Sl

namespace Go.Sl
open Go Go.Sh

variable {P : Program} {B : Bs} {w : World} {F : List HP}

theorem madeCells_rep {z : Array Value} {k n : Nat} {v : Value} (hz : z.toList = List.replicate k v) (hk : 0 < k) : (madeCells z n).toList = List.replicate n v := by
  apply List.ext_getElem?
  intro i
  have hs : z.size = k := by rw [← Array.length_toList, hz]; simp
  simp only [madeCells, Array.toList_map, Array.toList_range, List.getElem?_map, List.getElem?_replicate]
  by_cases hi : i < n
  · have hm : i % z.size < z.size := Nat.mod_lt _ (by omega)
    have e : z[i % z.size]! = v := by
      rw [getElem!_pos z _ hm, ← Array.getElem_toList hm]
      simp [hz]
    simp [e, hi]
  · simp [hi]

/-- A new slice of noughts. -/
theorem Sat.make {t e k by_ n : Nat} {z : Value} {l : Int} {K : Option Addr → Nat → Nat → World → Prop} (h : Sat B w F) (el : El P t e k by_) (hz : zeros P e = some (List.replicate k z)) (hl : l = n) (hb : by_ * n ≤ 281474976710656)
    (hk : ∀ b w', Sat B w' (Sl.bk b e (List.replicate (n * k) z) :: F) → K (some ⟨b, 0, none⟩) n n w') : DoL P (Instr.makeSlice t (.int .i64 l) (.int .i64 l)) w K := by
  subst hl
  obtain ⟨i, zv, hi, hiz, hs, hby, hzs⟩ := el.ex
  have h1 : n ≤ 281474976710656 := Nat.le_trans (Nat.le_mul_of_pos_left _ el.posb) hb
  have hr := run_make (P := P) w t e i zv el.und hi hiz .i64 .i64 n n (by omega) (Int.le_refl _) (by rw [hby]; have h2 := Int.ofNat_le.2 hb; rw [Int.natCast_mul] at h2; exact h2) (by omega)
  have hzc : zv.cells.toList = List.replicate k z := by
    unfold zeros at hz
    rw [hi] at hz
    simpa [hiz] using hz
  rw [hs] at hr
  have e1 : madeCells zv.cells (n * k) = (List.replicate (n * k) z).toArray := by
    apply Array.ext'
    rw [madeCells_rep hzc el.pos]
  simp only [Int.toNat_natCast] at hr
  rw [e1] at hr
  exact ⟨_, _, _, _, hr, hk _ _ (Sat.alloc h _)⟩

theorem bcells_set (l : List UInt8) (i : Nat) (c : UInt8) : (bcells l).set i (bcell c) = bcells (l.set i c) := by simp [bcells, List.map_set]
theorem bcells_rep (n : Nat) (c : UInt8) : bcells (List.replicate n c) = List.replicate n (bcell c) := by simp [bcells]

theorem Rd.isSome {p : Option Addr} {cs : List Value} (h : Rd B p cs) (hc : 0 < cs.length) : ∃ a, p = some a ∧ ∀ k, a.add (0 * k) = a := by
  rcases h with rfl | ⟨b, off, L, e, fr, h1, h2⟩
  · simp at hc
  · exact ⟨_, h1, fun k => by rw [add_mk]; simp⟩

theorem DoA.arr {t n e l c : Nat} {a : Addr} {K : Addr → World → Prop} (hu : P.underlying t = some (.array n e)) (hl : n ≤ l) (hk : K a w) : DoA P (Instr.arrayAt t (.slice (some a) l c)) w K := by
  refine ⟨a, w, ?_, hk⟩
  simp [Instr.arrayAt, run_underlying hu, show ¬ l < n by omega]

/-- An array out of a slice. -/
theorem Rd.arr {t n l c e : Nat} {p : Option Addr} {cs : List Value} {K : Addr → World → Prop} (h : Rd B p cs) (hs : Sat B w F) (hu : P.underlying t = some (.array n e)) (hw : wide P t = some n) (hn : 0 < n) (hc : cs.length = n) (hl : n ≤ l)
    (hk : ∀ a, (loadVar t a).run P w = .ok (.agg cs.toArray) w → K a w) : DoA P (Instr.arrayAt t (.slice p l c)) w K := by
  obtain ⟨a, rfl, ha⟩ := h.isSome (by omega)
  refine DoA.arr hu hl (hk a ?_)
  have := h.ldA (j := 0) hs hw (by omega)
  have e0 := ha 0
  rw [Nat.zero_mul] at e0
  rw [e0, List.drop_zero, List.take_of_length_le (by omega)] at this
  exact this

/-- A block stays for a while. -/
theorem Sat.lendBk {b e : Nat} {L : List Value} (h : Sat B w (Sl.bk b e L :: F)) :
    ∃ B', B.le B' ∧ Sat B' w F ∧ B'.z b = some (.cells L.toArray e (0, 0)) ∧ ∀ w' G, Sat B' w' G → Sat B w' (Sl.bk b e L :: G) := by
  have hf := Sat.freeze h
  exact ⟨_, hf.2.1, hf.1, hf.2.2, fun w' G h' => Sat.unfreeze (Sat.freeze' h) h'⟩

theorem Rd.ofBlock {b e off : Nat} {L cs : List Value} (hz : B.z b = some (.cells L.toArray e (0, 0))) (hc : (L.drop off).take cs.length = cs) (hl : off + cs.length ≤ L.length) : Rd B (some ⟨b, off, none⟩) cs :=
  .inr ⟨b, off, L, e, _, rfl, hz, hl, hc⟩

theorem arr_all {t e n k b off : Nat} (hu : P.underlying t = some (.array n e)) (hk' : (P.info? e).map (·.size) = some k) (hn : 0 < n) :
    (Instr.sliceAt t (.pointer (some ⟨b, off, none⟩)) none none none).run P w = .ok (.slice (some ⟨b, off, none⟩) n n) w := by
  obtain ⟨p, l, c, w', h1, h2⟩ := DoL.array (P := P) (w := w) (ad := ⟨b, off, none⟩) (K := fun p l c w' => p = some ⟨b, off, none⟩ ∧ l = n ∧ c = n ∧ w' = w) hu hk' bounds_all (by simp [add_mk])
  obtain ⟨rfl, rfl, rfl, rfl⟩ := h2
  exact h1

theorem part_run {t e k by_ : Nat} {p : Option Addr} {l c : Nat} {lo hi mx : Option Value} {a b m : Nat} (el : El P t e k by_)
    (hb : (Instr.sliceBounds true l c lo hi mx).run P w = .ok (a, b, m) w) : (Instr.sliceAt t (.slice p l c) lo hi mx).run P w = .ok (.slice (if m = a then p else p.map (·.add (a * k))) (b - a) (m - a)) w := by
  obtain ⟨p', l', c', w', h1, h2⟩ := DoL.part (P := P) (w := w) (p := p) (K := fun p' l' c' w' => p' = (if m = a then p else p.map (·.add (a * k))) ∧ l' = b - a ∧ c' = m - a ∧ w' = w) el hb ⟨rfl, rfl, rfl, rfl⟩
  obtain ⟨rfl, rfl, rfl, rfl⟩ := h2
  exact h1

/-- Two parts of a row. -/
theorem Rd.left {p : Option Addr} {xs ys : List Value} {m a : Nat} (h : Rd B p (xs ++ ys)) (ha : a = 0) : Rd B (if m = a then p else p.map (·.add a)) xs := by
  subst ha
  split
  · have := h.take xs.length
    rw [List.take_left' rfl] at this
    exact this
  · have := h.sub 0 xs.length (by simp)
    rw [List.drop_zero, List.take_left' rfl] at this
    exact this
theorem Rd.right {p : Option Addr} {xs ys : List Value} {m a a' : Nat} (h : Rd B p (xs ++ ys)) (ha : a' = xs.length) (hm : m = a → ys = []) : Rd B (if m = a then p else p.map (·.add a')) ys := by
  subst ha
  split
  · rename_i e
    rw [hm e]; exact .inl rfl
  · have := h.sub xs.length ys.length (by simp)
    rw [List.drop_left' rfl, List.take_length] at this
    exact this

theorem Rd.strRun {s d e : Nat} {p : Option Addr} {l c : Nat} {bs : List UInt8} (h : Sat B w F) (hr : Rd B p (bcells bs)) (hl : l = bs.length)
    (hs : P.underlying s = some (.slice e)) (he : P.underlying e = some (.int .u8)) (hd : P.underlying d = some .string) : (convert s d (.slice p l c)).run P w = .ok (.string (str bs)) w := by
  obtain ⟨b, w', h1, rfl, rfl⟩ := Rd.string (P := P) (s := s) (d := d) (e := e) (c := c) (K := fun s w' => s = str bs ∧ w' = w) h hr hl hs he hd ⟨rfl, rfl⟩
  exact h1

end Go.Sl

namespace Go.Sl
open Go Go.Sh

variable {P : Program} {B : Bs} {w : World} {F : List HP}

/-- An array of noughts. -/
theorem bldA_run {t n e k : Nat} {L : List Value} (hu : P.underlying t = some (.array n e)) (hz : zeros P t = some L) (hs : (P.info? e).map (·.size) = some k) :
    (Instr.build t #[]).run P w = .ok (.agg L.toArray) w := by
  obtain ⟨z, h1, h2⟩ := run_zero hz w
  cases hi : P.info? e with
  | none => simp [hi] at hs
  | some i => simp [Instr.build, h1, run_underlying hu, sizeOf, typeInfo, hi, Instr.fill, h2]

/-- A copy of elements of k cells. -/
theorem Sat.copyK {t t2 e b off ty k : Nat} {L cs : List Value} {q : Option Addr} {n m dc sc : Nat} {K : Int → World → Prop} {eT : TypeId} (h : Sat B w (Sl.bk b e L :: F)) (hr : Rd B q cs) (hu : P.underlying t = some (.slice eT)) (hs : (P.info? eT).map (·.size) = some k)
    (hn : cs.length = Nat.min m n * k) (hfit : off + cs.length ≤ L.length) (h1 : ones cs)
    (hk : ∀ w', Sat B w' (Sl.bk b e (L.take off ++ cs ++ L.drop (off + cs.length)) :: F) → K ((Nat.min m n : Nat) : Int) w') : DoI .i64 P (Builtin.copy_ #[t, t2] ty #[.slice (some ⟨b, off, none⟩) n dc, .slice q m sc]) w K := by
  cases hq : P.info? eT with
  | none => simp [hq] at hs
  | some i =>
    have hi : i.size = k := by simpa [hq] using hs
    have hst := st_list (P := P) h1 h.bk hfit
    refine ⟨_, World.put w b (.cells (L.take off ++ cs ++ L.drop (off + cs.length)).toArray e (0, 0)), ?_, hk _ h.put⟩
    cases q with
    | none =>
      rcases hr with h0 | ⟨b', off', L', e', fr, h1, _⟩
      · subst h0
        simp only [List.length_nil] at hn
        have hst' : (storeCells ⟨b, off, none⟩ []).run P w = _ := hst
        simp [Builtin.copy_, run_underlying hu, Builtin.lenOf, Builtin.firstCells, sizeOf, typeInfo, hq, goInt, hst']
      · cases h1
    | some a =>
      have hl := run_loadCells_list (P := P) w a cs (hr.cell h)
      rw [hn] at hl
      simp [Builtin.copy_, run_underlying hu, Builtin.lenOf, Builtin.firstCells, sizeOf, typeInfo, hq, hi, hl, hst, goInt]

end Go.Sl

/- The same text, in a round of a range over a function. -/
namespace Go.Sh
open Go
variable {dfs : List Deferred}

theorem oper_in {P : Program} {n₀ l₀ : Nat} {o : Oper} {a : Act} {w : World} {next : Act → World → Prop} {Q : Exit → Act → World → Prop} (hop : ∀ c, o.op ≠ .defer c) (h : o.wp P a w next Q) : o.wpIn (Fence.wide.inRound l₀) n₀ P a w next Q := by
  refine ⟨fun _ _ => trivial, ?_⟩
  rw [Fence.inRound_round, Oper.semAt_some l₀ _ _ hop]
  unfold Oper.wp at h
  generalize (execOp a.eval o).run P w = r at *
  cases r with
  | ok x w' =>
    cases x <;> simp only [Oper.upon, Oper.uponIn] at h ⊢
    case value => exact h
    case skip => exact h
    case defer => exact h
    case enter => exact ⟨fun h => by simp [Fence.wide, Fence.inRound] at h, CallsIn.inRound l₀ (callsIn_wide.2 h)⟩
    case row => exact ⟨fun h => by simp [Fence.wide, Fence.inRound] at h, fun c cs _ => let ⟨v, w1, r, s⟩ := h c cs; ⟨v, w1, r, stepsIn_wide.2 s⟩⟩
    all_goals exact h.elim
  | halt x w' => cases x <;> simp only [Oper.upon, Oper.uponIn] at h ⊢ <;> exact h

/-- No way out of the reach. -/
theorem list_in {P : Program} {n₀ l₀ : Nat} {ops : Array Oper} {Q : Exit → Act → World → Prop} (hQ : ¬ LetsOut Q) : ∀ (l : List Oper) (a : Act) (w : World), (∀ o ∈ l, ∀ c, o.op ≠ .defer c) → wpList P ops Q l a w → wpListIn (Fence.wide.inRound l₀) n₀ P ops Q l a w
  | [], _, _, _, h => h
  | o :: rest, a, w, hd, h => by
    unfold wpList at h
    unfold wpListIn
    split at h
    · rename_i hw
      rw [if_pos hw]
      rcases h with h | h
      · exact oper_in (hd o (by simp)) (Oper.wp_mono (fun a w => list_in hQ rest a w fun o ho => hd o (by simp [ho])) h)
      · exact absurd h.2 hQ
    · rename_i hw
      rw [if_neg hw]
      exact ⟨fun _ _ => trivial, list_in hQ rest _ _ (fun o ho => hd o (by simp [ho])) h⟩

theorem op_in {P : Program} {n₀ l₀ : Nat} {ops : Array Oper} {Q : Exit → Act → World → Prop} {i : Nat} {K : Act → World → Prop} {a : Act} {w : World} (hQ : ¬ LetsOut Q) (hd : ∀ o ∈ ops.toList, ∀ c, o.op ≠ .defer c) (h : wpOp P ops Q i K a w) :
    wpOpIn (Fence.wide.inRound l₀) n₀ P ops Q i K a w := by
  unfold wpOp at h
  unfold wpOpIn
  split at h
  · rename_i ho; simp only [ho]; exact h
  · rename_i o ho
    simp only [ho]
    split at h
    · rename_i hw
      rw [if_pos hw]
      rcases h with h | h
      · exact oper_in (hd o (Array.mem_toList_iff.2 (Array.mem_of_getElem? ho))) h
      · exact absurd h.2 hQ
    · rename_i hw
      rw [if_neg hw]
      exact ⟨fun _ _ => trivial, h⟩

theorem any_in {P : Program} {n₀ l₀ : Nat} {md : Region.Mode} {ops : Array Oper} {Q : Exit → Act → World → Prop} (hQ : ¬ LetsOut Q) (hd : ∀ o ∈ ops.toList, ∀ c, o.op ≠ .defer c) : ∀ (fuel : Nat) (listed : Array Bool) (a : Act) (w : World), wpAny P md ops Q fuel listed a w → wpAnyIn (Fence.wide.inRound l₀) n₀ P md ops Q fuel listed a w
  | 0, _, _, _, h => h
  | fuel + 1, listed, a, w, h => ⟨h.1, fun i hi => op_in hQ hd (wpOp_mono (fun a w => any_in hQ hd fuel _ a w) (h.2 i hi))⟩

/-- No loop, no deferred call. -/
def plainC : Code → Prop
  | .skip => True
  | .ret => True
  | .exit _ => True
  | .region _ ops _ => ∀ o ∈ ops.toList, ∀ c, o.op ≠ .defer c
  | .seq a b => plainC a ∧ plainC b
  | .cond _ a b => plainC a ∧ plainC b
  | .block _ c => plainC c
  | _ => False
def notDefer : Op → Bool
  | .defer _ => false
  | _ => true
def plainB : Code → Bool
  | .skip => true
  | .ret => true
  | .exit _ => true
  | .region _ ops _ => ops.toList.all fun o => notDefer o.op
  | .seq a b => plainB a && plainB b
  | .cond _ a b => plainB a && plainB b
  | .block _ c => plainB c
  | _ => false
theorem plain_of : ∀ (c : Code), plainB c = true → plainC c
  | .skip, _ => trivial
  | .ret, _ => trivial
  | .exit _, _ => trivial
  | .region _ ops _, h => fun o ho c hc => by
    have h := List.all_eq_true.1 h o ho
    rw [hc] at h
    cases h
  | .seq a b, h => by
    simp only [plainB, Bool.and_eq_true] at h
    exact ⟨plain_of a h.1, plain_of b h.2⟩
  | .cond _ a b, h => by
    simp only [plainB, Bool.and_eq_true] at h
    exact ⟨plain_of a h.1, plain_of b h.2⟩
  | .block _ c, h => plain_of c h
  | .loop _, h => by cases h
  | .rangeFunc .., h => by cases h
  | .scope _, h => by cases h
  | .label _, h => by cases h
  | .goto _, h => by cases h
  | .refuse _, h => by cases h

theorem wpRunIn_ok {P : Program} {n n₀ l₀ id : Nat} {ops : Array Oper} {draw : Bool} {E : Env} {F : List Env} {w : World} {a : Act} {K : Kont} {Q : Exit → Act → World → Prop}
    (hm : P.follows .mixedOrders = true) (hpl : plainC (.region id ops draw)) (hF : OffA (codeDsts (.region id ops draw)) F) (hK : ∀ a E w, Agr dfs n a E → AgA dfs n a F → K E w → Q .normal a w)
    (ha : Agr dfs n a E) (hf : AgA dfs n a F) (h : wpRun P n ops draw E w K) : (Code.region id ops draw).wpIn (Fence.wide.inRound l₀) n₀ P Q a w := by
  have hd : ∀ o ∈ ops.toList, ∀ d, o.dst = some d → Nat.testBit (codeDsts (.region id ops draw)) d = true := fun o ho d hd => dsts_mem _ _ _ (.inr ⟨o, ho, hd⟩)
  have hQ : ¬ LetsOut (fun e a w => e = .normal ∧ Q .normal a w) := fun ⟨_, _, h, _⟩ => by cases h
  refine wpIn_mono (Q := fun e a w => e = .normal ∧ Q .normal a w) ?_ fun e a w hq => by obtain ⟨rfl, hq⟩ := hq; exact hq
  cases draw with
  | false =>
    refine wpIn_region_list (list_in hQ _ _ _ hpl ?_)
    exact wpS_ok (Q := fun e a w => e = .normal ∧ Q .normal a w) hF (fun a E w h1 h2 h3 => ⟨rfl, hK a E w h1 h2 h3⟩) _ _ _ _ _ _ hd ha hf h
  | true =>
    simp only [wpRun] at h
    cases hs : Region.noSelect ops with
    | false => rw [hs] at h; exact h.elim
    | true =>
      rw [hs] at h
      refine wpIn_region_any hm (any_in hQ hpl _ _ _ _ (any_of_anyX _ _ [] _ _ ?_))
      have h' : wpX P n ops (2 * ops.size + 2) ops.size (Array.replicate ops.size false) [] [] E { w with drawn := w.drawn + 1 } K := h _ ⟨rfl, rfl, rfl, rfl⟩
      exact wpX_ok (Q := fun e a w => e = .normal ∧ Q .normal a w) hF (fun i o ho => hd o (Array.mem_toList_iff.2 (Array.mem_of_getElem? ho))) (fun a E w h1 h2 h3 => ⟨rfl, hK a E w h1 h2 h3⟩) (fun _ _ _ h => by cases h.1) hs _ _ _ _ _ _ _ _ ha hf trivial h'

theorem wpcIn_ok {P : Program} {n n₀ l₀ : Nat} (hm : P.follows .mixedOrders = true) : ∀ (c : Code) (lv : Lv) (E : Env) (F : List Env) (w : World) (a : Act) (KN KR : Kont) (KX : List (Nat × Kont)) (Q : Exit → Act → World → Prop),
    OffA (codeDsts c) F → Ks dfs n F KN KR KX Q → plainC c → Agr dfs n a E → AgA dfs n a F → wpc P n c lv E w KN KR KX → c.wpIn (Fence.wide.inRound l₀) n₀ P Q a w := by
  intro c
  induction c with
  | skip => intro lv E F w a KN KR KX Q hF hK hd ha hf h; exact wpIn_skip (hK.normal _ _ _ ha hf h)
  | ret => intro lv E F w a KN KR KX Q hF hK hd ha hf h; exact wpIn_ret (hK.ret _ _ _ ha h)
  | exit id =>
    intro lv E F w a KN KR KX Q hF hK hd ha hf h
    simp only [wpc] at h
    split at h
    · rename_i K hk; exact wpIn_exit (hK.exit id K hk _ _ _ ha hf h)
    · exact h.elim
  | region id ops draw =>
    intro lv E F w a KN KR KX Q hF hK hd ha hf h
    simp only [wpc] at h
    cases hb : branchy P ops draw with
    | false => rw [hb] at h; exact wpRunIn_ok hm hd hF (fun a E w h1 h2 h3 => hK.normal _ _ _ h1 h2 h3) ha hf h
    | true =>
      rw [hb] at h
      simp only [cond_true] at h
      obtain ⟨R, h1, h2⟩ := Jn_ok h
      refine wpRunIn_ok hm hd (F := strike _ E :: F) (off_cons hF) (fun a' E' w' ha' hf' hh => ?_) ha (AgA.cons ha hf _) h1
      obtain ⟨E'', h3, h4⟩ := meet ha' hf' hh h2
      exact hK.normal _ _ _ h3 hf'.tail h4
  | seq x y ihx ihy =>
    intro lv E F w a KN KR KX Q hF hK hd ha hf h
    obtain ⟨hFx, hFy⟩ := off_or hF
    simp only [wpc] at h
    refine wpIn_seq (ihx _ E F w a _ KR KX _ hFx ⟨?_, ?_, ?_⟩ hd.1 ha hf h)
    · intro a' E' w' ha' hf' hk; exact ihy _ E' F w' a' KN KR KX Q hFy hK hd.2 ha' hf' hk
    · intro a' E' w' ha' hk; exact hK.ret _ _ _ ha' hk
    · intro id K hid a' E' w' ha' hf' hk; exact hK.exit id K hid _ _ _ ha' hf' hk
  | cond c x y ihx ihy =>
    intro lv E F w a KN KR KX Q hF hK hd ha hf h
    obtain ⟨hFx, hFy⟩ := off_or hF
    simp only [wpc] at h
    have h := evK_ok ha h
    generalize hv : a.eval c = v at h
    cases v with
    | bool t =>
      simp only at h
      cases hb : falls x && falls y with
      | false =>
        rw [hb] at h
        simp only [cond_false] at h
        exact wpIn_cond_split hv (fun ht => ihx lv E F w a KN KR KX Q hFx hK hd.1 ha hf (by subst ht; exact h)) (fun ht => ihy lv E F w a KN KR KX Q hFy hK hd.2 ha hf (by subst ht; exact h))
      | true =>
        rw [hb] at h
        simp only [cond_true] at h
        obtain ⟨ts, shs, h⟩ : ∃ ts shs, Jn (fun R => Br t (wpc P n x lv E w (fun E w => hand E ts shs R w) KR KX) (wpc P n y lv E w (fun E w => hand E ts shs R w) KR KX))
          fun R => allL shs fun vs => ∀ w, R vs w → KN (zipE ts vs (strike (codeDsts (.cond c x y)) E)) w := ⟨_, _, h⟩
        obtain ⟨R, h1, h2⟩ := Jn_ok h
        have hF' : OffA (codeDsts (.cond c x y)) (strike (codeDsts (.cond c x y)) E :: F) := off_cons hF
        obtain ⟨hFx', hFy'⟩ := off_or hF'
        have hks : Ks dfs n (strike (codeDsts (.cond c x y)) E :: F) (fun E' w' => hand E' ts shs R w') KR KX Q := by
          refine ⟨?_, fun a' E' w' ha' hk => hK.ret _ _ _ ha' hk, fun id K hid a' E' w' ha' hf' hk => hK.exit id K hid _ _ _ ha' hf'.tail hk⟩
          intro a' E' w' ha' hf' hh
          obtain ⟨E'', h3, h4⟩ := meet ha' hf' hh h2
          exact hK.normal _ _ _ h3 hf'.tail h4
        exact wpIn_cond_split hv (fun ht => ihx lv E _ w a _ KR KX Q hFx' hks hd.1 ha (AgA.cons ha hf _) (by subst ht; exact h1)) (fun ht => ihy lv E _ w a _ KR KX Q hFy' hks hd.2 ha (AgA.cons ha hf _) (by subst ht; exact h1))
    | _ => exact h.elim
  | block id c ih =>
    intro lv E F w a KN KR KX Q hF hK hd ha hf h
    simp only [wpc] at h
    refine wpIn_block ?_
    cases hb : Nat.ble 2 (exits id c + (bif falls c then 1 else 0)) with
    | false =>
      rw [hb] at h
      simp only [cond_false] at h
      refine ih _ E F w a KN KR _ _ hF ⟨fun a' E' w' ha' hf' hk => hK.normal _ _ _ ha' hf' hk, fun a' E' w' ha' hk => hK.ret _ _ _ ha' hk, ?_⟩ hd ha hf h
      intro id' K hid a' E' w' ha' hf' hk
      simp only [exitK] at hid
      cases hbe : Nat.beq id id' with
      | true =>
        rw [hbe] at hid
        simp only [cond_true, Option.some.injEq] at hid
        subst hid
        have := Nat.eq_of_beq_eq_true hbe
        subst this
        simp only [Exit.inBlock, if_true]
        exact hK.normal _ _ _ ha' hf' hk
      | false =>
        rw [hbe] at hid
        have hne : id' ≠ id := fun e => by subst e; simp at hbe
        simp only [Exit.inBlock, hne, if_false]
        exact hK.exit id' K hid _ _ _ ha' hf' hk
    | true =>
      rw [hb] at h
      simp only [cond_true] at h
      obtain ⟨ts, shs, h⟩ : ∃ ts shs, Jn (fun R => wpc P n c (lv.into id) E w (fun E w => hand E ts shs R w) KR ((id, fun E w => hand E ts shs R w) :: KX))
        fun R => allL shs fun vs => ∀ w, R vs w → KN (zipE ts vs (strike (codeDsts c) E)) w := ⟨_, _, h⟩
      obtain ⟨R, h1, h2⟩ := Jn_ok h
      have hF' : OffA (codeDsts c) (strike (codeDsts c) E :: F) := off_cons hF
      have hmeet : ∀ a' E' w', Agr dfs n a' E' → AgA dfs n a' (strike (codeDsts c) E :: F) → hand E' ts shs R w' → Q .normal a' w' := by
        intro a' E' w' ha' hf' hh
        obtain ⟨E'', h3, h4⟩ := meet ha' hf' hh h2
        exact hK.normal _ _ _ h3 hf'.tail h4
      refine ih _ E (strike (codeDsts c) E :: F) w a _ KR _ _ hF' ⟨fun a' E' w' ha' hf' hk => hmeet _ _ _ ha' hf' hk, fun a' E' w' ha' hk => hK.ret _ _ _ ha' hk, ?_⟩ hd ha (AgA.cons ha hf _) h1
      intro id' K hid a' E' w' ha' hf' hk
      simp only [exitK] at hid
      cases hbe : Nat.beq id id' with
      | true =>
        rw [hbe] at hid
        simp only [cond_true, Option.some.injEq] at hid
        subst hid
        have := Nat.eq_of_beq_eq_true hbe
        subst this
        simp only [Exit.inBlock, if_true]
        exact hmeet _ _ _ ha' hf' hk
      | false =>
        rw [hbe] at hid
        have hne : id' ≠ id := fun e => by subst e; simp at hbe
        simp only [Exit.inBlock, hne, if_false]
        exact hK.exit id' K hid _ _ _ ha' hf'.tail hk
  | loop c ih => intro lv E F w a KN KR KX Q hF hK hd ha hf h; exact hd.elim
  | rangeFunc f ps x y => intro lv E F w a KN KR KX Q hF hK hd ha hf h; exact h.elim
  | scope c => intro lv E F w a KN KR KX Q hF hK hd ha hf h; exact h.elim
  | label l => intro lv E F w a KN KR KX Q hF hK hd ha hf h; exact h.elim
  | goto l => intro lv E F w a KN KR KX Q hF hK hd ha hf h; exact h.elim
  | refuse s => intro lv E F w a KN KR KX Q hF hK hd ha hf h; exact h.elim

end Go.Sh

/-! a range over a function, over pieces -/
namespace Go.Sl
open Go Go.Sh

variable {P : Program} {B : Bs} {w : World} {F : List HP}

theorem putObj_put (w : World) (b : Nat) (o : Obj) : w.putObj b o = World.put w b o := rfl

/-- How a round's body may be left. -/
def rangeEnd (B : Bs) (I Ix : HP) (Fr : List HP) : Exit → Act → World → Prop
  | .normal, _, W => Sat B W (I :: Fr)
  | .ret, _, W => Sat B W (Ix :: Fr)
  | _, _, _ => False

theorem Sat.range {n : Nat} {g : Operand} {ps : Array Tmp} {assign body : Code} {Q : Exit → Act → World → Prop} {a : Act} {G : List HP} {gf : Nat} {lb : Array Value}
    (hg : a.eval g = .func (.func gf) #[] lb) (eg : ∀ args w, (callFunc gf args).run P w = .ok (.enter gf args) w) (N : Nat) (encs : Nat → Array Value) (hps : ∀ i, (encs i).size = ps.size)
    (I : Nat → HP) (Ix : HP) (h : Sat B w (I 0 :: G)) (Ax : Nat → Act → Prop)
    (hiter : ∀ (l : Nat) (J : Nat → HP) (Jx : HP) (Fr : List HP) (W1 : World), Sat B W1 (J 0 :: Fr) →
      (∀ i W m, i < N → Sat B W (J i :: Fr) → YieldAt Fence.wide m P l (encs i) W fun e W' => (e = .returned (.bool true) ∧ Sat B W' (J (i + 1) :: Fr)) ∨ (e = .returned (.bool false) ∧ Sat B W' (Jx :: Fr))) →
      Calls P gf (#[.func (.yield l) #[] #[]] ++ lb) W1 fun e W' => (∃ v, e = .returned v) ∧ (Sat B W' (J N :: Fr) ∨ Sat B W' (Jx :: Fr)))
    (hassign : ∀ (l i m : Nat) (W : World) (K : Act → World → Prop), i < N → (∀ a', Ax i a' → K a' W) →
      assign.wpIn (Fence.wide.inRound l) m P (Exit.then K (fun _ _ _ => False)) { tmps := (ps.zip (encs i)).foldl (fun t (p, v) => t.setIfInBounds p v) a.tmps, defers := [] } W)
    (hbody : ∀ (l i m : Nat) (W : World) (Fr : List HP) (a' : Act), i < N → Ax i a' → Sat B W (I i :: Fr) → body.wpIn (Fence.wide.inRound l) m P (rangeEnd B (I (i + 1)) Ix Fr) a' W)
    (hdone : ∀ (D : Nat) (W : World), Sat B W (I N :: Sl.blk D (.deferred (some [])) :: G) → Q .normal { a with defers := { target := .collected D, args := #[] } :: a.defers } W)
    (hstop : ∀ (D : Nat) (W : World), Sat B W (Ix :: Sl.blk D (.deferred (some [])) :: G) → Q .ret { a with defers := { target := .collected D, args := #[] } :: a.defers } W) :
    (Code.rangeFunc g ps assign body).wp P Q a w := by
  rw [← wpIn_wide (n := n)]
  refine wpIn_rangeFunc ?_
  intro fn hfn
  obtain ⟨rec, hrec⟩ : ∃ rec : LoopState → Option Code → Loop, rec = fun st pe => { state := st, pending := pe, fn, tmps := a.tmps, params := ps, assign, body, defers := w.heap.size } := ⟨_, rfl⟩
  obtain ⟨W1, hW1⟩ : ∃ W1, (w.alloc (.deferred (some []))).alloc (.loop (rec .ready none)) = W1 := ⟨_, rfl⟩
  have hS : Sat B W1 (Sl.blk (w.heap.size + 1) (.loop (rec .ready none)) :: Sl.blk w.heap.size (.deferred (some [])) :: I 0 :: G) := by
    rw [← hW1]
    have := (h.alloc (.deferred (some []))).alloc (.loop (rec .ready none))
    rw [World.size_alloc] at this
    exact this
  refine ⟨w.heap.size + 1, [{ target := .collected w.heap.size, args := #[] }], W1, { target := .fn (.func gf) lb, args := #[.func (.yield (w.heap.size + 1)) #[] #[]] }, W1, gf,
    #[.func (.yield (w.heap.size + 1)) #[] #[]] ++ lb, W1, ?_, ?_, fun _ _ => trivial, ?_, fun h => by simp [Fence.wide] at h, ?_⟩
  · rw [← hW1, hrec]; exact run_enterLoop_outer _ _ _ _ _
  · simp only [resolve, hg]
    simp [go_sem]
  · simp [invoke, go_sem, eg]
  · rw [callsIn_wide]
    have := hiter (w.heap.size + 1) (fun i => all [I i, Sl.blk (w.heap.size + 1) (.loop (rec .ready none))]) (all [Ix, Sl.blk (w.heap.size + 1) (.loop (rec .done (some .ret)))]) (Sl.blk w.heap.size (.deferred (some [])) :: G) W1
      (Sat.packup (l := [I 0, Sl.blk (w.heap.size + 1) (.loop (rec .ready none))]) ((hS.pull 1).pull 1 |>.pull 2)) ?_
    · refine Calls.mono this ?_
      rintro e W2 ⟨⟨v, rfl⟩, h | h⟩
      · have h := h.unpack
        have h := Sat.pull 1 h
        refine ⟨none, _, by have := run_endLoop (P := P) (Sat.blk h) (by rw [hrec]; simp); rw [hrec] at this; exact this, ?_⟩
        exact hdone _ _ (h.put.tail)
      · have h := h.unpack
        have h := Sat.pull 1 h
        refine ⟨some .ret, _, by have := run_endLoop (P := P) (Sat.blk h) (by rw [hrec]; simp); rw [hrec] at this; exact this, ?_⟩
        exact wpIn_ret (hstop _ _ (h.put.tail))
    · intro i W m hi h
      have h := Sat.pull 1 h.unpack
      have hl := Sat.blk h
      have hy := run_yield (P := P) (args := encs i) hl (by rw [hrec]; exact hps i)
      rw [hrec] at hy
      refine ⟨fn, _, assign, body, hy, roundIn_of_wpIn hfn (hassign _ i _ W _ hi fun a' ha' => ⟨_, run_beginRound hl (by rw [hrec]), ?_⟩)⟩
      have h : Sat B _ (Sl.blk (w.heap.size + 1) (.loop { rec .ready none with state := .busy }) :: _) := h.put
      refine wpIn_mono (hbody _ i _ _ _ a' hi ha' (h.pull 1)) ?_
      rintro e a3 W3 hp
      cases e with
      | normal =>
        have hp : Sat B W3 (_ :: _) := hp
        have hp := Sat.pull 1 hp
        have hr := run_endRound (P := P) none (Sat.blk hp)
        refine ⟨_, _, hr, .inl ⟨rfl, ?_⟩⟩
        have hq := Sat.pull 1 (hp.put (o' := .loop (rec .ready none)))
        rw [hrec] at hq ⊢
        exact Sat.packup (l := [_, _]) hq
      | ret =>
        have hp : Sat B W3 (_ :: _) := hp
        have hp := Sat.pull 1 hp
        have hr := run_endRound (P := P) (some .ret) (Sat.blk hp)
        refine ⟨_, _, hr, .inr ⟨rfl, ?_⟩⟩
        have hq := Sat.pull 1 (hp.put (o' := .loop (rec .done (some .ret))))
        rw [hrec] at hq ⊢
        exact Sat.packup (l := [_, _]) hq
      | exit id => exact hp.elim
      | goto t => exact hp.elim
      | panic ch => exact hp.elim
      | outgrown => exact hp.elim

end Go.Sl
