/- What was packed is unpacked again; disks, commits, turns and saves against their references; the rows in and out. -/
import Derived.Test.YtnmkbnfidjoljaaDoorGg
import Derived.Test.YtnmkbnfidjoljaaDoorTie
import Derived.ProofKit
import Derived.OpenShut
import Derived.LaidMore
import Derived.Lay
import Derived.SevenTiedAt
import Derived.Stop.Joined
import Derived.Carry

/-! the ideal world's order -/
set_option maxRecDepth 20000
namespace Go.Dv
open Go Go.Sh Go.Sl

/-- What was made stays, with its number. -/
structure Id.le (I J : Id) : Prop where
  made : I.made <+: J.made
  texts : ∀ x ∈ I.texts, x ∈ J.texts

theorem Id.le.refl (I : Id) : I.le I := ⟨List.prefix_refl _, fun _ h => h⟩
theorem Id.le.trans {I J K : Id} (h1 : I.le J) (h2 : J.le K) : I.le K := ⟨h1.made.trans h2.made, fun x h => h2.texts x (h1.texts x h)⟩
theorem Id.le.mem {I J : Id} (h : I.le J) {s : List UInt8} (hs : s ∈ I.made) : s ∈ J.made := by
  obtain ⟨t, ht⟩ := h.made
  rw [← ht]; exact List.mem_append_left _ hs
theorem Id.le.no {I J : Id} (h : I.le J) {s : List UInt8} (hs : s ∈ I.made) : J.no s = I.no s := by
  obtain ⟨t, ht⟩ := h.made
  unfold Id.no
  rw [← ht, List.idxOf_append, if_pos hs]

theorem Id.put_in {I : Id} {s : List UInt8} (h : s ∈ I.made) : I.put s = I := by
  unfold Id.put; rw [if_pos h]
theorem Id.le_put (I : Id) (s : List UInt8) : I.le (I.put s) := by
  unfold Id.put
  split
  · exact Id.le.refl I
  · exact ⟨List.prefix_append _ _, fun _ h => h⟩
theorem Id.in_put (I : Id) (s : List UInt8) : s ∈ (I.put s).made := by
  unfold Id.put
  split
  · assumption
  · simp
theorem Id.put_nodup {I : Id} (h : I.made.Nodup) (s : List UInt8) : (I.put s).made.Nodup := by
  unfold Id.put
  split
  · exact h
  · rename_i hs
    simp only [List.nodup_append, List.nodup_cons, List.not_mem_nil, not_false_eq_true, List.nodup_nil, and_self, List.mem_singleton]
    refine ⟨h, trivial, ?_⟩
    intro a ha b hb e
    subst hb; subst e
    exact hs ha

theorem no_inj {I : Id} {s t : List UInt8} (hs : s ∈ I.made) (h : I.no s = I.no t) (ht : t ∈ I.made) : s = t := by
  unfold Id.no at h
  have h1 : I.made.idxOf s = I.made.idxOf t := by omega
  have a := List.idxOf_lt_length_of_mem hs
  have b := List.idxOf_lt_length_of_mem ht
  have e1 : I.made[I.made.idxOf s] = s := List.getElem_idxOf a
  have e2 : I.made[I.made.idxOf t] = t := List.getElem_idxOf b
  rw [← e1, ← e2]
  congr 1
theorem no_le {I : Id} {s : List UInt8} (hs : s ∈ I.made) : I.no s ≤ I.made.length := by
  have a := List.idxOf_lt_length_of_mem hs
  unfold Id.no; omega

theorem thg_inj {k : UInt8} {n m a b : Nat} (ha : a < 4611686018427387904) (hb : b < 4611686018427387904) (h : thg k n a = thg k m b) : a = b := by
  unfold thg at h
  rw [List.append_assoc, List.append_assoc] at h
  have h3 := List.append_inj h (by rw [num8_length, num8_length])
  have := num8_inj (a := (a : Int)) (b := (b : Int)) (by omega) (by omega) (by omega) (by omega) h3.1
  omega

structure Id.wf (I : Id) : Prop where
  nodup : I.made.Nodup
  keys : (I.texts.map (·.1)).Nodup
  each : ∀ x ∈ I.texts, ∃ key nonce known, ∃ r : Rec, r.good = true ∧ x.2 = r.bytes ∧ key.length ≤ 1000 ∧ nonce.length ≤ 1000 ∧ known.length ≤ 1000 ∧ nm 83 [key, nonce, known, x.2] ∈ I.made ∧ x.1 = nm 83 [key, nonce, known, thg 83 (x.2.length + 16) (I.no (nm 83 [key, nonce, known, x.2]))]

theorem Id.wf.recs {I : Id} (h : I.wf) : I.recs := fun x hx => by
  obtain ⟨_, _, _, r, h1, h2, _⟩ := h.each x hx
  exact ⟨r, h1, h2.symm⟩

theorem Id.wf_put {I : Id} (h : I.wf) (s : List UInt8) : (I.put s).wf := by
  have hle := Id.le_put I s
  refine ⟨Id.put_nodup h.nodup s, by rw [put_texts]; exact h.keys, fun x hx => ?_⟩
  rw [put_texts] at hx
  obtain ⟨key, nonce, known, r, h1, h2, h3, h4, h5, h6, h7⟩ := h.each x hx
  exact ⟨key, nonce, known, r, h1, h2, h3, h4, h5, hle.mem h6, by rw [hle.no h6]; exact h7⟩

theorem rec_small {r : Rec} (h : r.good = true) : r.bytes.length ≤ 548 := by
  rw [Rec.bytes_length]
  have := (good_spans h).2.2.2.2.2
  omega

theorem setT_keys {a t : List UInt8} : ∀ {l : List (List UInt8 × List UInt8)}, (l.map (·.1)).Nodup → ((setT a t l).map (·.1)).Nodup
  | [], _ => by simp [setT]
  | (x, y) :: l, h => by
    rw [List.map_cons, List.nodup_cons] at h
    unfold setT
    split
    · rename_i e
      subst e
      rw [List.map_cons, List.nodup_cons]; exact h
    · rename_i hne
      rw [List.map_cons, List.nodup_cons]
      refine ⟨fun hm => ?_, setT_keys h.2⟩
      obtain ⟨p, hp, hpe⟩ := List.mem_map.1 hm
      rcases mem_setT_of hp with e | ⟨e, _⟩
      · subst e
        exact hne hpe.symm
      · exact h.1 (List.mem_map.2 ⟨p, e, hpe⟩)

/-- The key under which a sealed text is found. -/
def sealK (I : Id) (key nonce known t : List UInt8) : List UInt8 := nm 83 [key, nonce, known, I.sealed key nonce known t]

theorem seal_same {I : Id} (h : I.wf) {key nonce known t : List UInt8} (hk : key.length ≤ 1000) (hn : nonce.length ≤ 1000) (hw : known.length ≤ 1000) (ht : t.length ≤ 1000) (hI : I.made.length < 4000000000000000000) {x : List UInt8 × List UInt8} (hx : x ∈ I.texts) (he : x.1 = sealK I key nonce known t) : x.2 = t := by
  have hle := Id.le_put I (nm 83 [key, nonce, known, t])
  have hin := Id.in_put I (nm 83 [key, nonce, known, t])
  have hml := Id.put_le I (nm 83 [key, nonce, known, t])
  obtain ⟨key', nonce', known', r, h1, h2, h3, h4, h5, h6, h7⟩ := h.each x hx
  have hxl : x.2.length ≤ 1000 := by rw [h2]; have := rec_small h1; omega
  rw [h7] at he
  unfold sealK Id.sealed at he
  have hnm := nm_inj (k := 83) (by simp) (fun p hp => by
      simp only [List.mem_cons, List.not_mem_nil, or_false] at hp
      rcases hp with rfl | rfl | rfl | rfl
      · omega
      · omega
      · omega
      · rw [thg_length (by omega)]; omega) (fun p hp => by
      simp only [List.mem_cons, List.not_mem_nil, or_false] at hp
      rcases hp with rfl | rfl | rfl | rfl
      · omega
      · omega
      · omega
      · rw [thg_length (by omega)]; omega) he
  simp only [List.cons.injEq, and_true] at hnm
  obtain ⟨rfl, rfl, rfl, hthg⟩ := hnm
  have hno := thg_inj (by have := no_le h6; omega) (by have := no_le hin; omega) hthg
  rw [← hle.no h6] at hno
  have := no_inj (hle.mem h6) hno hin
  have hnm2 := nm_inj (k := 83) (by simp) (fun p hp => by
      simp only [List.mem_cons, List.not_mem_nil, or_false] at hp
      rcases hp with rfl | rfl | rfl | rfl <;> omega) (fun p hp => by
      simp only [List.mem_cons, List.not_mem_nil, or_false] at hp
      rcases hp with rfl | rfl | rfl | rfl <;> omega) this
  simp only [List.cons.injEq, and_true, true_and] at hnm2
  exact hnm2

theorem Id.le_seal {I : Id} (h : I.wf) {key nonce known t : List UInt8} (hk : key.length ≤ 1000) (hn : nonce.length ≤ 1000) (hw : known.length ≤ 1000) (ht : t.length ≤ 1000) (hI : I.made.length < 4000000000000000000) : I.le (I.sealT key nonce known t) := by
  refine ⟨(Id.le_put I _).made, fun x hx => ?_⟩
  show x ∈ setT _ _ _
  rw [put_texts]
  by_cases he : x.1 = sealK I key nonce known t
  · have := seal_same h hk hn hw ht hI hx he
    obtain ⟨x1, x2⟩ := x
    simp only at he this
    subst he this
    exact mem_setT
  · exact setT_keeps he hx

theorem Id.wf_seal {I : Id} (h : I.wf) {key nonce known : List UInt8} {r : Rec} (hk : key.length ≤ 1000) (hn : nonce.length ≤ 1000) (hw : known.length ≤ 1000) (hr : r.good = true) (hI : I.made.length < 4000000000000000000) : (I.sealT key nonce known r.bytes).wf := by
  have hwp := Id.wf_put h (nm 83 [key, nonce, known, r.bytes])
  refine ⟨hwp.nodup, setT_keys hwp.keys, fun x hx => ?_⟩
  have hx : x ∈ setT (sealK I key nonce known r.bytes) r.bytes (I.put (nm 83 [key, nonce, known, r.bytes])).texts := hx
  rcases mem_setT_of hx with e | ⟨e, _⟩
  · subst e
    exact ⟨key, nonce, known, r, hr, rfl, hk, hn, hw, Id.in_put I _, rfl⟩
  · exact hwp.each x e

theorem Id.text_seal (I : Id) (key nonce known t : List UInt8) : (sealK I key nonce known t, t) ∈ (I.sealT key nonce known t).texts := mem_setT

/-- Digests and keys are the same again. -/
theorem Id.hash_in {I J : Id} {t : List UInt8} (h : (I.hash t).le J) : J.hash t = J := Id.put_in (h.mem (Id.in_put I _))
theorem Id.dig_in {I J : Id} {t : List UInt8} (h : (I.hash t).le J) : J.dig t = I.dig t := by
  unfold Id.dig
  rw [Id.hash_in h]
  unfold Id.hash at *
  rw [h.no (Id.in_put I _)]
theorem Id.derive_in {I J : Id} {k t : List UInt8} (h : (I.derive k t).le J) : J.derive k t = J := Id.put_in (h.mem (Id.in_put I _))
theorem Id.key_in {I J : Id} {k t : List UInt8} (h : (I.derive k t).le J) : J.key k t = I.key k t := by
  unfold Id.key
  rw [Id.derive_in h]
  unfold Id.derive at *
  rw [h.no (Id.in_put I _)]

theorem dig_inj {I : Id} {s t : List UInt8} (hs : nm 72 [s] ∈ I.made) (ht : nm 72 [t] ∈ I.made) (hI : I.made.length < 4000000000000000000) (hsl : s.length < 1000000) (htl : t.length < 1000000) (h : I.dig s = I.dig t) : s = t := by
  unfold Id.dig Id.hash at h
  rw [Id.put_in hs, Id.put_in ht] at h
  have hno := thg_inj (by have := no_le hs; omega) (by have := no_le ht; omega) h
  have := no_inj hs hno ht
  have hnm := nm_inj (k := 72) (by simp) (fun p hp => by simp only [List.mem_cons, List.not_mem_nil, or_false] at hp; subst hp; omega) (fun p hp => by simp only [List.mem_cons, List.not_mem_nil, or_false] at hp; subst hp; omega) this
  simpa using hnm

/-- The root again. -/
theorem rootF_le : ∀ (f : Nat) (I : Id) (l : List (List UInt8)), I.le (rootF f I l).1
  | f, I, [] => by cases f <;> exact Id.le_put I _
  | f, I, [x] => by cases f <;> exact Id.le.refl I
  | 0, I, _ :: _ :: _ => Id.le.refl I
  | f + 1, I, x :: y :: l => by
    simp only [rootF]
    exact ((rootF_le f I _).trans (rootF_le f _ _)).trans (Id.le_put _ _)
theorem rootF_again : ∀ (f : Nat) (I J : Id) (l : List (List UInt8)), (rootF f I l).1.le J → rootF f J l = (J, (rootF f I l).2)
  | f, I, J, [], h => by
    cases f <;> exact Prod.ext (Id.hash_in h) (Id.dig_in h)
  | f, I, J, [x], h => by cases f <;> rfl
  | 0, I, J, _ :: _ :: _, h => rfl
  | f + 1, I, J, x :: y :: l, h => by
    simp only [rootF] at h ⊢
    generalize half (x :: y :: l).length = k at *
    generalize (x :: y :: l) = L at *
    have h1 := (Id.le_put _ _).trans h
    have h2 := (rootF_le f (rootF f I (L.take k)).1 (L.drop k)).trans h1
    rw [rootF_again f I J _ h2, rootF_again f (rootF f I (L.take k)).1 J _ h1]
    exact Prod.ext (Id.hash_in h) (Id.dig_in h)
theorem rootF_wf : ∀ (f : Nat) (I : Id) (l : List (List UInt8)), I.wf → (rootF f I l).1.wf
  | f, I, [], h => by cases f <;> exact Id.wf_put h _
  | f, I, [x], h => by cases f <;> exact h
  | 0, I, _ :: _ :: _, h => h
  | f + 1, I, x :: y :: l, h => by
    simp only [rootF]
    exact Id.wf_put (rootF_wf f _ _ (rootF_wf f _ _ h)) _

end Go.Dv

/-! what was packed is unpacked again -/
set_option maxRecDepth 20000
namespace Go.Dv
open Go Go.Sh Go.Sl

theorem Rec.bytes_inj {a b : Rec} (ha : a.good = true) (hb : b.good = true) (h : a.bytes = b.bytes) : a = b := by
  obtain ⟨a1, a2, a3, a4, a5, a6⟩ := good_spans ha
  obtain ⟨b1, b2, b3, b4, b5, b6⟩ := good_spans hb
  unfold Rec.bytes at h
  simp only [List.flatMap_cons, List.flatMap_nil, List.append_nil, List.append_assoc] at h
  obtain ⟨h0, h⟩ := List.append_inj h rfl
  obtain ⟨h1, h⟩ := List.append_inj h (by rw [num8_length, num8_length])
  obtain ⟨h2, h⟩ := List.append_inj h (by rw [num8_length, num8_length])
  obtain ⟨h3, h⟩ := List.append_inj h (by rw [num8_length, num8_length])
  obtain ⟨h4, h⟩ := List.append_inj h (by rw [num8_length, num8_length])
  have e0 : a.kind = b.kind := by
    simp only [List.cons.injEq, and_true] at h0
    have e1 := by8_toNat a.kind
    have e2 := by8_toNat b.kind
    rw [h0] at e1
    omega
  have e1 := num8_inj (by omega) (by omega) (by omega) (by omega) h1
  have e2 := num8_inj (by omega) (by omega) (by omega) (by omega) h2
  have e3 := num8_inj (by omega) (by omega) (by omega) (by omega) h3
  have e4 := num8_inj (by omega) (by omega) (by omega) (by omega) h4
  have e5 : a.body = b.body := by
    unfold txt at h
    exact (List.append_inj h rfl).2
  cases a; cases b
  simp only at e0 e1 e2 e3 e4 e5
  subst e0 e1 e2 e3 e4 e5
  rfl

theorem recOf_good {r : Rec} (h : r.good = true) : recOf r.bytes = some r := by
  obtain ⟨r', h1, h2, h3⟩ := recOf_bytes h
  rw [h1, Rec.bytes_inj h2 h h3]

theorem upAt_made {q : Int} {c rest : List UInt8} (hq : 0 ≤ q ∧ q ≤ 16) (hc : c.length ≤ 16384) : upAt (num8 q ++ txt c ++ rest) = some (q, c, rest) := by
  have hl : (num8 q).length = 8 := num8_length q
  have e1 : (num8 q ++ txt c ++ rest).take 8 = num8 q := by rw [List.append_assoc]; exact List.take_left' hl
  have e2 : (num8 q ++ txt c ++ rest).drop 8 = txt c ++ rest := by rw [List.append_assoc]; exact List.drop_left' hl
  have e3 : num (num8 q) = q := num_num8 (by omega) (by omega)
  have e4 : txt c ++ rest = [by8 c.length, by8 (c.length / 2 ^ 8), by8 (c.length / 2 ^ 16)] ++ (c ++ rest) := by simp [txt]
  have e5 : (txt c ++ rest).take 3 = [by8 c.length, by8 (c.length / 2 ^ 8), by8 (c.length / 2 ^ 16)] := by rw [e4]; rfl
  have e6 : (txt c ++ rest).drop 3 = c ++ rest := by rw [e4]; rfl
  have e7 := le_three (n := c.length) (by omega)
  unfold upAt
  rw [e1, e2, e3, e5, e6, e7]
  rw [if_pos ⟨by simp [hl], hq.1, hq.2, by simp [txt_length]; omega, by omega, by simp only [List.length_append]; omega⟩]
  rw [Int.toNat_natCast, List.take_left' rfl, List.drop_left' rfl]

/-- The worlds along a frame. -/
theorem packF_world {I : Id} {V : Vt} {at_ : List UInt8} {e s : Int} {n : Nat} {rs : List Rec} (hw : I.wf) (hat : at_.length = 32) (hg : ∀ r ∈ rs, r.good = true) (hI : I.made.length + 3 * rs.length < 4000000000000000000) : ∀ {i : Nat}, i ≤ rs.length →
    (packF I V at_ e s n (rs.take i)).I.wf ∧ I.le (packF I V at_ e s n (rs.take i)).I
  | 0, _ => by simpa [packF] using ⟨hw, Id.le.refl I⟩
  | i + 1, h => by
    obtain ⟨h1, h2⟩ := packF_world (V := V) (e := e) (s := s) (n := n) hw hat hg hI (i := i) (by omega)
    have hf := packF_facts (I := I) (V := V) (at_ := at_) (e := e) (s := s) (n := n) (rs := rs) (i := i) (by omega)
    have hlt : i < rs.length := h
    rw [packF_take hlt]
    generalize packF I V at_ e s n (rs.take i) = X at *
    have hgi := hg _ (List.getElem_mem hlt)
    have hm : (X.I.derive X.V.master (keyT rs[i].queue)).made.length ≤ X.I.made.length + 1 := Id.put_le _ _
    have hd : X.I.le (X.I.derive X.V.master (keyT rs[i].queue)) := Id.le_put _ _
    have hwd : (X.I.derive X.V.master (keyT rs[i].queue)).wf := Id.wf_put h1 _
    have b1 : (X.I.key X.V.master (keyT rs[i].queue)).length ≤ 1000 := by rw [key_length]; omega
    have b2 : (nonceB e (s + i)).length ≤ 1000 := by rw [nonceB_length]; omega
    have b3 : (placeT at_ (i : Int) n).length ≤ 1000 := by rw [placeT_length hat]; omega
    have b4 : rs[i].bytes.length ≤ 1000 := by have := rec_small hgi; omega
    have hs := Id.le_seal hwd b1 b2 b3 b4 (by omega)
    have hws := Id.wf_seal hwd b1 b2 b3 hgi (by omega)
    exact ⟨Id.wf_put hws _, h2.trans ((hd.trans hs).trans (Id.le_put _ _))⟩

theorem packF_next {I : Id} {V : Vt} {at_ : List UInt8} {e s : Int} {n : Nat} {rs : List Rec} (hw : I.wf) (hat : at_.length = 32) (hg : ∀ r ∈ rs, r.good = true) (hI : I.made.length + 3 * rs.length < 4000000000000000000) {i : Nat} (hlt : i < rs.length) :
    (sealI (packF I V at_ e s n (rs.take i)).I V.master at_ e s n i rs[i]).le (packF I V at_ e s n (rs.take (i + 1))).I ∧ ((packF I V at_ e s n (rs.take i)).I.derive V.master (keyT rs[i].queue)).le (sealI (packF I V at_ e s n (rs.take i)).I V.master at_ e s n i rs[i]) := by
  obtain ⟨h1, h2⟩ := packF_world (V := V) (e := e) (s := s) (n := n) hw hat hg hI (i := i) (by omega)
  have hf := packF_facts (I := I) (V := V) (at_ := at_) (e := e) (s := s) (n := n) (rs := rs) (i := i) (by omega)
  rw [packF_take hlt]
  generalize packF I V at_ e s n (rs.take i) = X at *
  rw [← hf.2.2.2.2.1]
  have hgi := hg _ (List.getElem_mem hlt)
  have hm : (X.I.derive X.V.master (keyT rs[i].queue)).made.length ≤ X.I.made.length + 1 := Id.put_le _ _
  refine ⟨Id.le_put _ _, Id.le_seal (Id.wf_put h1 _) (by rw [key_length]; omega) (by rw [nonceB_length]; omega) (by rw [placeT_length hat]; omega) (by have := rec_small hgi; omega) (Nat.lt_of_le_of_lt hm (by omega))⟩

theorem packF_all {I : Id} {V : Vt} {at_ : List UInt8} {e s : Int} {n : Nat} {rs : List Rec} (hw : I.wf) (hat : at_.length = 32) (hg : ∀ r ∈ rs, r.good = true) (hI : I.made.length + 3 * rs.length < 4000000000000000000) : ∀ (k : Nat) {i : Nat}, i + k = rs.length →
    (packF I V at_ e s n (rs.take i)).I.le (packF I V at_ e s n rs).I
  | 0, i, h => by
    have : i = rs.length := by omega
    rw [this, List.take_length]
    exact Id.le.refl _
  | k + 1, i, h => by
    have hlt : i < rs.length := by omega
    obtain ⟨h1, h2⟩ := packF_next (V := V) (e := e) (s := s) (n := n) hw hat hg hI hlt
    have h3 : (packF I V at_ e s n (rs.take i)).I.le ((packF I V at_ e s n (rs.take i)).I.derive V.master (keyT rs[i].queue)) := Id.le_put _ _
    exact ((h3.trans h2).trans h1).trans (packF_all hw hat hg hI k (i := i + 1) (by omega))

theorem upF_again {I J : Id} {V W : Vt} {at_ : List UInt8} {e s : Int} {rs : List Rec} (hw : I.wf) (hat : at_.length = 32) (hg : ∀ r ∈ rs, r.good = true) (hI : I.made.length + 3 * rs.length < 4000000000000000000)
    (hle : (packF I V at_ e s rs.length rs).I.le J) (hJ : J.wf) (hm : W.master = V.master) (hmay : ∀ i : Nat, i < rs.length → W.may e (s + i) = 0) : ∀ (k i : Nat), i + k = rs.length →
    ∃ T, (packF I V at_ e s rs.length rs).body = (packF I V at_ e s rs.length (rs.take i)).body ++ T ∧ ∀ root, upF W e s at_ (rs.length : Int) k i ⟨J, T ++ root, false, rs.take i, (packF I V at_ e s rs.length (rs.take i)).leaves⟩ = (⟨J, root, false, rs, (packF I V at_ e s rs.length rs).leaves⟩, 0)
  | 0, i, h => by
    have : i = rs.length := by omega
    rw [this, List.take_length]
    exact ⟨[], by simp, fun root => rfl⟩
  | k + 1, i, h => by
    have hlt : i < rs.length := by omega
    obtain ⟨T, hT, hrun⟩ := upF_again hw hat hg hI hle hJ hm hmay k (i + 1) (by omega)
    obtain ⟨h1, h2⟩ := packF_next (V := V) (e := e) (s := s) (n := rs.length) hw hat hg hI hlt
    have h3 := (packF_all (V := V) (e := e) (s := s) (n := rs.length) hw hat hg hI k (i := i + 1) (by omega)).trans hle
    have hf := packF_facts (I := I) (V := V) (at_ := at_) (e := e) (s := s) (n := rs.length) (rs := rs) (i := i) (by omega)
    have hgi := hg _ (List.getElem_mem hlt)
    have hsp := good_spans hgi
    have hbs := rec_small hgi
    have ht : rs.take (i + 1) = rs.take i ++ [rs[i]] := by rw [List.take_add_one, List.getElem?_eq_getElem hlt]; rfl
    have hP := packF_take (I := I) (V := V) (at_ := at_) (e := e) (s := s) (n := rs.length) hlt
    rw [hP] at h1 h3 hT hrun
    generalize packF I V at_ e s rs.length (rs.take i) = X at *
    have hmX : X.V.master = V.master := hf.2.2.2.2.1
    rw [← hmX] at h1 h2 hm
    obtain ⟨c, hc⟩ : ∃ c, c = sealB X.I X.V.master at_ e s rs.length i rs[i] := ⟨_, rfl⟩
    have hcl : c.length = rs[i].bytes.length + 16 := by rw [hc, sealB_length]
    refine ⟨num8 rs[i].queue ++ txt c ++ T, ?_, fun root => ?_⟩
    · rw [hT]
      simp only [Pk.step, ← hc, List.append_assoc]
    · have hd : (X.I.derive X.V.master (keyT rs[i].queue)).le J := (h2.trans h1).trans h3
      have e1 : J.derive W.master (keyT rs[i].queue) = J := by rw [hm]; exact Id.derive_in hd
      have e2 : J.key W.master (keyT rs[i].queue) = X.I.key X.V.master (keyT rs[i].queue) := by rw [hm]; exact Id.key_in hd
      have e3 : J.text (nm 83 [X.I.key X.V.master (keyT rs[i].queue), nonceB e (s + i), placeT at_ i rs.length, c]) = some rs[i].bytes := by
        refine Id.text_mem hJ.keys ((h1.trans h3).texts _ ?_)
        rw [hc]
        exact Id.text_seal _ _ _ _ _
      have e4 := recOf_good hgi
      have hlf : ((sealI X.I X.V.master at_ e s rs.length i rs[i]).leaf c).le J := by rw [hc]; exact h3
      have e5 : J.leaf c = J := Id.hash_in hlf
      have e6 : J.leafD c = (sealI X.I X.V.master at_ e s rs.length i rs[i]).leafD c := Id.dig_in hlf
      have es : upStep W e s at_ (rs.length : Int) i ⟨J, num8 rs[i].queue ++ txt c ++ T ++ root, false, rs.take i, X.leaves⟩ = (⟨J, T ++ root, false, rs.take i ++ [rs[i]], X.leaves ++ [(sealI X.I X.V.master at_ e s rs.length i rs[i]).leafD c]⟩, 0) := by
        unfold upStep
        simp only
        rw [show num8 rs[i].queue ++ txt c ++ T ++ root = num8 rs[i].queue ++ txt c ++ (T ++ root) by simp, upAt_made (by omega) (by omega)]
        simp only
        unfold upRec
        simp only [hmay i hlt, ne_eq, not_true_eq_false, if_false, e1, e2, e3, e4, e5, e6]
      unfold upF
      simp only [es]
      simp only [Bool.false_eq_true, if_false, ne_eq, not_true_eq_false]
      have := hrun root
      rw [ht] at this
      simp only [Pk.step] at this
      rw [← hc] at this
      exact this

structure Fm where
  recs : List Rec
  bytes : List UInt8

/-- A frame that the ideal world knows. -/
structure Knows (I : Id) (m : List UInt8) (lim e s : Int) (hd : List UInt8) (f : Fm) : Prop where
  len : f.bytes.length = fsize f.recs
  small : fsize f.recs ≤ 16384
  flen : flen f.bytes = f.bytes.length
  ne : f.recs ≠ []
  good : ∀ r ∈ f.recs, r.good = true
  made : nm 72 [hd ++ f.bytes] ∈ I.made
  opens : ∀ J W, I.le J → J.wf → W.master = m → W.limit = lim → unpackF J W e s hd f.bytes = (J, .inr (f.recs, J.dig (hd ++ f.bytes)))

theorem Knows.mono {I J : Id} {m : List UInt8} {lim e s : Int} {hd : List UInt8} {f : Fm} (h : Knows I m lim e s hd f) (hle : I.le J) : Knows J m lim e s hd f :=
  ⟨h.len, h.small, h.flen, h.ne, h.good, hle.mem h.made, fun K W h1 h2 h3 h4 => h.opens K W (hle.trans h1) h2 h3 h4⟩

/-- The world behind a frame. -/
def packH (I : Id) (V : Vt) (at_ : List UInt8) (e s : Int) (rs : List Rec) : Id := (packI I V at_ e s rs).hash (at_ ++ packB I V at_ e s rs)

theorem fsize_low (rs : List Rec) : 48 + 63 * rs.length ≤ fsize rs := by
  unfold fsize
  have : 36 * rs.length ≤ sizes rs := by
    induction rs with
    | nil => simp [sizes]
    | cons r rs ih =>
      simp only [sizes, List.map_cons, List.sum_cons, List.length_cons] at ih ⊢
      omega
  omega

theorem knows_pack {I : Id} {V : Vt} {at_ : List UInt8} {e s : Int} {rs : List Rec} (hw : I.wf) (hat : at_.length = 32) (hne : rs ≠ []) (hg : ∀ r ∈ rs, r.good = true) (hsz : fsize rs ≤ 16384) (hmay : ∀ i : Nat, i < rs.length → V.may e (s + i) = 0) (hI : I.made.length < 1000000000000000000) :
    Knows (packH I V at_ e s rs) V.master V.limit e s at_ ⟨rs, packB I V at_ e s rs⟩ ∧ I.le (packH I V at_ e s rs) ∧ (packH I V at_ e s rs).wf := by
  have hlow := fsize_low rs
  have hlen : rs.length ≤ 260 := by omega
  have hI3 : I.made.length + 3 * rs.length < 4000000000000000000 := by omega
  have hpl : (packB I V at_ e s rs).length = fsize rs := pack_len
  have hfl := flen_pack (I := I) (V := V) (at_ := at_) (e := e) (s := s) hsz
  obtain ⟨hw1, hle1⟩ := packF_world (V := V) (e := e) (s := s) (n := rs.length) hw hat hg hI3 (Nat.le_refl _)
  rw [List.take_length] at hw1 hle1
  have hf := packF_facts (I := I) (V := V) (at_ := at_) (e := e) (s := s) (n := rs.length) (rs := rs) (i := rs.length) (Nat.le_refl _)
  rw [List.take_length] at hf
  have hle2 : (packF I V at_ e s rs.length rs).I.le (packI I V at_ e s rs) := rootF_le _ _ _
  have hw2 : (packI I V at_ e s rs).wf := rootF_wf _ _ _ hw1
  have hle3 : (packI I V at_ e s rs).le (packH I V at_ e s rs) := Id.le_put _ _
  have hw3 : (packH I V at_ e s rs).wf := Id.wf_put hw2 _
  refine ⟨⟨hpl, hsz, hfl, hne, hg, Id.in_put _ _, fun J W h1 h2 h3 h4 => ?_⟩, (hle1.trans hle2).trans hle3, hw3⟩
  have hleF := (hle2.trans hle3).trans h1
  have hleR := hle3.trans h1
  obtain ⟨T, hT, hrun⟩ := upF_again hw hat hg hI3 hleF h2 h3 (fun i hi => by rw [may_limit h4]; exact hmay i hi) rs.length 0 (by omega)
  have e0 : (packF I V at_ e s rs.length (rs.take 0)) = ⟨I, V, [], []⟩ := by simp [packF]
  rw [e0] at hT hrun
  simp only [List.nil_append] at hT
  subst hT
  have hroot := rootF_again rs.length (packF I V at_ e s rs.length rs).I J (packF I V at_ e s rs.length rs).leaves hleR
  have hdrop : (packB I V at_ e s rs).drop 8 = num8 rs.length ++ ((packF I V at_ e s rs.length rs).body ++ (rootF rs.length (packF I V at_ e s rs.length rs).I (packF I V at_ e s rs.length rs).leaves).2) := by
    unfold packB
    rw [List.append_assoc, List.append_assoc, List.drop_left' (num8_length _)]
  have hnum : num (num8 (rs.length : Int)) = rs.length := num_num8 (by omega) (by omega)
  unfold unpackF
  rw [if_neg (by
    rintro (hx | hx)
    · have hx : packB I V at_ e s rs = [] := hx
      rw [hx] at hpl; simp at hpl; omega
    · exact hx hfl)]
  simp only
  have hgo : upGo J W e s at_ ((packB I V at_ e s rs).drop 8) = (⟨J, (rootF rs.length (packF I V at_ e s rs.length rs).I (packF I V at_ e s rs.length rs).leaves).2, false, rs, (packF I V at_ e s rs.length rs).leaves⟩, 0) := by
    unfold upGo
    rw [hdrop, List.take_left' (num8_length _), List.drop_left' (num8_length _), hnum]
    have hpos : 0 < rs.length := List.length_pos_iff.2 hne
    rw [if_pos ⟨by simp [num8_length], by omega, by omega⟩, Int.toNat_natCast]
    have := hrun (rootF rs.length (packF I V at_ e s rs.length rs).I (packF I V at_ e s rs.length rs).leaves).2
    simpa using this
  rw [hgo]
  unfold upEnd
  simp only [ne_eq, not_true_eq_false, if_false, true_and]
  rw [hf.2.1, hroot]
  simp only [if_true]
  rw [Id.hash_in (I := packI I V at_ e s rs) (t := at_ ++ packB I V at_ e s rs) h1]

end Go.Dv

/-! frames on a disk -/
set_option maxRecDepth 20000
namespace Go.Dv
open Go Go.Sh Go.Sl

def onDisk (sec : List (List UInt8)) (a : Nat) (bs : List UInt8) : Prop := ∀ j, j < (bs.length + 255) / 256 → sec[a + j]? = some (full (chunk bs j))

theorem onDisk.to {sec sec' : List (List UInt8)} {a : Nat} {bs : List UInt8} (h : onDisk sec a bs) (he : ∀ i, a ≤ i → i < a + (bs.length + 255) / 256 → sec'[i]? = sec[i]?) : onDisk sec' a bs := fun j hj => by
  rw [he (a + j) (by omega) (by omega)]; exact h j hj

theorem flen_self {bs : List UInt8} (h : flen bs = bs.length) (h0 : 0 < bs.length) : 48 ≤ bs.length ∧ bs.length ≤ 16384 ∧ num (bs.take 8) = bs.length := by
  unfold flen at h
  split at h
  · omega
  · omega

theorem flen_ext {bs X : List UInt8} (h : flen bs = bs.length) (h0 : 0 < bs.length) (h8 : 8 ≤ X.length) (he : X.take 8 = bs.take 8) : flen X = if bs.length ≤ X.length then (bs.length : Int) else 0 := by
  obtain ⟨h1, h2, h3⟩ := flen_self h h0
  unfold flen
  rw [he, h3]
  split
  · rw [if_pos (by omega)]
  · rw [if_neg (by omega)]

theorem take_chunk (bs : List UInt8) (j : Nat) : bs.take (256 * (j + 1)) = bs.take (256 * j) ++ chunk bs j := by
  unfold chunk
  rw [Nat.mul_add, List.take_add]

theorem next_frame {now : List (List UInt8)} {to a : Nat} {bs : List UInt8} (hd : onDisk now a bs) (h : flen bs = bs.length) (h0 : 0 < bs.length) (hto : a + (bs.length + 255) / 256 ≤ to) : ∀ (k j : Nat), j < (bs.length + 255) / 256 → (bs.length + 255) / 256 - j ≤ k →
    nextF now to k (a + j) (bs.take (256 * j)) = some (bs, a + (bs.length + 255) / 256)
  | 0, j, hj, hk => by omega
  | k + 1, j, hj, hk => by
    obtain ⟨h1, h2, h3⟩ := flen_self h h0
    have hs := hd j hj
    have hg : now.getD (a + j) [] = full (chunk bs j) := by rw [List.getD_eq_getElem?_getD, hs]; rfl
    have hcl := chunk_length bs j
    have hfl : (full (chunk bs j)).length = 256 := full_length (by omega)
    have htl : (bs.take (256 * j)).length = 256 * j := by rw [List.length_take]; omega
    have e8 : (bs.take (256 * j) ++ full (chunk bs j)).take 8 = bs.take 8 := by
      have : bs.take (256 * j) ++ full (chunk bs j) = bs.take (256 * (j + 1)) ++ List.replicate (256 - (chunk bs j).length) 0 := by
        rw [take_chunk]; unfold full; rw [List.append_assoc]
      rw [this, List.take_append_of_le_length (by rw [List.length_take]; omega), List.take_take]
      have : min 8 (256 * (j + 1)) = 8 := by omega
      rw [this]
    have hX := flen_ext h h0 (X := bs.take (256 * j) ++ full (chunk bs j)) (by rw [List.length_append, hfl]; omega) e8
    have hXl : (bs.take (256 * j) ++ full (chunk bs j)).length = 256 * j + 256 := by rw [List.length_append, htl, hfl]
    unfold nextF
    rw [if_pos (by omega), hg, hX, hXl]
    by_cases hlast : bs.length ≤ 256 * j + 256
    · rw [if_pos hlast, if_pos (by omega)]
      have e1 : (bs.take (256 * j) ++ full (chunk bs j)).take ((bs.length : Int)).toNat = bs := by
        have : bs.take (256 * j) ++ full (chunk bs j) = bs ++ List.replicate (256 - (chunk bs j).length) 0 := by
          unfold full
          rw [← List.append_assoc, ← take_chunk, List.take_of_length_le (by omega)]
        rw [this, Int.toNat_natCast, List.take_left' rfl]
      rw [e1]
      have : a + j + 1 = a + (bs.length + 255) / 256 := by omega
      rw [this]
    · rw [if_neg hlast, if_neg (by omega)]
      have e1 : bs.take (256 * j) ++ full (chunk bs j) = bs.take (256 * (j + 1)) := by
        rw [take_chunk]
        unfold full
        have : 256 - (chunk bs j).length = 0 := by omega
        rw [this]; simp
      rw [e1]
      exact next_frame hd h h0 hto k (j + 1) (by omega) (by omega)

/-- Frames behind one another, from a head, a place and a number to others. -/
def Chain (I : Id) (m : List UInt8) (lim e : Int) (sec : List (List UInt8)) (to : Nat) : List UInt8 → Nat → Int → List Fm → List UInt8 → Nat → Int → Prop
  | hd, a, s, [], hd', a', s' => hd' = hd ∧ a' = a ∧ s' = s
  | hd, a, s, f :: fs, hd', a', s' => Knows I m lim e s hd f ∧ onDisk sec a f.bytes ∧ a + fsect f.recs ≤ to ∧ Chain I m lim e sec to (I.dig (hd ++ f.bytes)) (a + fsect f.recs) (s + f.recs.length) fs hd' a' s'

def allRecs (fs : List Fm) : List Rec := fs.flatMap Fm.recs

variable {I J : Id} {m : List UInt8} {lim e : Int} {sec sec' : List (List UInt8)} {to : Nat}

theorem Knows.sect {s : Int} {hd : List UInt8} {f : Fm} (h : Knows I m lim e s hd f) : (f.bytes.length + 255) / 256 = fsect f.recs := by rw [h.len]; rfl
theorem Knows.pos {s : Int} {hd : List UInt8} {f : Fm} (h : Knows I m lim e s hd f) : 48 ≤ f.bytes.length ∧ 1 ≤ fsect f.recs ∧ fsect f.recs ≤ 64 := by
  have := fsize_low f.recs
  have h1 := h.len
  have h2 := h.small
  unfold fsect
  omega

theorem Chain.facts : ∀ {fs : List Fm} {hd : List UInt8} {a : Nat} {s : Int} {hd' : List UInt8} {a' : Nat} {s' : Int}, Chain I m lim e sec to hd a s fs hd' a' s' →
    a + fs.length ≤ a' ∧ s' = s + (allRecs fs).length ∧ (∀ r ∈ allRecs fs, r.good = true) ∧ (a ≤ to → a' ≤ to) ∧ (hd.length = 32 → hd'.length = 32)
  | [], _, _, _, _, _, _, h => by
    obtain ⟨rfl, rfl, rfl⟩ := h
    simp [allRecs]
  | f :: fs, _, _, _, _, _, _, h => by
    obtain ⟨h1, h2, h3, h4⟩ := h
    obtain ⟨g1, g2, g3, g4, g5⟩ := h4.facts
    have := h1.pos
    refine ⟨by simp only [List.length_cons]; omega, ?_, ?_, fun _ => g4 h3, fun _ => g5 (dig_length _ _)⟩
    · rw [g2]; simp only [allRecs, List.flatMap_cons, List.length_append]; omega
    · intro r hr
      simp only [allRecs, List.flatMap_cons, List.mem_append] at hr
      rcases hr with hr | hr
      · exact h1.good r hr
      · exact g3 r hr

theorem Chain.mono (hle : I.le J) : ∀ {fs : List Fm} {hd : List UInt8} {a : Nat} {s : Int} {hd' : List UInt8} {a' : Nat} {s' : Int}, Chain I m lim e sec to hd a s fs hd' a' s' → Chain J m lim e sec to hd a s fs hd' a' s'
  | [], _, _, _, _, _, _, h => h
  | f :: fs, hd, _, _, _, _, _, h => by
    obtain ⟨h1, h2, h3, h4⟩ := h
    refine ⟨h1.mono hle, h2, h3, ?_⟩
    have e1 : I.hash (hd ++ f.bytes) = I := Id.put_in h1.made
    rw [Id.dig_in (by rw [e1]; exact hle)]
    exact h4.mono hle

theorem Chain.on : ∀ {fs : List Fm} {hd : List UInt8} {a : Nat} {s : Int} {hd' : List UInt8} {a' : Nat} {s' : Int}, Chain I m lim e sec to hd a s fs hd' a' s' → (∀ i, a ≤ i → i < a' → sec'[i]? = sec[i]?) → Chain I m lim e sec' to hd a s fs hd' a' s'
  | [], _, _, _, _, _, _, h, _ => h
  | f :: fs, _, _, _, _, _, _, h, he => by
    obtain ⟨h1, h2, h3, h4⟩ := h
    have hf := h4.facts.1
    refine ⟨h1, h2.to fun i hi hi2 => he i hi (by rw [h1.sect] at hi2; omega), h3, h4.on fun i hi hi2 => he i (by omega) hi2⟩

theorem Chain.snoc {f : Fm} : ∀ {fs : List Fm} {hd : List UInt8} {a : Nat} {s : Int} {hd' : List UInt8} {a' : Nat} {s' : Int}, Chain I m lim e sec to hd a s fs hd' a' s' → Knows I m lim e s' hd' f → onDisk sec a' f.bytes → a' + fsect f.recs ≤ to →
    Chain I m lim e sec to hd a s (fs ++ [f]) (I.dig (hd' ++ f.bytes)) (a' + fsect f.recs) (s' + f.recs.length)
  | [], _, _, _, _, _, _, h, h1, h2, h3 => by
    obtain ⟨rfl, rfl, rfl⟩ := h
    exact ⟨h1, h2, h3, rfl, rfl, rfl⟩
  | _ :: fs, _, _, _, _, _, _, ⟨g1, g2, g3, g4⟩, h1, h2, h3 => ⟨g1, g2, g3, g4.snoc h1 h2 h3⟩

/-- How deep a head lies behind an epoch's start. -/
inductive Deep (I : Id) (e : Int) : List UInt8 → Nat → Prop
  | start : nm 72 [startT e] ∈ I.made → Deep I e (I.dig (startT e)) 0
  | next {hd fr : List UInt8} {d : Nat} : Deep I e hd d → 48 ≤ fr.length → fr.length ≤ 16384 → nm 72 [hd ++ fr] ∈ I.made → Deep I e (I.dig (hd ++ fr)) (d + 1)

theorem startT_length (e : Int) : (startT e).length = 16 := by simp [startT, txt_length, num8_length, bEpoch]

theorem Deep.len {hd : List UInt8} {d : Nat} (h : Deep I e hd d) : hd.length = 32 := by
  cases h <;> exact dig_length _ _

theorem Deep.same (hI : I.made.length < 4000000000000000000) {x : List UInt8} {d : Nat} (h : Deep I e x d) : ∀ {d' : Nat}, Deep I e x d' → d = d' := by
  induction h with
  | start hs =>
    intro d' h'
    generalize hx : I.dig (startT e) = x at h'
    cases h' with
    | start => rfl
    | next g1 g2 g3 g4 =>
      have hl := g1.len
      have := dig_inj hs g4 hI (by rw [startT_length]; omega) (by rw [List.length_append]; omega) hx
      have := congrArg List.length this
      rw [startT_length, List.length_append] at this
      omega
  | next h1 h2 h3 h4 ih =>
    intro d' h'
    rename_i hd fr d
    generalize hx : I.dig (hd ++ fr) = x at h'
    have hl1 := h1.len
    cases h' with
    | start hs =>
      have := dig_inj h4 hs hI (by rw [List.length_append]; omega) (by rw [startT_length]; omega) hx
      have := congrArg List.length this
      rw [startT_length, List.length_append] at this
      omega
    | next g1 g2 g3 g4 =>
      have hl := g1.len
      have := dig_inj h4 g4 hI (by rw [List.length_append]; omega) (by rw [List.length_append]; omega) hx
      have := (List.append_inj this (by omega)).1
      subst this
      rw [ih g1]

theorem Chain.deep : ∀ {fs : List Fm} {hd : List UInt8} {a : Nat} {s : Int} {hd' : List UInt8} {a' : Nat} {s' : Int} {d : Nat}, Chain I m lim e sec to hd a s fs hd' a' s' → Deep I e hd d → Deep I e hd' (d + fs.length)
  | [], _, _, _, _, _, _, _, h, hd => by
    obtain ⟨rfl, rfl, rfl⟩ := h
    exact hd
  | f :: fs, _, _, _, _, _, _, _, ⟨h1, h2, h3, h4⟩, hd => by
    have := h4.deep (.next hd h1.pos.1 (by rw [h1.len]; exact h1.small) h1.made)
    rw [List.length_cons]
    rw [show ∀ d n : Nat, d + (n + 1) = d + 1 + n by omega]
    exact this

theorem openLoop_chain {V : Vt} {now : List (List UInt8)} {M : Mt} {frm : Nat} (hc : 0 < M.count) (hm : V.master = m) (hl : V.limit = lim) (hJ : J.wf) (hJl : J.made.length < 4000000000000000000) : ∀ {fs : List Fm} {k : Nat} {hd : List UInt8} {a : Nat} {s : Int} {a' : Nat} {s' : Int} {d : Nat} {l : List Rec},
    Chain J m lim M.epoch now to hd a s fs M.root a' s' → Deep J M.epoch hd d → fs.length < k →
    openLoop V now M k ⟨J, ⟨frm, to, a⟩, hd, s, l⟩ = (⟨J, ⟨frm, to, a'⟩, M.root, s', l ++ allRecs fs⟩, 0)
  | [], k + 1, hd, a, s, a', s', d, l, h, hd0, hk => by
    obtain ⟨h1, rfl, rfl⟩ := h
    unfold openLoop
    rw [if_neg (by simp [h1]), h1]
    simp [allRecs]
  | f :: fs, k + 1, hd, a, s, a', s', d, l, h, hd0, hk => by
    have hdeep := h.deep hd0
    obtain ⟨h1, h2, h3, h4⟩ := h
    have hne : hd ≠ M.root := fun e => by
      rw [← e] at hdeep
      have := hd0.same hJl hdeep
      simp only [List.length_cons] at this; omega
    have hp := h1.pos
    have hse := h1.sect
    unfold openLoop
    rw [if_pos ⟨hc, hne⟩]
    have hn : (⟨frm, to, a⟩ : Ar).next now = some (f.bytes, a + fsect f.recs) := by
      unfold Ar.next
      have := next_frame (to := to) h2 h1.flen (by omega) (by omega) 64 0 (by omega) (by omega)
      rw [hse] at this
      simpa using this
    simp only [hn]
    rw [h1.opens J V (Id.le.refl J) hJ hm hl]
    have := openLoop_chain (frm := frm) (l := l ++ f.recs) hc hm hl hJ hJl h4 (.next hd0 h1.pos.1 (by rw [h1.len]; exact h1.small) h1.made) (k := k) (by simp only [List.length_cons] at hk; omega)
    simp only
    rw [this]
    simp [allRecs]

/-- What a register vouches for. -/
def Vouch (I : Id) (V : Vt) (M : Mt) (n : Nat) (sec : List (List UInt8)) (fs : List Fm) (a : Nat) (s : Int) : Prop :=
  (M.count = 0 ∧ M.epoch = 0 ∧ fs = [] ∧ a = (areaOf n 0).frm ∧ s = 0) ∨
  (0 < M.count ∧ nm 72 [startT M.epoch] ∈ I.made ∧ Chain I V.master V.limit M.epoch sec (areaOf n M.epoch).to (I.dig (startT M.epoch)) (areaOf n M.epoch).frm 0 fs M.root a s)

theorem area_le (n : Nat) (e : Int) : (areaOf n e).frm ≤ (areaOf n e).to := by unfold areaOf; simp only; omega
theorem area_half (n : Nat) (e : Int) : (areaOf n e).to = (areaOf n e).frm + n / 2 ∧ (areaOf n e).at_ = (areaOf n e).frm := ⟨rfl, rfl⟩

theorem Vouch.facts {V : Vt} {M : Mt} {n : Nat} {fs : List Fm} {a : Nat} {s : Int} (h : Vouch I V M n sec fs a s) :
    (areaOf n M.epoch).frm ≤ a ∧ a ≤ (areaOf n M.epoch).to ∧ s = (allRecs fs).length ∧ (∀ r ∈ allRecs fs, r.good = true) := by
  rcases h with ⟨h1, h2, rfl, rfl, rfl⟩ | ⟨h1, h2, h3⟩
  · rw [h2]
    exact ⟨Nat.le_refl _, area_le n 0, by simp [allRecs], by simp [allRecs]⟩
  · obtain ⟨g1, g2, g3, g4, g5⟩ := h3.facts
    exact ⟨by omega, g4 (area_le _ _), by omega, g3⟩

theorem Vouch.mono {V : Vt} {M : Mt} {n : Nat} {fs : List Fm} {a : Nat} {s : Int} (h : Vouch I V M n sec fs a s) (hle : I.le J) : Vouch J V M n sec fs a s := by
  rcases h with h | ⟨h1, h2, h3⟩
  · exact .inl h
  · refine .inr ⟨h1, hle.mem h2, ?_⟩
    have e1 : I.hash (startT M.epoch) = I := Id.put_in h2
    rw [Id.dig_in (by rw [e1]; exact hle)]
    exact h3.mono hle

theorem Vouch.on {V : Vt} {M : Mt} {n : Nat} {fs : List Fm} {a : Nat} {s : Int} (h : Vouch I V M n sec fs a s) (he : ∀ i, (areaOf n M.epoch).frm ≤ i → i < a → sec'[i]? = sec[i]?) : Vouch I V M n sec' fs a s := by
  rcases h with h | ⟨h1, h2, h3⟩
  · exact .inl h
  · exact .inr ⟨h1, h2, h3.on he⟩

theorem Vouch.vault {V W : Vt} {M : Mt} {n : Nat} {fs : List Fm} {a : Nat} {s : Int} (h : Vouch I V M n sec fs a s) (hm : W.master = V.master) (hl : W.limit = V.limit) : Vouch I W M n sec fs a s := by
  unfold Vouch at *
  rw [hm, hl]; exact h

theorem open_vouch {S : St} {fs : List Fm} {a : Nat} {s : Int} (hw : S.I.wf) (hI : S.I.made.length < 1000000000000000000) (h : Vouch S.I S.V S.M S.D.now.length S.D.now fs a s) :
    ∃ hd, openGo S = (⟨S.I.hash (startT S.M.epoch), ⟨(areaOf S.D.now.length S.M.epoch).frm, (areaOf S.D.now.length S.M.epoch).to, a⟩, hd, s, allRecs fs⟩, 0) ∧ (0 < S.M.count → hd = S.M.root) ∧ hd.length = 32 := by
  have hmade : (S.I.hash (startT S.M.epoch)).made.length ≤ S.I.made.length + 1 := Id.put_le _ _
  have hwf : (S.I.hash (startT S.M.epoch)).wf := Id.wf_put hw _
  rcases h with ⟨h1, h2, rfl, rfl, rfl⟩ | ⟨h1, h2, h3⟩
  · refine ⟨S.I.dig (startT S.M.epoch), ?_, fun hc => by omega, dig_length _ _⟩
    unfold openGo openLoop open0
    rw [if_neg (by omega), h2]
    rfl
  · refine ⟨S.M.root, ?_, fun _ => rfl, h3.facts.2.2.2.2 (dig_length _ _)⟩
    have e1 : S.I.hash (startT S.M.epoch) = S.I := Id.put_in h2
    unfold openGo open0
    rw [e1]
    have := openLoop_chain (V := S.V) (frm := (areaOf S.D.now.length S.M.epoch).frm) (l := []) h1 rfl rfl hw (by omega) h3 (.start h2) (k := S.D.now.length / 2 + 1) (by
      obtain ⟨g1, g2, g3, g4, g5⟩ := h3.facts
      have := g4 (area_le _ _)
      have := (area_half S.D.now.length S.M.epoch).1
      omega)
    rw [List.nil_append] at this
    exact this

end Go.Dv

/-! what a disk holds -/
set_option maxRecDepth 20000
namespace Go.Dv
open Go Go.Sh Go.Sl

/-- A range is safe, and nothing waits for it. -/
def Dk.hold (D : Dk) (lo hi : Nat) : Prop := (∀ i, lo ≤ i → i < hi → D.now[i]? = D.safe[i]?) ∧ ∀ x ∈ D.waits, ¬ (lo ≤ x.1 ∧ x.1 < hi)
def Dk.as (D D' : Dk) (lo hi : Nat) : Prop := ∀ i, lo ≤ i → i < hi → D'.safe[i]? = D.safe[i]?

theorem Dk.as.refl (D : Dk) (lo hi : Nat) : D.as D lo hi := fun _ _ _ => rfl
theorem Dk.as.trans {A B C : Dk} {lo hi : Nat} (h1 : A.as B lo hi) (h2 : B.as C lo hi) : A.as C lo hi := fun i h h' => (h2 i h h').trans (h1 i h h')

theorem kept_fold (k : Int) : ∀ (ws : List ((Nat × List UInt8) × Nat)) (safe : List (List UInt8)) (i : Nat), (∀ x ∈ ws, x.1.1 ≠ i) → (ws.foldl (keepStep k) safe)[i]? = safe[i]?
  | [], _, _, _ => rfl
  | x :: ws, safe, i, h => by
    rw [List.foldl_cons, kept_fold k ws _ i fun y hy => h y (List.mem_cons_of_mem _ hy)]
    unfold keepStep
    split
    · rw [List.getElem?_set_ne (h x List.mem_cons_self)]
    · rfl

theorem kept_get (k : Int) {safe : List (List UInt8)} {ws : List (Nat × List UInt8)} {i : Nat} (h : ∀ x ∈ ws, x.1 ≠ i) : (kept k safe ws)[i]? = safe[i]? := by
  unfold kept
  refine kept_fold k _ _ _ fun x hx => ?_
  obtain ⟨x1, j⟩ := x
  exact h x1 (List.mem_zipIdx hx |>.2.2 ▸ List.getElem_mem _)

variable {D : Dk} {lo hi : Nat}

theorem hold_off (h : D.hold lo hi) (k : Int) : (D.off k).hold lo hi ∧ D.as (D.off k) lo hi := by
  unfold Dk.off
  split
  · exact ⟨h, Dk.as.refl _ _ _⟩
  · refine ⟨⟨fun _ _ _ => rfl, by simp⟩, fun i h1 h2 => kept_get k fun x hx e => h.2 x hx ⟨by omega, by omega⟩⟩

theorem off_down (k : Int) : (D.off k).down = true := by
  unfold Dk.off
  split
  · assumption
  · rfl

theorem off_waits (h : D.down = false) (k : Int) : (D.off k).waits = [] := by
  unfold Dk.off
  rw [if_neg (by rw [h]; simp)]

theorem hold_put (h : D.hold lo hi) {i : Nat} (hi' : ¬ (lo ≤ i ∧ i < hi)) (bs : List UInt8) : (D.put i bs).hold lo hi ∧ D.as (D.put i bs) lo hi := by
  refine ⟨⟨fun j h1 h2 => ?_, fun x hx => ?_⟩, Dk.as.refl _ _ _⟩
  · show (D.now.set i (full bs))[j]? = D.safe[j]?
    rw [List.getElem?_set_ne (by rintro rfl; exact hi' ⟨h1, h2⟩)]
    exact h.1 j h1 h2
  · have hx : x ∈ D.waits ++ [(i, full bs)] := hx
    rcases List.mem_append.1 hx with hx | hx
    · exact h.2 x hx
    · rw [List.mem_singleton.1 hx]; exact hi'

theorem hold_same {D' : Dk} (h : D.hold lo hi) (h1 : D'.now = D.now) (h2 : D'.safe = D.safe) (h3 : D'.waits = D.waits) : D'.hold lo hi ∧ D.as D' lo hi := by
  unfold Dk.hold Dk.as
  rw [h1, h2, h3]
  exact ⟨h, fun _ _ _ => rfl⟩

theorem act_quiet (h : D.fuse = 0) : D.act = (D, false) := by
  unfold Dk.act
  split
  · rfl
  · first | rfl | simp [h]

/-- One write. -/
theorem write_run (h : D.hold lo hi) (hd : D.down = false) {i : Nat} (hi' : ¬ (lo ≤ i ∧ i < hi)) (bs : List UInt8) :
    (D.write i bs).1.hold lo hi ∧ D.as (D.write i bs).1 lo hi ∧
    (((D.write i bs).2 = 0 ∧ (D.write i bs).1.down = false ∧ (D.write i bs).1.now = D.now.set i (full bs)) ∨ ((D.write i bs).2 = 8 ∧ (D.write i bs).1.down = true ∧ D.fuse ≠ 0 ∧ (D.write i bs).1.waits = [])) ∧ (D.fuse = 0 → (D.write i bs).1.fuse = 0) := by
  obtain ⟨a1, a2, a3, a4, a5⟩ := act_same D
  obtain ⟨s1, s2⟩ := hold_same h a1 a2 a3
  obtain ⟨p1, p2⟩ := hold_put s1 hi' bs
  unfold Dk.write
  rw [if_neg (by rw [hd]; simp)]
  split
  · rename_i hact
    obtain ⟨o1, o2⟩ := hold_off p1 D.keep
    have hf : D.fuse ≠ 0 := fun e => by rw [act_quiet e] at hact; cases hact
    exact ⟨o1, (s2.trans p2).trans o2, .inr ⟨rfl, off_down _, hf, off_waits (by show D.act.1.down = false; rw [a4, hd]) _⟩, fun e => absurd e hf⟩
  · refine ⟨p1, s2.trans p2, .inl ⟨rfl, by show D.act.1.down = false; rw [a4, hd], by show D.act.1.now.set i (full bs) = _; rw [a1]⟩, fun e => ?_⟩
    show D.act.1.fuse = 0
    rw [act_quiet e]; exact e

theorem addF_run {bs : List UInt8} {a : Nat} : ∀ (k i : Nat) {D : Dk}, D.hold lo hi → D.down = false → (∀ j, i ≤ j → j < i + k → ¬ (lo ≤ a + j ∧ a + j < hi)) → a + i + k ≤ D.now.length →
    (addF bs a k i D).1.hold lo hi ∧ D.as (addF bs a k i D).1 lo hi ∧
    (((addF bs a k i D).2 = 0 ∧ (addF bs a k i D).1.down = false ∧ (∀ j, i ≤ j → j < i + k → (addF bs a k i D).1.now[a + j]? = some (full (chunk bs j))) ∧ (∀ x, x < a + i ∨ a + i + k ≤ x → (addF bs a k i D).1.now[x]? = D.now[x]?)) ∨
      ((addF bs a k i D).2 = 8 ∧ (addF bs a k i D).1.down = true ∧ D.fuse ≠ 0 ∧ (addF bs a k i D).1.waits = [])) ∧ (D.fuse = 0 → (addF bs a k i D).1.fuse = 0)
  | 0, i, D, h, hd, _, _ => ⟨h, Dk.as.refl _ _ _, .inl ⟨rfl, hd, fun j h1 h2 => by omega, fun _ _ => rfl⟩, fun e => e⟩
  | k + 1, i, D, h, hd, hout, hl => by
    obtain ⟨w1, w2, w3, w4⟩ := write_run h hd (hout i (Nat.le_refl _) (by omega)) (chunk bs i)
    unfold addF
    rcases w3 with ⟨g1, g2, g3⟩ | ⟨g1, g2, g3, gw⟩
    · rw [if_neg (by omega)]
      obtain ⟨r1, r2, r3, r4⟩ := addF_run (bs := bs) (a := a) k (i + 1) w1 g2 (fun j h1 h2 => hout j (by omega) (by omega)) (by rw [g3, List.length_set]; omega)
      refine ⟨r1, w2.trans r2, ?_, fun e => r4 (w4 e)⟩
      rcases r3 with ⟨q1, q2, q3, q4⟩ | ⟨q1, q2, q3, qw⟩
      · refine .inl ⟨q1, q2, fun j h1 h2 => ?_, fun x hx => ?_⟩
        · rcases Nat.eq_or_lt_of_le h1 with e | e
          · subst e
            rw [q4 (a + i) (by omega), g3, List.getElem?_set_self (by omega)]
          · exact q3 j (by omega) (by omega)
        · rw [q4 x (by omega), g3, List.getElem?_set_ne (by omega)]
      · exact .inr ⟨q1, q2, fun e => q3 (w4 e), qw⟩
    · rw [if_pos (by omega)]
      exact ⟨w1, w2, .inr ⟨g1, g2, g3, gw⟩, w4⟩

/-- What is written is made safe. -/
theorem sync_run (h : D.hold lo hi) (hd : D.down = false) :
    (D.sync.2 = 0 ∧ D.sync.1.down = false ∧ D.sync.1.now = D.now ∧ D.sync.1.safe = D.now ∧ D.sync.1.waits = [] ∧ (D.fuse = 0 → D.sync.1.fuse = 0)) ∨
    (D.sync.2 = 8 ∧ D.sync.1.down = true ∧ D.fuse ≠ 0 ∧ D.sync.1.hold lo hi ∧ D.as D.sync.1 lo hi ∧ D.sync.1.waits = []) := by
  obtain ⟨a1, a2, a3, a4, a5⟩ := act_same D
  obtain ⟨s1, s2⟩ := hold_same h a1 a2 a3
  unfold Dk.sync
  rw [if_neg (by rw [hd]; simp)]
  split
  · rename_i hact
    obtain ⟨o1, o2⟩ := hold_off s1 D.keep
    have hf : D.fuse ≠ 0 := fun e => by rw [act_quiet e] at hact; cases hact
    exact .inr ⟨rfl, off_down _, hf, o1, s2.trans o2, off_waits (by rw [a4, hd]) _⟩
  · exact .inl ⟨rfl, by show D.act.1.down = false; rw [a4, hd], a1, a1, rfl, fun e => by show D.act.1.fuse = 0; rw [act_quiet e]; exact e⟩

theorem kept_nil (k : Int) (safe : List (List UInt8)) : kept k safe [] = safe := rfl

/-- Safe, and vouched for. -/
theorem sealF_run {M : Mt} {e : Int} {hd : List UInt8} (h : D.hold lo hi) (hdn : D.down = false) (he : M.epoch ≤ e) (hm : M.most - M.count ≠ 0) :
    ((sealF D M e hd).2.2 = 0 ∧ (sealF D M e hd).1.down = false ∧ (sealF D M e hd).1.now = D.now ∧ (sealF D M e hd).1.safe = D.now ∧ (sealF D M e hd).1.waits = [] ∧ (sealF D M e hd).2.1 = M.go e hd ∧ (D.fuse = 0 → (sealF D M e hd).1.fuse = 0)) ∨
    ((sealF D M e hd).2.2 = 8 ∧ (sealF D M e hd).1.down = true ∧ D.fuse ≠ 0 ∧ (sealF D M e hd).1.waits = [] ∧
      (((sealF D M e hd).2.1 = M ∧ (sealF D M e hd).1.hold lo hi ∧ D.as (sealF D M e hd).1 lo hi) ∨
        ((sealF D M e hd).2.1 = M.go e hd ∧ (sealF D M e hd).1.now = D.now ∧ (sealF D M e hd).1.safe = D.now ∧ (sealF D M e hd).1.waits = []))) := by
  unfold sealF
  rcases sync_run h hdn with ⟨g1, g2, g3, g4, g5, g6⟩ | ⟨g1, g2, g3, g4, g5, gw⟩
  · rw [if_neg (by omega)]
    generalize D.sync = X at *
    obtain ⟨a1, a2, a3, a4, a5⟩ := act_same X.1
    unfold Mt.next
    rw [if_neg (by rw [g2]; simp), if_neg (by omega), if_neg hm]
    split
    · rename_i hact
      have hf : D.fuse ≠ 0 := fun e => by
        have := g6 e
        rw [act_quiet this] at hact; cases hact
      have hoff : X.1.act.1.off X.1.keep = { X.1.act.1 with down := true, fuse := 0 } := by
        unfold Dk.off
        rw [if_neg (by rw [a4, g2]; simp), a3, g5, kept_nil, a2, g4]
        have : X.1.act.1.waits = [] := by rw [a3, g5]
        simp [a1, g3, this, a2, g4]
      refine .inr ⟨rfl, off_down _, hf, off_waits (by rw [a4, g2]) _, ?_⟩
      rw [hoff]
      split
      · exact .inr ⟨rfl, by show X.1.act.1.now = _; rw [a1, g3], by show X.1.act.1.safe = _; rw [a2, g4], by show X.1.act.1.waits = _; rw [a3, g5]⟩
      · refine .inl ⟨rfl, ⟨fun i h1 h2 => ?_, fun x hx => ?_⟩, fun i h1 h2 => ?_⟩
        · show X.1.act.1.now[i]? = X.1.act.1.safe[i]?
          rw [a1, a2, g3, g4]
        · have hx : x ∈ X.1.act.1.waits := hx
          rw [a3, g5] at hx; cases hx
        · show X.1.act.1.safe[i]? = _
          rw [a2, g4]; exact h.1 i h1 h2
    · refine .inl ⟨rfl, by show X.1.act.1.down = false; rw [a4, g2], by show X.1.act.1.now = _; rw [a1, g3], by show X.1.act.1.safe = _; rw [a2, g4], by show X.1.act.1.waits = _; rw [a3, g5], rfl, fun e => ?_⟩
      have := g6 e
      show X.1.act.1.fuse = 0
      rw [act_quiet this]; exact this
  · rw [if_pos (by omega)]
    exact .inr ⟨g1, g2, g3, gw, .inl ⟨rfl, g4, g5⟩⟩

end Go.Dv

/-! the references: records -/
set_option maxRecDepth 20000
namespace Go.Dv
open Go Go.Sh Go.Sl

variable {B : Bs} {w : World} {F : List HP} {K : Value → World → Prop}

theorem in13_ok {n lo hi : Int} (hk : K (.bool (Span.has ⟨lo, hi⟩ n)) w) : Cs P f_coffretref13_in #[.int .i64 n, .int .i64 lo, .int .i64 hi] w K := by
  refine ok_coffretref13_in _ _ _ ?_
  unfold vc_coffretref13_in
  refine Jn.dupB (Br.ge (fun h1 => ⟨_, rfl, ?_⟩) fun h1 => ⟨_, rfl, ?_⟩)
  · have : leI n hi = Span.has ⟨lo, hi⟩ n := by simp [leI, Span.has, h1]
    rw [this]; exact hk
  · have : Span.has ⟨lo, hi⟩ n = false := by simp [Span.has]; omega
    rw [← this]; exact hk

theorem eqI_dec {a b : Int} : eqI a b = decide (a = b) := by
  rw [Bool.eq_iff_iff]; simp [eqI]

theorem has_none {n : Int} : Span.has sNone n = decide (n = 0) := by
  unfold Span.has sNone
  by_cases h : n = 0
  · simp [h]
  · simp [h]; omega

theorem RGood13_ok {r : Rec} (h : Sat B w F) (hk : ∀ w', Sat B w' F → K (.bool r.good) w') : Cs P f_coffretref13_Good #[r.val] w K := by
  refine ok_coffretref13_Good _ ?_
  unfold vc_coffretref13_Good
  refine h.new fun b w' h => ⟨_, ld1 sc_int h.bk rfl, in13_ok ⟨_, rfl, _, ld1 sc_int h.bk rfl, in13_ok ⟨_, rfl, _, ld1 sc_string h.bk rfl, _, ld1 sc_string h.bk rfl, _, ld1 sc_int h.bk rfl, ?_⟩⟩⟩
  have L1 : (loadVar t_int (Addr.add ⟨b, 0, none⟩ 1)).run P w' = .ok (.int .i64 r.queue) w' := ld1 sc_int h.bk rfl
  have L2 : (loadVar t_int (Addr.add ⟨b, 0, none⟩ 2)).run P w' = .ok (.int .i64 r.id) w' := ld1 sc_int h.bk rfl
  have L3 : (loadVar t_int (Addr.add ⟨b, 0, none⟩ 3)).run P w' = .ok (.int .i64 r.num) w' := ld1 sc_int h.bk rfl
  have L4 : (loadVar t_int (Addr.add ⟨b, 0, none⟩ 4)).run P w' = .ok (.int .i64 r.wait) w' := ld1 sc_int h.bk rfl
  have fin : ∀ c, c = r.good → ∃ b', [Value.bool c] = [Value.bool b'] ∧ K (.bool b') w' := fun c hc => ⟨_, rfl, by rw [hc]; exact hk _ h.tail⟩
  have fin2 : ∀ c, c = r.good → K (.bool c) w' := fun c hc => by rw [hc]; exact hk _ h.tail
  rw [eqS_nil]
  simp only [size_str]
  have sle : leI ((r.body.length : Nat) : Int) 512 = decide (r.body.length ≤ 512) := by
    simp only [leI]
    rw [Bool.eq_iff_iff]
    simp
    omega
  rw [sle]
  have e0 : r.body.isEmpty = true → r.body.length ≤ 512 := fun e => by
    rw [List.isEmpty_iff] at e; rw [e]; simp
  have e1 : (decide (r.body.length ≤ 512) && r.body.isEmpty) = r.body.isEmpty := by
    cases hb : r.body.isEmpty with
    | true => simp [e0 hb]
    | false => simp
  clear h hk e0 sle
  refine Br.eq (fun k1 => ?_) fun n1 => Br.eq (fun k2 => ?_) fun n2 => Br.eq (fun k3 => ?_) fun n3 => Br.eq (fun k4 => ?_) fun n4 => ?_
  · have hg : r.good = (Span.has ⟨1, 16⟩ r.queue && (Span.has ⟨1, 16⟩ r.id && (Span.has ⟨1, 64⟩ r.num && (Span.has ⟨1, 1048576⟩ r.wait && r.body.isEmpty)))) := by
      simp [Rec.good, formOf, k1, sQueue, sLimit, e1]
    rw [hg] at fin
    refine Jn.dupB (Br.bool (fun e => ⟨_, L2, in13_ok ⟨_, rfl, Br.bool (fun e2 => ⟨_, L3, in13_ok ⟨_, rfl, Br.bool (fun e3 => ⟨_, L4, in13_ok ⟨_, rfl, Br.bool (fun e4 => ?_) fun e4 => ?_⟩⟩) fun e3 => ?_⟩⟩) fun e2 => ?_⟩⟩) fun e => ?_)
    all_goals exact fin _ (by simp [*])
  · have hg : r.good = (Span.has ⟨1, 16⟩ r.queue && (decide (r.id = 0) && (decide (r.num = 0) && (decide (r.wait = 0) && r.body.isEmpty)))) := by
      simp [Rec.good, formOf, k2, sQueue, has_none, e1]
    rw [hg] at fin
    refine Jn.dupB (Br.bool (fun e => ⟨_, L2, Br.eq (fun e2 => ⟨_, L3, Br.eq (fun e3 => ⟨_, L4, Br.eq (fun e4 => ?_) fun e4 => ?_⟩) fun e3 => ?_⟩) fun e2 => ?_⟩) fun e => ?_)
    all_goals exact fin _ (by simp [*])
  · have hg : r.good = (Span.has ⟨1, 16⟩ r.queue && (Span.has ⟨1, 1099511627776⟩ r.id && (decide (r.num = 0) && (decide (r.wait = 0) && decide (r.body.length ≤ 512))))) := by
      simp [Rec.good, formOf, k3, sQueue, sId, has_none]
    rw [hg] at fin
    refine Jn.dupB (Br.bool (fun e => Br.bool (fun e2 => ⟨_, L3, Br.eq (fun e3 => ⟨_, L4, Br.eq (fun e4 => ?_) fun e4 => ?_⟩) fun e3 => ?_⟩) fun e2 => ?_) fun e => ?_)
    all_goals exact fin _ (by simp [*])
  · have hg : r.good = (Span.has ⟨1, 16⟩ r.queue && (Span.has ⟨1, 1099511627776⟩ r.id && (Span.has ⟨1, 1125899907891200⟩ r.num && (decide (r.wait = 0) && r.body.isEmpty)))) := by
      simp [Rec.good, formOf, k4, sQueue, sId, sLate, has_none, e1]
    rw [hg] at fin
    refine Jn.dupB (Br.bool (fun e => Br.bool (fun e2 => ⟨_, L3, in13_ok ⟨_, rfl, Br.bool (fun e3 => ⟨_, L4, Br.eq (fun e4 => ?_) fun e4 => ?_⟩) fun e3 => ?_⟩⟩) fun e2 => ?_) fun e => ?_)
    all_goals exact fin _ (by simp [*])
  refine Jn.by (fun vs w1 => vs = [.bool (decide (r.kind = 5 ∨ r.kind = 6 ∨ r.kind = 10))] ∧ w1 = w') ?_ ?_
  · refine Br.eq (fun e => ⟨by simp [eqI, e], rfl⟩) fun e => Jn.by (fun vs w1 => vs = [.bool (decide (r.kind = 5 ∨ r.kind = 6 ∨ r.kind = 10))] ∧ w1 = w') ?_ ?_
    · refine Br.eq (fun e2 => ⟨by simp [eqI, e2], rfl⟩) fun e2 => ⟨by simp [eqI_dec, e, e2], rfl⟩
    · intro b1 w1 ⟨h1, h2⟩
      exact ⟨h1, h2⟩
  intro b1 w1' ⟨hb, hw⟩
  subst hw
  obtain rfl : b1 = decide (r.kind = 5 ∨ r.kind = 6 ∨ r.kind = 10) := by simpa using hb
  clear hb
  refine Br.bool (fun k5 => ?_) fun n5 => ?_
  · have k5 : r.kind = 5 ∨ r.kind = 6 ∨ r.kind = 10 := by simpa using k5
    have hg : r.good = (Span.has ⟨1, 16⟩ r.queue && (Span.has ⟨1, 1099511627776⟩ r.id && (decide (r.num = 0) && (decide (r.wait = 0) && r.body.isEmpty)))) := by
      simp [Rec.good, formOf, n1, n2, n3, n4, k5, sQueue, sId, has_none, e1]
    rw [hg] at fin
    refine Jn.dupB (Br.bool (fun e => Br.bool (fun e2 => ⟨_, L3, Br.eq (fun e3 => ⟨_, L4, Br.eq (fun e4 => ?_) fun e4 => ?_⟩) fun e3 => ?_⟩) fun e2 => ?_) fun e => ?_)
    all_goals exact fin _ (by simp [*])
  have n5 : ¬ (r.kind = 5 ∨ r.kind = 6 ∨ r.kind = 10) := by simpa using n5
  refine Br.eq (fun k6 => ?_) fun n6 => Br.eq (fun k7 => ?_) fun n7 => ?_
  · have hg : r.good = (Span.has ⟨1, 16⟩ r.queue && (Span.has ⟨1, 1099511627777⟩ r.id && (decide (r.num = 0) && (decide (r.wait = 0) && r.body.isEmpty)))) := by
      simp [Rec.good, formOf, k6, sQueue, has_none, e1]
    rw [hg] at fin
    have hw : IntKind.i64.wrap (1099511627776 + 1) = 1099511627777 := by decide
    rw [hw]
    refine Jn.dupB (Br.bool (fun e => ⟨_, L2, in13_ok ⟨_, rfl, Br.bool (fun e2 => ⟨_, L3, Br.eq (fun e3 => ⟨_, L4, Br.eq (fun e4 => ?_) fun e4 => ?_⟩) fun e3 => ?_⟩) fun e2 => ?_⟩⟩) fun e => ?_)
    all_goals exact fin _ (by simp [*])
  · have hg : r.good = (decide (r.queue = 0) && (decide (r.id = 0) && (Span.has ⟨0, 1125899906842624⟩ r.num && (decide (r.wait = 0) && r.body.isEmpty)))) := by
      simp [Rec.good, formOf, k7, sWhen, has_none, e1]
    rw [hg] at fin
    refine Jn.dupB ⟨_, L1, Br.eq (fun e => ⟨_, L2, Br.eq (fun e2 => ⟨_, L3, in13_ok ⟨_, rfl, Br.bool (fun e3 => ⟨_, L4, Br.eq (fun e4 => ?_) fun e4 => ?_⟩) fun e3 => ?_⟩⟩) fun e2 => ?_⟩) fun e => ?_⟩
    all_goals exact fin _ (by simp [*])
  refine Jn.by (fun vs w1 => vs = [.bool (decide (r.kind = 8 ∨ r.kind = 9))] ∧ w1 = w1') ?_ ?_
  · refine Br.eq (fun e => ⟨by simp [eqI, e], rfl⟩) fun e => ⟨by simp [eqI_dec, e], rfl⟩
  intro b1 w2 ⟨hb, hw⟩
  subst hw
  obtain rfl : b1 = decide (r.kind = 8 ∨ r.kind = 9) := by simpa using hb
  clear hb
  refine Br.bool (fun k8 => ?_) fun n8 => ?_
  · have k8 : r.kind = 8 ∨ r.kind = 9 := by simpa using k8
    have hg : r.good = (decide (r.queue = 0) && (Span.has ⟨1, 1099511627776⟩ r.id && (decide (r.num = 0) && (decide (r.wait = 0) && r.body.isEmpty)))) := by
      have hf : formOf r.kind = some ⟨sNone, sId, sNone, sNone, false⟩ := by
        rcases k8 with k8 | k8 <;> simp [formOf, k8]
      simp [Rec.good, hf, sId, has_none, e1]
    rw [hg] at fin
    refine Jn.dupB ⟨_, L1, Br.eq (fun e => Br.bool (fun e2 => ⟨_, L3, Br.eq (fun e3 => ⟨_, L4, Br.eq (fun e4 => ?_) fun e4 => ?_⟩) fun e3 => ?_⟩) fun e2 => ?_) fun e => ?_⟩
    all_goals exact fin _ (by simp [*])
  have n8 : ¬ (r.kind = 8 ∨ r.kind = 9) := by simpa using n8
  refine Br.eq (fun k9 => ?_) fun n9 => Br.eq (fun k10 => ?_) fun n10 => ?_
  · have hg : r.good = (Span.has ⟨1, 16⟩ r.queue && (Span.has ⟨1, 1099511627776⟩ r.id && (Span.has ⟨0, 1125899907891200⟩ r.num && (Span.has ⟨0, 16⟩ r.wait && decide (r.body.length ≤ 512))))) := by
      simp [Rec.good, formOf, k9, sQueue, sId, sMany, sLate]
    rw [hg] at fin
    refine Jn.dupB (Br.bool (fun e => Br.bool (fun e2 => ⟨_, L3, in13_ok ⟨_, rfl, Br.bool (fun e3 => ⟨_, L4, in13_ok ⟨_, rfl, Br.bool (fun e4 => ?_) fun e4 => ?_⟩⟩) fun e3 => ?_⟩⟩) fun e2 => ?_) fun e => ?_)
    all_goals exact fin _ (by simp [*])
  · have hg : r.good = (Span.has ⟨1, 16⟩ r.queue && (Span.has ⟨1, 1099511627776⟩ r.id && (decide (r.num = 0) && (Span.has ⟨0, 16⟩ r.wait && decide (r.body.length ≤ 512))))) := by
      simp [Rec.good, formOf, k10, sQueue, sId, sMany, has_none]
    rw [hg] at fin
    refine Jn.dupB (Br.bool (fun e => Br.bool (fun e2 => ⟨_, L3, Br.eq (fun e3 => ⟨_, L4, in13_ok ⟨_, rfl, Br.bool (fun e4 => ?_) fun e4 => ?_⟩⟩) fun e3 => ?_⟩) fun e2 => ?_) fun e => ?_)
    all_goals exact fin _ (by simp [*])
  · refine fin2 false ?_
    have hf : formOf r.kind = none := by
      unfold formOf
      rw [if_neg n1, if_neg n2, if_neg n3, if_neg n4, if_neg n5, if_neg n6, if_neg n7, if_neg n8, if_neg n9, if_neg n10]
    simp [Rec.good, hf]

end Go.Dv

/-! the references: lists of records -/
set_option maxRecDepth 20000
namespace Go.Dv
open Go Go.Sh Go.Sl

variable {B : Bs} {w : World} {F : List HP} {K : Value → World → Prop}

theorem un_Record : ∃ fs, P.underlying t_api_Record = some (.struct fs) ∧ fs.all (·.name != "_") = true ∧ flds fs = [(t_int, 0), (t_int, 1), (t_int, 2), (t_int, 3), (t_int, 4), (t_string, 5)] := by
  refine ⟨((match P.underlying t_api_Record with | some (.struct fs) => fs | _ => #[])), ?_, ?_, ?_⟩ <;> kernel_rfl

/-- A record that can be held xs a key. -/
structure Rec.fit (r : Rec) : Prop where
  kind : -9223372036854775808 ≤ r.kind ∧ r.kind < 9223372036854775808
  queue : -9223372036854775808 ≤ r.queue ∧ r.queue < 9223372036854775808
  id : -9223372036854775808 ≤ r.id ∧ r.id < 9223372036854775808
  num : -9223372036854775808 ≤ r.num ∧ r.num < 9223372036854775808
  wait : -9223372036854775808 ≤ r.wait ∧ r.wait < 9223372036854775808
  body : r.body.length < 9223372036854775808

theorem good_fit {r : Rec} (h : r.good = true) : r.fit := by
  obtain ⟨h1, h2, h3, h4, h5, h6⟩ := good_spans h
  exact ⟨by omega, by omega, by omega, by omega, by omega, by omega⟩

theorem wf_i64 {x : Int} (h : -9223372036854775808 ≤ x ∧ x < 9223372036854775808) : (Lit.int .i64 x).wf = true := by
  simp only [Lit.wf, IntKind.min, IntKind.max, IntKind.signed, IntKind.bits, decide_eq_true_eq, Bool.and_eq_true]
  simp
  omega

theorem key_rec {r : Rec} (h : r.fit) : ∃ x, keyOf P t_api_Record r.val = some x := by
  obtain ⟨fs, hu, hall, hf⟩ := un_Record
  have hc : P.cellsOf t_api_Record = 6 := by kernel_rfl
  have hkt : P.keyType t_api_Record = true := by kernel_rfl
  obtain ⟨d, hd⟩ : ∃ d, P.types.size = d + 3 := ⟨P.types.size - 3, by
    have : 3 < P.types.size := of_decide_eq_true (by kernel_rfl)
    omega⟩
  have ui : P.underlying t_int = some (.int .i64) := by kernel_rfl
  have us : P.underlying t_string = some .string := by kernel_rfl
  have ci : P.cellsOf t_int = 1 := by kernel_rfl
  have cs : P.cellsOf t_string = 1 := by kernel_rfl
  have ki : ∀ x : Int, (-9223372036854775808 ≤ x ∧ x < 9223372036854775808) → P.keyLits (d + 3) t_int [.int .i64 x] = some [.int .i64 x] := fun x hx => by
    unfold Program.keyLits
    rw [ui]
    simp [wf_i64 hx]
  have ks : P.keyLits (d + 3) t_string [.string (str r.body)] = some [.string (str r.body).data.toList] := by
    unfold Program.keyLits
    rw [us]
    have : (str r.body).size ≤ maxLen := by rw [size_str]; have := h.body; unfold maxLen; omega
    simp [this]
  have h0 : ∃ ls, P.keyLits (P.types.size + 1) t_api_Record r.cells = some ls := by
    rw [hd, keyLits_stepS hu, if_pos ⟨by rw [hc]; rfl, hall⟩]
    have e1 : (fs.toList.mapM fun f => P.keyLits (d + 3) f.type (((r.cells).drop f.offset).take (P.cellsOf f.type))) = (flds fs).mapM fun x => P.keyLits (d + 3) x.1 (((r.cells).drop x.2).take (P.cellsOf x.1)) := by
      unfold flds
      generalize fs.toList = L
      induction L with
      | nil => rfl
      | cons f L ih => simp only [List.map_cons, List.mapM_cons, ih]
    rw [e1, hf]
    simp only [List.mapM_cons, List.mapM_nil, ci, cs]
    simp only [Rec.cells, List.drop_zero, List.drop_succ_cons, List.take_succ_cons, List.take_zero]
    rw [ki _ h.kind, ki _ h.queue, ki _ h.id, ki _ h.num, ki _ h.wait, ks]
    simp
  obtain ⟨ls, h0⟩ := h0
  refine ⟨.string (keyBytes ls), ?_⟩
  have hfm : r.val.formed P t_api_Record = true := by
    simp only [Rec.val, Value.formed, hu, hc]
    rfl
  unfold keyOf
  rw [hu]
  simp only [hkt, hfm, Bool.and_self, if_true]
  have : r.val.cells.toList = r.cells := rfl
  rw [this, h0]
  rfl

theorem Rec.cells_inj {a b : Rec} (h : a.cells = b.cells) : a = b := by
  cases a; cases b
  simp only [Rec.cells, List.cons.injEq, Value.int.injEq, Value.string.injEq, true_and, and_true] at h
  obtain ⟨rfl, rfl, rfl, rfl, rfl, h⟩ := h
  rw [str_inj h]

theorem neq_rec {a b : Rec} (ha : a.fit) (hb : b.fit) (x y : Operand) : ∃ r : Bool, (binS .neq t_api_Record x y a.val b.val).run P w = .ok (.bool r) w ∧ (r = true ↔ a ≠ b) := by
  obtain ⟨lx, hx⟩ := key_rec ha
  obtain ⟨ly, hy⟩ := key_rec hb
  have hkt : P.keyTypeAt 3 t_api_Record = true := by kernel_rfl
  obtain ⟨r, h1, h2⟩ := neq_run (w := w) (m := 3) (by omega) hkt (by kernel_rfl) (tiled_of_laidOut laid 3 t_api_Record (by kernel_rfl) hkt) (by kernel_rfl) hx hy x y
  refine ⟨r, h1, ?_⟩
  rw [h2]
  constructor
  · intro h e; exact h (by rw [e])
  · intro h e; exact h (Rec.cells_inj (by simpa using congrArg Array.toList e))

theorem Same_ok {p q : Option Addr} {m mc n nc : Nat} {xs bs : List Rec} (h : Sat B w F) (hp : Rd B p (rcells xs)) (hm : m = xs.length) (hq : Rd B q (rcells bs)) (hn : n = bs.length) (ha : ∀ r ∈ xs, r.fit) (hb : ∀ r ∈ bs, r.fit) (hl : xs.length < 1000000000000)
    (hk : ∀ c w', (c = true ↔ xs = bs) → Sat B w' F → K (.bool c) w') : Cs P f_coffretref13_Same #[.slice p m mc, .slice q n nc] w K := by
  subst hm hn
  refine ok_coffretref13_Same _ _ _ _ _ _ ?_
  unfold vc_coffretref13_Same
  refine Br.ne (fun hne => hk false _ ⟨(fun hc => by cases hc), (fun e => absurd (by rw [e]) hne)⟩ h) fun he => ?_
  have he : xs.length = bs.length := by omega
  refine Lp.up xs.length (fun i vs w => vs = [.int .i64 i] ∧ xs.take i = bs.take i ∧ Sat B w F) ⟨rfl, by simp, h⟩ fun J nx cs => ?_
  intro n0 l0 w1 hJ
  obtain ⟨i, hi, rfl, hv, hg, h⟩ := cs _ _ _ hJ
  obtain rfl : n0 = (i : Int) := by simpa using hv
  refine Br.lt (fun hlt => ?_) (fun hge => ?_)
  · have hlt : i < xs.length := by omega
    have hlb : i < bs.length := by omega
    intro w2 ha2
    have h := h.alk ha2
    refine hp.ix hlt (by rw [rcells_length]; omega) fun a hr' => ⟨_, ld_rec h hr' hlt, ?_⟩
    refine hq.ix hlb (by rw [rcells_length]; omega) fun a2 hr2 => ⟨_, ld_rec h hr2 hlb, ?_⟩
    obtain ⟨r, h1, h2⟩ := neq_rec (w := w2) (ha _ (List.getElem_mem hlt)) (hb _ (List.getElem_mem hlb)) (Operand.tmp 19) (Operand.tmp 23)
    refine ⟨r, h1, Br.bool (fun hr => ?_) fun hr => ?_⟩
    · refine hk false _ ⟨(fun hc => by cases hc), (fun e => ?_)⟩ h
      exact absurd (by subst e; rfl) (h2.1 hr)
    · have e : xs[i] = bs[i] := by
        by_cases e : xs[i] = bs[i]
        · exact e
        · have := h2.2 e; rw [hr] at this; cases this
      refine nx i _ _ _ hlt rfl ⟨?_, ?_, h⟩
      · rw [w64 (by omega) (by omega)]; simp
      · rw [List.take_add_one, List.take_add_one, List.getElem?_eq_getElem hlt, List.getElem?_eq_getElem hlb, hg, e]
  · have hin : i = xs.length := by omega
    subst hin
    rw [List.take_length, he, List.take_length] at hg
    exact hk true _ ⟨(fun _ => hg), (fun _ => rfl)⟩ h

def greatB (rs : List Rec) (most : Int) : Bool := rs.any (fun r => decide (4096 < r.body.length)) || decide (most < rs.length)

theorem Great_ok {q : Option Addr} {m mc : Nat} {rs : List Rec} {most : Int} (h : Sat B w F) (hr : Rd B q (rcells rs)) (hm : m = rs.length) (hl : rs.length < 9223372036854775808)
    (hk : ∀ w', Sat B w' F → K (.bool (greatB rs most)) w') : Cs P f_coffretref13_Great #[.slice q m mc, .int .i64 most] w K := by
  subst hm
  refine ok_coffretref13_Great _ _ _ _ ?_
  unfold vc_coffretref13_Great
  refine Lp.up rs.length (fun i vs w => vs = [.int .i64 i] ∧ (∀ r ∈ rs.take i, ¬ 4096 < r.body.length) ∧ Sat B w F) ⟨rfl, by simp, h⟩ fun J nx cs => ?_
  intro n0 l0 w1 hJ
  obtain ⟨i, hi, rfl, hv, hg, h⟩ := cs _ _ _ hJ
  obtain rfl : n0 = (i : Int) := by simpa using hv
  refine Br.lt (fun hlt => ?_) (fun hge => ?_)
  · have hlt : i < rs.length := by omega
    refine hr.ix hlt (by rw [rcells_length]; omega) fun a hr' => ⟨_, ld_rec h hr' hlt, ?_⟩
    refine h.var zr_Record fun b1 w' h => ?_
    refine Sat.stA (n := 6) (vs := rs[i].cells) h wd_Record rfl (ones_Rec _) (by simp) fun w' h => ⟨_, ld1 sc_string h.bk rfl, ?_⟩
    show Br _ _ _
    simp only [size_str]
    refine Br.gt (fun hgt => ?_) fun hle => ?_
    · have e : greatB rs most = true := by
        have : rs.any (fun r => decide (4096 < r.body.length)) = true := List.any_eq_true.2 ⟨rs[i], List.getElem_mem hlt, by simp; omega⟩
        simp [greatB, this]
      rw [e] at hk
      exact hk _ h.tail
    · refine nx i _ _ _ hlt rfl ⟨?_, ?_, h.tail⟩
      · rw [w64 (by omega) (by omega)]; simp
      · have ht : rs.take (i + 1) = rs.take i ++ [rs[i]] := by rw [List.take_add_one, List.getElem?_eq_getElem hlt]; rfl
        rw [ht]
        intro r hr
        rcases List.mem_append.1 hr with hr | hr
        · exact hg r hr
        · rw [List.mem_singleton.1 hr]; omega
  · have hin : i = rs.length := by omega
    rw [hin, List.take_length] at hg
    have e : greatB rs most = gtI ((rs.length : Nat) : Int) most := by
      have : rs.any (fun r => decide (4096 < r.body.length)) = false := List.any_eq_false.2 fun r hr => by simpa using hg r hr
      simp [greatB, this, gtI]
    rw [e] at hk
    exact hk _ h

theorem All_ok {q : Option Addr} {m mc : Nat} {rs : List Rec} (h : Sat B w F) (hr : Rd B q (rcells rs)) (hm : m = rs.length) (hl : rs.length < 1000000000000000)
    (hk : ∀ w', Sat B w' F → K (.bool (rs.all Rec.good)) w') : Cs P f_coffretref13_All #[.slice q m mc] w K := by
  subst hm
  refine ok_coffretref13_All _ _ _ ?_
  unfold vc_coffretref13_All
  refine Lp.up rs.length (fun i vs w => vs = [.int .i64 i] ∧ (∀ r ∈ rs.take i, r.good = true) ∧ Sat B w F) ⟨rfl, by simp, h⟩ fun J nx cs => ?_
  intro n0 l0 w1 hJ
  obtain ⟨i, hi, rfl, hv, hg, h⟩ := cs _ _ _ hJ
  obtain rfl : n0 = (i : Int) := by simpa using hv
  refine Br.lt (fun hlt => ?_) (fun hge => ?_)
  · have hlt : i < rs.length := by omega
    refine hr.ix hlt (by rw [rcells_length]; omega) fun a hr' => ⟨_, ld_rec h hr' hlt, ?_⟩
    refine h.var zr_Record fun b1 w' h => ?_
    refine Sat.stA (n := 6) (vs := rs[i].cells) h wd_Record rfl (ones_Rec _) (by simp) fun w' h => ⟨_, ldA (n := 6) (L := rs[i].cells) wd_Record h.bk (by simp [Rec.cells]), ?_⟩
    refine RGood13_ok (r := rs[i]) h fun w' h => ⟨_, rfl, Br.not (Br.bool (fun hgi => ?_) fun hgi => ?_)⟩
    · refine nx i _ _ _ hlt rfl ⟨?_, ?_, h.tail⟩
      · rw [w64 (by omega) (by omega)]; simp
      · have ht : rs.take (i + 1) = rs.take i ++ [rs[i]] := by rw [List.take_add_one, List.getElem?_eq_getElem hlt]; rfl
        rw [ht]
        intro r hr
        rcases List.mem_append.1 hr with hr | hr
        · exact hg r hr
        · rw [List.mem_singleton.1 hr]; exact hgi
    · have e : rs.all Rec.good = false := List.all_eq_false.2 ⟨rs[i], List.getElem_mem hlt, by simp [hgi]⟩
      rw [e] at hk
      exact hk _ h.tail
  · have hin : i = rs.length := by omega
    rw [hin, List.take_length] at hg
    have e : rs.all Rec.good = true := List.all_eq_true.2 hg
    rw [e] at hk
    exact hk _ h

theorem Size15_ok {q : Option Addr} {m mc : Nat} {rs : List Rec} (h : Sat B w F) (hr : Rd B q (rcells rs)) (hm : m = rs.length) (hs : ∀ r ∈ rs, r.body.length ≤ 1048576) (hn : rs.length ≤ 1048576)
    (hk : ∀ w', Sat B w' F → K (.int .i64 (fsize rs)) w') : Cs P f_coffretref15_Size #[.slice q m mc] w K := by
  subst hm
  refine ok_coffretref15_Size _ _ _ ?_
  unfold vc_coffretref15_Size
  refine Lp.up rs.length (fun i vs w => vs = [.int .i64 (fsize (rs.take i)), .int .i64 i] ∧ Sat B w F) ⟨rfl, h⟩ fun J nx cs => ?_
  intro n0 n1 l0 w1 hJ
  obtain ⟨i, hi, rfl, hv, h⟩ := cs _ _ _ hJ
  simp only [List.cons.injEq, Value.int.injEq, true_and, and_true] at hv
  obtain ⟨rfl, rfl⟩ := hv
  refine Br.lt (fun hlt => ?_) (fun hge => ?_)
  · have hlt : i < rs.length := by omega
    refine hr.ix hlt (by rw [rcells_length]; omega) fun a hr' => ⟨_, ld_rec h hr' hlt, ?_⟩
    refine h.var zr_Record fun b1 w' h => ?_
    refine Sat.stA (n := 6) (vs := rs[i].cells) h wd_Record rfl (ones_Rec _) (by simp) fun w' h => ⟨_, ld1 sc_string h.bk rfl, ?_⟩
    show Nx _ _ _ _
    simp only [size_str]
    have hb := hs _ (List.getElem_mem hlt)
    have hsz : sizes (rs.take i) ≤ 1048612 * (rs.take i).length := sizes_le fun r hr => hs r (List.mem_of_mem_take hr)
    have hl2 : (rs.take i).length = i := by rw [List.length_take]; omega
    have hf : fsize (rs.take i) = 48 + sizes (rs.take i) + 27 * i := by unfold fsize; rw [hl2]
    have hf2 : fsize (rs.take (i + 1)) = fsize (rs.take i) + 63 + rs[i].body.length := by
      unfold fsize
      rw [sizes_take hlt]
      simp only [List.length_take]
      omega
    rw [hl2] at hsz
    have hsz2 : 1048612 * i ≤ 1048612 * 1048576 := Nat.mul_le_mul_left _ (by omega)
    refine nx i _ _ _ hlt rfl ⟨?_, h.tail⟩
    rw [w64 (x := ((fsize (rs.take i) : Nat) : Int) + 63) (by omega) (by omega), w64 (by omega) (by omega), w64 (by omega) (by omega), hf2]
    simp
  · have hin : i = rs.length := by omega
    rw [hin, List.take_length]
    exact hk _ h

theorem Sectors15_ok {q : Option Addr} {m mc : Nat} {rs : List Rec} (h : Sat B w F) (hr : Rd B q (rcells rs)) (hm : m = rs.length) (hs : ∀ r ∈ rs, r.body.length ≤ 1048576) (hn : rs.length ≤ 1048576)
    (hk : ∀ w', Sat B w' F → K (.int .i64 (fsect rs)) w') : Cs P f_coffretref15_Sectors #[.slice q m mc] w K := by
  refine ok_coffretref15_Sectors _ _ _ ?_
  unfold vc_coffretref15_Sectors
  refine Size15_ok h hr hm hs hn fun w' h => ⟨_, rfl, by simp [Nz], by simp [Nz], ?_⟩
  have hsz := sizes_le hs
  have hsz2 : sizes rs ≤ 1048612 * 1048576 := Nat.le_trans hsz (Nat.mul_le_mul_left _ hn)
  have hf : fsize rs ≤ 1048612 * 1048576 + 27 * 1048576 + 48 := by unfold fsize; omega
  have e1 : Int.tdiv (fsize rs : Int) 256 = ((fsize rs / 256 : Nat) : Int) := by
    rw [Int.tdiv_eq_ediv_of_nonneg (by omega)]; omega
  have e2 : Int.tmod (fsize rs : Int) 256 = ((fsize rs % 256 : Nat) : Int) := by
    rw [Int.tmod_eq_emod_of_nonneg (by omega)]; omega
  rw [e1, e2]
  refine Jn.dupI (Br.gt (fun h1 => ⟨_, rfl, ?_⟩) fun h1 => ⟨_, rfl, ?_⟩)
  · rw [w64 (x := ((fsize rs / 256 : Nat) : Int)) (by omega) (by omega), w64 (by omega) (by omega)]
    have : ((fsize rs / 256 : Nat) : Int) + 1 = (fsect rs : Int) := by unfold fsect; omega
    rw [this]; exact hk _ h
  · rw [w64 (by omega) (by omega)]
    have : ((fsize rs / 256 : Nat) : Int) = (fsect rs : Int) := by unfold fsect; omega
    rw [this]; exact hk _ h

end Go.Dv

/-! the references: a list in lists -/
set_option maxRecDepth 20000
namespace Go.Dv
open Go Go.Sh Go.Sl

variable {B : Bs} {w : World} {F : List HP} {K : Value → World → Prop}

theorem Sat.bufCap {e k : Nat} {p : Option Addr} {l c : Nat} {cs : List Value} (h : Sat B w (buf e k p l c cs :: F)) : l ≤ c := by
  rcases h.bufCases with ⟨_, h1, h2, _⟩ | ⟨_, _, _, h, _⟩
  · omega
  · exact h

theorem rcells_snoc (rs : List Rec) (r : Rec) : rcells (rs ++ [r]) = rcells rs ++ r.cells := by simp [rcells]
theorem rcells_one (r : Rec) : rcells [r] = r.cells := by simp [rcells]
theorem rcells_app (xs ys : List Rec) : rcells (xs ++ ys) = rcells xs ++ rcells ys := by simp [rcells]
theorem ones_rcells (rs : List Rec) : ones (rcells rs) := by
  intro v hv
  obtain ⟨r, _, hr⟩ := List.mem_flatMap.1 hv
  exact ones_Rec r v hr

/-- An empty row of records. -/
theorem Sat.buildNone {K : Option Addr → Nat → Nat → World → Prop} (h : Sat B w F) (hk : ∀ p w', Sat B w' (buf t_api_Record 6 p 0 0 [] :: F) → K p 0 0 w') : DoL P (Instr.buildSlice t_sl_api_Record 0 #[]) w K :=
  h.buildSlice (n := 0) (L := []) el_recs (by omega) (fun zs hz => by
    have : zs = [] := List.eq_nil_of_length_eq_zero (by omega)
    subst this; rfl) rfl fun p w' h => hk p w' h

/-- Records behind records. -/
theorem Sat.appendRecs {p q : Option Addr} {l c m mc : Nat} {xs ys : List Rec} {K : Option Addr → Nat → Nat → World → Prop} (h : Sat B w (buf t_api_Record 6 p l c (rcells xs) :: F)) (hl : l = xs.length) (hr : Rd B q (rcells ys)) (hm : m = ys.length) (hb : xs.length + ys.length ≤ 1000000000000)
    (hk : ∀ p' c' w', Sat B w' (buf t_api_Record 6 p' (xs ++ ys).length c' (rcells (xs ++ ys)) :: F) → K p' (xs ++ ys).length c' w') : DoL P (Builtin.append_ #[t_sl_api_Record, t_sl_api_Record] t_sl_api_Record #[.slice p l c, .slice q m mc]) w K := by
  subst hl hm
  refine Sat.append h el_recs hr (rcells_length _) (ones_rcells _) (by omega) fun p' c' w' h => ?_
  rw [← rcells_app, ← List.length_append] at h
  rw [← List.length_append]
  exact hk _ _ _ h

/-- One record, as a row. -/
theorem Sat.buildRec {r : Rec} {K : Option Addr → Nat → Nat → World → Prop} (h : Sat B w F) (hk : ∀ p w', Sat B w' (buf t_api_Record 6 p 1 1 (rcells [r]) :: F) → K p 1 1 w') : DoL P (Instr.buildSlice t_sl_api_Record 1 #[(0, r.val)]) w K :=
  h.buildOne (L := r.cells) el_recs (by omega) rfl rfl fun p w' h => hk p w' (by rw [rcells_one]; exact h)

theorem Split15_ok {q : Option Addr} {m mc : Nat} {rs : List Rec} (h : Sat B w F) (hr : Rd B q (rcells rs)) (hm : m = rs.length) (hs : ∀ r ∈ rs, r.body.length ≤ 1048576) (hn : rs.length ≤ 1048576)
    (hk : ∀ B' p c vs w', B.le B' → Sat B' w' (buf t_sl_api_Record 1 p (split rs).length c vs :: F) → Rows B' vs (split rs) → K (.slice p (split rs).length c) w') : Cs P f_coffretref15_Split #[.slice q m mc] w K := by
  subst hm
  refine ok_coffretref15_Split _ _ _ ?_
  unfold vc_coffretref15_Split
  refine Lp.up rs.length (fun i vs w => ∃ B' p c rows v, vs = [.slice p ((rs.take i).foldl splitStep ([], [])).1.length c, v, .int .i64 i] ∧ B.le B' ∧ RsOf B' v ((rs.take i).foldl splitStep ([], [])).2 ∧
    Sat B' w (buf t_sl_api_Record 1 p ((rs.take i).foldl splitStep ([], [])).1.length c rows :: F) ∧ Rows B' rows ((rs.take i).foldl splitStep ([], [])).1 ∧ ((rs.take i).foldl splitStep ([], [])).1.length ≤ i) ⟨B, none, 0, [], .slice none 0 0, by simp, Bs.le.refl B, ⟨none, 0, by simp, by simp, .inl rfl⟩, by simpa using h.buf0, ⟨rfl, fun i h => absurd h (by simp)⟩, by simp⟩ fun I nx cs => ?_
  intro p0 l0 l1 p1 l2 l3 n0 l4 w0 hI
  obtain ⟨i, hi, rfl, B1, p, c, rows, v, hv, hle1, hrs, h, hrows, hol⟩ := cs _ _ _ hI
  have hst := foldl_take splitStep ([], []) rs i
  have hcd := cur_drop hi rfl
  have hcs := cur_small hs hi rfl
  generalize hS : (rs.take i).foldl splitStep ([], []) = S at *
  obtain ⟨pn, cn, rfl, hcn, hnow⟩ := hrs
  obtain ⟨⟨rfl, rfl, rfl⟩, ⟨rfl, rfl, rfl⟩, rfl⟩ : (p0 = p ∧ l0 = S.1.length ∧ l1 = c) ∧ (p1 = pn ∧ l2 = S.2.length ∧ l3 = cn) ∧ n0 = (i : Int) := by simpa using hv
  have addRow : ∀ {B1 : Bs} {w : World} {F' : List HP} {rows : List Value} {G : Option Addr → Nat → Nat → World → Prop}, Sat B1 w (buf t_sl_api_Record 1 p0 S.1.length l1 rows :: F') → Rd B1 p1 (rcells S.2) → Rows B1 rows S.1 →
      (∀ p' c' rows' w', Sat B1 w' (buf t_sl_api_Record 1 p' (S.1 ++ [S.2]).length c' rows' :: F') → Rows B1 rows' (S.1 ++ [S.2]) → G p' (S.1 ++ [S.2]).length c' w') →
      DoL P (Instr.buildSlice t_sl_sl_api_Record 1 #[(0, .slice p1 S.2.length l3)]) w fun p3 l7 l8 w7 ↦
          DoL P (Builtin.append_ #[t_sl_sl_api_Record, t_sl_sl_api_Record] t_sl_sl_api_Record #[.slice p0 S.1.length l1, .slice p3 l7 l8]) w7 fun p4 l9 l10 w8 ↦ G p4 l9 l10 w8 := by
    intro B1 w F' rows G h hnow hrows hG
    refine h.build1 el_rows rfl fun p3 w' h => ?_
    obtain ⟨B2, hle2, h, hr1, _⟩ := h.fix
    refine Sat.append h el_rows hr1 rfl (by intro v hv; simp only [List.mem_singleton] at hv; subst hv; rfl) (by omega) fun p' c' w' h => ?_
    have := hG p' c' _ w' (by simpa using h.thaw hle2) (hrows.snoc ⟨p1, l3, rfl, hcn, hnow⟩)
    simpa using this
  refine Br.lt (fun hlt => ?_) (fun hge => ?_)
  · have hlt : i < rs.length := by omega
    have hst := hst hlt
    have hbi := hs rs[i] (List.getElem_mem hlt)
    refine (hr.mono hle1).ix hlt (by rw [rcells_length]; omega) fun a hr' => ⟨_, ld_rec h hr' hlt, ?_⟩
    refine h.var zr_Record fun b1 w' h => ?_
    refine Sat.stA (n := 6) (vs := rs[i].cells) h wd_Record rfl (ones_Rec _) (by simp) fun w' h => ?_
    have ec : List.take 0 [Value.int IntKind.i64 0, .int .i64 0, .int .i64 0, .int .i64 0, .int .i64 0, .string (str [])] ++ rs[i].cells ++ List.drop (0 + 6) [Value.int IntKind.i64 0, .int .i64 0, .int .i64 0, .int .i64 0, .int .i64 0, .string (str [])] = rs[i].cells := by simp
    rw [ec] at h
    have st : ∀ {B2 : Bs} {w' : World} {F' : List HP}, Sat B2 w' (bk b1 t_api_Record rs[i].cells :: F') → (loadVar t_api_Record ⟨b1, 0, none⟩).run P w' = .ok rs[i].val w' := fun h => ldA (n := 6) (L := rs[i].cells) wd_Record h.bk (by simp [Rec.cells])
    have hS2 : S.2.length ≤ 1048576 := by omega
    refine Jn.by (fun vs w => ∃ p c, vs = [.slice p (S.2 ++ [rs[i]]).length c] ∧ Sat B1 w (buf t_api_Record 6 p (S.2 ++ [rs[i]]).length c (rcells (S.2 ++ [rs[i]])) :: bk b1 t_api_Record rs[i].cells :: buf t_sl_api_Record 1 p0 S.1.length l1 rows :: F)) ?_ ?_
    · intro w2 ha2
      have h := h.alk ha2
      refine ⟨_, st h, ?_, ?_⟩
      · refine Sat.buildNone h fun p2 w3 h => ⟨⟨st (h.pull 1), trivial⟩, ?_, ?_⟩
        · refine Sat.appendRecs (xs := []) h rfl hnow rfl (by simp; omega) fun p3 c3 w4 h => ⟨⟨st (h.pull 1), trivial⟩, ?_⟩
          refine Sat.buildRec h fun p4 w5 h => ?_
          obtain ⟨B2, hle2, h, hr2, _⟩ := h.fix
          refine Sat.appendRecs h rfl hr2 rfl (by simp; omega) fun p5 c5 w6 h => ⟨p5, c5, rfl, h.thaw hle2⟩
        · refine Sat.buildRec h fun p4 w5 h => ?_
          obtain ⟨B2, hle2, h, hr2, _⟩ := h.fix
          refine Sat.appendRecs (xs := []) h rfl (hnow.mono hle2) rfl (by simp; omega) fun p3 c3 w4 h => ?_
          refine Sat.appendRecs h rfl hr2 rfl (by simp; omega) fun p5 c5 w6 h => ⟨p5, c5, rfl, h.thaw hle2⟩
      · refine Sat.buildRec h fun p4 w5 h => ?_
        obtain ⟨B2, hle2, h, hr2, _⟩ := h.fix
        refine Sat.buildNone h fun p2 w3 h => ?_
        refine Sat.appendRecs (xs := []) h rfl (hnow.mono hle2) rfl (by simp; omega) fun p3 c3 w4 h => ?_
        refine Sat.appendRecs h rfl hr2 rfl (by simp; omega) fun p5 c5 w6 h => ⟨p5, c5, rfl, h.thaw hle2⟩
    · rintro p13 l27 l28 w3 ⟨pm, cm, hv, h⟩
      obtain ⟨rfl, rfl, rfl⟩ : p13 = pm ∧ l27 = (S.2 ++ [rs[i]]).length ∧ l28 = cm := by simpa using hv
      have hcap := Sat.bufCap h
      obtain ⟨B2, hle2, h, hmore, _⟩ := h.fix
      have hsm : ∀ r ∈ S.2 ++ [rs[i]], r.body.length ≤ 1048576 := fun r hr => by
        rcases List.mem_append.1 hr with hr | hr
        · refine hs r ?_
          rw [← hcd.2] at hr
          exact List.mem_of_mem_take (List.mem_of_mem_drop hr)
        · rw [List.mem_singleton.1 hr]; exact hbi
      have hfs := fsize_snoc S.2 rs[i]
      refine Jn.by (fun vs w => ∃ c, vs = [.bool c] ∧ (c = true ↔ S.2 ≠ [] ∧ 16384 < fsize S.2 + (36 + rs[i].body.length + 27)) ∧ Sat B2 w (bk b1 t_api_Record rs[i].cells :: buf t_sl_api_Record 1 p0 S.1.length l1 rows :: F)) ?_ ?_
      · refine Br.gt (fun hgt => ?_) fun hle => ?_
        · refine Size15_ok h hmore rfl hsm (by simp; omega) fun w' h => ⟨_, rfl, _, rfl, ?_, h⟩
          simp only [gtI, decide_eq_true_eq]
          rw [hfs]
          constructor
          · intro hx; exact ⟨fun e => by rw [e] at hgt; simp at hgt, by omega⟩
          · intro hx; omega
        · refine ⟨_, rfl, ?_, h⟩
          constructor
          · intro hx; cases hx
          · rintro ⟨hx, _⟩
            have : 0 < S.2.length := List.length_pos_iff.2 hx
            omega
      · rintro b0 w4 ⟨c0, hv, hc, h⟩
        obtain rfl : b0 = c0 := by simpa using hv
        refine Jn.by (fun vs w => ∃ B' p' c' rows' v', vs = [.slice p' (splitStep S rs[i]).1.length c', v'] ∧ B.le B' ∧ RsOf B' v' (splitStep S rs[i]).2 ∧ Sat B' w (buf t_sl_api_Record 1 p' (splitStep S rs[i]).1.length c' rows' :: F) ∧ Rows B' rows' (splitStep S rs[i]).1 ∧ (splitStep S rs[i]).1.length ≤ i + 1) ?_ ?_
        · cases b0 with
          | true =>
            have hcc := hc.1 rfl
            have es : splitStep S rs[i] = (S.1 ++ [S.2], [rs[i]]) := by unfold splitStep; rw [if_pos hcc]
            refine Br.t ?_
            refine addRow (h.pull 1) (hnow.mono hle2) (hrows.mono hle2) fun p' c' rows' w5 h hrows' => ?_
            refine ⟨_, st (h.pull 1), ?_⟩
            refine Sat.buildRec h fun p4 w5 h => ?_
            obtain ⟨B3, hle3, h, hr2, _⟩ := h.fix
            rw [es]
            exact ⟨B3, p', c', rows', _, rfl, (hle1.trans hle2).trans hle3, ⟨p4, 1, rfl, by simp, hr2⟩, (h.pull 1).tail, hrows'.mono hle3, by simp; omega⟩
          | false =>
            have hcc : ¬ (S.2 ≠ [] ∧ 16384 < fsize S.2 + (36 + rs[i].body.length + 27)) := fun hx => by have := hc.2 hx; cases this
            have es : splitStep S rs[i] = (S.1, S.2 ++ [rs[i]]) := by unfold splitStep; rw [if_neg hcc]
            refine Br.f ?_
            rw [es]
            exact ⟨B2, p0, l1, rows, _, rfl, hle1.trans hle2, ⟨p13, l28, rfl, hcap, hmore⟩, h.tail, hrows.mono hle2, by simp only; omega⟩
        · rintro p17 l35 l36 p18 l37 l38 w21 ⟨B', p', c', rows', v', hv, hle', hrs', h, hrows', hol'⟩
          refine nx i _ _ _ hlt rfl ⟨B', p', c', rows', v', ?_, hle', ?_⟩
          · rw [hst, w64 (x := (i : Int) + 1) (by omega) (by omega)]
            simp only [List.cons.injEq, and_true] at hv
            rw [hv.1, hv.2]
            rfl
          · rw [hst]; exact ⟨hrs', h, hrows', hol'⟩
  · have hin : i = rs.length := by omega
    have hsp : split rs = splitEnd S := by unfold split; rw [← hS, hin, List.take_length]
    refine Jn.by (fun vs w => ∃ p' c' rows', vs = [.slice p' (split rs).length c'] ∧ Sat B1 w (buf t_sl_api_Record 1 p' (split rs).length c' rows' :: F) ∧ Rows B1 rows' (split rs)) ?_ ?_
    · refine Br.gt (fun hlt2 => ?_) fun hge2 => ?_
      · have hne : S.2 ≠ [] := fun e => by rw [e] at hlt2; simp at hlt2
        refine addRow h hnow hrows fun p' c' rows' w' h hrows => ⟨p', c', rows', ?_⟩
        rw [hsp, splitEnd, if_neg hne]
        exact ⟨rfl, h, hrows⟩
      · have he : S.2 = [] := by
          refine List.eq_nil_of_length_eq_zero ?_
          omega
        rw [hsp, splitEnd, if_pos he]
        exact ⟨p0, l1, rows, rfl, h, hrows⟩
    · rintro p9 l19 l20 w13 ⟨p', c', rows', hv, h, hrows⟩
      obtain ⟨rfl, rfl, rfl⟩ : p9 = p' ∧ l19 = (split rs).length ∧ l20 = c' := by simpa using hv
      exact hk _ _ _ _ _ hle1 h hrows

end Go.Dv

/-! the reference of a log -/
set_option maxRecDepth 20000
namespace Go.Dv
open Go Go.Sh Go.Sl

variable {B : Bs} {w : World} {F : List HP} {K : Value → World → Prop}

theorem wd_Ref : wide P t_coffretref17_Log = some 9 := by kernel_rfl
theorem pt_Ref : parts P t_coffretref17_Log = some ([(0, 1), (1, 1), (2, 1), (3, 1), (4, 1), (5, 1), (6, 1), (7, 1), (8, 1)], [.int .i64 0, .int .i64 0, .int .i64 0, .int .i64 0, .int .i64 0, .bool false, .int .i64 0, .int .i64 0, .slice none 0 0]) := by kernel_rfl
theorem zr_Ref : zeros P t_coffretref17_Log = some [.int .i64 0, .int .i64 0, .int .i64 0, .int .i64 0, .int .i64 0, .bool false, .int .i64 0, .int .i64 0, .slice none 0 0] := by kernel_rfl

structure Rf where
  half : Int
  limit : Int
  most : Int
  count : Int
  epoch : Int
  fresh : Bool
  used : Int
  seq : Int
  list : List Rec

structure Rf.ok (R : Rf) : Prop where
  half : 0 ≤ R.half ∧ R.half ≤ 1000000
  limit : 0 ≤ R.limit ∧ R.limit < 9223372036854775808
  most : 0 ≤ R.most ∧ R.most < 9223372036854775808
  count : 0 ≤ R.count ∧ R.count ≤ R.most
  epoch : 0 ≤ R.epoch ∧ R.epoch < 4294967296
  used : 0 ≤ R.used ∧ R.used ≤ R.half
  seq : 0 ≤ R.seq ∧ R.seq ≤ 1000000000000
  list : R.list.length ≤ 100000000000
  good : ∀ r ∈ R.list, r.good = true

def rfc (R : Rf) (v : Value) : List Value := [.int .i64 R.half, .int .i64 R.limit, .int .i64 R.most, .int .i64 R.count, .int .i64 R.epoch, .bool R.fresh, .int .i64 R.used, .int .i64 R.seq, v]

def goodL (rs : List Rec) : Bool := !rs.isEmpty && rs.all Rec.good

def Rf.turn (R : Rf) (rs : List Rec) : Rf × Int :=
  if goodL rs = false then (R, 1)
  else if R.most ≤ R.count ∨ 4294967296 ≤ R.epoch + 1 ∨ R.limit < rs.length then (R, 10)
  else if R.half < total (split rs) then (R, 7)
  else ({ R with count := R.count + 1, epoch := R.epoch + 1, fresh := true, used := total (split rs), seq := rs.length, list := rs }, 0)
def Rf.commit (R : Rf) (rs : List Rec) : Rf × Int :=
  if goodL rs = false ∨ R.fresh = false then (R, 1)
  else if 16384 < fsize rs then (R, 3)
  else if R.most ≤ R.count ∨ R.limit < R.seq + rs.length then (R, 10)
  else if R.half < R.used + fsect rs then (R, 7)
  else ({ R with count := R.count + 1, used := R.used + fsect rs, seq := R.seq + rs.length, list := R.list ++ rs }, 0)
def Rf.save (R : Rf) (st ch : List Rec) : Rf × Int × Option Rf :=
  if (R.commit ch).2 ≠ 7 ∧ (R.commit ch).2 ≠ 10 then ((R.commit ch).1, (R.commit ch).2, none)
  else if (R.commit ch).1.most - (R.commit ch).1.count < 2 then ((R.commit ch).1, 10, none)
  else if ((R.commit ch).1.turn st).2 ≠ 0 then (((R.commit ch).1.turn st).1, ((R.commit ch).1.turn st).2, none)
  else ((((R.commit ch).1.turn st).1.commit ch).1, (((R.commit ch).1.turn st).1.commit ch).2, some ((R.commit ch).1.turn st).1)

theorem goodL_all {rs : List Rec} (h : goodL rs = true) : rs ≠ [] ∧ ∀ r ∈ rs, r.good = true := by
  simp only [goodL, Bool.and_eq_true, Bool.not_eq_true', List.isEmpty_eq_false_iff, List.all_eq_true] at h
  exact h

theorem good17_ok {q : Option Addr} {m mc : Nat} {rs : List Rec} (h : Sat B w F) (hr : Rd B q (rcells rs)) (hm : m = rs.length) (hl : rs.length < 1000000000000000)
    (hk : ∀ w', Sat B w' F → K (.bool (goodL rs)) w') : Cs P f_coffretref17_good #[.slice q m mc] w K := by
  refine ok_coffretref17_good _ _ _ ?_
  unfold vc_coffretref17_good
  refine Jn.dupB (Br.gt (fun hgt => ?_) fun hle => ⟨_, rfl, ?_⟩)
  · refine All_ok h hr hm hl fun w' h => ⟨_, rfl, _, rfl, ?_⟩
    have e : goodL rs = rs.all Rec.good := by
      have : rs ≠ [] := fun e => by rw [hm, e] at hgt; simp at hgt
      simp [goodL, this]
    rw [← e]
    exact hk _ h
  · have e : goodL rs = false := by
      have : rs = [] := List.eq_nil_of_length_eq_zero (by omega)
      simp [goodL, this]
    rw [← e]
    exact hk _ h

theorem New17_ok {n l m : Int} (h : Sat B w F) (hn : -9223372036854775808 ≤ n ∧ n < 9223372036854775808)
    (hk : ∀ b w', Sat B w' (bk b t_coffretref17_Log (rfc ⟨Int.tdiv n 2, mxI l 0, mxI m 0, 0, 0, false, 0, 0, []⟩ (.slice none 0 0)) :: F) → K (.pointer (at0 b)) w') : Cs P f_coffretref17_New #[.int .i64 n, .int .i64 l, .int .i64 m] w K := by
  refine ok_coffretref17_New _ _ _ ?_
  unfold vc_coffretref17_New
  have hb : -9223372036854775808 ≤ Int.tdiv n 2 ∧ Int.tdiv n 2 < 9223372036854775808 := by
    rcases Int.le_total 0 n with h0 | h0
    · rw [Int.tdiv_eq_ediv_of_nonneg h0]; omega
    · have : Int.tdiv n 2 = -((-n) / 2) := by
        rw [← Int.tdiv_eq_ediv_of_nonneg (by omega), Int.neg_tdiv]; omega
      omega
  rw [w64 hb.1 hb.2]
  refine ⟨by simp [Nz], _, _, bld_run pt_Ref (by rw [fill_step (L := [.int .i64 (Int.tdiv n 2)]) rfl rfl rfl (by simp), fill_step (L := [.int .i64 (mxI l 0)]) rfl rfl rfl (by simp), fill_step (L := [.int .i64 (mxI m 0)]) rfl rfl rfl (by simp), fill_nil]), ?_⟩
  exact h.new fun b w' h => hk b w' h

theorem Again17_ok {b : Nat} {R : Rf} {v : Value} (h : Sat B w (bk b t_coffretref17_Log (rfc R v) :: F))
    (hk : ∀ w', Sat B w' (bk b t_coffretref17_Log (rfc { R with fresh := false } v) :: F) → K (.tuple #[]) w') : Cs P f_coffretref17_Log_Again #[.pointer (at0 b)] w K := by
  refine ok_coffretref17_Log_Again _ ?_
  unfold vc_coffretref17_Log_Again
  refine NN.some (Sat.st1 h sc_bool rfl (by simp [rfc]) fun w' h => hk w' ?_)
  simpa [rfc] using h

theorem Copy17_ok {b : Nat} {R : Rf} {v : Value} (h : Sat B w (bk b t_coffretref17_Log (rfc R v) :: F)) (hv : v.oneCell' = true)
    (hk : ∀ c w', Sat B w' (bk c t_coffretref17_Log (rfc R v) :: bk b t_coffretref17_Log (rfc R v) :: F) → K (.pointer (at0 c)) w') : Cs P f_coffretref17_Log_Copy #[.pointer (at0 b)] w K := by
  refine ok_coffretref17_Log_Copy _ ?_
  unfold vc_coffretref17_Log_Copy
  refine NN.some ⟨_, ldA (n := 9) (L := rfc R v) wd_Ref h.bk (by simp [rfc]), ?_⟩
  refine h.var zr_Ref fun b1 w' h => ?_
  refine Sat.stA (n := 9) (vs := rfc R v) h wd_Ref rfl ?_ (by simp) fun w' h => hk b1 w' ?_
  · intro x hx
    simp only [rfc, List.mem_cons, List.not_mem_nil, or_false] at hx
    rcases hx with rfl | rfl | rfl | rfl | rfl | rfl | rfl | rfl | rfl <;> first | rfl | exact hv
  · simpa [rfc] using h

end Go.Dv

/-! the reference of a log: Turn, Commit, Save -/
set_option maxRecDepth 20000
namespace Go.Dv
open Go Go.Sh Go.Sl

variable {B : Bs} {w : World} {F : List HP} {K : Value → World → Prop}

theorem total_le17 {ps : List (List Rec)} {n : Nat} (h : ∀ p ∈ ps, fsect p ≤ n) : ∀ i, total (ps.take i) ≤ n * i := by
  intro i
  induction i with
  | zero => simp [total]
  | succ i ih =>
    by_cases hi : i < ps.length
    · rw [total_take hi, Nat.mul_succ]
      have := h _ (List.getElem_mem hi)
      omega
    · rw [List.take_of_length_le (by omega)]
      rw [List.take_of_length_le (by omega)] at ih
      rw [Nat.mul_succ]; omega

theorem Turn17_ok {b m mc : Nat} {R : Rf} {v : Value} {q : Option Addr} {rs : List Rec} (h : Sat B w (bk b t_coffretref17_Log (rfc R v) :: F)) (hR : R.ok) (hv : RsOf B v R.list) (hr : Rd B q (rcells rs)) (hm : m = rs.length) (hl : rs.length ≤ 1000000)
    (hk : ∀ B' v' w', B.le B' → RsOf B' v' (R.turn rs).1.list → Sat B' w' (bk b t_coffretref17_Log (rfc (R.turn rs).1 v') :: F) → K (.int .i64 (R.turn rs).2) w') : Cs P f_coffretref17_Log_Turn #[.pointer (at0 b), .slice q m mc] w K := by
  subst hm
  refine ok_coffretref17_Log_Turn _ _ _ _ ?_
  unfold vc_coffretref17_Log_Turn
  have same : ∀ {w' : World} (e : Int), R.turn rs = (R, e) → Sat B w' (bk b t_coffretref17_Log (rfc R v) :: F) → K (.int .i64 e) w' := fun e he h => by
    rw [he] at hk
    exact hk B v _ (Bs.le.refl B) hv h
  refine good17_ok h hr rfl (by omega) fun w' h => ⟨_, rfl, Br.not (Br.bool (fun hg => ?_) fun hg => same 1 (by simp [Rf.turn, hg]) h)⟩
  obtain ⟨hne, hall⟩ := goodL_all hg
  have hsm := good_small hall
  obtain ⟨k1, k2, k3, k4, k5, k6, k7, k8, k9⟩ := hR
  refine Jn.by (fun vs w => vs = [.bool (decide (R.most ≤ R.count ∨ 4294967296 ≤ R.epoch + 1 ∨ R.limit < rs.length))] ∧ Sat B w (bk b t_coffretref17_Log (rfc R v) :: F)) ?_ ?_
  · intro w1 ha
    have h := h.alk ha
    refine NN.some ⟨_, ld1 sc_int h.bk rfl, NN.some ⟨_, ld1 sc_int h.bk rfl, Br.ge (fun h1 => ⟨by simp [h1], h⟩) fun h1 => NN.some ⟨_, ld1 sc_int h.bk rfl, ?_⟩⟩⟩
    show Br _ _ _
    rw [w64 (x := R.epoch + 1) (by omega) (by omega)]
    refine Br.ge (fun h2 => ⟨by simp [h2], h⟩) fun h2 => NN.some ⟨_, ld1 sc_int h.bk rfl, ?_, h⟩
    simp only [gtI, List.cons.injEq, Value.bool.injEq, and_true, decide_eq_decide]
    omega
  rintro b1 w1 ⟨hb, h⟩
  obtain rfl : b1 = decide (R.most ≤ R.count ∨ 4294967296 ≤ R.epoch + 1 ∨ R.limit < rs.length) := by simpa using hb
  refine Br.bool (fun hc => ?_) fun hc => ?_
  · have hc : R.most ≤ R.count ∨ 4294967296 ≤ R.epoch + 1 ∨ R.limit < rs.length := by simpa using hc
    exact same 10 (by simp [Rf.turn, hg, hc]) h
  have hc : ¬ (R.most ≤ R.count ∨ 4294967296 ≤ R.epoch + 1 ∨ R.limit < rs.length) := by simpa using hc
  refine Split15_ok h hr rfl hsm (by omega) fun B1 p c vs w2 hle1 h hrows => ⟨_, _, _, rfl, ?_⟩
  obtain ⟨B2, hle2, h, hrd, hvl⟩ := h.fix
  rw [Nat.mul_one] at hvl
  have hps := split_facts (rs := rs) fun r hr => by have := (good_spans (hall r hr)).2.2.2.2.2; omega
  have hpl : ∀ p ∈ split rs, fsect p ≤ 64 := fun p hp => by
    have := (hps.1 p hp).2
    unfold fsect; omega
  have htl := total_le17 hpl
  refine Lp.up (split rs).length (fun i vs w => vs = [.int .i64 (total ((split rs).take i)), .int .i64 i] ∧ Sat B2 w (bk b t_coffretref17_Log (rfc R v) :: F)) ⟨by simp [total], h⟩ fun J nx cs => ?_
  intro n4 n5 l2 w3 hJ
  obtain ⟨i, hi, rfl, hv4, h⟩ := cs _ _ _ hJ
  simp only [List.cons.injEq, Value.int.injEq, true_and, and_true] at hv4
  obtain ⟨rfl, rfl⟩ := hv4
  refine Br.lt (fun hlt => ?_) fun hge => ?_
  · have hlt : i < (split rs).length := by omega
    obtain ⟨p', c', hpv, hpc, hpr⟩ := hrows.each i hlt (by omega)
    refine hrd.ix hlt (by omega) fun a hr' => ⟨p', (split rs)[i].length, c', by rw [← hpv]; exact hr'.ld1 h sc_recs (by simp), ?_⟩
    have hmem := List.getElem_mem hlt
    have hsub : ∀ r ∈ (split rs)[i], r ∈ rs := fun r hr => by
      rw [← hps.2.1]
      exact List.mem_flatten.2 ⟨_, hmem, hr⟩
    have hlen : (split rs)[i].length ≤ 1048576 := by
      have := (hps.1 _ hmem).2
      unfold fsize at this
      omega
    refine Sectors15_ok h (hpr.mono hle2) rfl (fun r hr => hsm r (hsub r hr)) hlen fun w' h => ⟨_, rfl, ?_⟩
    refine nx i _ _ _ hlt rfl ⟨?_, h⟩
    have h1 := htl i
    have h2 := hpl _ hmem
    rw [w64 (by omega) (by omega), w64 (by omega) (by omega), total_take hlt]
    simp
  · have hin : i = (split rs).length := by omega
    rw [hin, List.take_length]
    have htl := htl (split rs).length
    rw [List.take_length] at htl
    have hle12 := hle1.trans hle2
    refine NN.some ⟨_, ld1 sc_int h.bk rfl, Br.gt (fun hgt => ?_) fun hle => ?_⟩
    · have e : R.turn rs = (R, 7) := by
        unfold Rf.turn
        rw [if_neg (by rw [hg]; simp), if_neg hc, if_pos (by omega)]
      rw [e] at hk
      exact hk B2 v _ hle12 (hv.mono hle12) h
    · have e : R.turn rs = ({ R with count := R.count + 1, epoch := R.epoch + 1, fresh := true, used := total (split rs), seq := rs.length, list := rs }, 0) := by
        unfold Rf.turn
        rw [if_neg (by rw [hg]; simp), if_neg hc, if_neg (by omega)]
      rw [e] at hk
      refine NN.some ⟨_, ld1 sc_int h.bk rfl, NN.some (Sat.st1 h sc_int rfl (by simp [rfc]) fun w' h => ?_)⟩
      rw [w64 (x := R.count + 1) (by omega) (by omega)] at h
      refine NN.some ⟨_, ld1 sc_int h.bk rfl, NN.some (Sat.st1 h sc_int rfl (by simp [rfc]) fun w' h => ?_)⟩
      rw [w64 (x := R.epoch + 1) (by omega) (by omega)] at h
      refine NN.some (Sat.st1 h sc_bool rfl (by simp [rfc]) fun w' h => ?_)
      refine NN.some (Sat.st1 h sc_int rfl (by simp [rfc]) fun w' h => ?_)
      refine NN.some (Sat.st1 h sc_int rfl (by simp [rfc]) fun w' h => ?_)
      refine Sat.buildNone h fun p2 w4 h => ?_
      refine Sat.appendRecs (xs := []) h rfl (hr.mono hle12) rfl (by simp; omega) fun p3 c3 w5 h => ?_
      have hcap := Sat.bufCap h
      obtain ⟨B3, hle3, h, hnew, _⟩ := h.fix
      refine NN.some (Sat.st1 h sc_recs rfl (by simp [rfc]) fun w' h => ?_)
      refine hk B3 (.slice p3 ([] ++ rs).length c3) _ (hle12.trans hle3) ⟨p3, c3, rfl, hcap, hnew⟩ ?_
      simpa [rfc] using h

theorem Commit17_ok {b m mc : Nat} {R : Rf} {v : Value} {q : Option Addr} {rs : List Rec} (h : Sat B w (bk b t_coffretref17_Log (rfc R v) :: F)) (hR : R.ok) (hv : RsOf B v R.list) (hr : Rd B q (rcells rs)) (hm : m = rs.length) (hl : rs.length ≤ 1000000)
    (hk : ∀ B' v' w', B.le B' → RsOf B' v' (R.commit rs).1.list → Sat B' w' (bk b t_coffretref17_Log (rfc (R.commit rs).1 v') :: F) → K (.int .i64 (R.commit rs).2) w') : Cs P f_coffretref17_Log_Commit #[.pointer (at0 b), .slice q m mc] w K := by
  subst hm
  refine ok_coffretref17_Log_Commit _ _ _ _ ?_
  unfold vc_coffretref17_Log_Commit
  have same : ∀ {w' : World} (e : Int), R.commit rs = (R, e) → Sat B w' (bk b t_coffretref17_Log (rfc R v) :: F) → K (.int .i64 e) w' := fun e he h => by
    rw [he] at hk
    exact hk B v _ (Bs.le.refl B) hv h
  obtain ⟨k1, k2, k3, k4, k5, k6, k7, k8, k9⟩ := hR
  refine Jn.by (fun vs w => vs = [.bool (decide (goodL rs = false ∨ R.fresh = false))] ∧ Sat B w (bk b t_coffretref17_Log (rfc R v) :: F)) ?_ ?_
  · refine good17_ok h hr rfl (by omega) fun w' h => ⟨_, rfl, Br.not (Br.bool (fun hg => ?_) fun hg => ⟨by simp [hg], h⟩)⟩
    refine NN.some ⟨_, ld1 sc_bool h.bk rfl, ?_, h⟩
    rw [hg]
    cases R.fresh <;> simp
  rintro b1 w1 ⟨hb, h⟩
  obtain rfl : b1 = decide (goodL rs = false ∨ R.fresh = false) := by simpa using hb
  refine Br.bool (fun hc => ?_) fun hc => ?_
  · have hc : goodL rs = false ∨ R.fresh = false := by simpa using hc
    exact same 1 (by unfold Rf.commit; rw [if_pos hc]) h
  have hc : ¬ (goodL rs = false ∨ R.fresh = false) := by simpa using hc
  have hg : goodL rs = true := by
    cases hg : goodL rs with
    | true => rfl
    | false => exact absurd (.inl hg) hc
  obtain ⟨hne, hall⟩ := goodL_all hg
  have hsm := good_small hall
  refine Size15_ok h hr rfl hsm (by omega) fun w' h => ⟨_, rfl, Br.gt (fun hgt => ?_) fun hle => ?_⟩
  · exact same 3 (by unfold Rf.commit; rw [if_neg hc, if_pos (by omega)]) h
  have hfs : fsect rs ≤ 64 := by unfold fsect; omega
  refine Jn.by (fun vs w => vs = [.bool (decide (R.most ≤ R.count ∨ R.limit < R.seq + rs.length))] ∧ Sat B w (bk b t_coffretref17_Log (rfc R v) :: F)) ?_ ?_
  · intro w1 ha
    have h := h.alk ha
    refine NN.some ⟨_, ld1 sc_int h.bk rfl, NN.some ⟨_, ld1 sc_int h.bk rfl, Br.ge (fun h1 => ⟨by simp [h1], h⟩) fun h1 => NN.some ⟨_, ld1 sc_int h.bk rfl, NN.some ⟨_, ld1 sc_int h.bk rfl, ?_, h⟩⟩⟩⟩
    rw [w64 (x := R.seq + rs.length) (by omega) (by omega)]
    simp only [gtI, List.cons.injEq, Value.bool.injEq, and_true, decide_eq_decide]
    omega
  rintro b1 w1 ⟨hb, h⟩
  obtain rfl : b1 = decide (R.most ≤ R.count ∨ R.limit < R.seq + rs.length) := by simpa using hb
  refine Br.bool (fun hc2 => ?_) fun hc2 => ?_
  · have hc2 : R.most ≤ R.count ∨ R.limit < R.seq + rs.length := by simpa using hc2
    exact same 10 (by unfold Rf.commit; rw [if_neg hc, if_neg (by omega), if_pos hc2]) h
  have hc2 : ¬ (R.most ≤ R.count ∨ R.limit < R.seq + rs.length) := by simpa using hc2
  refine Sectors15_ok h hr rfl hsm (by omega) fun w' h => ⟨_, rfl, ?_⟩
  intro w2 ha2
  have h := h.alk ha2
  refine NN.some ⟨_, ld1 sc_int h.bk rfl, NN.some ⟨_, ld1 sc_int h.bk rfl, ?_⟩⟩
  show Br _ _ _
  rw [w64 (x := R.used + fsect rs) (by omega) (by omega)]
  refine Br.gt (fun hgt2 => ?_) fun hle2 => ?_
  · exact same 7 (by unfold Rf.commit; rw [if_neg hc, if_neg (by omega), if_neg hc2, if_pos (by omega)]) h
  have e : R.commit rs = ({ R with count := R.count + 1, used := R.used + fsect rs, seq := R.seq + rs.length, list := R.list ++ rs }, 0) := by
    unfold Rf.commit; rw [if_neg hc, if_neg (by omega), if_neg hc2, if_neg (by omega)]
  rw [e] at hk
  refine NN.some ⟨_, ld1 sc_int h.bk rfl, NN.some (Sat.st1 h sc_int rfl (by simp [rfc]) fun w' h => ?_)⟩
  rw [w64 (x := R.count + 1) (by omega) (by omega)] at h
  refine NN.some ⟨_, ld1 sc_int h.bk rfl, NN.some (Sat.st1 h sc_int rfl (by simp [rfc]) fun w' h => ?_)⟩
  rw [w64 (x := R.used + fsect rs) (by omega) (by omega)] at h
  refine NN.some ⟨_, ld1 sc_int h.bk rfl, NN.some (Sat.st1 h sc_int rfl (by simp [rfc]) fun w' h => ?_)⟩
  rw [w64 (x := R.seq + rs.length) (by omega) (by omega)] at h
  obtain ⟨pl, cl, rfl, hcl, hrl⟩ := hv
  refine Sat.buildNone h fun p2 w4 h => NN.some ⟨_, _, _, ld1 sc_recs (h.pull 1).bk rfl, ?_⟩
  refine Sat.appendRecs (xs := []) h rfl hrl rfl (by simp; omega) fun p3 c3 w5 h => ?_
  refine Sat.appendRecs h rfl hr rfl (by simp; omega) fun p4 c4 w6 h => ?_
  have hcap := Sat.bufCap h
  obtain ⟨B3, hle3, h, hnew, _⟩ := h.fix
  refine NN.some (Sat.st1 h sc_recs rfl (by simp [rfc]) fun w' h => ?_)
  refine hk B3 (.slice p4 ([] ++ R.list ++ rs).length c4) _ hle3 ⟨p4, c4, rfl, hcap, hnew⟩ ?_
  simpa [rfc] using h

end Go.Dv

/-! the reference of a keeper -/
set_option maxRecDepth 20000
namespace Go.Dv
open Go Go.Sh Go.Sl

variable {B : Bs} {w : World} {F : List HP} {K : Value → World → Prop}

theorem Rf.turn_ok {R : Rf} (h : R.ok) {rs : List Rec} (hl : rs.length ≤ 1000000) : (R.turn rs).1.ok := by
  unfold Rf.turn
  split
  · exact h
  · rename_i hg
    split
    · exact h
    · rename_i hc
      split
      · exact h
      · obtain ⟨k1, k2, k3, k4, k5, k6, k7, k8, k9⟩ := h
        have hg : goodL rs = true := by simpa using hg
        exact ⟨k1, k2, k3, by simp only; omega, by simp only; omega, by simp only; omega, by simp only; omega, by simp only; omega, (goodL_all hg).2⟩

theorem Rf.commit_ok {R : Rf} (h : R.ok) {rs : List Rec} (h1 : R.seq + rs.length ≤ 1000000000000) (h2 : R.list.length + rs.length ≤ 100000000000) : (R.commit rs).1.ok := by
  unfold Rf.commit
  split
  · exact h
  · rename_i hg
    split
    · exact h
    · split
      · exact h
      · rename_i hc
        split
        · exact h
        · obtain ⟨k1, k2, k3, k4, k5, k6, k7, k8, k9⟩ := h
          have hg : goodL rs = true := by
            cases hg' : goodL rs with
            | true => rfl
            | false => exact absurd (.inl hg') hg
          refine ⟨k1, k2, k3, by simp only; omega, k5, by simp only; omega, by simp only; omega, by simp only [List.length_append]; omega, fun r hr => ?_⟩
          rcases List.mem_append.1 hr with hr | hr
          · exact k9 r hr
          · exact (goodL_all hg).2 r hr

/-- How much a log holds. -/
def Rf.at (R : Rf) (n : Nat) : Prop := R.seq ≤ n ∧ R.list.length ≤ n
theorem Rf.turn_at {R : Rf} {rs : List Rec} {n : Nat} (h : R.at n) : (R.turn rs).1.at (n + rs.length) := by
  have h1 := h.1
  have h2 := h.2
  have h3 : R.at (n + rs.length) := ⟨by omega, by omega⟩
  unfold Rf.turn
  split
  · exact h3
  · split
    · exact h3
    · split
      · exact h3
      · exact ⟨by simp only; omega, by simp only; omega⟩
theorem Rf.commit_at {R : Rf} {rs : List Rec} {n : Nat} (h : R.at n) : (R.commit rs).1.at (n + rs.length) := by
  have h1 := h.1
  have h2 := h.2
  have h3 : R.at (n + rs.length) := ⟨by omega, by omega⟩
  unfold Rf.commit
  split
  · exact h3
  · split
    · exact h3
    · split
      · exact h3
      · split
        · exact h3
        · exact ⟨by simp only; omega, by simp only [List.length_append]; omega⟩

theorem Rf.commit_left {R : Rf} {rs : List Rec} : (R.commit rs).2 ≠ 0 → (R.commit rs).1 = R := by
  unfold Rf.commit
  split
  · intro _; rfl
  · split
    · intro _; rfl
    · split
      · intro _; rfl
      · split
        · intro _; rfl
        · intro h; exact absurd rfl h
theorem Rf.turn_left {R : Rf} {rs : List Rec} : (R.turn rs).2 ≠ 0 → (R.turn rs).1 = R := by
  unfold Rf.turn
  split
  · intro _; rfl
  · split
    · intro _; rfl
    · split
      · intro _; rfl
      · intro h; exact absurd rfl h

theorem Rf.save_ok {R : Rf} (h : R.ok) {st ch : List Rec} {n : Nat} (ha : R.at n) (h1 : n + st.length + ch.length + ch.length ≤ 1000000) : (R.save st ch).1.ok ∧ (R.save st ch).1.at (n + st.length + ch.length + ch.length) ∧ (∀ T, (R.save st ch).2.2 = some T → T.ok ∧ T.at (n + st.length + ch.length)) := by
  have c1 := Rf.commit_ok h (rs := ch) (by have := ha.1; omega) (by have := ha.2; omega)
  have a1 := Rf.commit_at (rs := ch) ha
  have t1 := Rf.turn_ok c1 (rs := st) (by omega)
  have b1 := Rf.turn_at (rs := st) a1
  have c2 := Rf.commit_ok t1 (rs := ch) (by have := b1.1; omega) (by have := b1.2; omega)
  have a2 := Rf.commit_at (rs := ch) b1
  have up : ∀ {X : Rf} {a b : Nat}, X.at a → a ≤ b → X.at b := fun h hab => ⟨by have := h.1; omega, by have := h.2; omega⟩
  unfold Rf.save
  split
  · exact ⟨c1, up a1 (by omega), fun T hT => by cases hT⟩
  · split
    · exact ⟨c1, up a1 (by omega), fun T hT => by cases hT⟩
    · split
      · exact ⟨t1, up b1 (by omega), fun T hT => by cases hT⟩
      · refine ⟨c2, up a2 (by omega), fun T hT => ?_⟩
        simp only [Option.some.injEq] at hT
        subst hT
        exact ⟨t1, up b1 (by omega)⟩

theorem Save18_ok {b m1 mc1 m2 mc2 : Nat} {R : Rf} {v : Value} {q1 q2 : Option Addr} {st ch : List Rec} (h : Sat B w (bk b t_coffretref17_Log (rfc R v) :: F)) (hR : R.ok) (hv : RsOf B v R.list) (hr1 : Rd B q1 (rcells st)) (hm1 : m1 = st.length) (hr2 : Rd B q2 (rcells ch)) (hm2 : m2 = ch.length) {n : Nat} (ha : R.at n) (hn : n + st.length + ch.length + ch.length ≤ 1000000)
    (hk1 : ∀ B' v' w', (R.save st ch).2.2 = none → B.le B' → RsOf B' v' (R.save st ch).1.list → Sat B' w' (bk b t_coffretref17_Log (rfc (R.save st ch).1 v') :: F) → K (.tuple #[.int .i64 (R.save st ch).2.1, .pointer none]) w')
    (hk2 : ∀ B' v' w' T c u, (R.save st ch).2.2 = some T → B.le B' → RsOf B' v' (R.save st ch).1.list → RsOf B' u T.list → Sat B' w' (bk b t_coffretref17_Log (rfc (R.save st ch).1 v') :: bk c t_coffretref17_Log (rfc T u) :: F) → K (.tuple #[.int .i64 (R.save st ch).2.1, .pointer (at0 c)]) w') :
    Cs P f_coffretref18_Save #[.pointer (at0 b), .slice q1 m1 mc1, .slice q2 m2 mc2] w K := by
  refine ok_coffretref18_Save _ _ _ _ _ _ _ ?_
  unfold vc_coffretref18_Save
  have c1 := Rf.commit_ok hR (rs := ch) (by have := ha.1; omega) (by have := ha.2; omega)
  have a1 := Rf.commit_at (rs := ch) ha
  have t1 := Rf.turn_ok c1 (rs := st) (by omega)
  have b1 := Rf.turn_at (rs := st) a1
  refine Commit17_ok h hR hv hr2 hm2 (by omega) fun B1 v1 w' hle1 hv1 h => ⟨_, rfl, ?_⟩
  have e0 : R.save st ch = if (R.commit ch).2 ≠ 7 ∧ (R.commit ch).2 ≠ 10 then ((R.commit ch).1, (R.commit ch).2, none)
    else if (R.commit ch).1.most - (R.commit ch).1.count < 2 then ((R.commit ch).1, 10, none)
    else if ((R.commit ch).1.turn st).2 ≠ 0 then (((R.commit ch).1.turn st).1, ((R.commit ch).1.turn st).2, none)
    else ((((R.commit ch).1.turn st).1.commit ch).1, (((R.commit ch).1.turn st).1.commit ch).2, some ((R.commit ch).1.turn st).1) := rfl
  rw [e0] at hk1 hk2
  clear e0
  generalize R.commit ch = r at *
  refine Jn.by (fun vs w => vs = [.bool (decide (r.2 ≠ 7 ∧ r.2 ≠ 10))] ∧ Sat B1 w (bk b t_coffretref17_Log (rfc r.1 v1) :: F)) ?_ ?_
  · refine Br.ne (fun h7 => ⟨?_, h⟩) fun h7 => ⟨by simp [h7], h⟩
    by_cases h10 : r.2 = 10 <;> simp [neI, h7, h10]
  rintro b0 w1 ⟨hb, h⟩
  obtain rfl : b0 = decide (r.2 ≠ 7 ∧ r.2 ≠ 10) := by simpa using hb
  refine Br.bool (fun hc => ?_) fun hc => ?_
  · have hc : r.2 ≠ 7 ∧ r.2 ≠ 10 := by simpa using hc
    rw [if_pos hc] at hk1
    exact hk1 _ _ _ rfl hle1 hv1 h
  have hc : ¬ (r.2 ≠ 7 ∧ r.2 ≠ 10) := by simpa using hc
  rw [if_neg hc] at hk1 hk2
  intro w2 ha2
  have h := h.alk ha2
  obtain ⟨k1, k2, k3, k4, k5, k6, k7, k8, k9⟩ := c1
  refine NN.some ⟨_, ld1 sc_int h.bk rfl, NN.some ⟨_, ld1 sc_int h.bk rfl, ?_⟩⟩
  show Br _ _ _
  rw [w64 (x := r.1.most - r.1.count) (by omega) (by omega)]
  refine Br.lt (fun hlt => ?_) fun hge => ?_
  · rw [if_pos hlt] at hk1
    exact hk1 _ _ _ rfl hle1 hv1 h
  rw [if_neg (by omega)] at hk1 hk2
  refine Turn17_ok h ⟨k1, k2, k3, k4, k5, k6, k7, k8, k9⟩ hv1 (hr1.mono hle1) hm1 (by omega) fun B2 v2 w3 hle2 hv2 h => ⟨_, rfl, ?_⟩
  generalize r.1.turn st = t at *
  refine Br.ne (fun hne => ?_) fun h0 => ?_
  · rw [if_pos hne] at hk1
    exact hk1 _ _ _ rfl (hle1.trans hle2) hv2 h
  rw [if_neg (by simpa using h0)] at hk2
  have h1c : v2.oneCell' = true := by obtain ⟨p, c, rfl, _⟩ := hv2; rfl
  refine Copy17_ok h h1c fun c w4 h => ⟨_, rfl, ?_⟩
  refine Commit17_ok (h.pull 1) t1 hv2 (hr2.mono (hle1.trans hle2)) hm2 (by omega) fun B3 v3 w5 hle3 hv3 h => ⟨_, rfl, ?_⟩
  exact hk2 _ _ _ _ _ _ rfl ((hle1.trans hle2).trans hle3) hv3 (hv2.mono hle3) h

end Go.Dv

/-! a commit, and its reference -/
set_option maxRecDepth 20000
namespace Go.Dv
open Go Go.Sh Go.Sl

structure Inv (S : St) (fs : List Fm) (a : Nat) (s : Int) : Prop where
  wf : S.I.wf
  vouch : Vouch S.I S.V S.M S.D.now.length S.D.safe fs a s
  hold : S.D.hold (areaOf S.D.now.length S.M.epoch).frm a
  dok : S.D.ok
  ep : 0 ≤ S.M.epoch ∧ S.M.epoch < 4294967296
  count : 0 ≤ S.M.count ∧ S.M.count ≤ S.M.most
  lim : 0 ≤ S.V.limit ∧ S.V.limit < 9223372036854775808

structure Like (S : St) (R : Rf) (fs : List Fm) : Prop where
  count : R.count = S.M.count
  epoch : R.epoch = S.M.epoch
  list : R.list = allRecs fs
  half : R.half = (S.D.now.length / 2 : Nat)
  limit : R.limit = S.V.limit
  most : S.M.most = R.most ∨ (S.M.most = 1099511627776 ∧ 1099511627776 ≤ R.most)
  small : R.count ≤ 1000000

structure Fit (S : St) (L : Lg) (R : Rf) (a : Nat) (s : Int) : Prop where
  epoch : L.epoch = S.M.epoch
  aok : L.A.ok
  to : L.A.to ≤ S.D.now.length
  head : L.head.length = 32
  seq : 0 ≤ L.seq
  fresh : L.fresh = R.fresh
  at_ : L.fresh = true → 0 < S.M.count ∧ L.head = S.M.root ∧ L.A = ⟨(areaOf S.D.now.length S.M.epoch).frm, (areaOf S.D.now.length S.M.epoch).to, a⟩ ∧ L.seq = s ∧ R.used = (a - (areaOf S.D.now.length S.M.epoch).frm : Nat) ∧ R.seq = s

theorem goodE_L {D : Dk} (h : D.down = false) (rs : List Rec) : goodE D rs = if goodL rs = true then 0 else 1 := by
  unfold goodE goodL
  rw [h]
  cases rs with
  | nil => simp
  | cons r rs =>
    cases hg : (r :: rs).all Rec.good <;> simp [hg]

theorem most_left {S : St} {R : Rf} {fs : List Fm} (h : Like S R fs) (k : Int) (hk : k ≤ 2) : S.M.most - S.M.count < k ↔ R.most - R.count < k := by
  have h1 := h.count
  have h2 := h.small
  rcases h.most with h3 | ⟨h3, h4⟩ <;> omega

/-- What comes of an operation: the reference's answer, or the power went. -/
def Out (S : St) (o : St × Lg × Int) (R : Rf) (r : Rf × Int) : Prop :=
  (o.2.2 = r.2 ∧ o.1.D.down = false ∧ o.1.D.waits.length ≤ S.D.waits.length ∧ (S.D.fuse = 0 → o.1.D.fuse = 0) ∧ ∃ fs a s, Inv o.1 fs a s ∧ Like o.1 r.1 fs ∧ Fit o.1 o.2.1 r.1 a s) ∨
  (o.2.2 = 8 ∧ o.1.D.down = true ∧ o.1.D.waits.length ≤ S.D.waits.length ∧ S.D.fuse ≠ 0 ∧ r.2 = 0 ∧ ∃ R' fs a s, (R' = R ∨ R' = r.1) ∧ Inv o.1 fs a s ∧ Like o.1 R' fs)

theorem commit_run {S : St} {L : Lg} {R : Rf} {fs : List Fm} {a : Nat} {s : Int} {rs : List Rec} (hi : Inv S fs a s) (hl : Like S R fs) (hf : Fit S L R a s) (hd : S.D.down = false) (hI : S.I.made.length < 100000000000000000) (hc : R.count < 1000000) : Out S (commitF S L rs) R (R.commit rs) := by
  have kf := commit_facts (rs := rs) hi.dok hf.aok hf.to hf.seq
  have stay : ∀ e : Int, commitF S L rs = (S, L, e) → R.commit rs = (R, e) → Out S (commitF S L rs) R (R.commit rs) := fun e h1 h2 => by
    rw [h1, h2]
    exact Or.inl ⟨rfl, hd, Nat.le_refl _, fun h => h, fs, a, s, hi, hl, hf⟩
  cases hg : goodL rs with
  | false =>
    refine stay 1 ?_ ?_
    · unfold commitF
      rw [goodE_L hd, hg, if_pos (by simp)]
      rfl
    · unfold Rf.commit
      rw [if_pos (.inl hg)]
  | true =>
  obtain ⟨hne, hall⟩ := goodL_all hg
  have hge : goodE S.D rs = 0 := by rw [goodE_L hd, hg]; rfl
  cases hfr : L.fresh with
  | false =>
    refine stay 1 ?_ ?_
    · unfold commitF
      rw [hge, if_neg (by simp), if_pos hfr]
    · unfold Rf.commit
      rw [if_pos (.inr (by rw [← hf.fresh]; exact hfr))]
  | true =>
  have hRf : R.fresh = true := by rw [← hf.fresh]; exact hfr
  have hn1 : ¬ (goodL rs = false ∨ R.fresh = false) := by rw [hg, hRf]; simp
  obtain ⟨f1, f2, f3, f4, f5, f6⟩ := hf.at_ hfr
  by_cases hlong : 16384 < fsize rs
  · refine stay 3 ?_ ?_
    · unfold commitF
      rw [hge, if_neg (by simp), if_neg (by rw [hfr]; simp), if_pos hlong]
    · unfold Rf.commit
      rw [if_neg hn1, if_pos hlong]
  have hml := most_left hl 1 (by omega)
  have hcnt := hi.count
  have hcn := hl.count
  have hlm := hl.limit
  by_cases hsp : S.M.most - S.M.count = 0 ∨ S.V.limit - L.seq < rs.length
  · refine stay 10 ?_ ?_
    · unfold commitF
      rw [hge, if_neg (by simp), if_neg (by rw [hfr]; simp), if_neg hlong, if_pos hsp]
    · unfold Rf.commit
      rw [if_neg hn1, if_neg hlong, if_pos (by rw [f4] at hsp; omega)]
  have hsp2 : ¬ (R.most ≤ R.count ∨ R.limit < R.seq + rs.length) := by rw [f4] at hsp; omega
  obtain ⟨v1, v2, v3, v4⟩ := hi.vouch.facts
  have hah := (area_half S.D.now.length S.M.epoch).1
  have hhf := hl.half
  have hAt : L.A.at_ = a := by rw [f3]
  have hAto : L.A.to = (areaOf S.D.now.length S.M.epoch).to := by rw [f3]
  by_cases hfull : L.A.to - L.A.at_ < fsect rs
  · refine stay 7 ?_ ?_
    · unfold commitF
      rw [hge, if_neg (by simp), if_neg (by rw [hfr]; simp), if_neg hlong, if_neg hsp, if_pos hfull]
    · unfold Rf.commit
      rw [if_neg hn1, if_neg hlong, if_neg hsp2, if_pos (by omega)]
  have hR : R.commit rs = ({ R with count := R.count + 1, used := R.used + fsect rs, seq := R.seq + rs.length, list := R.list ++ rs }, 0) := by
    unfold Rf.commit
    rw [if_neg hn1, if_neg hlong, if_neg hsp2, if_neg (by omega)]
  have hC : commitF S L rs = commitG S L (packB S.I S.V L.head L.epoch L.seq rs) ((packI S.I S.V L.head L.epoch L.seq rs).dig (L.head ++ packB S.I S.V L.head L.epoch L.seq rs)) (packH S.I S.V L.head L.epoch L.seq rs) (packV S.I S.V L.head L.epoch L.seq rs) rs.length := by
    unfold commitF
    rw [hge, if_neg (by simp), if_neg (by rw [hfr]; simp), if_neg hlong, if_neg hsp, if_neg hfull]
    rfl
  have hmay : ∀ i : Nat, i < rs.length → S.V.may L.epoch (L.seq + i) = 0 := fun i hi' => by
    have := hi.ep
    have := hf.epoch
    have := hf.seq
    unfold Vt.may
    rw [if_neg (by omega), if_neg (by omega)]
  obtain ⟨kn, kle, kwf⟩ := knows_pack (V := S.V) (e := L.epoch) (s := L.seq) hi.wf hf.head hne hall (by omega) hmay (by omega)
  have hdig : (packH S.I S.V L.head L.epoch L.seq rs).dig (L.head ++ packB S.I S.V L.head L.epoch L.seq rs) = (packI S.I S.V L.head L.epoch L.seq rs).dig (L.head ++ packB S.I S.V L.head L.epoch L.seq rs) := Id.dig_in (Id.le.refl _)
  have hlim := pack_limit (I := S.I) (V := S.V) (at_ := L.head) (e := L.epoch) (s := L.seq) (rs := rs)
  have hns : ((packB S.I S.V L.head L.epoch L.seq rs).length + 255) / 256 = fsect rs := by rw [pack_len]; rfl
  rw [hC] at kf ⊢
  rw [hR]
  clear hC hR stay
  rw [← hdig] at kf ⊢
  clear hdig
  generalize hfrm : packB S.I S.V L.head L.epoch L.seq rs = fr at *
  generalize packH S.I S.V L.head L.epoch L.seq rs = I' at *
  generalize packV S.I S.V L.head L.epoch L.seq rs = V' at *
  have hto := hf.to
  obtain ⟨r1, r2, r3, r4⟩ := addF_run (bs := fr) (a := a) (lo := (areaOf S.D.now.length S.M.epoch).frm) (hi := a) (fsect rs) 0 hi.hold hd (fun j h1 h2 => by omega) (by omega)
  have hadd : L.A.add S.D fr = if (addF fr a (fsect rs) 0 S.D).2 ≠ 0 then (L.A, addF fr a (fsect rs) 0 S.D) else ({ L.A with at_ := a + fsect rs }, (addF fr a (fsect rs) 0 S.D).1, 0) := by
    unfold Ar.add
    rw [if_neg (by rw [hd]; simp), hns, if_neg hfull, hAt]
  have hvI := (hi.vouch.mono kle).vault (W := V') hlim.2 hlim.1
  have hep := hi.ep
  have hgone : ∀ {D' : Dk}, D'.now.length = S.D.now.length → D'.ok → D'.hold (areaOf S.D.now.length S.M.epoch).frm a → S.D.as D' (areaOf S.D.now.length S.M.epoch).frm a → Inv ⟨I', V', D', S.M⟩ fs a s ∧ Like ⟨I', V', D', S.M⟩ R fs := fun hn ho hh ha => by
    refine ⟨⟨kwf, ?_, ?_, ho, hi.ep, hi.count, by show 0 ≤ V'.limit ∧ V'.limit < _; rw [hlim.1]; exact hi.lim⟩, ⟨hl.count, hl.epoch, hl.list, ?_, by show R.limit = V'.limit; rw [hlim.1]; exact hl.limit, hl.most, hl.small⟩⟩
    · show Vouch I' V' S.M _ _ fs a s
      simp only [hn]
      exact hvI.on fun i h1 h2 => ha i h1 h2
    · simp only [hn]; exact hh
    · simp only [hn]; exact hl.half
  have hmne : S.M.most - S.M.count ≠ 0 := by omega
  have hepL := hf.epoch
  unfold commitG at kf ⊢
  rw [hadd] at kf ⊢
  rcases r3 with ⟨q1, q2, q3, q4⟩ | ⟨q1, q2, q3, qw⟩
  · rw [if_neg (show ¬ (addF fr a (fsect rs) 0 S.D).2 ≠ 0 by omega)] at kf ⊢
    simp only [ne_eq, not_true_eq_false, if_false] at kf ⊢
    generalize addF fr a (fsect rs) 0 S.D = X at *
    have hwin : ∀ {D' : Dk}, D'.now.length = S.D.now.length → D'.ok → D'.now = X.1.now → D'.safe = X.1.now → D'.waits = [] →
        Inv ⟨I', V', D', S.M.go L.epoch (I'.dig (L.head ++ fr))⟩ (fs ++ [⟨rs, fr⟩]) (a + fsect rs) (s + rs.length) ∧ Like ⟨I', V', D', S.M.go L.epoch (I'.dig (L.head ++ fr))⟩ { R with count := R.count + 1, used := R.used + fsect rs, seq := R.seq + rs.length, list := R.list ++ rs } (fs ++ [⟨rs, fr⟩]) := fun {D'} hn ho h1 h2 h3 => by
      have hchain : Vouch I' V' (S.M.go L.epoch (I'.dig (L.head ++ fr))) S.D.now.length X.1.now (fs ++ [⟨rs, fr⟩]) (a + fsect rs) (s + rs.length) := by
        rcases hvI with ⟨z1, _⟩ | ⟨z1, z2, z3⟩
        · omega
        · refine .inr ⟨by show 0 < S.M.count + 1; omega, ?_, ?_⟩
          · show nm 72 [startT L.epoch] ∈ _
            rw [hepL]; exact z2
          · show Chain I' V'.master V'.limit L.epoch X.1.now (areaOf S.D.now.length L.epoch).to (I'.dig (startT L.epoch)) (areaOf S.D.now.length L.epoch).frm 0 (fs ++ [⟨rs, fr⟩]) (I'.dig (L.head ++ fr)) (a + fsect rs) (s + rs.length)
            rw [hepL, f2]
            have z4 := z3.on (sec' := X.1.now) fun i g1 g2 => by rw [r1.1 i g1 g2, r2 i g1 g2]
            refine z4.snoc (f := ⟨rs, fr⟩) ?_ ?_ ?_
            · rw [hlim.1, hlim.2, ← hepL, ← f4, ← f2]; exact kn
            · intro j hj
              rw [hns] at hj
              exact q3 j (by omega) (by omega)
            · show a + fsect rs ≤ _
              omega
      refine ⟨⟨kwf, ?_, ⟨fun i _ _ => by rw [h1, h2], by rw [h3]; simp⟩, ho, ?_, ?_, by show 0 ≤ V'.limit ∧ V'.limit < _; rw [hlim.1]; exact hi.lim⟩, ⟨?_, ?_, ?_, ?_, by show R.limit = V'.limit; rw [hlim.1]; exact hl.limit, hl.most, by show R.count + 1 ≤ _; omega⟩⟩
      · show Vouch _ _ _ D'.now.length D'.safe _ _ _
        rw [hn, h2]; exact hchain
      · show 0 ≤ L.epoch ∧ L.epoch < _
        omega
      · show 0 ≤ S.M.count + 1 ∧ S.M.count + 1 ≤ S.M.most
        omega
      · show R.count + 1 = S.M.count + 1
        omega
      · show R.epoch = L.epoch
        rw [hepL]; exact hl.epoch
      · show R.list ++ rs = _
        rw [hl.list]; simp [allRecs]
      · show R.half = (D'.now.length / 2 : Nat)
        rw [hn]; exact hl.half
    rcases sealF_run (M := S.M) (e := L.epoch) (hd := I'.dig (L.head ++ fr)) r1 q2 (by rw [hepL]; exact Int.le_refl _) hmne with ⟨g1, g2, g3, g4, g5, g6, g7⟩ | ⟨g1, g2, g3, gw, g4⟩
    · rw [if_neg (by omega)] at kf ⊢
      have kn' := kf.now
      have ko := kf.ok
      have kaok := kf.aok
      have kto := kf.to hto
      simp only at kn' ko
      rw [g6] at kf ⊢
      generalize sealF X.1 S.M L.epoch (I'.dig (L.head ++ fr)) = Y at *
      obtain ⟨w1, w2⟩ := hwin kn' ko g3 g4 g5
      refine .inl ⟨rfl, g2, by show Y.1.waits.length ≤ _; rw [g5]; simp, fun h => g7 (r4 h), _, _, _, w1, w2, ⟨rfl, kaok, by show _ ≤ Y.1.now.length; rw [kn']; exact kto, dig_length _ _, by show 0 ≤ L.seq + _; have := hf.seq; omega, hf.fresh, fun _ => ⟨by show 0 < S.M.count + 1; omega, rfl, ?_, ?_, ?_, ?_⟩⟩⟩
      · show ({ L.A with at_ := a + fsect rs } : Ar) = ⟨(areaOf Y.1.now.length L.epoch).frm, (areaOf Y.1.now.length L.epoch).to, a + fsect rs⟩
        rw [kn', hepL, f3]
      · show L.seq + _ = s + _
        omega
      · show R.used + _ = ((a + fsect rs - (areaOf Y.1.now.length L.epoch).frm : Nat) : Int)
        rw [kn', hepL, f5]; omega
      · show R.seq + _ = s + _
        omega
    · rw [if_pos (by omega)] at kf ⊢
      have kn' := kf.now
      have ko := kf.ok
      simp only at kn' ko
      refine .inr ⟨g1, g2, by rw [gw]; simp, fun h => g3 (r4 h), rfl, ?_⟩
      rcases g4 with ⟨g5, g6, g7⟩ | ⟨g5, g6, g7, g8⟩
      · rw [g5]
        obtain ⟨w1, w2⟩ := hgone kn' ko g6 (r2.trans g7)
        exact ⟨_, _, _, _, .inl rfl, w1, w2⟩
      · rw [g5]
        obtain ⟨w1, w2⟩ := hwin kn' ko g6 g7 g8
        exact ⟨_, _, _, _, .inr rfl, w1, w2⟩
  · rw [if_pos (show (addF fr a (fsect rs) 0 S.D).2 ≠ 0 by omega)] at kf ⊢
    rw [if_pos (show (L.A, addF fr a (fsect rs) 0 S.D).2.2 ≠ 0 by simp only; omega)] at kf ⊢
    have kn' := kf.now
    have ko := kf.ok
    obtain ⟨w1, w2⟩ := hgone kn' ko r1 r2
    exact .inr ⟨q1, q2, by rw [qw]; simp, q3, rfl, _, _, _, _, .inl rfl, w1, w2⟩

end Go.Dv

/-! a turn, and its reference -/
set_option maxRecDepth 20000
namespace Go.Dv
open Go Go.Sh Go.Sl

theorem total_cons (p : List Rec) (ps : List (List Rec)) : total (p :: ps) = fsect p + total ps := by simp [total]

theorem turnLoop_run {ep : Int} {m : List UInt8} {lim : Int} {lo hi frm to : Nat} {h0 : List UInt8} (hep : 0 ≤ ep ∧ ep < 4294967296) (hout : ∀ i, frm ≤ i → i < to → ¬ (lo ≤ i ∧ i < hi)) : ∀ (ps : List (List Rec)) {T : Tl} {fs : List Fm},
    (∀ p ∈ ps, p ≠ [] ∧ fsize p ≤ 16384 ∧ ∀ r ∈ p, r.good = true) → T.I.wf → T.V.master = m → T.V.limit = lim → T.D.hold lo hi → T.D.down = false → T.head.length = 32 → T.A.to = to → T.A.at_ + total ps ≤ to → to ≤ T.D.now.length → frm ≤ T.A.at_ → 0 ≤ T.seq → T.seq + ps.flatten.length ≤ lim →
    T.I.made.length + 5 * ps.flatten.length < 1000000000000000000 → Chain T.I m lim ep T.D.now to h0 frm 0 fs T.head T.A.at_ T.seq → T.D.ok → T.A.ok →
    (turnLoop ep ps T).1.D.hold lo hi ∧ T.D.as (turnLoop ep ps T).1.D lo hi ∧ T.I.le (turnLoop ep ps T).1.I ∧ (turnLoop ep ps T).1.I.wf ∧ (turnLoop ep ps T).1.V.master = m ∧ (turnLoop ep ps T).1.V.limit = lim ∧
    (((turnLoop ep ps T).2 = 0 ∧ (turnLoop ep ps T).1.D.down = false ∧ (turnLoop ep ps T).1.head.length = 32 ∧ (turnLoop ep ps T).1.A = ⟨T.A.frm, to, T.A.at_ + total ps⟩ ∧ (turnLoop ep ps T).1.seq = T.seq + ps.flatten.length ∧
        ∃ fs', allRecs fs' = allRecs fs ++ ps.flatten ∧ Chain (turnLoop ep ps T).1.I m lim ep (turnLoop ep ps T).1.D.now to h0 frm 0 fs' (turnLoop ep ps T).1.head (turnLoop ep ps T).1.A.at_ (turnLoop ep ps T).1.seq) ∨
      ((turnLoop ep ps T).2 = 8 ∧ (turnLoop ep ps T).1.D.down = true ∧ T.D.fuse ≠ 0 ∧ (turnLoop ep ps T).1.D.waits = [])) ∧ (T.D.fuse = 0 → (turnLoop ep ps T).1.D.fuse = 0)
  | [], T, fs, _, hw, hm, hl, hh, hd, hhd, hto, hat, hn, hf, hs0, hs, hI, hc, hD, hA => by
    refine ⟨hh, Dk.as.refl _ _ _, Id.le.refl _, hw, hm, hl, .inl ⟨rfl, hd, hhd, ?_, by simp [turnLoop], fs, by simp, hc⟩, fun h => h⟩
    show T.A = _
    cases hTA : T.A with
    | mk x y z =>
      rw [hTA] at hto
      simp only at hto
      simp [total, hto]
  | p :: ps, T, fs, hps, hw, hm, hl, hh, hd, hhd, hto, hat, hn, hf, hs0, hs, hI, hc, hD, hA => by
    obtain ⟨p1, p2, p3⟩ := hps p List.mem_cons_self
    rw [total_cons] at hat
    rw [List.flatten_cons, List.length_append] at hs hI
    have hmay : ∀ i : Nat, i < p.length → T.V.may ep (T.seq + i) = 0 := fun i hi' => by
      unfold Vt.may
      rw [if_neg (by omega), if_neg (by omega)]
    obtain ⟨kn, kle, kwf⟩ := knows_pack (V := T.V) (e := ep) (s := T.seq) hw hhd p1 p3 p2 hmay (by omega)
    obtain ⟨s1, s2, s3, s4, s5, s6, s7, s8, s9⟩ := step_facts (ep := ep) p1 p2 hD hA (by omega)
    have hdig : (packH T.I T.V T.head ep T.seq p).dig (T.head ++ packB T.I T.V T.head ep T.seq p) = (packI T.I T.V T.head ep T.seq p).dig (T.head ++ packB T.I T.V T.head ep T.seq p) := Id.dig_in (Id.le.refl _)
    have hns : ((packB T.I T.V T.head ep T.seq p).length + 255) / 256 = fsect p := by rw [pack_len]; rfl
    have hstep : T.step ep p = (⟨packH T.I T.V T.head ep T.seq p, packV T.I T.V T.head ep T.seq p, (T.A.add T.D (packB T.I T.V T.head ep T.seq p)).2.1, (T.A.add T.D (packB T.I T.V T.head ep T.seq p)).1, (packH T.I T.V T.head ep T.seq p).dig (T.head ++ packB T.I T.V T.head ep T.seq p), T.seq + p.length⟩, (T.A.add T.D (packB T.I T.V T.head ep T.seq p)).2.2) := by
      rw [hdig]; rfl
    have hlim := pack_limit (I := T.I) (V := T.V) (at_ := T.head) (e := ep) (s := T.seq) (rs := p)
    clear hdig
    have hbl : (packB T.I T.V T.head ep T.seq p).length = fsize p := pack_len
    generalize hfrm : packB T.I T.V T.head ep T.seq p = fr at *
    generalize packH T.I T.V T.head ep T.seq p = I' at *
    generalize packV T.I T.V T.head ep T.seq p = V' at *
    obtain ⟨r1, r2, r3, r4⟩ := addF_run (bs := fr) (a := T.A.at_) (lo := lo) (hi := hi) (fsect p) 0 hh hd (fun j h1 h2 => hout _ (by omega) (by omega)) (by omega)
    have hadd : T.A.add T.D fr = if (addF fr T.A.at_ (fsect p) 0 T.D).2 ≠ 0 then (T.A, addF fr T.A.at_ (fsect p) 0 T.D) else ({ T.A with at_ := T.A.at_ + fsect p }, (addF fr T.A.at_ (fsect p) 0 T.D).1, 0) := by
      unfold Ar.add
      rw [if_neg (by rw [hd]; simp), hns, if_neg (by omega)]
    unfold turnLoop
    rw [hadd] at hstep
    rcases r3 with ⟨q1, q2, q3, q4⟩ | ⟨q1, q2, q3, qw⟩
    · rw [if_neg (show ¬ (addF fr T.A.at_ (fsect p) 0 T.D).2 ≠ 0 by omega)] at hstep
      rw [hstep] at s1 s2 s3 s4 s5 s6 s7 s8 s9 ⊢
      simp only [ne_eq, not_true_eq_false, if_false] at s1 s2 s3 s4 s5 s6 s7 s8 s9 ⊢
      generalize addF fr T.A.at_ (fsect p) 0 T.D = X at *
      have hc1 : Chain I' m lim ep X.1.now to h0 frm 0 (fs ++ [⟨p, fr⟩]) (I'.dig (T.head ++ fr)) (T.A.at_ + fsect p) (T.seq + p.length) := by
        have z1 := (hc.mono kle).on (sec' := X.1.now) fun i g1 g2 => q4 i (by omega)
        refine z1.snoc (f := ⟨p, fr⟩) ?_ ?_ ?_
        · rw [← hm, ← hl]; exact kn
        · intro j hj
          rw [hns] at hj
          exact q3 j (by omega) (by omega)
        · show T.A.at_ + fsect p ≤ _
          omega
      have ih := turnLoop_run hep hout ps (T := ⟨I', V', X.1, { T.A with at_ := T.A.at_ + fsect p }, I'.dig (T.head ++ fr), T.seq + p.length⟩) (fs := fs ++ [⟨p, fr⟩])
        (fun p' hp' => hps p' (List.mem_cons_of_mem _ hp')) kwf (by show V'.master = m; rw [hlim.2, hm]) (by show V'.limit = lim; rw [hlim.1, hl]) r1 q2 (dig_length _ _) hto (by show T.A.at_ + fsect p + total ps ≤ to; omega) (by show to ≤ X.1.now.length; omega) (by show frm ≤ T.A.at_ + fsect p; omega) (by show 0 ≤ T.seq + p.length; omega) (by show T.seq + p.length + ps.flatten.length ≤ lim; omega) (by show I'.made.length + _ < _; omega) hc1 s1 s2
      obtain ⟨i1, i2, i3, i4, i5, i6, i7, i8⟩ := ih
      refine ⟨i1, r2.trans i2, kle.trans i3, i4, i5, i6, ?_, fun e => i8 (r4 e)⟩
      rcases i7 with ⟨j1, j2, j3, j4, j5, fs', j6, j7⟩ | ⟨j1, j2, j3, jw⟩
      · refine .inl ⟨j1, j2, j3, ?_, ?_, fs', ?_, j7⟩
        · rw [j4, total_cons]
          simp only [Ar.mk.injEq, true_and]
          omega
        · rw [j5, List.flatten_cons, List.length_append]
          simp only
          omega
        · rw [j6]
          simp [allRecs]
      · exact .inr ⟨j1, j2, fun e => j3 (r4 e), jw⟩
    · rw [if_pos (show (addF fr T.A.at_ (fsect p) 0 T.D).2 ≠ 0 by omega)] at hstep
      rw [hstep]
      rw [if_pos (by show (addF fr T.A.at_ (fsect p) 0 T.D).2 ≠ 0; omega)]
      exact ⟨r1, r2, kle, kwf, by show V'.master = m; rw [hlim.2, hm], by show V'.limit = lim; rw [hlim.1, hl], .inr ⟨q1, q2, q3, qw⟩, r4⟩

theorem areas_apart {n : Nat} {e : Int} (he : 0 ≤ e) : ∀ i, (areaOf n (e + 1)).frm ≤ i → i < (areaOf n (e + 1)).to → ¬ ((areaOf n e).frm ≤ i ∧ i < (areaOf n e).to) := by
  intro i h1 h2
  unfold areaOf at *
  simp only at *
  rcases Int.emod_two_eq e with h | h
  · have h3 : (e + 1) % 2 = 1 := by omega
    rw [h3] at h1 h2; rw [h]
    simp at *
    omega
  · have h3 : (e + 1) % 2 = 0 := by omega
    rw [h3] at h1 h2; rw [h]
    simp at *
    omega

theorem turn_run {S : St} {L : Lg} {R : Rf} {fs : List Fm} {a : Nat} {s : Int} {rs : List Rec} (hi : Inv S fs a s) (hl : Like S R fs) (hf : Fit S L R a s) (hd : S.D.down = false) (hI : S.I.made.length + 5 * rs.length < 100000000000000000) (hc : R.count < 1000000) : Out S (turnF S L rs) R (R.turn rs) := by
  have kf := turn_facts (rs := rs) hi.dok hf.aok hf.to hf.seq
  have stay : ∀ e : Int, turnF S L rs = (S, L, e) → R.turn rs = (R, e) → Out S (turnF S L rs) R (R.turn rs) := fun e h1 h2 => by
    rw [h1, h2]
    exact Or.inl ⟨rfl, hd, Nat.le_refl _, fun h => h, fs, a, s, hi, hl, hf⟩
  cases hg : goodL rs with
  | false =>
    refine stay 1 ?_ ?_
    · unfold turnF
      rw [goodE_L hd, hg, if_pos (by simp)]
      rfl
    · unfold Rf.turn
      rw [if_pos hg]
  | true =>
  obtain ⟨hne, hall⟩ := goodL_all hg
  have hge : goodE S.D rs = 0 := by rw [goodE_L hd, hg]; rfl
  have hml := most_left hl 1 (by omega)
  have hcnt := hi.count
  have hcn := hl.count
  have hlm := hl.limit
  have hepL := hf.epoch
  have hepR := hl.epoch
  have hep := hi.ep
  by_cases hsp : S.M.most - S.M.count = 0 ∨ 4294967296 ≤ L.epoch + 1 ∨ S.V.limit < rs.length
  · refine stay 10 ?_ ?_
    · unfold turnF
      rw [hge, if_neg (by simp), if_pos hsp]
    · unfold Rf.turn
      rw [if_neg (by rw [hg]; simp), if_pos (by omega)]
  have hsp2 : ¬ (R.most ≤ R.count ∨ 4294967296 ≤ R.epoch + 1 ∨ R.limit < rs.length) := by omega
  have hah := area_half S.D.now.length (L.epoch + 1)
  have hhf := hl.half
  by_cases hfull : (areaOf S.D.now.length (L.epoch + 1)).to - (areaOf S.D.now.length (L.epoch + 1)).at_ < total (split rs)
  · refine stay 7 ?_ ?_
    · unfold turnF
      rw [hge, if_neg (by simp), if_neg hsp, if_pos hfull]
    · unfold Rf.turn
      rw [if_neg (by rw [hg]; simp), if_neg hsp2, if_pos (by omega)]
  have hR : R.turn rs = ({ R with count := R.count + 1, epoch := R.epoch + 1, fresh := true, used := total (split rs), seq := rs.length, list := rs }, 0) := by
    unfold Rf.turn
    rw [if_neg (by rw [hg]; simp), if_neg hsp2, if_neg (by omega)]
  have hC : turnF S L rs = turnG S L (L.epoch + 1) (turnLoop (L.epoch + 1) (split rs) (turn0 S (L.epoch + 1))) := by
    unfold turnF
    rw [hge, if_neg (by simp), if_neg hsp, if_neg hfull]
  have hsplit := split_facts (rs := rs) fun r hr => by have := (good_spans (hall r hr)).2.2.2.2.2; omega
  have hps : ∀ p ∈ split rs, p ≠ [] ∧ fsize p ≤ 16384 ∧ ∀ r ∈ p, r.good = true := fun p hp => ⟨(hsplit.1 p hp).1, (hsplit.1 p hp).2, fun r hr => hall r (by rw [← hsplit.2.1]; exact List.mem_flatten.2 ⟨p, hp, hr⟩)⟩
  obtain ⟨v1, v2, v3, v4⟩ := hi.vouch.facts
  have hsz := hi.dok.size
  obtain ⟨ao1, ao2⟩ := areaOf_facts S.D.now.length (L.epoch + 1) hsz
  have hmade0 : (S.I.hash (startT (L.epoch + 1))).made.length ≤ S.I.made.length + 1 := Id.put_le _ _
  have hle0 : S.I.le (S.I.hash (startT (L.epoch + 1))) := Id.le_put _ _
  have hdig0 : (S.I.hash (startT (L.epoch + 1))).dig (startT (L.epoch + 1)) = S.I.dig (startT (L.epoch + 1)) := Id.dig_in (Id.le.refl _)
  have hlen : (split rs).flatten.length = rs.length := by rw [hsplit.2.1]
  obtain ⟨i1, i2, i3, i4, i5, i6, i7, i8⟩ := turnLoop_run (ep := L.epoch + 1) (m := S.V.master) (lim := S.V.limit) (lo := (areaOf S.D.now.length S.M.epoch).frm) (hi := a) (frm := (areaOf S.D.now.length (L.epoch + 1)).frm) (to := (areaOf S.D.now.length (L.epoch + 1)).to) (h0 := S.I.dig (startT (L.epoch + 1))) (by omega)
    (fun i h1 h2 h3 => areas_apart (n := S.D.now.length) hep.1 i (by rw [← hepL]; exact h1) (by rw [← hepL]; exact h2) ⟨h3.1, by omega⟩) (split rs) (T := turn0 S (L.epoch + 1)) (fs := []) hps (Id.wf_put hi.wf _) rfl rfl hi.hold hd (dig_length _ _) rfl (by show (areaOf _ _).at_ + _ ≤ _; omega) ao2 (by show _ ≤ (areaOf _ _).at_; omega) (Int.le_refl 0) (by show 0 + ((split rs).flatten.length : Int) ≤ _; omega) (by show (S.I.hash _).made.length + _ < _; omega) ⟨rfl, by show (areaOf _ _).at_ = _; omega, rfl⟩ hi.dok ao1
  rw [hC] at kf ⊢
  rw [hR]
  clear hC hR stay
  have hi3 : (S.I.hash (startT (L.epoch + 1))).le (turnLoop (L.epoch + 1) (split rs) (turn0 S (L.epoch + 1))).1.I := i3
  have hasD : S.D.as (turnLoop (L.epoch + 1) (split rs) (turn0 S (L.epoch + 1))).1.D (areaOf S.D.now.length S.M.epoch).frm a := i2
  have hat0 : (turn0 S (L.epoch + 1)).A = areaOf S.D.now.length (L.epoch + 1) := rfl
  have hsq0 : (turn0 S (L.epoch + 1)).seq = 0 := rfl
  have hf0 : (turn0 S (L.epoch + 1)).D.fuse = S.D.fuse := rfl
  rw [hat0, hsq0, hf0] at i7
  rw [hf0] at i8
  generalize turnLoop (L.epoch + 1) (split rs) (turn0 S (L.epoch + 1)) = T at *
  have hvI := ((hi.vouch.mono hle0).mono hi3).vault (W := T.1.V) i5 i6
  have hgone : ∀ {D' : Dk}, D'.now.length = S.D.now.length → D'.ok → D'.hold (areaOf S.D.now.length S.M.epoch).frm a → S.D.as D' (areaOf S.D.now.length S.M.epoch).frm a → Inv ⟨T.1.I, T.1.V, D', S.M⟩ fs a s ∧ Like ⟨T.1.I, T.1.V, D', S.M⟩ R fs := fun {D'} hn ho hh ha => by
    refine ⟨⟨i4, ?_, ?_, ho, hi.ep, hi.count, by show 0 ≤ T.1.V.limit ∧ T.1.V.limit < _; rw [i6]; exact hi.lim⟩, ⟨hl.count, hl.epoch, hl.list, ?_, by show R.limit = T.1.V.limit; rw [i6]; exact hl.limit, hl.most, hl.small⟩⟩
    · show Vouch T.1.I T.1.V S.M _ _ fs a s
      simp only [hn]
      exact hvI.on fun i h1 h2 => ha i h1 h2
    · simp only [hn]; exact hh
    · simp only [hn]; exact hl.half
  have hmne : S.M.most - S.M.count ≠ 0 := by omega
  unfold turnG at kf ⊢
  rcases i7 with ⟨j1, j2, j3, j4, j5, fs', j6, j7⟩ | ⟨j1, j2, j3, jw⟩
  · rw [if_neg (show ¬ T.2 ≠ 0 by omega)] at kf ⊢
    have hwin : ∀ {D' : Dk}, D'.now.length = S.D.now.length → D'.ok → D'.now = T.1.D.now → D'.safe = T.1.D.now → D'.waits = [] →
        Inv ⟨T.1.I, T.1.V, D', S.M.go (L.epoch + 1) T.1.head⟩ fs' T.1.A.at_ T.1.seq ∧ Like ⟨T.1.I, T.1.V, D', S.M.go (L.epoch + 1) T.1.head⟩ { R with count := R.count + 1, epoch := R.epoch + 1, fresh := true, used := total (split rs), seq := rs.length, list := rs } fs' := fun {D'} hn ho h1 h2 h3 => by
      have hst : nm 72 [startT (L.epoch + 1)] ∈ T.1.I.made := hi3.mem (Id.in_put _ _)
      have hd0 : T.1.I.dig (startT (L.epoch + 1)) = S.I.dig (startT (L.epoch + 1)) := Id.dig_in hi3
      refine ⟨⟨i4, ?_, ⟨fun i _ _ => by rw [h1, h2], by rw [h3]; simp⟩, ho, ?_, ?_, by show 0 ≤ T.1.V.limit ∧ T.1.V.limit < _; rw [i6]; exact hi.lim⟩, ⟨?_, ?_, ?_, ?_, by show R.limit = T.1.V.limit; rw [i6]; exact hl.limit, hl.most, by show R.count + 1 ≤ _; omega⟩⟩
      · show Vouch _ _ _ D'.now.length D'.safe _ _ _
        rw [hn, h2]
        refine .inr ⟨by show 0 < S.M.count + 1; omega, hst, ?_⟩
        show Chain T.1.I T.1.V.master T.1.V.limit (L.epoch + 1) T.1.D.now (areaOf S.D.now.length (L.epoch + 1)).to (T.1.I.dig (startT (L.epoch + 1))) (areaOf S.D.now.length (L.epoch + 1)).frm 0 fs' T.1.head T.1.A.at_ T.1.seq
        rw [hd0, i5, i6]
        exact j7
      · show 0 ≤ L.epoch + 1 ∧ L.epoch + 1 < _
        omega
      · show 0 ≤ S.M.count + 1 ∧ S.M.count + 1 ≤ S.M.most
        omega
      · show R.count + 1 = S.M.count + 1
        omega
      · show R.epoch + 1 = L.epoch + 1
        omega
      · show rs = _
        rw [j6]; simp [allRecs, hsplit.2.1]
      · show R.half = (D'.now.length / 2 : Nat)
        rw [hn]; exact hl.half
    rcases sealF_run (M := S.M) (e := L.epoch + 1) (hd := T.1.head) i1 j2 (by omega) hmne with ⟨g1, g2, g3, g4, g5, g6, g7⟩ | ⟨g1, g2, g3, gw, g4⟩
    · rw [if_neg (show ¬ (sealF T.1.D S.M (L.epoch + 1) T.1.head).2.2 ≠ 0 by omega)] at kf ⊢
      have kn' := kf.now
      have ko := kf.ok
      have kaok := kf.aok
      have kto := kf.to hf.to
      simp only at kn' ko
      rw [g6] at kf ⊢
      generalize sealF T.1.D S.M (L.epoch + 1) T.1.head = Y at *
      obtain ⟨w1, w2⟩ := hwin kn' ko g3 g4 g5
      refine .inl ⟨rfl, g2, by show Y.1.waits.length ≤ _; rw [g5]; simp, fun h => g7 (i8 h), _, _, _, w1, w2, ⟨rfl, kaok, by show _ ≤ Y.1.now.length; rw [kn']; exact kto, j3, by show 0 ≤ T.1.seq; omega, rfl, fun _ => ⟨by show 0 < S.M.count + 1; omega, rfl, ?_, rfl, ?_, ?_⟩⟩⟩
      · show T.1.A = ⟨(areaOf Y.1.now.length (L.epoch + 1)).frm, (areaOf Y.1.now.length (L.epoch + 1)).to, T.1.A.at_⟩
        rw [kn', j4]
      · show (total (split rs) : Int) = ((T.1.A.at_ - (areaOf Y.1.now.length (L.epoch + 1)).frm : Nat) : Int)
        rw [kn', j4]
        simp only
        omega
      · show (rs.length : Int) = T.1.seq
        omega
    · rw [if_pos (show (sealF T.1.D S.M (L.epoch + 1) T.1.head).2.2 ≠ 0 by omega)] at kf ⊢
      have kn' := kf.now
      have ko := kf.ok
      simp only at kn' ko
      refine .inr ⟨g1, g2, by rw [gw]; simp, fun h => g3 (i8 h), rfl, ?_⟩
      rcases g4 with ⟨g5, g6, g7⟩ | ⟨g5, g6, g7, g8⟩
      · rw [g5]
        obtain ⟨w1, w2⟩ := hgone kn' ko g6 (hasD.trans g7)
        exact ⟨_, _, _, _, .inl rfl, w1, w2⟩
      · rw [g5]
        obtain ⟨w1, w2⟩ := hwin kn' ko g6 g7 g8
        exact ⟨_, _, _, _, .inr rfl, w1, w2⟩
  · rw [if_pos (show T.2 ≠ 0 by omega)] at kf ⊢
    have kn' := kf.now
    have ko := kf.ok
    obtain ⟨w1, w2⟩ := hgone kn' ko i1 hasD
    exact .inr ⟨j1, j2, by rw [jw]; simp, j3, rfl, _, _, _, _, .inl rfl, w1, w2⟩

end Go.Dv

/-! a save, and its reference -/
set_option maxRecDepth 20000
namespace Go.Dv
open Go Go.Sh Go.Sl

theorem Rf.commit_count {R : Rf} {rs : List Rec} : (R.commit rs).2 = 0 → (R.commit rs).1.count = R.count + 1 := by
  unfold Rf.commit
  split
  · intro h; simp at h
  · split
    · intro h; simp at h
    · split
      · intro h; simp at h
      · split
        · intro h; simp at h
        · intro _; rfl
theorem Rf.turn_count {R : Rf} {rs : List Rec} : (R.turn rs).2 = 0 → (R.turn rs).1.count = R.count + 1 := by
  unfold Rf.turn
  split
  · intro h; simp at h
  · split
    · intro h; simp at h
    · split
      · intro h; simp at h
      · intro _; rfl
theorem Rf.commit_up {R : Rf} {rs : List Rec} : (R.commit rs).1.count ≤ R.count + 1 ∧ R.count ≤ (R.commit rs).1.count := by
  by_cases h : (R.commit rs).2 = 0
  · rw [Rf.commit_count h]; omega
  · rw [Rf.commit_left h]; omega
theorem Rf.turn_up {R : Rf} {rs : List Rec} : (R.turn rs).1.count ≤ R.count + 1 ∧ R.count ≤ (R.turn rs).1.count := by
  by_cases h : (R.turn rs).2 = 0
  · rw [Rf.turn_count h]; omega
  · rw [Rf.turn_left h]; omega
theorem Rf.save_up {R : Rf} {st ch : List Rec} : (R.save st ch).1.count ≤ R.count + 3 ∧ R.count ≤ (R.save st ch).1.count := by
  have h1 := Rf.commit_up (R := R) (rs := ch)
  have h2 := Rf.turn_up (R := (R.commit ch).1) (rs := st)
  have h3 := Rf.commit_up (R := ((R.commit ch).1.turn st).1) (rs := ch)
  unfold Rf.save
  split
  · simp only; omega
  · split
    · simp only; omega
    · split
      · simp only; omega
      · simp only; omega

/-- The log that counts, by its number. -/
def pick (R : Rf) (r : Rf × Int × Option Rf) (c : Int) : Rf :=
  if c = r.1.count then r.1 else match r.2.2 with
    | some T => if c = T.count then T else R
    | none => R

def OutS (S : St) (o : St × Lg × Int) (R : Rf) (r : Rf × Int × Option Rf) : Prop :=
  (o.2.2 = r.2.1 ∧ o.1.D.down = false ∧ o.1.D.waits.length ≤ S.D.waits.length ∧ (S.D.fuse = 0 → o.1.D.fuse = 0) ∧ ∃ fs a s, Inv o.1 fs a s ∧ Like o.1 r.1 fs ∧ Fit o.1 o.2.1 r.1 a s) ∨
  (o.2.2 = 8 ∧ o.1.D.down = true ∧ o.1.D.waits.length ≤ S.D.waits.length ∧ S.D.fuse ≠ 0 ∧ ∃ R' fs a s, R' = pick R r R'.count ∧ Inv o.1 fs a s ∧ Like o.1 R' fs)

theorem save_run {S : St} {L : Lg} {R : Rf} {fs : List Fm} {a : Nat} {s : Int} {st ch : List Rec} (hi : Inv S fs a s) (hl : Like S R fs) (hf : Fit S L R a s) (hd : S.D.down = false) (hI : S.I.made.length + 10 * (st.length + ch.length) < 10000000000000000) (hc : R.count < 900000) : OutS S (saveF S L st ch) R (R.save st ch) := by
  have k1 := commit_facts (rs := ch) hi.dok hf.aok hf.to hf.seq
  have c1 := commit_run (rs := ch) hi hl hf hd (by omega) (by omega)
  have u1 := Rf.commit_up (R := R) (rs := ch)
  unfold saveF Rf.save
  rcases c1 with ⟨a1, a2, aw, a3, fs1, p1, s1, hi1, hl1, hf1⟩ | ⟨a1, a2, aw, a3, a4, R', fs1, p1, s1, hR', hi1, hl1⟩
  · rw [a1]
    by_cases h7 : (R.commit ch).2 ≠ 7 ∧ (R.commit ch).2 ≠ 10
    · rw [if_pos h7, if_pos h7]
      exact .inl ⟨a1, a2, aw, a3, fs1, p1, s1, hi1, hl1, hf1⟩
    · rw [if_neg h7, if_neg h7]
      have hm := most_left hl1 2 (by omega)
      by_cases h2 : (R.commit ch).1.most - (R.commit ch).1.count < 2
      · rw [if_pos h2, if_pos (hm.2 h2)]
        exact .inl ⟨rfl, a2, aw, a3, fs1, p1, s1, hi1, hl1, hf1⟩
      · rw [if_neg h2, if_neg (fun h => h2 (hm.1 h))]
        have hl0 : (R.commit ch).1 = R := Rf.commit_left (by omega)
        have hm1 := k1.made
        have k2 := turn_facts (rs := st) hi1.dok hf1.aok hf1.to hf1.seq
        have t1 := turn_run (rs := st) hi1 hl1 hf1 a2 (by omega) (by omega)
        have u2 := Rf.turn_up (R := (R.commit ch).1) (rs := st)
        generalize commitF S L ch = X at *
        generalize hR1 : (R.commit ch).1 = R1 at *
        subst hl0
        rcases t1 with ⟨b1, b2, bw, b3, fs2, p2, s2, hi2, hl2, hf2⟩ | ⟨b1, b2, bw, b3, b4, R', fs2, p2, s2, hR', hi2, hl2⟩
        · rw [b1]
          by_cases h0 : (R1.turn st).2 ≠ 0
          · rw [if_pos h0, if_pos h0]
            exact .inl ⟨b1, b2, Nat.le_trans bw aw, fun h => b3 (a3 h), fs2, p2, s2, hi2, hl2, hf2⟩
          · rw [if_neg h0, if_neg h0]
            have hm2 := k2.made
            have c2 := commit_run (rs := ch) hi2 hl2 hf2 b2 (by omega) (by omega)
            have hcc := Rf.commit_count (R := (R1.turn st).1) (rs := ch)
            rcases c2 with ⟨d1, d2, dw, d3, fs3, p3, s3, hi3, hl3, hf3⟩ | ⟨d1, d2, dw, d3, d4, R', fs3, p3, s3, hR', hi3, hl3⟩
            · exact .inl ⟨d1, d2, Nat.le_trans dw (Nat.le_trans bw aw), fun h => d3 (b3 (a3 h)), fs3, p3, s3, hi3, hl3, hf3⟩
            · refine .inr ⟨d1, d2, Nat.le_trans dw (Nat.le_trans bw aw), fun h => d3 (b3 (a3 h)), R', fs3, p3, s3, ?_, hi3, hl3⟩
              have hcc := hcc d4
              unfold pick
              simp only
              rcases hR' with rfl | rfl
              · rw [if_neg (by omega), if_pos rfl]
              · rw [if_pos rfl]
        · rw [b1]
          have h0 : ¬ (R1.turn st).2 ≠ 0 := by omega
          rw [if_pos (by decide), if_neg h0]
          refine .inr ⟨b1, b2, Nat.le_trans bw aw, fun h => b3 (a3 h), R', fs2, p2, s2, ?_, hi2, hl2⟩
          have htc := Rf.turn_count b4
          have hcu := Rf.commit_up (R := (R1.turn st).1) (rs := ch)
          unfold pick
          simp only
          rcases hR' with rfl | rfl
          · rw [if_neg (by omega), if_neg (by omega)]
          · by_cases he : ((R1.turn st).1.commit ch).2 = 0
            · have := Rf.commit_count he
              rw [if_neg (by omega), if_pos rfl]
            · rw [Rf.commit_left he, if_pos rfl]
  · rw [a1, if_pos (by decide), if_pos (by rw [a4]; decide)]
    refine .inr ⟨a1, a2, aw, a3, R', fs1, p1, s1, ?_, hi1, hl1⟩
    have hcc := Rf.commit_count a4
    unfold pick
    simp only
    rcases hR' with rfl | rfl
    · rw [if_neg (by omega)]
    · rw [if_pos rfl]

/-- The power is on again: a new keeper, by what the disk holds. -/
theorem reopen_run {S : St} {R : Rf} {fs : List Fm} {a : Nat} {s : Int} (hi : Inv S fs a s) (hl : Like S R fs) (hI : S.I.made.length < 100000000000000000) :
    ∃ o, openGo S = (o, 0) ∧ o.list = R.list ∧ o.I.made.length ≤ S.I.made.length + 1 ∧ 0 ≤ o.seq ∧ o.seq = (allRecs fs).length ∧
      ∃ fs' a' s', Inv { S with I := o.I } fs' a' s' ∧ Like { S with I := o.I } { R with fresh := false } fs' ∧ Fit { S with I := o.I } ⟨o.A, S.M.epoch, o.seq, o.head, false⟩ { R with fresh := false } a' s' := by
  have hv : Vouch S.I S.V S.M S.D.now.length S.D.now fs a s := hi.vouch.on fun i h1 h2 => hi.hold.1 i h1 h2
  obtain ⟨hd, ho, h1, h2⟩ := open_vouch hi.wf (by omega) hv
  obtain ⟨v1, v2, v3, v4⟩ := hi.vouch.facts
  have hle : S.I.le (S.I.hash (startT S.M.epoch)) := Id.le_put _ _
  have hsz := hi.dok.size
  obtain ⟨ao1, ao2⟩ := areaOf_facts S.D.now.length S.M.epoch hsz
  refine ⟨_, ho, hl.list.symm, Id.put_le _ _, by show 0 ≤ s; omega, v3, fs, a, s, ⟨Id.wf_put hi.wf _, hi.vouch.mono hle, hi.hold, hi.dok, hi.ep, hi.count, hi.lim⟩, ⟨hl.count, hl.epoch, hl.list, hl.half, hl.limit, hl.most, hl.small⟩, ⟨rfl, ⟨v1, v2, ao1.to⟩, ao2, h2, by show 0 ≤ s; omega, rfl, fun h => by cases h⟩⟩

/-- Nothing is written that is not safe: what the power takes when nothing goes on. -/
theorem off_run {S : St} {R : Rf} {fs : List Fm} {a : Nat} {s : Int} (hi : Inv S fs a s) (hl : Like S R fs) (k : Int) : Inv { S with D := { (S.D.off k) with down := false } } fs a s ∧ Like { S with D := { (S.D.off k) with down := false } } R fs := by
  have hn := off_len hi.dok k
  have ho := off_ok hi.dok k
  obtain ⟨h1, h2⟩ := hold_off hi.hold k
  refine ⟨⟨hi.wf, ?_, ?_, ⟨ho.len, ho.now, ho.safe, ho.waits, ho.size, ho.fuse⟩, hi.ep, hi.count, hi.lim⟩, ⟨hl.count, hl.epoch, hl.list, ?_, hl.limit, hl.most, hl.small⟩⟩
  · show Vouch S.I S.V S.M (S.D.off k).now.length (S.D.off k).safe fs a s
    rw [hn]
    exact hi.vouch.on fun i g1 g2 => h2 i g1 g2
  · show Dk.hold _ (areaOf (S.D.off k).now.length S.M.epoch).frm a
    rw [hn]
    exact (hold_same h1 rfl rfl rfl).1
  · show R.half = ((S.D.off k).now.length / 2 : Nat)
    rw [hn]; exact hl.half

theorem arm_run {S : St} {fs : List Fm} {a : Nat} {s : Int} (hi : Inv S fs a s) (n k : Int) (hn : n < 9223372036854775808) : Inv { S with D := S.D.arm n k } fs a s := by
  have ho := hi.dok
  refine ⟨hi.wf, hi.vouch, hi.hold, ⟨ho.len, ho.now, ho.safe, ho.waits, ho.size, ?_⟩, hi.ep, hi.count, hi.lim⟩
  show 0 ≤ mxI n 0 ∧ mxI n 0 < _
  unfold mxI
  split <;> omega

end Go.Dv

/-! no place is sealed twice -/
set_option maxRecDepth 20000
namespace Go.Dv
open Go Go.Sh Go.Sl

/-- What was used lies before an epoch and a number. -/
def UsedB (V : Vt) (e s : Int) : Prop := ∀ p ∈ V.used, ∃ key : List UInt8, ∃ e' s' : Int, p.1 = key ++ nonceB e' s' ∧ key.length = 32 ∧ 0 ≤ e' ∧ e' < 4294967296 ∧ 0 ≤ s' ∧ s' < 4000000000000000000 ∧ (e' < e ∨ e' = e ∧ s' < s)

theorem nonceB_inj {e s e' s' : Int} (h1 : 0 ≤ e ∧ e < 4294967296) (h2 : 0 ≤ e' ∧ e' < 4294967296) (h3 : 0 ≤ s ∧ s < 4000000000000000000) (h4 : 0 ≤ s' ∧ s' < 4000000000000000000) (h : nonceB e s = nonceB e' s') : e = e' ∧ s = s' := by
  unfold nonceB at h
  obtain ⟨a, b⟩ := List.append_inj h (by simp [num8_length])
  refine ⟨?_, num8_inj (by omega) (by omega) (by omega) (by omega) b⟩
  rw [num8_eq, num8_eq] at a
  simp only [List.take_succ_cons, List.take_zero, List.cons.injEq, and_true] at a
  obtain ⟨a0, a1, a2, a3⟩ := a
  have b0 := by8_toNat e
  have b1 := by8_toNat (e / 256)
  have b2 := by8_toNat (e / 65536)
  have b3 := by8_toNat (e / 16777216)
  rw [a0, by8_toNat] at b0
  rw [a1, by8_toNat] at b1
  rw [a2, by8_toNat] at b2
  rw [a3, by8_toNat] at b3
  omega

theorem use_fresh {V : Vt} {e s : Int} {key t : List UInt8} (h : UsedB V e s) (hk : key.length = 32) (he : 0 ≤ e ∧ e < 4294967296) (hs : 0 ≤ s ∧ s < 3000000000000000000) : UsedB (V.use (key ++ nonceB e s) t) e (s + 1) ∧ (V.use (key ++ nonceB e s) t).clash = V.clash := by
  have hno : ∀ p ∈ V.used, p.1 ≠ key ++ nonceB e s := fun p hp hx => by
    obtain ⟨key', e', s', h1, h2, h3, h4, h5, h6, h7⟩ := h p hp
    rw [h1] at hx
    have := (List.append_inj hx (by omega)).2
    have := nonceB_inj ⟨h3, h4⟩ he ⟨h5, h6⟩ (by omega) this
    omega
  have hm : V.meets (key ++ nonceB e s) t = false := by
    cases hm : V.meets (key ++ nonceB e s) t with
    | false => rfl
    | true =>
      obtain ⟨o, ho, _⟩ := (Vt.meets_iff V _ t).1 hm
      exact absurd rfl (hno _ ho)
  refine ⟨fun p hp => ?_, by unfold Vt.use; rw [hm]; rfl⟩
  have hp : p ∈ setT (key ++ nonceB e s) t V.used := hp
  rcases mem_setT_of hp with rfl | ⟨hp, _⟩
  · exact ⟨key, e, s, rfl, hk, he.1, he.2, hs.1, by omega, .inr ⟨rfl, by omega⟩⟩
  · obtain ⟨key', e', s', h1, h2, h3, h4, h5, h6, h7⟩ := h p hp
    exact ⟨key', e', s', h1, h2, h3, h4, h5, h6, by omega⟩

theorem packF_used {I : Id} {V : Vt} {at_ : List UInt8} {e s : Int} {n : Nat} {rs : List Rec} (h : UsedB V e s) (he : 0 ≤ e ∧ e < 4294967296) (hs : 0 ≤ s) (hs2 : s + rs.length < 3000000000000000000) : ∀ {i : Nat}, i ≤ rs.length →
    UsedB (packF I V at_ e s n (rs.take i)).V e (s + i) ∧ (packF I V at_ e s n (rs.take i)).V.clash = V.clash
  | 0, _ => by simpa [packF] using h
  | i + 1, hi => by
    have hlt : i < rs.length := hi
    obtain ⟨h1, h2⟩ := packF_used (I := I) (at_ := at_) (n := n) h he hs hs2 (i := i) (by omega)
    rw [packF_take hlt]
    generalize packF I V at_ e s n (rs.take i) = X at *
    obtain ⟨g1, g2⟩ := use_fresh (key := X.I.key X.V.master (keyT rs[i].queue)) (t := rs[i].bytes) h1 (key_length _ _ _) he (by omega)
    refine ⟨?_, g2.trans h2⟩
    have : s + ((i + 1 : Nat) : Int) = s + i + 1 := by omega
    rw [this]
    exact g1

theorem packV_used {I : Id} {V : Vt} {at_ : List UInt8} {e s : Int} {rs : List Rec} (h : UsedB V e s) (he : 0 ≤ e ∧ e < 4294967296) (hs : 0 ≤ s) (hs2 : s + rs.length < 3000000000000000000) : UsedB (packV I V at_ e s rs) e (s + rs.length) ∧ (packV I V at_ e s rs).clash = V.clash := by
  have := packF_used (I := I) (at_ := at_) (n := rs.length) h he hs hs2 (Nat.le_refl _)
  rw [List.take_length] at this
  exact this

def Uq (S : St) (L : Lg) : Prop := UsedB S.V L.epoch L.seq ∧ S.V.clash = 0

theorem addF_codes {bs : List UInt8} {a : Nat} : ∀ (k i : Nat) (D : Dk), (addF bs a k i D).2 = 0 ∨ (addF bs a k i D).2 = 8
  | 0, _, _ => .inl rfl
  | k + 1, i, D => by
    unfold addF
    split
    · rename_i h
      unfold Dk.write at h ⊢
      split
      · exact .inr rfl
      · split
        · exact .inr rfl
        · rename_i h1 h2
          rw [if_neg h1, if_neg h2] at h
          exact absurd rfl h
    · exact addF_codes k (i + 1) _

theorem next_codes {M : Mt} {D : Dk} {e : Int} {hd : List UInt8} (h1 : M.epoch ≤ e) (h2 : M.most - M.count ≠ 0) : (M.next D e hd).2.2 = 0 ∨ (M.next D e hd).2.2 = 8 := by
  unfold Mt.next
  split
  · exact .inr rfl
  · rw [if_neg (show ¬ e < M.epoch by omega)]
    try rw [if_neg h2]
    split
    · exact .inr rfl
    · exact .inl rfl

theorem seal_codes {M : Mt} {D : Dk} {e : Int} {hd : List UInt8} (h1 : M.epoch ≤ e) (h2 : M.most - M.count ≠ 0) : (sealF D M e hd).2.2 = 0 ∨ (sealF D M e hd).2.2 = 8 := by
  unfold sealF
  split
  · rename_i h
    unfold Dk.sync at h ⊢
    split
    · exact .inr rfl
    · split
      · exact .inr rfl
      · rename_i h1 h2
        rw [if_neg h1, if_neg h2] at h
        exact absurd rfl h
  · exact next_codes h1 h2

theorem commit_uq {S : St} {L : Lg} {rs : List Rec} (h : Uq S L) (hep : L.epoch = S.M.epoch) (he : 0 ≤ L.epoch ∧ L.epoch < 4294967296) (hs : 0 ≤ L.seq) (hs2 : L.seq + rs.length < 3000000000000000000) (hc : (commitF S L rs).2.2 ≠ 8) : Uq (commitF S L rs).1 (commitF S L rs).2.1 := by
  unfold commitF at hc ⊢
  split
  · exact h
  · rename_i n1
    rw [if_neg n1] at hc
    split
    · exact h
    · rename_i n2
      rw [if_neg n2] at hc
      split
      · exact h
      · rename_i n3
        rw [if_neg n3] at hc
        split
        · exact h
        · rename_i n4
          rw [if_neg n4] at hc
          split
          · exact h
          · rename_i n5
            rw [if_neg n5] at hc
            obtain ⟨p1, p2⟩ := packV_used (I := S.I) (at_ := L.head) (rs := rs) h.1 he hs hs2
            have hns : ((packB S.I S.V L.head L.epoch L.seq rs).length + 255) / 256 = fsect rs := by rw [pack_len]; rfl
            have hadd : (L.A.add S.D (packB S.I S.V L.head L.epoch L.seq rs)).2.2 = 0 ∨ (L.A.add S.D (packB S.I S.V L.head L.epoch L.seq rs)).2.2 = 8 := by
              unfold Ar.add
              split
              · exact .inr rfl
              · rw [hns, if_neg n5]
                split
                · exact addF_codes _ _ _
                · exact .inl rfl
            unfold commitG at hc ⊢
            have hk0 := seal_codes (D := (L.A.add S.D (packB S.I S.V L.head L.epoch L.seq rs)).2.1) (hd := (packI S.I S.V L.head L.epoch L.seq rs).dig (L.head ++ packB S.I S.V L.head L.epoch L.seq rs)) (M := S.M) (e := L.epoch) (by omega) (by omega)
            simp only at hc ⊢
            split
            · rename_i g1
              rw [if_pos g1] at hc
              simp only at hc
              omega
            · rename_i g1
              rw [if_neg g1] at hc
              split
              · rename_i g2
                rw [if_pos g2] at hc
                simp only at hc
                omega
              · exact ⟨p1, p2.trans h.2⟩

theorem turnLoop_used {ep : Int} (he : 0 ≤ ep ∧ ep < 4294967296) : ∀ (ps : List (List Rec)) (T : Tl), UsedB T.V ep T.seq → 0 ≤ T.seq → T.seq + ps.flatten.length < 3000000000000000000 → UsedB (turnLoop ep ps T).1.V ep (turnLoop ep ps T).1.seq ∧ (turnLoop ep ps T).1.V.clash = T.V.clash
  | [], T, h, _, _ => ⟨h, rfl⟩
  | p :: ps, T, h, hs, hl => by
    rw [List.flatten_cons, List.length_append] at hl
    obtain ⟨p1, p2⟩ := packV_used (I := T.I) (at_ := T.head) (rs := p) h he hs (by omega)
    have e1 : (T.step ep p).1.V = packV T.I T.V T.head ep T.seq p := rfl
    have e2 : (T.step ep p).1.seq = T.seq + p.length := rfl
    rw [← e1, ← e2] at p1
    rw [← e1] at p2
    unfold turnLoop
    split
    · exact ⟨p1, p2⟩
    · obtain ⟨q1, q2⟩ := turnLoop_used he ps (T.step ep p).1 p1 (by omega) (by omega)
      exact ⟨q1, q2.trans p2⟩

theorem turn_uq {S : St} {L : Lg} {rs : List Rec} (h : Uq S L) (he : 0 ≤ L.epoch) (hs2 : rs.length < 1000000) (hc : (turnF S L rs).2.2 = 0) : Uq (turnF S L rs).1 (turnF S L rs).2.1 := by
  unfold turnF at hc ⊢
  split
  · exact h
  · rename_i n1
    rw [if_neg n1] at hc
    split
    · exact h
    · rename_i n2
      rw [if_neg n2] at hc
      split
      · exact h
      · rename_i n3
        rw [if_neg n3] at hc
        have hu : UsedB (turn0 S (L.epoch + 1)).V (L.epoch + 1) (turn0 S (L.epoch + 1)).seq := fun p hp => by
          obtain ⟨key', e', s', h1, h2, h3, h4, h5, h6, h7⟩ := h.1 p hp
          exact ⟨key', e', s', h1, h2, h3, h4, h5, h6, by omega⟩
        have hge : goodE S.D rs = 0 := by omega
        obtain ⟨_, _, hall⟩ := good_all hge
        have hfl := (split_facts (rs := rs) fun r hr => by have := (good_spans (hall r hr)).2.2.2.2.2; omega).2.1
        obtain ⟨q1, q2⟩ := turnLoop_used (ep := L.epoch + 1) (by omega) (split rs) (turn0 S (L.epoch + 1)) hu (Int.le_refl 0) (by rw [hfl]; show (0 : Int) + _ < _; omega)
        unfold turnG at hc ⊢
        split
        · rename_i g1
          rw [if_pos g1] at hc
          exact absurd hc g1
        · rename_i g1
          rw [if_neg g1] at hc
          split
          · rename_i g2
            rw [if_pos g2] at hc
            exact absurd hc g2
          · exact ⟨q1, q2.trans h.2⟩

theorem save_uq {S : St} {L : Lg} {R : Rf} {fs : List Fm} {a : Nat} {s : Int} {st ch : List Rec} (hi : Inv S fs a s) (hl : Like S R fs) (hf : Fit S L R a s) (hd : S.D.down = false) (hI : S.I.made.length + 10 * (st.length + ch.length) < 10000000000000000) (hc : R.count < 900000) (hu : Uq S L) (hsq : L.seq < 1000000000) (h1 : st.length < 1000000) (h2 : ch.length < 1000000) (h0 : (saveF S L st ch).2.2 = 0) : Uq (saveF S L st ch).1 (saveF S L st ch).2.1 := by
  have k1 := commit_facts (rs := ch) hi.dok hf.aok hf.to hf.seq
  have c1 := commit_run (rs := ch) hi hl hf hd (by omega) (by omega)
  have u1 := Rf.commit_up (R := R) (rs := ch)
  have hepi := hi.ep
  have hepf := hf.epoch
  have hsqf := hf.seq
  unfold saveF at h0 ⊢
  split
  · rename_i g
    rw [if_pos g] at h0
    exact commit_uq hu hepf (by omega) hsqf (by omega) (by omega)
  · rename_i g
    rw [if_neg g] at h0
    have hu1 := commit_uq (rs := ch) hu hepf (by omega) hsqf (by omega) (by omega)
    split
    · rename_i g2
      rw [if_pos g2] at h0
      simp at h0
    · rename_i g2
      rw [if_neg g2] at h0
      rcases c1 with ⟨a1, a2, aw, a3, fs1, p1, s1, hi1, hl1, hf1⟩ | ⟨a1, _⟩
      · have hm1 := k1.made
        have k2 := turn_facts (rs := st) hi1.dok hf1.aok hf1.to hf1.seq
        have t1 := turn_run (rs := st) hi1 hl1 hf1 a2 (by omega) (by omega)
        have hep1 := hi1.ep
        have hef1 := hf1.epoch
        split
        · rename_i g3
          rw [if_pos g3] at h0
          exact absurd h0 g3
        · rename_i g3
          rw [if_neg g3] at h0
          have hu2 := turn_uq hu1 (by omega) h1 (by omega)
          rcases t1 with ⟨b1, b2, bw, b3, fs2, p2, s2, hi2, hl2, hf2⟩ | ⟨b1, _⟩
          · have hep2 := hi2.ep
            have hef2 := hf2.epoch
            have hs2 := hf2.seq
            have ks1 := k1.seq
            have ks2 := k2.seq
            exact commit_uq hu2 hef2 (by omega) hs2 (by omega) (by omega)
          · omega
      · omega

end Go.Dv

/-! the law's own functions -/
set_option maxRecDepth 20000
namespace Go.Dv
open Go Go.Sh Go.Sl

variable {B : Bs} {w : World} {F : List HP} {K : Value → World → Prop}

theorem pt_Place : parts P t_coffretlaw18_Place = some ([(0, 1), (1, 1), (2, 1), (3, 1)], [.pointer none, .pointer none, .pointer none, .pointer none]) := by kernel_rfl
theorem wd_Step : wide P t_coffretlaw18_Step = some 5 := by kernel_rfl
theorem zr_Step : zeros P t_coffretlaw18_Step = some [.slice none 0 0, .slice none 0 0, .int .i64 0, .int .u64 0, .bool false] := by kernel_rfl
theorem sc_pkeeper : scal P t_p_snap_Keeper = true := by kernel_rfl

def tickR (n : Int) : Rec := ⟨7, 0, 0, n, 0, []⟩

theorem tick_ok {n : Int} (h : Sat B w F) (hk : ∀ w', Sat B w' F → K (tickR n).val w') : Cs P f_coffretlaw18_tick #[.int .i64 n] w K := by
  refine ok_coffretlaw18_tick _ ?_
  unfold vc_coffretlaw18_tick
  refine h.var zr_Record fun b0 w' h => ⟨_, _, bld_run (cs := (tickR n).cells) pt_Record ?_, ?_⟩
  · rw [fill_step (L := [.int .i64 7]) rfl rfl rfl (by simp), fill_step (L := [.int .i64 n]) rfl rfl rfl (by simp), fill_nil]
    rfl
  · refine Sat.stA (n := 6) (vs := (tickR n).cells) h wd_Record rfl (ones_Rec _) (by simp) fun w' h => ⟨_, ldA (n := 6) (L := (tickR n).cells) wd_Record h.bk (by simp [Rec.cells]), ?_⟩
    exact hk _ h.tail

def key0 : List UInt8 := 2 :: List.replicate 31 0
theorem b_key0 : (Instr.build t_vault_Key #[(0, .int .u8 2)]).run P w = .ok (arr key0) w := run_build w t_vault_Key #[(0, .int .u8 2)] (bcells key0).toArray (by kernel_rfl)

def pcells (vb db mb : Nat) (k : Option Addr) : List Value := [.pointer (at0 vb), .pointer (at0 db), .pointer (at0 mb), .pointer k]

theorem place_ok18 {n l m : Int} (h : Sat B w F) (hk : ∀ pb vb wb db mb w', Sat B w' (bk pb t_coffretlaw18_Place (pcells vb db mb none) :: vlt vb wb ⟨key0, mxI l 0, [], 0⟩ :: idl wb ⟨[], []⟩ :: dsk db (Dk.new n) :: mtr mb db (Mt.new m) :: F) → K (.pointer (at0 pb)) w') :
    Cs P f_coffretlaw18_place #[.int .i64 n, .int .i64 l, .int .i64 m] w K := by
  refine ok_coffretlaw18_place _ _ _ ?_
  unfold vc_coffretlaw18_place
  refine DNew_ok h fun db w' h => ⟨_, rfl, ?_⟩
  refine INew_ok h fun wb w' h => ⟨_, rfl, _, _, b_key0, ?_⟩
  refine VNew_ok h rfl fun vb w' h => ⟨_, rfl, ?_⟩
  refine MNew_ok h fun mb w' h => ⟨_, rfl, _, _, bld_run (cs := pcells vb db mb none) pt_Place ?_, ?_⟩
  · rw [fill_step (L := [.pointer (at0 vb)]) rfl rfl rfl (by simp), fill_step (L := [.pointer (at0 db)]) rfl rfl rfl (by simp), fill_step (L := [.pointer (at0 mb)]) rfl rfl rfl (by simp), fill_nil]
    rfl
  · refine h.new fun pb w' h => hk pb vb wb db mb w' ?_
    have e : (Value.agg (pcells vb db mb none).toArray).cells.toList = pcells vb db mb none := rfl
    rw [e] at h
    exact ((((h.pull 1).pull 4).pull 4).pull 4).pull 4

theorem start_run {n l m : Int} (hn : 0 ≤ n ∧ n ≤ 4096) (hl : l < 9223372036854775808) :
    Inv ⟨⟨[], []⟩, ⟨key0, mxI l 0, [], 0⟩, Dk.new n, Mt.new m⟩ [] 0 0 ∧ Like ⟨⟨[], []⟩, ⟨key0, mxI l 0, [], 0⟩, Dk.new n, Mt.new m⟩ ⟨Int.tdiv n 2, mxI l 0, mxI m 0, 0, 0, false, 0, 0, []⟩ [] ∧ (m < 9223372036854775808 → Rf.ok ⟨Int.tdiv n 2, mxI l 0, mxI m 0, 0, 0, false, 0, 0, []⟩) := by
  have h1 : (mnI (mxI n 0) 4096).toNat = n.toNat := by
    have : mnI (mxI n 0) 4096 = n := by unfold mnI mxI; split <;> split <;> omega
    rw [this]
  have h2 : 0 ≤ mxI l 0 ∧ mxI l 0 < 9223372036854775808 := by unfold mxI; split <;> omega
  have h3 : 0 ≤ mxI m 0 := by unfold mxI; split <;> omega
  have h4 : 0 ≤ (Mt.new m).most ∧ ((Mt.new m).most = mxI m 0 ∨ (Mt.new m).most = 1099511627776 ∧ 1099511627776 ≤ mxI m 0) := by
    show 0 ≤ mnI (mxI m 0) 1099511627776 ∧ (mnI (mxI m 0) 1099511627776 = _ ∨ mnI (mxI m 0) 1099511627776 = _ ∧ _)
    unfold mnI; split <;> omega
  have h5 : Int.tdiv n 2 = n / 2 := Int.tdiv_eq_ediv_of_nonneg hn.1
  refine ⟨⟨⟨List.nodup_nil, List.nodup_nil, by simp⟩, .inl ⟨rfl, rfl, rfl, by simp [areaOf], rfl⟩, ⟨fun i a b => by omega, by simp [Dk.new]⟩, new_ok n, ⟨Int.le_refl 0, by show (0 : Int) < _; omega⟩, ⟨Int.le_refl 0, h4.1⟩, h2⟩, ⟨rfl, rfl, by simp [allRecs], ?_, rfl, h4.2, by show (0 : Int) ≤ _; omega⟩, fun hm => ⟨by simp only; omega, h2, ⟨h3, by simp only; unfold mxI; split <;> omega⟩, ⟨Int.le_refl 0, h3⟩, ⟨Int.le_refl 0, by show (0 : Int) < _; omega⟩, ⟨Int.le_refl 0, by simp only; omega⟩, ⟨Int.le_refl 0, by show (0 : Int) ≤ _; omega⟩, by simp, by simp⟩⟩
  show Int.tdiv n 2 = ((List.replicate (mnI (mxI n 0) 4096).toNat (List.replicate 256 (0 : UInt8))).length / 2 : Nat)
  rw [List.length_replicate, h1, h5]; omega

/-- A place's keeper is opened anew. -/
theorem popen_ok {pb vb wb db mb : Nat} {k : Option Addr} {S : St} {R : Rf} {fs : List Fm} {a : Nat} {s : Int} (h : Sat B w (bk pb t_coffretlaw18_Place (pcells vb db mb k) :: vlt vb wb S.V :: idl wb S.I :: dsk db S.D :: mtr mb db S.M :: F)) (G : Gl B) (hi : Inv S fs a s) (hl : Like S R fs) (hd : S.D.down = false) (hI : S.I.made.length < 10000000000000000)
    (hk : ∀ (o : Ol) fs' a' s' kb p c w', o.I.made.length ≤ S.I.made.length + 1 → 0 ≤ o.seq → o.seq = R.list.length → o.list = R.list → Inv { S with I := o.I } fs' a' s' → Like { S with I := o.I } { R with fresh := false } fs' → Fit { S with I := o.I } ⟨o.A, S.M.epoch, o.seq, o.head, false⟩ { R with fresh := false } a' s' →
      Sat B w' (bk pb t_coffretlaw18_Place (pcells vb db mb (at0 kb)) :: kp kb vb db mb ⟨o.A, S.M.epoch, o.seq, o.head, false⟩ :: vlt vb wb S.V :: idl wb o.I :: dsk db S.D :: mtr mb db S.M :: buf t_api_Record 6 p R.list.length c (rcells R.list) :: F) → K (.tuple #[.slice p R.list.length c, .int .i64 0]) w') :
    Cs P f_coffretlaw18_Place_open #[.pointer (at0 pb)] w K := by
  refine ok_coffretlaw18_Place_open _ ?_
  unfold vc_coffretlaw18_Place_open
  intro w1 ha
  have h := h.alk ha
  refine NN.some ⟨_, ld1 sc_pvault h.bk rfl, NN.some ⟨_, ld1 sc_pdisk h.bk rfl, NN.some ⟨_, ld1 sc_pmeter h.bk rfl, ?_⟩⟩⟩
  obtain ⟨o, ho, o1, o2, o3, o4, fs', a', s', o5, o6, o7⟩ := reopen_run hi hl (by omega)
  refine SOpen_ok ((((h.pull 4).pull 4).pull 4).pull 4) G hi.wf.recs hI hi.ep (fun e => by rw [hd] at e; cases e) (fun o' _ e => by rw [ho] at e; cases e) fun o' _ e kb p c w' h => ?_
  rw [ho] at e
  simp only [Prod.mk.injEq, and_true] at e
  subst e
  refine ⟨_, _, _, _, _, rfl, NN.some ?_⟩
  refine Sat.st1 (h.pull 6) sc_pkeeper rfl (by simp [pcells]) fun w' h => ?_
  rw [o1] at h ⊢
  refine hk o fs' a' s' kb p c w' o2 o3 (by rw [o4, hl.list]) o1 o5 o6 o7 ?_
  exact ((((((h.pull 2).pull 6).pull 6).pull 6).pull 6).pull 6).pull 6

end Go.Dv

/-! a keeper's operations, by the law -/
set_option maxRecDepth 20000
namespace Go.Dv
open Go Go.Sh Go.Sl

variable {B : Bs} {w : World} {F : List HP} {K : Value → World → Prop}

theorem Keeps.trans {S S' S'' : St} {L L' L'' : Lg} {m k : Nat} (h1 : Keeps S L S' L' m) (h2 : Keeps S' L' S'' L'' k) : Keeps S L S'' L'' (m + k + 1) := by
  obtain ⟨a1, a2, a3, a4, a5, a6, a7, a8, a9, a10⟩ := h1
  obtain ⟨b1, b2, b3, b4, b5, b6, b7, b8, b9, b10⟩ := h2
  exact ⟨by omega, b2, b3.trans a3, b4.trans a4, by omega, by omega, fun h => by rw [← a1]; exact b7 (by rw [a1]; exact a7 h), b8, by omega, b10.trans a10⟩
theorem Keeps.more {S S' : St} {L L' : Lg} {m k : Nat} (h1 : Keeps S L S' L' m) (h : m ≤ k) : Keeps S L S' L' k := by
  obtain ⟨a1, a2, a3, a4, a5, a6, a7, a8, a9, a10⟩ := h1
  exact ⟨a1, a2, a3, a4, by omega, by omega, a7, a8, by omega, a10⟩

theorem save_keeps {S : St} {L : Lg} {R : Rf} {fs : List Fm} {a : Nat} {s : Int} {st ch : List Rec} (hi : Inv S fs a s) (hl : Like S R fs) (hf : Fit S L R a s) (hd : S.D.down = false) (hI : S.I.made.length + 10 * (st.length + ch.length) < 10000000000000000) (hc : R.count < 900000) : Keeps S L (saveF S L st ch).1 (saveF S L st ch).2.1 (st.length + 2 * ch.length + 2) := by
  have k1 := commit_facts (rs := ch) hi.dok hf.aok hf.to hf.seq
  have c1 := commit_run (rs := ch) hi hl hf hd (by omega) (by omega)
  have u1 := Rf.commit_up (R := R) (rs := ch)
  unfold saveF
  rcases c1 with ⟨a1, a2, aw, a3, fs1, p1, s1, hi1, hl1, hf1⟩ | ⟨a1, a2, aw, a3, a4, R', fs1, p1, s1, hR', hi1, hl1⟩
  · split
    · exact k1.more (by omega)
    · split
      · exact k1.more (by omega)
      · have hm1 := k1.made
        have k2 := turn_facts (rs := st) hi1.dok hf1.aok hf1.to hf1.seq
        have t1 := turn_run (rs := st) hi1 hl1 hf1 a2 (by omega) (by omega)
        split
        · exact (k1.trans k2).more (by omega)
        · rename_i h0
          rcases t1 with ⟨b1, b2, bw, b3, fs2, p2, s2, hi2, hl2, hf2⟩ | ⟨b1, b2, bw, b3, b4, R', fs2, p2, s2, hR', hi2, hl2⟩
          · have k3 := commit_facts (rs := ch) hi2.dok hf2.aok hf2.to hf2.seq
            exact ((k1.trans k2).trans k3).more (by omega)
          · omega
  · rw [if_pos (by rw [a1]; decide)]
    exact k1.more (by omega)

theorem oturn_ok {pb kb lb vb wb db mb m mc : Nat} {L : Lg} {S : St} {R : Rf} {fs : List Fm} {a : Nat} {s : Int} {q : Option Addr} {rs : List Rec}
    (h : Sat B w (bk pb t_coffretlaw18_Place (pcells vb db mb (at0 kb)) :: bk kb t_snap_Keeper [.pointer (at0 lb), .pointer (at0 mb)] :: lg lb vb db mb L :: vlt vb wb S.V :: idl wb S.I :: dsk db S.D :: mtr mb db S.M :: F)) (G : Gl B)
    (hi : Inv S fs a s) (hl : Like S R fs) (hf : Fit S L R a s) (hd : S.D.down = false) (hr : Rd B q (rcells rs)) (hm : m = rs.length) (hmc : rs.length ≤ mc) (hn : rs.length ≤ 10000) (hwl : S.D.waits.length < 100000) (hI : S.I.made.length < 100000000000000) (hc : R.count < 900000)
    (hk : ∀ S' L' e w', Out S (S', L', e) R (R.turn rs) → Keeps S L S' L' rs.length → (e = 0 → Uq S L → Uq S' L') → Sat B w' (bk pb t_coffretlaw18_Place (pcells vb db mb (at0 kb)) :: bk kb t_snap_Keeper [.pointer (at0 lb), .pointer (at0 mb)] :: lg lb vb db mb L' :: vlt vb wb S'.V :: idl wb S'.I :: dsk db S'.D :: mtr mb db S'.M :: F) → K (.int .i64 e) w') :
    Cs P f_commit_Log_Turn #[.pointer (at0 lb), .slice q m mc] w K := by
  have kf := turn_facts (rs := rs) hi.dok hf.aok hf.to hf.seq
  have t1 := turn_run (rs := rs) hi hl hf hd (by omega) (by omega)
  refine Turn_ok ((((((h.pull 6).pull 6).pull 6).pull 6).pull 6)) G hr hm hmc (by omega) (by omega) (by omega) hi.lim fun w' h => ?_
  have hep := hi.ep
  have hepf := hf.epoch
  exact hk _ _ _ w' t1 kf (fun h0 hu => turn_uq hu (by omega) (by omega) h0) (((h.pull 6).pull 6))

theorem osave_ok {pb kb vb wb db mb m1 mc1 m2 mc2 : Nat} {L : Lg} {S : St} {R : Rf} {fs : List Fm} {a : Nat} {s : Int} {q1 q2 : Option Addr} {st ch : List Rec}
    (h : Sat B w (bk pb t_coffretlaw18_Place (pcells vb db mb (at0 kb)) :: kp kb vb db mb L :: vlt vb wb S.V :: idl wb S.I :: dsk db S.D :: mtr mb db S.M :: F)) (G : Gl B)
    (hi : Inv S fs a s) (hl : Like S R fs) (hf : Fit S L R a s) (hd : S.D.down = false) (hr1 : Rd B q1 (rcells st)) (hm1 : m1 = st.length) (hmc1 : st.length ≤ mc1) (hn1 : st.length ≤ 1000) (hr2 : Rd B q2 (rcells ch)) (hm2 : m2 = ch.length) (hn2 : ch.length ≤ 1000)
    (hwl : S.D.waits.length < 100000) (hI : S.I.made.length < 10000000000000) (hsq : L.seq < 100000000) (hc : R.count < 900000)
    (hk : ∀ S' L' e w', OutS S (S', L', e) R (R.save st ch) → Keeps S L S' L' (st.length + 2 * ch.length + 2) → (e = 0 → Uq S L → Uq S' L') → Sat B w' (bk pb t_coffretlaw18_Place (pcells vb db mb (at0 kb)) :: kp kb vb db mb L' :: vlt vb wb S'.V :: idl wb S'.I :: dsk db S'.D :: mtr mb db S'.M :: F) → K (.int .i64 e) w') :
    Cs P f_snap_Keeper_Save #[.pointer (at0 kb), .slice q1 m1 mc1, .slice q2 m2 mc2] w K := by
  have kf := save_keeps (st := st) (ch := ch) hi hl hf hd (by omega) (by omega)
  have t1 := save_run (st := st) (ch := ch) hi hl hf hd (by omega) (by omega)
  refine Save_ok (((((h.pull 5).pull 5).pull 5).pull 5).pull 5) G hr1 hm1 hmc1 hn1 hr2 hm2 hn2 hf.to hwl (by omega) hi.lim hsq fun w' h => ?_
  exact hk _ _ _ w' t1 kf (fun h0 hu => save_uq hi hl hf hd (by omega) (by omega) hu (by omega) (by omega) (by omega) h0) (h.pull 5)

/-- The reference's way to be alive. -/
def aliveA : Rf := (Rf.turn ⟨4, 100, 100, 0, 0, false, 0, 0, []⟩ [tickR 0]).1
def aliveM (R : Rf) (t u : Rec) : Rf := (R.save [t] [u]).1
theorem aliveM_is (R : Rf) (t u : Rec) : aliveM R t u = (R.save [t] [u]).1 := rfl
def tickJ (k : Nat) : Rec := tickR ((k : Int) + 1)
def tickI (k : Nat) : Rec := tickR (k : Int)
def aliveR (n : Nat) : Rf := Nat.rec (motive := fun _ => Rf) aliveA (fun k R => aliveM R (tickI k) (tickJ k)) n
theorem aliveR_succ (k : Nat) : aliveR (k + 1) = aliveM (aliveR k) (tickI k) (tickJ k) := rfl
theorem aliveR_next {R : Rf} {k : Nat} {t u : Rec} (h : aliveR k = R) (ht : tickI k = t) (hu : tickJ k = u) : (R.save [t] [u]).1 = aliveR (k + 1) := by
  rw [aliveR_succ, h, ht, hu, aliveM_is]
theorem aliveR_zero : aliveR 0 = aliveA := rfl
theorem aliveA_is : (Rf.turn ⟨4, 100, 100, 0, 0, false, 0, 0, []⟩ [tickR 0]).1 = aliveA := by unfold aliveA; rfl
theorem alive0 : (Rf.turn ⟨4, 100, 100, 0, 0, false, 0, 0, []⟩ [tickR 0]).2 = 0 := by decide
theorem alive_step : ∀ k : Nat, k < 4 → ((aliveR k).save [tickI k] [tickJ k]).2.1 = 0 := by decide
theorem alive_end : (aliveR 4).epoch = 2 ∧ (aliveR 4).used = 2 ∧ (aliveR 4).fresh = true ∧ (aliveR 4).half = 4 := by decide
theorem alive_count : ∀ k, k ≤ 4 → (aliveR k).count < 100 := by decide

end Go.Dv

/-! it is alive -/
set_option maxRecDepth 20000
namespace Go.Dv
open Go Go.Sh Go.Sl

variable {B : Bs} {w : World} {F : List HP} {K : Value → World → Prop}

/-- Where a keeper stands, and the reference. -/
structure At (S : St) (L : Lg) (R : Rf) (n : Nat) : Prop where
  rel : ∃ fs a s, Inv S fs a s ∧ Like S R fs ∧ Fit S L R a s
  down : S.D.down = false
  fuse : S.D.fuse = 0
  waits : S.D.waits.length = 0
  made : S.I.made.length ≤ n
  seq : L.seq ≤ n

theorem At.more {S : St} {L : Lg} {R : Rf} {n m : Nat} (h : At S L R n) (hm : n ≤ m) : At S L R m := ⟨h.rel, h.down, h.fuse, h.waits, by have := h.made; omega, by have := h.seq; omega⟩

theorem At.turned {S S' : St} {L L' : Lg} {R : Rf} {n m : Nat} {e : Int} {rs : List Rec} (h : At S L R n) (ho : Out S (S', L', e) R (R.turn rs)) (kf : Keeps S L S' L' m) : e = (R.turn rs).2 ∧ At S' L' (R.turn rs).1 (n + 5 * m + 1) := by
  have h1 := kf.made
  have h2 := kf.seq
  have h3 := h.made
  have h4 := h.seq
  have h5 := h.waits
  rcases ho with ⟨a1, a2, aw, a3, fs, a, s, hi, hl, hf⟩ | ⟨a1, a2, aw, a3, _⟩
  · exact ⟨a1, ⟨fs, a, s, hi, hl, hf⟩, a2, a3 h.fuse, by simp only at aw; omega, by omega, by omega⟩
  · exact absurd h.fuse a3

theorem At.saved {S S' : St} {L L' : Lg} {R : Rf} {n m : Nat} {e : Int} {st ch : List Rec} (h : At S L R n) (ho : OutS S (S', L', e) R (R.save st ch)) (kf : Keeps S L S' L' m) : e = (R.save st ch).2.1 ∧ At S' L' (R.save st ch).1 (n + 5 * m + 1) := by
  have h1 := kf.made
  have h2 := kf.seq
  have h3 := h.made
  have h4 := h.seq
  have h5 := h.waits
  rcases ho with ⟨a1, a2, aw, a3, fs, a, s, hi, hl, hf⟩ | ⟨a1, a2, aw, a3, _⟩
  · exact ⟨a1, ⟨fs, a, s, hi, hl, hf⟩, a2, a3 h.fuse, by simp only at aw; omega, by omega, by omega⟩
  · exact absurd h.fuse a3

/-- What is opened at a place. -/
abbrev Op (B : Bs) (w : World) (pb kb vb wb db mb : Nat) (S : St) (L : Lg) (F : List HP) : Prop := Sat B w (bk pb t_coffretlaw18_Place (pcells vb db mb (at0 kb)) :: kp kb vb db mb L :: vlt vb wb S.V :: idl wb S.I :: dsk db S.D :: mtr mb db S.M :: F)

theorem Op.epoch {pb kb vb wb db mb : Nat} {S : St} {L : Lg} {lb : Nat} (h : Sat B w (bk pb t_coffretlaw18_Place (pcells vb db mb (at0 kb)) :: bk kb t_snap_Keeper [.pointer (at0 lb), .pointer (at0 mb)] :: lg lb vb db mb L :: F)) (hk : K (.int .i64 L.epoch) w) : Cs P f_commit_Log_Epoch #[.pointer (at0 lb)] w K := Epoch_ok (h.pull 2) hk

theorem alive_ok (h : Sat B w F) (G : Gl B) (hk : ∀ w', Sat B w' F → K (.bool true) w') : Cs P f_coffretlaw18_alive #[] w K := by
  refine ok_coffretlaw18_alive ?_
  unfold vc_coffretlaw18_alive
  refine place_ok18 h fun pb vb wb db mb w' h => ⟨_, rfl, ?_⟩
  refine Jn.dupB (NN.some ⟨_, ld1 sc_pvault h.bk rfl, Br.f (NN.some ⟨_, ld1 sc_pdisk h.bk rfl, Br.f (NN.some ⟨_, ld1 sc_pmeter h.bk rfl, _, rfl, Br.f ?_⟩)⟩)⟩)
  obtain ⟨hi, hl, _⟩ := start_run (n := 8) (l := 100) (m := 100) (by omega) (by omega)
  have e0 : (⟨Int.tdiv 8 2, mxI 100 0, mxI 100 0, 0, 0, false, 0, 0, []⟩ : Rf) = ⟨4, 100, 100, 0, 0, false, 0, 0, []⟩ := by rfl
  rw [e0] at hl
  refine popen_ok (S := ⟨⟨[], []⟩, ⟨key0, mxI 100 0, [], 0⟩, Dk.new 8, Mt.new 100⟩) h G hi hl rfl (by simp) fun o fs' a' s' kb p c w' o1 o2 o3 o4 o5 o6 o7 h => ⟨_, _, _, _, rfl, ?_⟩
  have hat : At { (⟨⟨[], []⟩, ⟨key0, mxI 100 0, [], 0⟩, Dk.new 8, Mt.new 100⟩ : St) with I := o.I } ⟨o.A, 0, o.seq, o.head, false⟩ ⟨4, 100, 100, 0, 0, false, 0, 0, []⟩ 1 := ⟨⟨fs', a', s', o5, o6, o7⟩, rfl, rfl, rfl, by simpa using o1, by simp only; rw [o3]; simp⟩
  clear o5 o6 o7 hi hl
  have h : Op B w' pb kb vb wb db mb { (⟨⟨[], []⟩, ⟨key0, mxI 100 0, [], 0⟩, Dk.new 8, Mt.new 100⟩ : St) with I := o.I } ⟨o.A, 0, o.seq, o.head, false⟩ _ := h
  have h := (h.pull 6).tail
  generalize ({ (⟨⟨[], []⟩, ⟨key0, mxI 100 0, [], 0⟩, Dk.new 8, Mt.new 100⟩ : St) with I := o.I } : St) = S at *
  generalize (⟨o.A, 0, o.seq, o.head, false⟩ : Lg) = L at *
  obtain ⟨fs, a, s, hi, hl, hf⟩ := hat.rel
  refine Jn.dupB ?_
  intro w1 ha
  have h := h.alk ha
  refine Br.f (NN.some ⟨_, ld1 sc_pkeeper h.bk rfl, Br.f (NN.some ⟨_, ld1 sc_pkeeper h.bk rfl, NN.some ?_⟩)⟩)
  obtain ⟨lb, h⟩ := Sat.kOpen (h.pull 1)
  have h := h.pull 2
  refine ⟨_, ld1 sc_plog (h.pull 1).bk rfl, ?_⟩
  refine tick_ok h fun w2 h => ⟨_, rfl, ⟨ld1 sc_plog (h.pull 1).bk rfl, ld1 sc_pkeeper h.bk rfl, ld1 sc_pkeeper h.bk rfl, trivial⟩, ?_⟩
  refine Sat.buildRec h fun p8 w3 h => ?_
  obtain ⟨B1, hle1, h, hr1, _⟩ := h.fix
  refine ⟨⟨ld1 sc_plog (h.pull 1).bk rfl, ld1 sc_pkeeper h.bk rfl, ld1 sc_pkeeper h.bk rfl, trivial⟩, ?_⟩
  have hm := hat.made
  refine oturn_ok h (G.mono hle1) hi hl hf hat.down hr1 rfl (by simp) (by simp) (by rw [hat.waits]; omega) (by omega) (by show (0 : Int) < _; omega) fun S' L' e w4 ho kf hu h => ⟨_, rfl, ⟨ld1 sc_pkeeper h.bk rfl, ld1 sc_pkeeper h.bk rfl, trivial⟩, ?_⟩
  obtain ⟨rfl, hat⟩ := hat.turned ho kf
  clear ho kf
  rw [aliveA_is, ← aliveR_zero] at hat
  rw [alive0]
  refine ⟨_, rfl, Br.f ?_⟩
  have h : Op B w4 pb kb vb wb db mb S' L' F := (Sat.kShut lb (((h.thaw hle1).pull 2).pull 2)).pull 1
  clear hi hl hf hm
  refine Lp.up 4 (fun i vs w => vs = [.int .i64 ((i : Int) + 1)] ∧ ∃ S L, At S L (aliveR i) (100 * (i + 1)) ∧ Op B w pb kb vb wb db mb S L F) ⟨rfl, S', L', hat.more (by simp), h⟩ fun J nx cs => ?_
  intro n2 l4 w5 hJ
  obtain ⟨i, hi4, rfl, hv, S, L, hat, h⟩ := cs _ _ _ hJ
  obtain rfl : n2 = (i : Int) + 1 := by simpa using hv
  clear hJ hv
  refine Br.le (fun hle => ?_) fun hgt => ?_
  · have hlt : i < 4 := by omega
    refine Jn.dupB ?_
    intro w6 ha
    have h := h.alk ha
    have e1 : IntKind.i64.wrap ((i : Int) + 1 - 1) = (i : Int) := by rw [w64 (by omega) (by omega)]; omega
    rw [e1]
    have hkp : ∀ {B' : Bs} {w' : World} {X : List HP}, Sat B' w' (bk pb t_coffretlaw18_Place (pcells vb db mb (at0 kb)) :: X) → (loadVar t_p_snap_Keeper (Addr.add ⟨pb, 0, none⟩ 3)).run P w' = .ok (.pointer (at0 kb)) w' := fun h => ld1 sc_pkeeper h.bk rfl
    have go : ∀ {B1 : Bs} {w' : World} {p1 p2 : Option Addr}, B.le B1 → Op B1 w' pb kb vb wb db mb S L F → Rd B1 p1 (rcells [tickR (i : Int)]) → Rd B1 p2 (rcells [tickR ((i : Int) + 1)]) → Cs P f_snap_Keeper_Save #[.pointer (at0 kb), .slice p1 1 1, .slice p2 1 1] w' fun v9 w14 => ∃ n3, v9 = .int .i64 n3 ∧ ∃ b, [Value.bool (neI n3 0)] = [Value.bool b] ∧ Br b (K (.bool false) w14) (Nx J (4 - i) [.int .i64 (IntKind.i64.wrap ((i : Int) + 1 + 1))] w14) := by
      intro B1 w' p1 p2 hle h h1 h2
      obtain ⟨fs, a, s, hi, hl, hf⟩ := hat.rel
      have hm := hat.made
      have hs := hat.seq
      have hc := alive_count i (by omega)
      have hw0 : S.D.waits.length < 100000 := by rw [hat.waits]; omega
      generalize haR : aliveR i = R at *
      have hone : ([tickR (i : Int)] : List Rec).length = 1 := rfl
      have htwo : ([tickR ((i : Int) + 1)] : List Rec).length = 1 := rfl
      refine osave_ok (st := [tickR (i : Int)]) (ch := [tickR ((i : Int) + 1)]) (R := R) (S := S) (L := L) (m1 := 1) (m2 := 1) h (G.mono hle) hi hl hf hat.down h1 hone.symm (by rw [hone]; exact Nat.le_refl 1) (by rw [hone]; omega) h2 htwo.symm (by rw [htwo]; omega) hw0 (by omega) (by omega) (by omega) ?_
      intro S' L' e w' ho kf hu h
      refine ⟨_, rfl, ?_⟩
      obtain ⟨he, hat⟩ := hat.saved ho kf
      have hbd : 100 * (i + 1) + 5 * (([tickR (i : Int)] : List Rec).length + 2 * ([tickR ((i : Int) + 1)] : List Rec).length + 2) + 1 ≤ 100 * (i + 1 + 1) := by
        rw [hone, htwo]; omega
      have hz : (R.save [tickR (i : Int)] [tickR ((i : Int) + 1)]).2.1 = 0 := by
        have := alive_step i hlt
        rw [haR] at this
        unfold tickI tickJ at this
        exact this
      rw [he, hz]
      have hat : At S' L' (aliveR (i + 1)) (100 * (i + 1 + 1)) := by
        rw [← aliveR_next haR (t := tickR (i : Int)) (u := tickR ((i : Int) + 1)) (by unfold tickI; rfl) (by unfold tickJ; rfl)]
        exact hat.more hbd
      refine ⟨_, rfl, Br.f (nx i _ _ _ hlt rfl ⟨?_, S', L', hat, h.thaw hle⟩)⟩
      rw [w64 (by omega) (by omega)]
      simp
    refine NN.some ⟨_, hkp h, ?_⟩
    refine tick_ok h fun w7 h => ⟨_, rfl, ⟨hkp h, trivial⟩, ?_, ?_⟩
    · refine Sat.buildRec h fun p1 w8 h => ?_
      obtain ⟨B1, hle1, h, hr1, _⟩ := h.fix
      refine ⟨⟨hkp h, trivial⟩, ?_⟩
      refine tick_ok h fun w9 h => ⟨_, rfl, ⟨hkp h, trivial⟩, ?_⟩
      refine Sat.buildRec h fun p2 w10 h => ?_
      obtain ⟨B2, hle2, h, hr2, _⟩ := h.fix
      exact ⟨⟨hkp h, trivial⟩, go (hle1.trans hle2) h (hr1.mono hle2) hr2⟩
    · refine tick_ok h fun w9 h => ⟨_, rfl, ⟨hkp h, trivial⟩, ?_, ?_⟩
      · refine Sat.buildRec h fun p1 w8 h => ?_
        obtain ⟨B1, hle1, h, hr1, _⟩ := h.fix
        refine ⟨⟨hkp h, trivial⟩, ?_⟩
        refine Sat.buildRec h fun p2 w10 h => ?_
        obtain ⟨B2, hle2, h, hr2, _⟩ := h.fix
        exact ⟨⟨hkp h, trivial⟩, go (hle1.trans hle2) h (hr1.mono hle2) hr2⟩
      · refine Sat.buildRec h fun p2 w8 h => ?_
        obtain ⟨B1, hle1, h, hr2, _⟩ := h.fix
        refine ⟨⟨hkp h, trivial⟩, ?_⟩
        refine Sat.buildRec h fun p1 w10 h => ?_
        obtain ⟨B2, hle2, h, hr1, _⟩ := h.fix
        exact ⟨⟨hkp h, trivial⟩, go (hle1.trans hle2) h hr1 (hr2.mono hle2)⟩
  · have hi : i = 4 := by omega
    subst hi
    obtain ⟨fs, a, s, hi, hl, hf⟩ := hat.rel
    obtain ⟨g1, g2, g3, g4⟩ := alive_end
    obtain ⟨f1, f2, f3, f4, f5, f6⟩ := hf.at_ (by rw [hf.fresh]; exact g3)
    obtain ⟨v1, v2, v3, v4⟩ := hi.vouch.facts
    have hE : L.epoch = 2 := by rw [hf.epoch, ← hl.epoch, g1]
    have hL : ((L.A.to - L.A.at_ : Nat) : Int) = 2 := by
      have := (area_half S.D.now.length S.M.epoch).1
      have h4 := hl.half
      rw [g4] at h4
      rw [g2] at f5
      rw [f3]
      simp only
      omega
    refine Jn.dupB (NN.some ⟨_, ld1 sc_pkeeper h.bk rfl, NN.some ?_⟩)
    obtain ⟨lb, h⟩ := Sat.kOpen (h.pull 1)
    have h := h.pull 2
    refine ⟨_, ld1 sc_plog (h.pull 1).bk rfl, ?_⟩
    refine Epoch_ok (h.pull 2) ⟨_, rfl, ?_⟩
    rw [hE]
    refine Br.t (NN.some ⟨_, ld1 sc_pkeeper h.bk rfl, NN.some ⟨_, ld1 sc_plog (h.pull 1).bk rfl, ?_⟩⟩)
    refine LLeft_ok (h.pull 2) fun w8 h => ⟨_, rfl, _, rfl, ?_⟩
    rw [hL]
    exact hk _ h.tail.tail.tail.tail.tail.tail.tail

end Go.Dv

/-! the row's way in and out -/
set_option maxRecDepth 20000
namespace Go.Dv
open Go Go.Sh Go.Sl Go.Proofs.YtnmkbnfidjoljaaDoor
open Go.ChangeShapes Go.WideShapes Go.ChangeAt Go.RowKit

theorem below_of {W W' : World} (h : Sat (Bs.of W) W' []) : Below W.heap.size W W' := by
  have hb : ∀ k, k < W.heap.size → W'.heap[k]? = W.heap[k]? := fun k hk => by
    have e : W.heap[k]? = some W.heap[k] := Array.getElem?_eq_getElem hk
    rw [e]
    exact h.z (B := Bs.of W) (b := k) e
  refine ⟨h.os, h.tape, h.output, ?_, hb⟩
  rcases Nat.eq_zero_or_pos W.heap.size with h0 | h0
  · omega
  · have h1 := hb (W.heap.size - 1) (by omega)
    rw [Array.getElem?_eq_getElem (show W.heap.size - 1 < W.heap.size by omega)] at h1
    have := (Array.getElem?_eq_some_iff.1 h1).1
    omega

theorem rd_of_cells {W : World} {a : Addr} {L : List Value} (h : ∀ j (hj : j < L.length), W.cell? (a.add j) = some L[j]) : Rd (Bs.of W) (some a) L := by
  rcases Nat.eq_zero_or_pos L.length with h0 | h0
  · exact .inl (List.eq_nil_of_length_eq_zero h0)
  · have h1 := h 0 h0
    obtain ⟨b, off, sp⟩ := a
    have e0 : (⟨b, off, sp⟩ : Addr).add 0 = ⟨b, off, sp⟩ := rfl
    rw [e0] at h1
    unfold World.cell? at h1
    split at h1
    · rename_i c e fr hb
      have hsp : sp = none := by
        cases sp with
        | none => rfl
        | some x => simp at h1
      subst hsp
      have hc : ∀ j (hj : j < L.length), c[off + j]? = some L[j] := fun j hj => by
        have h2 := h j hj
        rw [add_mk] at h2
        unfold World.cell? at h2
        simp only at hb h2
        rw [hb] at h2
        simpa using h2
      have hlen : off + L.length ≤ c.size := by
        have := (Array.getElem?_eq_some_iff.1 (hc (L.length - 1) (by omega))).1
        omega
      refine .inr ⟨b, off, c.toList, e, fr, rfl, hb, by simpa using hlen, ?_⟩
      apply List.ext_getElem?
      intro j
      by_cases hj : j < L.length
      · rw [List.getElem?_take_of_lt hj, List.getElem?_drop, List.getElem?_eq_getElem hj]
        have := hc j hj
        simpa using this
      · rw [List.getElem?_eq_none (by simp; omega), List.getElem?_eq_none (by omega)]
    · cases h1

/-- A row of elements, each of k cells. -/
theorem row_of_elems {α : Type} {f : α → List Value} {k : Nat} (hf : ∀ x, (f x).length = k) (hk : 0 < k) {W : World} {a : Addr} {l : List α} (h : ∀ i (hi : i < l.length) cs, W.cells? 0 (a.add (i * k)) k = some cs → cs = f l[i]) (hc : ∀ i, i < l.length → ∃ cs, W.cells? 0 (a.add (i * k)) k = some cs) : Rd (Bs.of W) (some a) (l.flatMap f) := by
  refine rd_of_cells fun j hj => ?_
  rw [flat_length hf] at hj
  have hi : j / k < l.length := Nat.div_lt_of_lt_mul (by rw [Nat.mul_comm]; exact hj)
  have hr : j % k < k := Nat.mod_lt _ hk
  obtain ⟨cs, hcs⟩ := hc _ hi
  have e1 := h _ hi cs hcs
  have e2 := (World.cells?_some hcs).2.2 _ hr
  have e3 := flat_at hf l (j / k) hi
  have e4 : (a.add (j / k * k)).add (j % k) = a.add j := by
    have hj2 : j / k * k + j % k = j := by rw [Nat.mul_comm]; exact Nat.div_add_mod j k
    unfold Addr.add
    by_cases h1 : j / k * k = 0
    · rw [if_pos h1]
      have : j % k = j := by omega
      rw [this]
    · rw [if_neg h1, if_neg (show ¬ j = 0 by omega)]
      by_cases h2 : j % k = 0
      · rw [if_pos h2]
        have : j / k * k = j := by omega
        rw [this]
      · rw [if_neg h2]
        simp only [Addr.mk.injEq, and_true, true_and]
        omega
  rw [e4, e1] at e2
  rw [e2]
  have e5 : (f l[j / k])[j % k]? = (l.flatMap f)[j]? := by
    rw [← e3, List.getElem?_take_of_lt hr, List.getElem?_drop]
    congr 1
    rw [Nat.mul_comm]; exact Nat.div_add_mod j k
  rw [e5, List.getElem?_eq_getElem]

theorem field_at {fs : Array Field} {L : List (Nat × Nat)} (h : flds fs = L) {i ty off : Nat} (hi : L[i]? = some (ty, off)) : ∃ f, fs[i]? = some f ∧ f.type = ty ∧ f.offset = off := by
  unfold flds at h
  rw [← h, List.getElem?_map] at hi
  cases hf : fs.toList[i]? with
  | none => rw [hf] at hi; simp at hi
  | some f =>
    rw [hf] at hi
    simp only [Option.map_some, Option.some.injEq, Prod.mk.injEq] at hi
    exact ⟨f, by simpa using hf, hi.1, hi.2⟩

variable {H : Type} {enc : TypeId × Value → H} {W : World} {sp : Nat → Bool} {held : Bool}

theorem ui_int : P.underlying t_int = some (.int .i64) := by kernel_rfl
theorem ui_string : P.underlying t_string = some .string := by kernel_rfl
theorem ci_int : P.cellsOf t_int = 1 := by kernel_rfl
theorem ci_string : P.cellsOf t_string = 1 := by kernel_rfl
theorem ci_Record : P.cellsOf t_api_Record = 6 := by kernel_rfl
theorem us_Records : P.underlying t_sl_api_Record = some (.slice t_api_Record) := by kernel_rfl

theorem wf_i64' {x : Int} (h : (Lit.int .i64 x).wf = true) : -9223372036854775808 ≤ x ∧ x < 9223372036854775808 := by
  simp only [Lit.wf, IntKind.min, IntKind.max, IntKind.signed, IntKind.bits, decide_eq_true_eq, Bool.and_eq_true] at h
  simp at h
  omega

theorem rec_of {fuel : Nat} {cs : List Value} {x : DataW H × List MemPlace} (h : DataW.trod enc P W 0 sp held fuel t_api_Record cs = some x) : ∃ r : Rec, cs = r.cells ∧ r.fit := by
  obtain ⟨fs, hu, _, hf⟩ := un_Record
  obtain ⟨xs, n, _, _, hlen, hxs, hel⟩ := DataW.trod_struct hu h
  rw [ci_Record] at hlen
  have hsz : fs.size = 6 := by
    have := congrArg List.length hf
    simpa [flds] using this
  have get : ∀ i ty, (i : Nat) < 6 → (flds fs)[i]? = some (ty, i) → P.cellsOf ty = 1 → ∃ y, DataW.trod enc P W 0 sp held n ty ((cs.drop i).take 1) = some y := by
    intro i ty hi hfi hct
    obtain ⟨f, h1, h2, h3⟩ := field_at rfl hfi
    have := hel i f h1
    rw [h2, h3, hct, List.getElem?_eq_getElem (by omega)] at this
    exact ⟨_, this⟩
  match cs, hlen with
  | [c0, c1, c2, c3, c4, c5], _ =>
    obtain ⟨y0, g0⟩ := get 0 t_int (by omega) (by rw [hf]; rfl) ci_int
    obtain ⟨y1, g1⟩ := get 1 t_int (by omega) (by rw [hf]; rfl) ci_int
    obtain ⟨y2, g2⟩ := get 2 t_int (by omega) (by rw [hf]; rfl) ci_int
    obtain ⟨y3, g3⟩ := get 3 t_int (by omega) (by rw [hf]; rfl) ci_int
    obtain ⟨y4, g4⟩ := get 4 t_int (by omega) (by rw [hf]; rfl) ci_int
    obtain ⟨y5, g5⟩ := get 5 t_string (by omega) (by rw [hf]; rfl) ci_string
    obtain ⟨n0, e0, _, w0⟩ := DataW.trod_int ui_int g0
    obtain ⟨n1, e1, _, w1⟩ := DataW.trod_int ui_int g1
    obtain ⟨n2, e2, _, w2⟩ := DataW.trod_int ui_int g2
    obtain ⟨n3, e3, _, w3⟩ := DataW.trod_int ui_int g3
    obtain ⟨n4, e4, _, w4⟩ := DataW.trod_int ui_int g4
    obtain ⟨s5, e5, _, w5⟩ := DataW.trod_string ui_string g5
    simp only [List.drop_zero, List.drop_succ_cons, List.take_succ_cons, List.take_zero, List.cons.injEq, and_true] at e0 e1 e2 e3 e4 e5
    have hs5 : s5 = str s5.data.toList := by cases s5; simp [str]
    refine ⟨⟨n0, n1, n2, n3, n4, s5.data.toList⟩, ?_, ⟨wf_i64' w0, wf_i64' w1, wf_i64' w2, wf_i64' w3, wf_i64' w4, ?_⟩⟩
    · simp only [Rec.cells, e0, e1, e2, e3, e4, e5]
      rw [← hs5]
    · have : s5.data.toList.length = s5.size := by cases s5; simp [ByteArray.size]
      show s5.data.toList.length < _
      rw [this]
      unfold maxLen at w5
      omega

theorem recs_of {fuel : Nat} {cs : List Value} {x : DataW H × List MemPlace} (h : DataW.trod enc P W 0 sp held fuel t_sl_api_Record cs = some x) :
    ∃ p c rs, cs = [.slice p (rs : List Rec).length c] ∧ rs.length ≤ c ∧ c ≤ maxLen ∧ Rd (Bs.of W) p (rcells rs) ∧ ∀ r ∈ rs, r.fit := by
  rcases DataW.trod_slice us_Records h with ⟨rfl, _⟩ | ⟨a, len, cap, elems, rest, n, _, rfl, _, _, hl, hm, hlen, hel, _, _⟩
  · exact ⟨none, 0, [], rfl, Nat.le_refl 0, Nat.zero_le _, .inl rfl, by simp⟩
  · have each : ∀ i, ∃ r : Rec, i < len → r.fit ∧ W.cells? 0 (a.add (i * 6)) 6 = some r.cells := by
      intro i
      by_cases hi : i < len
      · have := hel i hi
        rw [ci_Record, List.getElem?_eq_getElem (by omega), Option.bind_eq_some_iff] at this
        obtain ⟨cs', h1, h2⟩ := this
        obtain ⟨r, rfl, hr⟩ := rec_of h2
        exact ⟨r, fun _ => ⟨hr, h1⟩⟩
      · exact ⟨⟨0, 0, 0, 0, 0, []⟩, fun h => absurd h hi⟩
    obtain ⟨g, hg⟩ := Classical.skolem.1 each
    have hgl : ((List.range len).map g).length = len := by simp
    refine ⟨some a, cap, (List.range len).map g, by rw [hgl], by rw [hgl]; exact hl, hm, ?_, ?_⟩
    · refine row_of_elems (k := 6) Rec.cells_length (by omega) (fun i hi cs' hcs => ?_) fun i hi => ?_
      · rw [hgl] at hi
        rw [(hg i hi).2] at hcs
        simp only [Option.some.injEq] at hcs
        rw [← hcs]; simp
      · rw [hgl] at hi
        exact ⟨_, (hg i hi).2⟩
    · intro r hr
      obtain ⟨i, hi, rfl⟩ := List.mem_map.1 hr
      exact (hg i (List.mem_range.1 hi)).1

/-- A variable that the row lists. -/
theorem laid_var {S : World} : ∀ {laid : List (String × DataW Unit)} {ps : List MemPlace}, DataW.LaidVars P S laid ps → ∀ x ∈ laid, ∃ g t cs fuel p, P.globalNamed x.1 = some g ∧ (P.globals[g]?).map (·.type) = some t ∧ S.var? P x.1 = some cs ∧ (DataW.trod (fun _ => ()) P S 0 (fun _ => true) false fuel t cs.toList = some (x.2, p))
  | [], _, _, x, hx => by cases hx
  | (n, d) :: r, ps, h, x, hx => by
    obtain ⟨g, t, cs, fuel, p, q, h1, h2, h3, h4, h5, _⟩ := h
    rcases List.mem_cons.1 hx with rfl | hx
    · exact ⟨g, t, cs, fuel, p, h1, h2, h3, h4⟩
    · exact laid_var h5 x hx

theorem us_span : ∃ fs, P.underlying t_record_span = some (.struct fs) ∧ flds fs = [(t_int, 0), (t_int, 1)] := by
  refine ⟨((match P.underlying t_record_span with | some (.struct fs) => fs | _ => #[])), ?_, ?_⟩ <;> kernel_rfl
theorem ci_span : P.cellsOf t_record_span = 2 := by kernel_rfl

theorem span_laid {S : World} {name : String} {g : Nat} {lo hi : Int} {laid : List (String × DataW Unit)} {ps : List MemPlace} (h : DataW.LaidVars P S laid ps) (hx : (name, (.agg [.lit (.int .i64 lo), .lit (.int .i64 hi)] : DataW Unit)) ∈ laid) (hg : P.globalNamed name = some g) (ht : (P.globals[g]?).map (·.type) = some t_record_span) :
    Rd (Bs.of S) (at0 g) (Span.cells ⟨lo, hi⟩) := by
  obtain ⟨g', t, cs, fuel, p, h1, h2, h3, h4⟩ := laid_var h _ hx
  simp only at h1 h3 h4
  obtain rfl := Option.some.inj (hg.symm.trans h1)
  obtain rfl := Option.some.inj (ht.symm.trans h2)
  obtain ⟨fs, hu, hf⟩ := us_span
  obtain ⟨xs, n, _, ex, hlen, hxs, hel⟩ := DataW.trod_struct hu h4
  rw [ci_span] at hlen
  have hsz : fs.size = 2 := by
    have := congrArg List.length hf
    simpa [flds] using this
  have get : ∀ i, (i : Nat) < 2 → (flds fs)[i]? = some (t_int, i) → ∃ y, xs[i]? = some y ∧ DataW.trod (fun _ => ()) P S 0 (fun _ => true) false n t_int ((cs.toList.drop i).take 1) = some y := by
    intro i hi hfi
    obtain ⟨f, h1, h2, h3⟩ := field_at rfl hfi
    have := hel i f h1
    rw [h2, h3, ci_int, List.getElem?_eq_getElem (by omega)] at this
    exact ⟨_, List.getElem?_eq_getElem (by omega), this⟩
  obtain ⟨y0, k0, g0⟩ := get 0 (by omega) (by rw [hf]; rfl)
  obtain ⟨y1, k1, g1⟩ := get 1 (by omega) (by rw [hf]; rfl)
  obtain ⟨n0, e0, f0, _⟩ := DataW.trod_int ui_int g0
  obtain ⟨n1, e1, f1, _⟩ := DataW.trod_int ui_int g1
  have hex : [DataW.lit (.int .i64 lo), .lit (.int .i64 hi)] = xs.map (·.1) := (DataW.agg.inj (Prod.mk.inj ex).1)
  have z0 := congrArg (fun l => l[0]?) hex
  have z1 := congrArg (fun l => l[1]?) hex
  simp only [List.getElem?_map, k0, k1, f0, f1, Option.map_some] at z0 z1
  simp at z0 z1
  have hcs : cs.toList = [.int .i64 lo, .int .i64 hi] := by
    match hq : cs.toList, hlen with
    | [c0, c1], _ =>
      rw [hq] at e0 e1
      simp only [List.drop_zero, List.drop_succ_cons, List.take_succ_cons, List.take_zero, List.cons.injEq, and_true] at e0 e1
      rw [e0, e1, z0, z1]
  refine rd_of_cells fun j hj => ?_
  have := World.var?_cell hg h3 j
  rw [add_mk, Nat.zero_add, this]
  have h2 : cs[j]? = cs.toList[j]? := by simp
  rw [h2, hcs]
  exact List.getElem?_eq_getElem hj

abbrev laidL {H : Type} : List (String × DataW H) := [("coffret/record.none", Rows.laid_coffret_record_none), ("coffret/record.id", Rows.laid_coffret_record_id), ("coffret/record.queue", Rows.laid_coffret_record_queue), ("coffret/record.when", Rows.laid_coffret_record_when), ("coffret/record.limit", Rows.laid_coffret_record_limit), ("coffret/record.many", Rows.laid_coffret_record_many), ("coffret/record.late", Rows.laid_coffret_record_late)]

theorem gl_of {S : World} (h : laidMetH P laidL S) : Gl (Bs.of S) := by
  rw [MakeChecks.laidMetH_plain _ _ _ (by kernel_rfl)] at h
  obtain ⟨ps, h, _, _⟩ := h
  refine ⟨span_laid h (name := "coffret/record.none") ?_ (by kernel_rfl) (by kernel_rfl), span_laid h (name := "coffret/record.id") ?_ (by kernel_rfl) (by kernel_rfl), span_laid h (name := "coffret/record.queue") ?_ (by kernel_rfl) (by kernel_rfl), span_laid h (name := "coffret/record.when") ?_ (by kernel_rfl) (by kernel_rfl), span_laid h (name := "coffret/record.limit") ?_ (by kernel_rfl) (by kernel_rfl), span_laid h (name := "coffret/record.many") ?_ (by kernel_rfl) (by kernel_rfl), span_laid h (name := "coffret/record.late") ?_ (by kernel_rfl) (by kernel_rfl)⟩
  all_goals simp [laidL, Rows.laid_coffret_record_none, Rows.laid_coffret_record_id, Rows.laid_coffret_record_queue, Rows.laid_coffret_record_when, Rows.laid_coffret_record_limit, Rows.laid_coffret_record_many, Rows.laid_coffret_record_late]

end Go.Dv
