/- coffretlaw18.SnapState returns true for every input and leaves its arguments as they were; the seven variables of package record are as the text of the program lays them (the tied card). -/
import Derived.Test.YtnmkbnfidjoljaaDoorGh
import Derived.Test.YtnmkbnfidjoljaaDoorCards

/-! SnapRefuses -/
set_option maxRecDepth 20000
namespace Go.Dv
open Go Go.Sh Go.Sl

variable {B : Bs} {w : World} {F : List HP} {K : Value → World → Prop}

structure At0 (S : St) (R : Rf) (n : Nat) : Prop where
  rel : ∃ fs a s, Inv S fs a s ∧ Like S R fs
  down : S.D.down = false
  fuse : S.D.fuse = 0
  waits : S.D.waits.length = 0
  made : S.I.made.length ≤ n

theorem At.zero {S : St} {L : Lg} {R : Rf} {n : Nat} (h : At S L R n) : At0 S R n := by
  obtain ⟨⟨fs, a, s, h1, h2, _⟩, h3, h4, h5, h6, _⟩ := h
  exact ⟨⟨fs, a, s, h1, h2⟩, h3, h4, h5, h6⟩

theorem start_at {n l m : Int} (hn : 0 ≤ n ∧ n ≤ 4096) (hl : l < 9223372036854775808) : At0 ⟨⟨[], []⟩, ⟨key0, mxI l 0, [], 0⟩, Dk.new n, Mt.new m⟩ ⟨Int.tdiv n 2, mxI l 0, mxI m 0, 0, 0, false, 0, 0, []⟩ 0 := by
  obtain ⟨hi, hl', _⟩ := start_run (m := m) hn hl
  exact ⟨⟨_, _, _, hi, hl'⟩, rfl, rfl, rfl, Nat.le_refl 0⟩

/-- A place's keeper is opened. -/
theorem apopen_ok {pb vb wb db mb n : Nat} {k : Option Addr} {S : St} {R : Rf} (h : Sat B w (bk pb t_coffretlaw18_Place (pcells vb db mb k) :: vlt vb wb S.V :: idl wb S.I :: dsk db S.D :: mtr mb db S.M :: F)) (G : Gl B) (hat : At0 S R n) (hn : n < 1000000000000)
    (hk : ∀ S' L' kb p c w', At S' L' { R with fresh := false } (n + 1 + R.list.length) → S'.M = S.M → S'.V = S.V → Op B w' pb kb vb wb db mb S' L' (buf t_api_Record 6 p R.list.length c (rcells R.list) :: F) → K (.tuple #[.slice p R.list.length c, .int .i64 0]) w') :
    Cs P f_coffretlaw18_Place_open #[.pointer (at0 pb)] w K := by
  obtain ⟨fs, a, s, hi, hl⟩ := hat.rel
  have hm := hat.made
  refine popen_ok h G hi hl hat.down (by omega) fun o fs' a' s' kb p c w' o1 o2 o3 o4 o5 o6 o7 h => ?_
  exact hk { S with I := o.I } ⟨o.A, S.M.epoch, o.seq, o.head, false⟩ kb p c w' ⟨⟨fs', a', s', o5, o6, o7⟩, hat.down, hat.fuse, hat.waits, by show o.I.made.length ≤ _; omega, by show o.seq ≤ _; rw [o3]; omega⟩ rfl rfl h

theorem ld_count {mb db : Nat} {M : Mt} (h : Sat B w (mtr mb db M :: F)) : (loadVar t_int (Addr.add (Addr.add ⟨mb, 0, none⟩ 0) 0)).run P w = .ok (.int .i64 M.count) w := by
  obtain ⟨h, hM⟩ := Sat.mOpen h
  exact ld1 (L := mcells db M) sc_int h.bk rfl

theorem Rf.turn_list {R : Rf} {rs : List Rec} : (R.turn rs).2 = 0 → (R.turn rs).1.list = rs ∧ goodL rs = true := by
  unfold Rf.turn
  split
  · intro h; simp at h
  · rename_i hg
    split
    · intro h; simp at h
    · split
      · intro h; simp at h
      · intro _; exact ⟨rfl, by simpa using hg⟩

theorem Rf.save_bad {R : Rf} {st ch : List Rec} (h : goodL ch = false) : R.save st ch = (R, 1, none) := by
  have hc : R.commit ch = (R, 1) := by
    unfold Rf.commit
    rw [if_pos (.inl h)]
  unfold Rf.save
  rw [hc, if_pos ⟨by simp, by simp⟩]

theorem great_false {rs : List Rec} {n : Int} (h : greatB rs n = false) : (rs.length : Int) ≤ n ∧ ∀ r ∈ rs, r.body.length ≤ 4096 := by
  simp only [greatB, Bool.or_eq_false_iff, List.any_eq_false, decide_eq_true_eq, decide_eq_false_iff_not] at h
  exact ⟨by omega, fun r hr => by have := h.1 r hr; omega⟩

theorem Refuses_ok {q1 q2 : Option Addr} {m1 c1 m2 c2 : Nat} {st ch : List Rec} {bad : Rec} (h : Sat B w F) (G : Gl B) (hr1 : Rd B q1 (rcells st)) (hm1 : m1 = st.length) (hc1 : st.length ≤ c1) (hl1 : st.length < 9223372036854775808) (hr2 : Rd B q2 (rcells ch)) (hm2 : m2 = ch.length) (hl2 : ch.length < 9223372036854775808)
    (hk : ∀ w', Sat B w' F → K (.bool true) w') : Cs P f_coffretlaw18_SnapRefuses #[.slice q1 m1 c1, .slice q2 m2 c2, bad.val] w K := by
  refine ok_coffretlaw18_SnapRefuses _ _ _ _ _ _ _ ?_
  unfold vc_coffretlaw18_SnapRefuses
  refine h.new fun a0 w' h => ?_
  refine alive_ok h G fun w' h => ⟨_, rfl, Br.f ?_⟩
  have ldb : ∀ {B' : Bs} {w' : World} {X : List HP}, Sat B' w' (bk a0 t_api_Record bad.val.cells.toList :: X) → (loadVar t_api_Record ⟨a0, 0, none⟩).run P w' = .ok bad.val w' := fun h => ldA (n := 6) (L := bad.cells) wd_Record h.bk (by simp [Rec.cells])
  refine Jn.by (fun vs w => ∃ b, vs = [.bool b] ∧ (b = false → greatB st 10 = false ∧ greatB ch 10 = false ∧ st ≠ [] ∧ st.all Rec.good = true ∧ bad.good = false) ∧ Sat B w (bk a0 t_api_Record bad.val.cells.toList :: F)) ?_ ?_
  · refine Great_ok h hr1 hm1 hl1 fun w' h => ⟨_, rfl, Br.bool (fun e => ⟨_, rfl, (by intro h; cases h), h⟩) fun e1 => ?_⟩
    refine Great_ok h hr2 hm2 hl2 fun w' h => ⟨_, rfl, Br.bool (fun e => ⟨_, rfl, (by intro h; cases h), h⟩) fun e2 => ?_⟩
    refine ⟨_, ldb h, Sat.buildRec h fun p0 w' h => ?_⟩
    obtain ⟨B1, hle1, h, hr3, _⟩ := h.fix
    refine Great_ok h hr3 rfl (by simp) fun w' h => ⟨_, rfl, Br.bool (fun e => ⟨_, rfl, (by intro h; cases h), h.thaw hle1⟩) fun e3 => ?_⟩
    refine Br.eq (fun e => ⟨_, rfl, (by intro h; cases h), h.thaw hle1⟩) fun e4 => ?_
    have hlen := (great_false e1).1
    refine All_ok h (hr1.mono hle1) hm1 (by omega) fun w' h => ⟨_, rfl, Br.not (Br.bool (fun e5 => ?_) fun e => ⟨_, rfl, (by intro h; cases h), h.thaw hle1⟩)⟩
    refine ⟨_, ldb h, RGood13_ok h fun w' h => ⟨_, rfl, _, rfl, fun e => ⟨e1, e2, fun hs => e4 (by rw [hm1, hs]; rfl), e5, e⟩, h.thaw hle1⟩⟩
  rintro b6 w8 ⟨b, hb, hbc, h⟩
  obtain rfl : b6 = b := by simpa using hb
  refine Br.bool (fun e => hk _ h.tail) fun e => ?_
  obtain ⟨e1, e2, e3, e4, e5⟩ := hbc e
  obtain ⟨g1, _⟩ := great_false e1
  obtain ⟨g2, _⟩ := great_false e2
  have hbadL : goodL (ch ++ [bad]) = false := by simp [goodL, e5]
  refine place_ok18 h fun pb vb wb db mb w' h => ⟨_, rfl, ?_⟩
  have hat := start_at (n := 100) (l := 1099511627776) (m := 1099511627776) (by omega) (by omega)
  refine apopen_ok (S := ⟨⟨[], []⟩, ⟨key0, mxI 1099511627776 0, [], 0⟩, Dk.new 100, Mt.new 1099511627776⟩) h G hat (by omega) fun S L kb p c w' hat _ _ h => ⟨_, _, _, _, rfl, ?_⟩
  replace h := (h.pull 6).tail
  generalize hR : ({ (⟨Int.tdiv 100 2, mxI 1099511627776 0, mxI 1099511627776 0, 0, 0, false, 0, 0, []⟩ : Rf) with fresh := false } : Rf) = R at *
  have hRc : R.count = 0 := by rw [← hR]
  have hRl : R.list.length = 0 := by rw [← hR]; rfl
  refine Jn.by (fun vs w => ∃ b, vs = [.bool b] ∧ ∃ S' L' R', (b = false → At S' L' R' 1000 ∧ R'.list = st ∧ R'.count = 1) ∧ Op B w pb kb vb wb db mb S' L' (bk a0 t_api_Record bad.val.cells.toList :: F)) ?_ ?_
  · refine Br.f (NN.some ⟨_, ld1 sc_pkeeper h.bk rfl, NN.some ?_⟩)
    obtain ⟨lb, h⟩ := Sat.kOpen (h.pull 1)
    have h := h.pull 2
    refine ⟨_, ld1 sc_plog (h.pull 1).bk rfl, ?_⟩
    obtain ⟨fs, a, s, hi, hl, hf⟩ := hat.rel
    have hm := hat.made
    refine oturn_ok h G hi hl hf hat.down hr1 hm1 hc1 (by omega) (by rw [hat.waits]; omega) (by omega) (by omega) fun S' L' e w' ho kf hu h => ⟨_, rfl, ?_⟩
    obtain ⟨he, hat⟩ := hat.turned ho kf
    refine ⟨_, rfl, S', L', (R.turn st).1, fun hb => ?_, ?_⟩
    · have h0 : (R.turn st).2 = 0 := by
        have : ¬ e ≠ 0 := fun hne => by
          have : neI e 0 = true := by simp [neI, hne]
          rw [this] at hb; cases hb
        omega
      exact ⟨hat.more (by omega), (Rf.turn_list h0).1, by rw [Rf.turn_count h0, hRc]; rfl⟩
    · exact (Sat.kShut lb ((h.pull 2).pull 2)).pull 1
  rintro b7 w12 ⟨b, hb, S', L', R', hbc, h⟩
  obtain rfl : b7 = b := by simpa using hb
  refine Br.bool (fun e => hk _ h.tail.tail.tail.tail.tail.tail.tail) fun e => ?_
  obtain ⟨hat, hlist, hcnt⟩ := hbc e
  clear hbc hb
  refine NN.some ⟨_, ld1 sc_pmeter h.bk rfl, NN.some ⟨_, ld_count (h.pull 5), ?_⟩⟩
  obtain ⟨fs, a, s, hi, hl, hf⟩ := hat.rel
  have hcM : S'.M.count = 1 := by rw [← hl.count, hcnt]
  have hkp : ∀ {B' : Bs} {w' : World} {X : List HP}, Sat B' w' (bk pb t_coffretlaw18_Place (pcells vb db mb (at0 kb)) :: X) → (loadVar t_p_snap_Keeper (Addr.add ⟨pb, 0, none⟩ 3)).run P w' = .ok (.pointer (at0 kb)) w' := fun h => ld1 sc_pkeeper h.bk rfl
  rw [hcM]
  -- a save that is refused
  have ref : ∀ {B1 : Bs} {w' : World} {q : Option Addr} {m c n : Nat} {rs : List Rec} {S : St} {L : Lg} {K' : Value → World → Prop}, B.le B1 → Op B1 w' pb kb vb wb db mb S L (bk a0 t_api_Record bad.val.cells.toList :: F) → At S L R' n → n ≤ 100000 → Rd B1 q (rcells rs) → m = rs.length → rs.length ≤ 1000 → goodL rs = false →
      (∀ S' L' w', At S' L' R' (n + 12000) → Op B1 w' pb kb vb wb db mb S' L' (bk a0 t_api_Record bad.val.cells.toList :: F) → K' (.int .i64 1) w') → Cs P f_snap_Keeper_Save #[.pointer (at0 kb), .slice q1 m1 c1, .slice q m c] w' K' := by
    intro B1 w' q m c n rs S L K' hle h hat hn hr hm hl hg hk'
    obtain ⟨fs, a, s, hi, hl', hf⟩ := hat.rel
    have hmd := hat.made
    have hsq := hat.seq
    refine osave_ok h (G.mono hle) hi hl' hf hat.down (hr1.mono hle) hm1 hc1 (by omega) hr hm hl (by rw [hat.waits]; omega) (by omega) (by omega) (by omega) fun S' L' e w' ho kf hu h => ?_
    obtain ⟨he, hat⟩ := hat.saved ho kf
    rw [Rf.save_bad hg] at he hat
    rw [he]
    exact hk' S' L' w' (hat.more (by omega)) h
  refine Jn.by (fun vs w => vs = [.bool false] ∧ ∃ S L, At S L R' 30000 ∧ Op B w pb kb vb wb db mb S L (bk a0 t_api_Record bad.val.cells.toList :: F)) ?_ ?_
  · intro w13 ha
    have h := h.alk ha
    refine NN.some ⟨_, hkp h, ?_⟩
    refine ref (rs := []) (Bs.le.refl B) h hat (by omega) (.inl rfl) rfl (by simp) rfl fun S2 L2 w14 hat h => ⟨_, rfl, Br.f ?_⟩
    refine NN.some ⟨_, hkp h, _, ldb (h.pull 6), ?_⟩
    have fin : ∀ {B1 : Bs} {w' : World} {q : Option Addr} {c : Nat}, B.le B1 → Op B1 w' pb kb vb wb db mb S2 L2 (bk a0 t_api_Record bad.val.cells.toList :: F) → Rd B1 q (rcells (ch ++ [bad])) → Cs P f_snap_Keeper_Save #[.pointer (at0 kb), .slice q1 m1 c1, .slice q (ch ++ [bad]).length c] w' fun v13 w19 => ∃ n4, v13 = .int .i64 n4 ∧ Br (neI n4 1) ((fun vs w => vs = [Value.bool false] ∧ ∃ S L, At S L R' 30000 ∧ Op B w pb kb vb wb db mb S L (bk a0 t_api_Record bad.val.cells.toList :: F)) [.bool true] w19)
        (NN (at0 pb) fun a7 ↦ LdP P t_p_meter_Meter (Addr.add a7 2) w19 fun p12 ↦ NN p12 fun a8 ↦ LdI .i64 P t_int (Addr.add (Addr.add a8 0) 0) w19 fun n5 ↦ (fun vs w => vs = [Value.bool false] ∧ ∃ S L, At S L R' 30000 ∧ Op B w pb kb vb wb db mb S L (bk a0 t_api_Record bad.val.cells.toList :: F)) [.bool (neI n5 1)] w19) := by
      intro B1 w' q c hle h hr
      refine ref (rs := ch ++ [bad]) hle h hat (by omega) hr rfl (by simp; omega) hbadL fun S3 L3 w14 hat h => ⟨_, rfl, Br.f ?_⟩
      refine NN.some ⟨_, ld1 sc_pmeter h.bk rfl, NN.some ⟨_, ld_count (h.pull 5), ?_⟩⟩
      obtain ⟨fs, a, s, hi, hl', hf⟩ := hat.rel
      have hc3 : S3.M.count = 1 := by rw [← hl'.count, hcnt]
      rw [hc3]
      exact ⟨rfl, S3, L3, hat.more (by omega), h.thaw hle⟩
    refine ⟨?_, ?_⟩
    · refine Sat.buildNone h fun p8 w15 h => ⟨⟨ldb (h.pull 7), hkp (h.pull 1), trivial⟩, ?_, ?_⟩
      · refine Sat.appendRecs (xs := []) h rfl hr2 hm2 (by simp; omega) fun p9 c9 w16 h => ⟨⟨ldb (h.pull 7), hkp (h.pull 1), trivial⟩, ?_⟩
        refine Sat.buildRec h fun p10 w17 h => ?_
        obtain ⟨B1, hle1, h, hr3, _⟩ := h.fix
        refine ⟨⟨hkp (h.pull 1), trivial⟩, ?_⟩
        refine Sat.appendRecs h rfl hr3 rfl (by simp; omega) fun p11 c11 w18 h => ?_
        obtain ⟨B2, hle2, h, hr4, _⟩ := h.fix
        exact ⟨⟨hkp h, trivial⟩, fin (hle1.trans hle2) h hr4⟩
      · refine Sat.buildRec h fun p10 w17 h => ?_
        obtain ⟨B1, hle1, h, hr3, _⟩ := h.fix
        refine ⟨⟨hkp (h.pull 1), trivial⟩, ?_⟩
        refine Sat.appendRecs (xs := []) h rfl (hr2.mono hle1) hm2 (by simp; omega) fun p9 c9 w16 h => ⟨⟨hkp (h.pull 1), trivial⟩, ?_⟩
        refine Sat.appendRecs h rfl hr3 rfl (by simp; omega) fun p11 c11 w18 h => ?_
        obtain ⟨B2, hle2, h, hr4, _⟩ := h.fix
        exact ⟨⟨hkp h, trivial⟩, fin (hle1.trans hle2) h hr4⟩
    · refine Sat.buildRec h fun p10 w17 h => ?_
      obtain ⟨B1, hle1, h, hr3, _⟩ := h.fix
      refine ⟨⟨hkp h, trivial⟩, ?_⟩
      refine Sat.buildNone h fun p8 w15 h => ⟨⟨hkp (h.pull 1), trivial⟩, ?_⟩
      refine Sat.appendRecs (xs := []) h rfl (hr2.mono hle1) hm2 (by simp; omega) fun p9 c9 w16 h => ⟨⟨hkp (h.pull 1), trivial⟩, ?_⟩
      refine Sat.appendRecs h rfl hr3 rfl (by simp; omega) fun p11 c11 w18 h => ?_
      obtain ⟨B2, hle2, h, hr4, _⟩ := h.fix
      exact ⟨⟨hkp h, trivial⟩, fin (hle1.trans hle2) h hr4⟩
  rintro b8 w29 ⟨hb, S4, L4, hat, h⟩
  obtain rfl : b8 = false := by simpa using hb
  refine Br.f ?_
  have h := (h.pull 1).tail
  refine apopen_ok h G hat.zero (by omega) fun S5 L5 kb2 p c w' hat _ _ h => ⟨_, _, _, _, rfl, ?_⟩
  obtain ⟨B5, hle5, h, hr5, _⟩ := (h.pull 6).fix
  rw [hlist] at hr5
  have hfit : ∀ r ∈ st, r.fit := fun r hr => good_fit (List.all_eq_true.1 e4 r hr)
  rw [hlist]
  refine Jn.dupB (Br.t (Same_ok h hr5 rfl (hr1.mono hle5) hm1 hfit hfit (by omega) fun c w' hc h => ⟨_, rfl, _, rfl, ?_⟩))
  rw [hc.2 rfl]
  exact hk _ (h.thaw hle5).tail.tail.tail.tail.tail.tail.tail

end Go.Dv

/-! SnapState -/
set_option maxRecDepth 20000
namespace Go.Dv
open Go Go.Sh Go.Sl

variable {B : Bs} {w : World} {F : List HP} {K : Value → World → Prop}

theorem Rf.commit_list {R : Rf} {rs : List Rec} : (R.commit rs).2 = 0 → (R.commit rs).1.list = R.list ++ rs := by
  unfold Rf.commit
  split
  · intro h; simp at h
  · split
    · intro h; simp at h
    · split
      · intro h; simp at h
      · split
        · intro h; simp at h
        · intro _; rfl
theorem Rf.commit_epoch {R : Rf} {rs : List Rec} : (R.commit rs).1.epoch = R.epoch := by
  unfold Rf.commit
  split
  · rfl
  · split
    · rfl
    · split
      · rfl
      · split
        · rfl
        · rfl

theorem Rf.save_epoch {R : Rf} {st ch : List Rec} (h : (R.save st ch).2.1 = 0) : (R.save st ch).1.epoch = R.epoch ∨ (R.save st ch).1.list = st ++ ch := by
  unfold Rf.save at h ⊢
  split at h
  · rename_i h1
    rw [if_pos h1]
    exact .inl Rf.commit_epoch
  · rename_i h1
    rw [if_neg h1]
    split at h
    · simp at h
    · rename_i h2
      rw [if_neg h2]
      split at h
      · rename_i h3
        exact absurd h h3
      · rename_i h3
        rw [if_neg h3]
        simp only at h
        refine .inr ?_
        have h3 : ((R.commit ch).1.turn st).2 = 0 := by omega
        rw [Rf.commit_list h, (Rf.turn_list h3).1]

theorem ld_kp {pb vb db mb kb : Nat} (h : Sat B w (bk pb t_coffretlaw18_Place (pcells vb db mb (at0 kb)) :: F)) : (loadVar t_p_snap_Keeper (Addr.add ⟨pb, 0, none⟩ 3)).run P w = .ok (.pointer (at0 kb)) w := ld1 sc_pkeeper h.bk rfl

/-- The epoch of a place's keeper. -/
theorem oepoch {pb kb vb wb db mb : Nat} {S : St} {L : Lg} {Q : Int → World → Prop} (h : Op B w pb kb vb wb db mb S L F) (hk : Q L.epoch w) :
    NN (at0 pb) fun a2 ↦ LdP P t_p_snap_Keeper (Addr.add a2 3) w fun p4 ↦ NN p4 fun a3 ↦ LdP P t_p_commit_Log (Addr.add a3 0) w fun p5 ↦ Cs P f_commit_Log_Epoch #[Value.pointer p5] w fun v8 w11 ↦ ∃ n3, v8 = .int .i64 n3 ∧ Q n3 w11 := by
  refine NN.some ⟨_, ld_kp h, NN.some ?_⟩
  obtain ⟨lb, h⟩ := Sat.kOpen (h.pull 1)
  refine ⟨_, ld1 sc_plog h.bk rfl, ?_⟩
  exact Epoch_ok (h.pull 1) ⟨_, rfl, hk⟩

/-- A place is opened, and a turn follows. -/
theorem openTurn {pb vb wb db mb n : Nat} {k : Option Addr} {S : St} {R : Rf} {q : Option Addr} {m c : Nat} {st : List Rec} {Rest : Bool → World → Prop}
    (h : Sat B w (bk pb t_coffretlaw18_Place (pcells vb db mb k) :: vlt vb wb S.V :: idl wb S.I :: dsk db S.D :: mtr mb db S.M :: F)) (G : Gl B) (hat : At0 S R n) (hn : n + R.list.length < 1000000000) (hc : R.count < 900000) (hr : Rd B q (rcells st)) (hm : m = st.length) (hcap : st.length ≤ c) (hl : st.length ≤ 1000)
    (hk : ∀ b S' L' kb w', (b = false → At S' L' (({ R with fresh := false } : Rf).turn st).1 (n + 2 + R.list.length + 5 * st.length) ∧ (({ R with fresh := false } : Rf).turn st).2 = 0 ∧ (S.V.used = [] → S.V.clash = 0 → Uq S' L')) → ((({ R with fresh := false } : Rf).turn st).2 = 0 → b = false) → Op B w' pb kb vb wb db mb S' L' F → Rest b w') :
    Cs P f_coffretlaw18_Place_open #[Value.pointer (at0 pb)] w fun v6 w7 ↦ ∃ p1 l0 l1 n0, v6 = Value.tuple #[Value.slice p1 l0 l1, .int .i64 n0] ∧
      Jn (fun K2 ↦ Br (neI n0 0) (K2 [Value.bool true] w7) (NN (at0 pb) fun a0 ↦ LdP P t_p_snap_Keeper (Addr.add a0 3) w7 fun p2 ↦ NN p2 fun a1 ↦ LdP P t_p_commit_Log (Addr.add a1 0) w7 fun p3 ↦ Cs P f_commit_Log_Turn #[Value.pointer p3, Value.slice q m c] w7 fun v7 w8 ↦ ∃ n1, v7 = .int .i64 n1 ∧ K2 [Value.bool (neI n1 0)] w8))
        fun K3 ↦ ∀ (b6 : Bool) (w9 : World), K3 [Value.bool b6] w9 → Rest b6 w9 := by
  refine apopen_ok h G hat (by omega) fun S' L' kb p c' w' hat _ hVV h => ⟨_, _, _, _, rfl, ?_⟩
  replace h := (h.pull 6).tail
  refine Jn.dupB (Br.f (NN.some ⟨_, ld_kp h, NN.some ?_⟩))
  obtain ⟨lb, h⟩ := Sat.kOpen (h.pull 1)
  replace h := h.pull 2
  refine ⟨_, ld1 sc_plog (h.pull 1).bk rfl, ?_⟩
  obtain ⟨fs, a, s, hi, hl', hf⟩ := hat.rel
  have hmd := hat.made
  refine oturn_ok h G hi hl' hf hat.down hr hm hcap (by omega) (by rw [hat.waits]; omega) (by omega) hc fun S'' L'' e w' ho kf hu h => ⟨_, rfl, _, rfl, ?_⟩
  obtain ⟨he, hat⟩ := hat.turned ho kf
  refine hk _ S'' L'' kb w' (fun hb => ?_) (fun h0 => by rw [he, h0]; rfl) ((Sat.kShut lb ((h.pull 2).pull 2)).pull 1)
  have h0 : e = 0 := by
    by_cases h0 : e = 0
    · exact h0
    · have : neI e 0 = true := by simp [neI, h0]
      rw [this] at hb; cases hb
  refine ⟨hat.more (by omega), by rw [← he]; exact h0, fun hv1 hv2 => hu h0 ⟨?_, by rw [hVV]; exact hv2⟩⟩
  rw [hVV]
  intro p hp
  rw [hv1] at hp; cases hp

/-- What both statements ask first. -/
theorem asks_ok {q1 q2 : Option Addr} {m1 c1 m2 c2 : Nat} {st ch : List Rec} {x0 x3 k : Int} {Rest : Bool → World → Prop} (h : Sat B w F) (hr1 : Rd B q1 (rcells st)) (hm1 : m1 = st.length) (hl1 : st.length < 9223372036854775808) (hr2 : Rd B q2 (rcells ch)) (hm2 : m2 = ch.length) (hl2 : ch.length < 9223372036854775808) (hk20 : k ≤ 1000)
    (hk : ∀ b w', (b = false → (2 ≤ x0 ∧ x0 ≤ 100) ∧ (1 ≤ x3 ∧ x3 ≤ 60) ∧ ((st.length : Int) ≤ k ∧ (ch.length : Int) ≤ k) ∧ goodL st = true ∧ goodL ch = true) → Sat B w' F → Rest b w') :
    Jn (fun K0 ↦ Br (ltI x0 2) (K0 [Value.bool true] w) (Br (gtI x0 100) (K0 [Value.bool true] w) (Br (ltI x3 1) (K0 [Value.bool true] w) (Br (gtI x3 60) (K0 [Value.bool true] w)
      (Cs P f_coffretref13_Great #[Value.slice q1 m1 c1, .int .i64 k] w fun v1 w1 ↦ ∃ b1, v1 = Value.bool b1 ∧ Br b1 (K0 [Value.bool true] w1)
        (Cs P f_coffretref13_Great #[Value.slice q2 m2 c2, .int .i64 k] w1 fun v2 w2 ↦ ∃ b2, v2 = Value.bool b2 ∧ Br b2 (K0 [Value.bool true] w2)
          (Br (eqI (Nat.cast m1) 0) (K0 [Value.bool true] w2) (Br (eqI (Nat.cast m2) 0) (K0 [Value.bool true] w2) (Cs P f_coffretref13_All #[Value.slice q1 m1 c1] w2 fun v3 w3 ↦ ∃ b3, v3 = Value.bool b3 ∧ Br (!b3) (K0 [Value.bool true] w3)
            (Cs P f_coffretref13_All #[Value.slice q2 m2 c2] w3 fun v4 w4 ↦ ∃ b4, v4 = Value.bool b4 ∧ K0 [Value.bool !b4] w4)))))))))) fun K1 ↦ ∀ (b5 : Bool) (w5 : World), K1 [Value.bool b5] w5 → Rest b5 w5 := by
  refine Jn.dupB ?_
  have no : ∀ w', Sat B w' F → ∃ b, [Value.bool true] = [Value.bool b] ∧ Rest b w' := fun w' h => ⟨_, rfl, hk true w' (fun e => by cases e) h⟩
  refine Br.lt (fun _ => no _ h) fun a1 => Br.gt (fun _ => no _ h) fun a2 => Br.lt (fun _ => no _ h) fun a3 => Br.gt (fun _ => no _ h) fun a4 => ?_
  refine Great_ok h hr1 hm1 hl1 fun w' h => ⟨_, rfl, Br.bool (fun _ => no _ h) fun e1 => ?_⟩
  refine Great_ok h hr2 hm2 hl2 fun w' h => ⟨_, rfl, Br.bool (fun _ => no _ h) fun e2 => ?_⟩
  refine Br.eq (fun _ => no _ h) fun e3 => Br.eq (fun _ => no _ h) fun e4 => ?_
  obtain ⟨g1, _⟩ := great_false e1
  obtain ⟨g2, _⟩ := great_false e2
  refine All_ok h hr1 hm1 (by omega) fun w' h => ⟨_, rfl, Br.not (Br.bool (fun e5 => ?_) fun _ => no _ h)⟩
  refine All_ok h hr2 hm2 (by omega) fun w' h => ⟨_, rfl, _, rfl, hk _ w' (fun e6 => ⟨⟨a1, a2⟩, ⟨a3, a4⟩, ⟨g1, g2⟩, ?_, ?_⟩) h⟩
  · have : st ≠ [] := fun e => e3 (by rw [hm1, e]; rfl)
    simp [goodL, this, e5]
  · have : ch ≠ [] := fun e => e4 (by rw [hm2, e]; rfl)
    have e6 : ch.all Rec.good = true := by simpa using e6
    simp [goodL, this, e6]

theorem State_ok {x0 x3 : Int} {q1 q2 : Option Addr} {m1 c1 m2 c2 : Nat} {st ch : List Rec} (h : Sat B w F) (G : Gl B) (hr1 : Rd B q1 (rcells st)) (hm1 : m1 = st.length) (hc1 : st.length ≤ c1) (hl1 : st.length < 9223372036854775808) (hr2 : Rd B q2 (rcells ch)) (hm2 : m2 = ch.length) (hl2 : ch.length < 9223372036854775808)
    (hk : ∀ w', Sat B w' F → K (.bool true) w') : Cs P f_coffretlaw18_SnapState #[.int .i64 x0, .slice q1 m1 c1, .slice q2 m2 c2, .int .i64 x3] w K := by
  refine ok_coffretlaw18_SnapState _ _ _ _ _ _ _ _ ?_
  unfold vc_coffretlaw18_SnapState
  refine alive_ok h G fun w' h => ⟨_, rfl, Br.f ?_⟩
  refine asks_ok h hr1 hm1 hl1 hr2 hm2 hl2 (by omega) fun b w' hb h => ?_
  refine Br.bool (fun _ => hk _ h) fun e => ?_
  obtain ⟨⟨a1, a2⟩, ⟨a3, a4⟩, ⟨g1, g2⟩, gs, gc⟩ := hb e
  clear hb
  refine place_ok18 h fun pb vb wb db mb w' h => ⟨_, rfl, ?_⟩
  have hat := start_at (n := x0) (l := 1099511627776) (m := 1099511627776) (by omega) (by omega)
  have off : ∀ {w' : World} {kb : Nat} {S : St} {L : Lg}, Op B w' pb kb vb wb db mb S L F → Sat B w' F := fun h => h.tail.tail.tail.tail.tail.tail
  refine openTurn (S := ⟨⟨[], []⟩, ⟨key0, mxI 1099511627776 0, [], 0⟩, Dk.new x0, Mt.new 1099511627776⟩) h G hat (by simp) (by show (0 : Int) < _; omega) hr1 hm1 hc1 (by omega) fun b S L kb w' hbt _ h => ?_
  refine Br.bool (fun _ => hk _ (off h)) fun e => ?_
  obtain ⟨hat, h0, _⟩ := hbt e
  clear hbt
  have hcnt := Rf.turn_count h0
  generalize (Rf.turn _ st).1 = R at *
  simp only at hcnt
  have hcnt1 : R.count = 1 := by rw [hcnt]; rfl
  clear hcnt h0
  refine Lp.up x3.toNat (fun i vs w => vs = [.int .i64 (i : Int)] ∧ ∃ S L R, At S L R (1000 * (i + 1)) ∧ R.count ≤ 3 * i + 1 ∧ Op B w pb kb vb wb db mb S L F) ⟨rfl, S, L, R, hat.more (by simp; omega), by omega, h⟩ fun J nx cs => ?_
  clear hat hcnt1 h
  intro n2 l2 w10 hJ
  obtain ⟨i, hi, rfl, hv, S, L, R, hat, hcnt, h⟩ := cs _ _ _ hJ
  obtain rfl : n2 = (i : Int) := by simpa using hv
  refine Br.lt (fun hlt => ?_) fun hge => hk _ (off h)
  refine oepoch h ?_
  refine NN.some ⟨_, ld_kp h, ?_⟩
  obtain ⟨fs, a, s, hi', hl, hf⟩ := hat.rel
  have hmd := hat.made
  have hsq := hat.seq
  refine osave_ok h G hi' hl hf hat.down hr1 hm1 hc1 (by omega) hr2 hm2 (by omega) (by rw [hat.waits]; omega) (by omega) (by omega) (by omega) fun S' L' e w' ho kf hu h => ⟨_, rfl, ?_⟩
  have hepL : L.epoch = R.epoch := by rw [hf.epoch, hl.epoch]
  obtain ⟨he, hat⟩ := hat.saved ho kf
  clear ho kf hi' hl hf
  refine Br.ne (fun _ => hk _ (off h)) fun e0 => ?_
  refine oepoch h ?_
  have hup := Rf.save_up (R := R) (st := st) (ch := ch)
  obtain ⟨fs', a', s', hi', hl', hf'⟩ := hat.rel
  have hepL' : L'.epoch = (R.save st ch).1.epoch := by rw [hf'.epoch, hl'.epoch]
  have hsv := Rf.save_epoch (R := R) (st := st) (ch := ch) (by rw [← he]; exact e0)
  refine Br.eq (fun _ => ?_) fun hne => ?_
  · refine nx i _ _ _ (by omega) rfl ⟨?_, S', L', _, hat.more (by omega), by omega, h⟩
    rw [w64 (by omega) (by omega)]
    rfl
  have hlist : (R.save st ch).1.list = st ++ ch := by
    rcases hsv with hsv | hsv
    · exact absurd (by rw [hepL', hsv, hepL]) hne
    · exact hsv
  replace h := (h.pull 1).tail
  refine apopen_ok h G hat.zero (by omega) fun S5 L5 kb2 p c w' _ _ _ h => ⟨_, _, _, _, rfl, ?_⟩
  obtain ⟨B5, hle5, h, hr5, _⟩ := (h.pull 6).fix
  rw [hlist] at hr5
  have hfit : ∀ r ∈ st ++ ch, r.fit := fun r hr => by
    rcases List.mem_append.1 hr with hr | hr
    · exact good_fit ((goodL_all gs).2 r hr)
    · exact good_fit ((goodL_all gc).2 r hr)
  rw [hlist]
  refine Jn.dupB (Br.t ?_)
  refine Sat.buildNone h fun p10 w15 h => ?_
  refine Sat.appendRecs (xs := []) h rfl (hr1.mono hle5) hm1 (by simp; omega) fun p11 c11 w16 h => ?_
  refine Sat.appendRecs h rfl (hr2.mono hle5) hm2 (by simp; omega) fun p12 c12 w17 h => ?_
  obtain ⟨B6, hle6, h, hr6, _⟩ := h.fix
  refine Same_ok h (hr5.mono hle6) rfl hr6 rfl hfit (by simpa using hfit) (by simp; omega) fun c w' hc h => ⟨_, rfl, _, rfl, ?_⟩
  rw [hc.2 (by simp)]
  exact hk _ ((h.thaw hle6).thaw hle5).tail.tail.tail.tail.tail.tail

end Go.Dv

/-! SnapState: the row and the card -/
set_option maxRecDepth 100000
namespace Go.Dv
open Go Go.Sh Go.Sl Go.Proofs Go.Proofs.YtnmkbnfidjoljaaDoor
open Go.ChangeShapes Go.WideShapes Go.ChangeAt Go.RowKit

theorem own_t : ownKnob Tryd.prog.godebug = none := by kernel_rfl
theorem laidOut_t : laidOutB Tryd.prog = true := by kernel_rfl

theorem state_lifted (os : Os) (started : os.Started) (H : Type) (enc : TypeId × Value → H) :
    ReturnsInHanded {} Tryd.checked os 4 .any (fun w args => (Rows.snapStateSpec.pre enc Tryd.prog Tryd.f4 Rows.snapStateRow.domain false w args ∧ laidMetH Tryd.prog Rows.snapStateRow.laid w) ∧ sizedMet enc Tryd.prog Tryd.f4 (OpenSpec.ofChange Rows.snapStateSpec) false w args)
      (Rows.snapStateSpec.post enc Tryd.prog Tryd.f4 false true false false) := by
  refine returnsInHanded_of_change_and (C := Tryd.checked) (X := fun w _ => laidMetH Tryd.prog Rows.snapStateRow.laid w) (fun _ _ _ hh h => h.of_heap hh) own_t started (by kernel_rfl) Tryd.func4
    (ChangeSpec.witness_shaped (enc := enc) (C := Tryd.checked) (os := os) (X := fun w _ => laidMetH Tryd.prog Rows.snapStateRow.laid w) false (World.laidAll Tryd.prog os Rows.snapStateRow.laid) #[.int .i64 0, .slice none 0 0, .slice none 0 0, .int .i64 0] 8 (World.laidAll_os _ _ _)
      (World.shaped_of_ZipB (by kernel_rfl) (by kernel_rfl)) (by kernel_rfl) (by kernel_rfl) (by kernel_rfl)
      (by rw [MakeChecks.laidMetH_plain _ _ _ (by kernel_rfl)]; exact laidMet_laidAll _ (by kernel_rfl) (by kernel_rfl))) ?_
  intro W base args ds gs before hval0 hW _ _ hL _
  have hval : ∀ (j : Nat) t v, Tryd.f4.params[j]? = some t → args[j]? = some v → Value.okWide Tryd.prog W .any base t v := hval0
  have hW' := hW
  obtain ⟨p, q, hA0, hV, rfl, _, _⟩ := hW
  have hA : DataW.TrodAll enc Tryd.prog W 0 (fun _ => true) true Tryd.f4.params.toList args.toList ds p := hA0
  rw [Tryd.params4] at hA hval
  obtain ⟨v0, v1, v2, v3, d0, d1, d2, d3, p0, p1, p2, p3, rfl, rfl, rfl, h0, h1, h2, h3⟩ := trodAll_four hA
  obtain ⟨rfl, rfl⟩ := trodVars_none hV
  obtain ⟨x0, rfl, rfl, rfl, w0⟩ := open_int Tryd.underlying3 (hval 0 3 v0 rfl rfl) h0
  obtain ⟨a1, l1, c1, rfl⟩ := okWide_slice us_Records (hval 1 29 v1 rfl rfl)
  obtain ⟨a2, l2, c2, rfl⟩ := okWide_slice us_Records (hval 2 29 v2 rfl rfl)
  obtain ⟨x3, rfl, rfl, rfl, w3⟩ := open_int Tryd.underlying3 (hval 3 3 v3 rfl rfl) h3
  obtain ⟨f1, hf1⟩ := h1
  obtain ⟨f2, hf2⟩ := h2
  obtain ⟨q1, k1, st, e1, hl1, hm1, hr1, _⟩ := recs_of hf1
  obtain ⟨q2, k2, ch, e2, hl2, hm2, hr2, _⟩ := recs_of hf2
  simp only [Value.cells, List.cons.injEq, Value.slice.injEq, and_true] at e1 e2
  obtain ⟨rfl, rfl, rfl⟩ := e1
  obtain ⟨rfl, rfl, rfl⟩ := e2
  unfold maxLen at hm1 hm2
  have main : Cs P f_coffretlaw18_SnapState #[.int .i64 x0, .slice a1 st.length c1, .slice a2 ch.length c2, .int .i64 x3] W fun v W' => v = .bool true ∧ Sat (Bs.of W) W' [] :=
    State_ok (Sat.start W) (gl_of hL) hr1 rfl hl1 (by omega) hr2 rfl (by omega) fun w' h => ⟨rfl, h⟩
  refine (show Calls Tryd.prog 4 _ W _ from main).mono fun e W' he => ?_
  obtain ⟨v, rfl, rfl, hsat⟩ := he
  have hbel := below_of hsat
  have hlt : ∀ x ∈ p1 ++ p2, x.block < W.heap.size := fun x hx => by simpa using hW'.lt x (by simpa using hx)
  refine ⟨_, rfl, ⟨_, _, _, [], _, [], hW', trodAll_mk1 (shut_bool Tryd.underlying4 true), trodAll_mk4 (shut_int Tryd.underlying3 w0) (Below.trod laidOut_t (by kernel_rfl) (of_decide_eq_true (by kernel_rfl)) ⟨f1, hf1⟩ hbel fun x hx => hlt x (by simp [hx])) (Below.trod laidOut_t (by kernel_rfl) (of_decide_eq_true (by kernel_rfl)) ⟨f2, hf2⟩ hbel fun x hx => hlt x (by simp [hx])) (shut_int Tryd.underlying3 w3), rfl, hbel.frame _, fun h => by cases h⟩⟩

theorem state_holds : Rows.SnapStateSaid :=
  OpenClaim.holds_of_wide 4 Tryd.f4 rfl rfl rfl rfl rfl rfl rfl ⟨rfl, rfl, rfl, rfl, rfl⟩ rfl rfl rfl rfl rfl (by kernel_rfl) Tryd.func4 (by kernel_rfl)
    (of_decide_eq_true (by kernel_rfl)) (by unfold Func.isWrapper; first | (rw [if_pos (by decide +kernel)]; kernel_rfl) | (rw [if_neg (by decide +kernel)]; exact ⟨rfl, rfl⟩))
    (fun os started H enc _ => state_lifted os started H enc)

theorem state_card : Rows.SnapStateCardSaid :=
  Claim7.holds_tied_plain_at .later [] [.data, .data, .data, .data, .data, .data, .data] true (true, "966f9f35a4cbca90f0a71d87ea0b3fa4fe318bef6e1e96fbfea0ec53c06e0a0f") false state_holds (fun _ h => by cases h) (by kernel_rfl) (fun _ h => by cases h) snapState_row_tie rfl ⟨rfl, rfl⟩ (by kernel_rfl) rfl
    (fun f fn hf hfn => by
      obtain rfl : f = 4 := Option.some.inj ((show Tryd.prog.funcNamed "coffret/coffretlaw18.SnapState" = some 4 by kernel_rfl).symm.trans hf) |>.symm
      obtain rfl : fn = Tryd.f4 := (Option.some.inj (Tryd.func4.symm.trans hfn)).symm
      exact ⟨by kernel_rfl, fun j t ht => by
        rw [Tryd.params4] at ht
        have hm : t ∈ [3, 29, 29, 3] := by simpa using Array.mem_of_getElem? ht
        have hall : ([3, 29, 29, 3].all fun u => !Tryd.prog.wantsStandIn u) = true := by kernel_rfl
        exact (show Tryd.prog.wantsStandIn t = false by simpa using List.all_eq_true.1 hall t hm)⟩)
    (by kernel_rfl)

end Go.Dv

namespace Go.Proofs.YtnmkbnfidjoljaaDoor
theorem snapState_card : Rows.SnapStateCardSaid := Go.Dv.state_card
end Go.Proofs.YtnmkbnfidjoljaaDoor
#print axioms Go.Proofs.YtnmkbnfidjoljaaDoor.snapState_card
