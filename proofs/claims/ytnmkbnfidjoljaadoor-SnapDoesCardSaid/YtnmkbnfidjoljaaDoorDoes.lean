/- coffretlaw18.SnapDoes returns true for every input and leaves its arguments as they were; the seven variables of package record are as the text of the program lays them (the tied card). -/
import Derived.Test.YtnmkbnfidjoljaaDoorGh
import Derived.Test.YtnmkbnfidjoljaaDoorCards

/-! SnapRefuses -/
set_option maxRecDepth 20000
namespace Go.Dv
open Go Go.Sh Go.Sl

variable {B : Bs} {w : World} {F : List HP} {K : Value → World → Prop}

structure At0 (S : St) (R : Rf) (n : Nat) : Prop where
  rel : ∃ fs a s, Inv S fs a s ∧ Like S R fs
  down : S.D.down = false
  fuse : S.D.fuse = 0
  waits : S.D.waits.length = 0
  made : S.I.made.length ≤ n

theorem At.zero {S : St} {L : Lg} {R : Rf} {n : Nat} (h : At S L R n) : At0 S R n := by
  obtain ⟨⟨fs, a, s, h1, h2, _⟩, h3, h4, h5, h6, _⟩ := h
  exact ⟨⟨fs, a, s, h1, h2⟩, h3, h4, h5, h6⟩

theorem start_at {n l m : Int} (hn : 0 ≤ n ∧ n ≤ 4096) (hl : l < 9223372036854775808) : At0 ⟨⟨[], []⟩, ⟨key0, mxI l 0, [], 0⟩, Dk.new n, Mt.new m⟩ ⟨Int.tdiv n 2, mxI l 0, mxI m 0, 0, 0, false, 0, 0, []⟩ 0 := by
  obtain ⟨hi, hl', _⟩ := start_run (m := m) hn hl
  exact ⟨⟨_, _, _, hi, hl'⟩, rfl, rfl, rfl, Nat.le_refl 0⟩

/-- A place's keeper is opened. -/
theorem apopen_ok {pb vb wb db mb n : Nat} {k : Option Addr} {S : St} {R : Rf} (h : Sat B w (bk pb t_coffretlaw18_Place (pcells vb db mb k) :: vlt vb wb S.V :: idl wb S.I :: dsk db S.D :: mtr mb db S.M :: F)) (G : Gl B) (hat : At0 S R n) (hn : n < 1000000000000)
    (hk : ∀ S' L' kb p c w', At S' L' { R with fresh := false } (n + 1 + R.list.length) → S'.M = S.M → S'.V = S.V → Op B w' pb kb vb wb db mb S' L' (buf t_api_Record 6 p R.list.length c (rcells R.list) :: F) → K (.tuple #[.slice p R.list.length c, .int .i64 0]) w') :
    Cs P f_coffretlaw18_Place_open #[.pointer (at0 pb)] w K := by
  obtain ⟨fs, a, s, hi, hl⟩ := hat.rel
  have hm := hat.made
  refine popen_ok h G hi hl hat.down (by omega) fun o fs' a' s' kb p c w' o1 o2 o3 o4 o5 o6 o7 h => ?_
  exact hk { S with I := o.I } ⟨o.A, S.M.epoch, o.seq, o.head, false⟩ kb p c w' ⟨⟨fs', a', s', o5, o6, o7⟩, hat.down, hat.fuse, hat.waits, by show o.I.made.length ≤ _; omega, by show o.seq ≤ _; rw [o3]; omega⟩ rfl rfl h

theorem ld_count {mb db : Nat} {M : Mt} (h : Sat B w (mtr mb db M :: F)) : (loadVar t_int (Addr.add (Addr.add ⟨mb, 0, none⟩ 0) 0)).run P w = .ok (.int .i64 M.count) w := by
  obtain ⟨h, hM⟩ := Sat.mOpen h
  exact ld1 (L := mcells db M) sc_int h.bk rfl

theorem Rf.turn_list {R : Rf} {rs : List Rec} : (R.turn rs).2 = 0 → (R.turn rs).1.list = rs ∧ goodL rs = true := by
  unfold Rf.turn
  split
  · intro h; simp at h
  · rename_i hg
    split
    · intro h; simp at h
    · split
      · intro h; simp at h
      · intro _; exact ⟨rfl, by simpa using hg⟩

theorem Rf.save_bad {R : Rf} {st ch : List Rec} (h : goodL ch = false) : R.save st ch = (R, 1, none) := by
  have hc : R.commit ch = (R, 1) := by
    unfold Rf.commit
    rw [if_pos (.inl h)]
  unfold Rf.save
  rw [hc, if_pos ⟨by simp, by simp⟩]

theorem great_false {rs : List Rec} {n : Int} (h : greatB rs n = false) : (rs.length : Int) ≤ n ∧ ∀ r ∈ rs, r.body.length ≤ 4096 := by
  simp only [greatB, Bool.or_eq_false_iff, List.any_eq_false, decide_eq_true_eq, decide_eq_false_iff_not] at h
  exact ⟨by omega, fun r hr => by have := h.1 r hr; omega⟩

theorem Refuses_ok {q1 q2 : Option Addr} {m1 c1 m2 c2 : Nat} {st ch : List Rec} {bad : Rec} (h : Sat B w F) (G : Gl B) (hr1 : Rd B q1 (rcells st)) (hm1 : m1 = st.length) (hc1 : st.length ≤ c1) (hl1 : st.length < 9223372036854775808) (hr2 : Rd B q2 (rcells ch)) (hm2 : m2 = ch.length) (hl2 : ch.length < 9223372036854775808)
    (hk : ∀ w', Sat B w' F → K (.bool true) w') : Cs P f_coffretlaw18_SnapRefuses #[.slice q1 m1 c1, .slice q2 m2 c2, bad.val] w K := by
  refine ok_coffretlaw18_SnapRefuses _ _ _ _ _ _ _ ?_
  unfold vc_coffretlaw18_SnapRefuses
  refine h.new fun a0 w' h => ?_
  refine alive_ok h G fun w' h => ⟨_, rfl, Br.f ?_⟩
  have ldb : ∀ {B' : Bs} {w' : World} {X : List HP}, Sat B' w' (bk a0 t_api_Record bad.val.cells.toList :: X) → (loadVar t_api_Record ⟨a0, 0, none⟩).run P w' = .ok bad.val w' := fun h => ldA (n := 6) (L := bad.cells) wd_Record h.bk (by simp [Rec.cells])
  refine Jn.by (fun vs w => ∃ b, vs = [.bool b] ∧ (b = false → greatB st 10 = false ∧ greatB ch 10 = false ∧ st ≠ [] ∧ st.all Rec.good = true ∧ bad.good = false) ∧ Sat B w (bk a0 t_api_Record bad.val.cells.toList :: F)) ?_ ?_
  · refine Great_ok h hr1 hm1 hl1 fun w' h => ⟨_, rfl, Br.bool (fun e => ⟨_, rfl, (by intro h; cases h), h⟩) fun e1 => ?_⟩
    refine Great_ok h hr2 hm2 hl2 fun w' h => ⟨_, rfl, Br.bool (fun e => ⟨_, rfl, (by intro h; cases h), h⟩) fun e2 => ?_⟩
    refine ⟨_, ldb h, Sat.buildRec h fun p0 w' h => ?_⟩
    obtain ⟨B1, hle1, h, hr3, _⟩ := h.fix
    refine Great_ok h hr3 rfl (by simp) fun w' h => ⟨_, rfl, Br.bool (fun e => ⟨_, rfl, (by intro h; cases h), h.thaw hle1⟩) fun e3 => ?_⟩
    refine Br.eq (fun e => ⟨_, rfl, (by intro h; cases h), h.thaw hle1⟩) fun e4 => ?_
    have hlen := (great_false e1).1
    refine All_ok h (hr1.mono hle1) hm1 (by omega) fun w' h => ⟨_, rfl, Br.not (Br.bool (fun e5 => ?_) fun e => ⟨_, rfl, (by intro h; cases h), h.thaw hle1⟩)⟩
    refine ⟨_, ldb h, RGood13_ok h fun w' h => ⟨_, rfl, _, rfl, fun e => ⟨e1, e2, fun hs => e4 (by rw [hm1, hs]; rfl), e5, e⟩, h.thaw hle1⟩⟩
  rintro b6 w8 ⟨b, hb, hbc, h⟩
  obtain rfl : b6 = b := by simpa using hb
  refine Br.bool (fun e => hk _ h.tail) fun e => ?_
  obtain ⟨e1, e2, e3, e4, e5⟩ := hbc e
  obtain ⟨g1, _⟩ := great_false e1
  obtain ⟨g2, _⟩ := great_false e2
  have hbadL : goodL (ch ++ [bad]) = false := by simp [goodL, e5]
  refine place_ok18 h fun pb vb wb db mb w' h => ⟨_, rfl, ?_⟩
  have hat := start_at (n := 100) (l := 1099511627776) (m := 1099511627776) (by omega) (by omega)
  refine apopen_ok (S := ⟨⟨[], []⟩, ⟨key0, mxI 1099511627776 0, [], 0⟩, Dk.new 100, Mt.new 1099511627776⟩) h G hat (by omega) fun S L kb p c w' hat _ _ h => ⟨_, _, _, _, rfl, ?_⟩
  replace h := (h.pull 6).tail
  generalize hR : ({ (⟨Int.tdiv 100 2, mxI 1099511627776 0, mxI 1099511627776 0, 0, 0, false, 0, 0, []⟩ : Rf) with fresh := false } : Rf) = R at *
  have hRc : R.count = 0 := by rw [← hR]
  have hRl : R.list.length = 0 := by rw [← hR]; rfl
  refine Jn.by (fun vs w => ∃ b, vs = [.bool b] ∧ ∃ S' L' R', (b = false → At S' L' R' 1000 ∧ R'.list = st ∧ R'.count = 1) ∧ Op B w pb kb vb wb db mb S' L' (bk a0 t_api_Record bad.val.cells.toList :: F)) ?_ ?_
  · refine Br.f (NN.some ⟨_, ld1 sc_pkeeper h.bk rfl, NN.some ?_⟩)
    obtain ⟨lb, h⟩ := Sat.kOpen (h.pull 1)
    have h := h.pull 2
    refine ⟨_, ld1 sc_plog (h.pull 1).bk rfl, ?_⟩
    obtain ⟨fs, a, s, hi, hl, hf⟩ := hat.rel
    have hm := hat.made
    refine oturn_ok h G hi hl hf hat.down hr1 hm1 hc1 (by omega) (by rw [hat.waits]; omega) (by omega) (by omega) fun S' L' e w' ho kf hu h => ⟨_, rfl, ?_⟩
    obtain ⟨he, hat⟩ := hat.turned ho kf
    refine ⟨_, rfl, S', L', (R.turn st).1, fun hb => ?_, ?_⟩
    · have h0 : (R.turn st).2 = 0 := by
        have : ¬ e ≠ 0 := fun hne => by
          have : neI e 0 = true := by simp [neI, hne]
          rw [this] at hb; cases hb
        omega
      exact ⟨hat.more (by omega), (Rf.turn_list h0).1, by rw [Rf.turn_count h0, hRc]; rfl⟩
    · exact (Sat.kShut lb ((h.pull 2).pull 2)).pull 1
  rintro b7 w12 ⟨b, hb, S', L', R', hbc, h⟩
  obtain rfl : b7 = b := by simpa using hb
  refine Br.bool (fun e => hk _ h.tail.tail.tail.tail.tail.tail.tail) fun e => ?_
  obtain ⟨hat, hlist, hcnt⟩ := hbc e
  clear hbc hb
  refine NN.some ⟨_, ld1 sc_pmeter h.bk rfl, NN.some ⟨_, ld_count (h.pull 5), ?_⟩⟩
  obtain ⟨fs, a, s, hi, hl, hf⟩ := hat.rel
  have hcM : S'.M.count = 1 := by rw [← hl.count, hcnt]
  have hkp : ∀ {B' : Bs} {w' : World} {X : List HP}, Sat B' w' (bk pb t_coffretlaw18_Place (pcells vb db mb (at0 kb)) :: X) → (loadVar t_p_snap_Keeper (Addr.add ⟨pb, 0, none⟩ 3)).run P w' = .ok (.pointer (at0 kb)) w' := fun h => ld1 sc_pkeeper h.bk rfl
  rw [hcM]
  -- a save that is refused
  have ref : ∀ {B1 : Bs} {w' : World} {q : Option Addr} {m c n : Nat} {rs : List Rec} {S : St} {L : Lg} {K' : Value → World → Prop}, B.le B1 → Op B1 w' pb kb vb wb db mb S L (bk a0 t_api_Record bad.val.cells.toList :: F) → At S L R' n → n ≤ 100000 → Rd B1 q (rcells rs) → m = rs.length → rs.length ≤ 1000 → goodL rs = false →
      (∀ S' L' w', At S' L' R' (n + 12000) → Op B1 w' pb kb vb wb db mb S' L' (bk a0 t_api_Record bad.val.cells.toList :: F) → K' (.int .i64 1) w') → Cs P f_snap_Keeper_Save #[.pointer (at0 kb), .slice q1 m1 c1, .slice q m c] w' K' := by
    intro B1 w' q m c n rs S L K' hle h hat hn hr hm hl hg hk'
    obtain ⟨fs, a, s, hi, hl', hf⟩ := hat.rel
    have hmd := hat.made
    have hsq := hat.seq
    refine osave_ok h (G.mono hle) hi hl' hf hat.down (hr1.mono hle) hm1 hc1 (by omega) hr hm hl (by rw [hat.waits]; omega) (by omega) (by omega) (by omega) fun S' L' e w' ho kf hu h => ?_
    obtain ⟨he, hat⟩ := hat.saved ho kf
    rw [Rf.save_bad hg] at he hat
    rw [he]
    exact hk' S' L' w' (hat.more (by omega)) h
  refine Jn.by (fun vs w => vs = [.bool false] ∧ ∃ S L, At S L R' 30000 ∧ Op B w pb kb vb wb db mb S L (bk a0 t_api_Record bad.val.cells.toList :: F)) ?_ ?_
  · intro w13 ha
    have h := h.alk ha
    refine NN.some ⟨_, hkp h, ?_⟩
    refine ref (rs := []) (Bs.le.refl B) h hat (by omega) (.inl rfl) rfl (by simp) rfl fun S2 L2 w14 hat h => ⟨_, rfl, Br.f ?_⟩
    refine NN.some ⟨_, hkp h, _, ldb (h.pull 6), ?_⟩
    have fin : ∀ {B1 : Bs} {w' : World} {q : Option Addr} {c : Nat}, B.le B1 → Op B1 w' pb kb vb wb db mb S2 L2 (bk a0 t_api_Record bad.val.cells.toList :: F) → Rd B1 q (rcells (ch ++ [bad])) → Cs P f_snap_Keeper_Save #[.pointer (at0 kb), .slice q1 m1 c1, .slice q (ch ++ [bad]).length c] w' fun v13 w19 => ∃ n4, v13 = .int .i64 n4 ∧ Br (neI n4 1) ((fun vs w => vs = [Value.bool false] ∧ ∃ S L, At S L R' 30000 ∧ Op B w pb kb vb wb db mb S L (bk a0 t_api_Record bad.val.cells.toList :: F)) [.bool true] w19)
        (NN (at0 pb) fun a7 ↦ LdP P t_p_meter_Meter (Addr.add a7 2) w19 fun p12 ↦ NN p12 fun a8 ↦ LdI .i64 P t_int (Addr.add (Addr.add a8 0) 0) w19 fun n5 ↦ (fun vs w => vs = [Value.bool false] ∧ ∃ S L, At S L R' 30000 ∧ Op B w pb kb vb wb db mb S L (bk a0 t_api_Record bad.val.cells.toList :: F)) [.bool (neI n5 1)] w19) := by
      intro B1 w' q c hle h hr
      refine ref (rs := ch ++ [bad]) hle h hat (by omega) hr rfl (by simp; omega) hbadL fun S3 L3 w14 hat h => ⟨_, rfl, Br.f ?_⟩
      refine NN.some ⟨_, ld1 sc_pmeter h.bk rfl, NN.some ⟨_, ld_count (h.pull 5), ?_⟩⟩
      obtain ⟨fs, a, s, hi, hl', hf⟩ := hat.rel
      have hc3 : S3.M.count = 1 := by rw [← hl'.count, hcnt]
      rw [hc3]
      exact ⟨rfl, S3, L3, hat.more (by omega), h.thaw hle⟩
    refine ⟨?_, ?_⟩
    · refine Sat.buildNone h fun p8 w15 h => ⟨⟨ldb (h.pull 7), hkp (h.pull 1), trivial⟩, ?_, ?_⟩
      · refine Sat.appendRecs (xs := []) h rfl hr2 hm2 (by simp; omega) fun p9 c9 w16 h => ⟨⟨ldb (h.pull 7), hkp (h.pull 1), trivial⟩, ?_⟩
        refine Sat.buildRec h fun p10 w17 h => ?_
        obtain ⟨B1, hle1, h, hr3, _⟩ := h.fix
        refine ⟨⟨hkp (h.pull 1), trivial⟩, ?_⟩
        refine Sat.appendRecs h rfl hr3 rfl (by simp; omega) fun p11 c11 w18 h => ?_
        obtain ⟨B2, hle2, h, hr4, _⟩ := h.fix
        exact ⟨⟨hkp h, trivial⟩, fin (hle1.trans hle2) h hr4⟩
      · refine Sat.buildRec h fun p10 w17 h => ?_
        obtain ⟨B1, hle1, h, hr3, _⟩ := h.fix
        refine ⟨⟨hkp (h.pull 1), trivial⟩, ?_⟩
        refine Sat.appendRecs (xs := []) h rfl (hr2.mono hle1) hm2 (by simp; omega) fun p9 c9 w16 h => ⟨⟨hkp (h.pull 1), trivial⟩, ?_⟩
        refine Sat.appendRecs h rfl hr3 rfl (by simp; omega) fun p11 c11 w18 h => ?_
        obtain ⟨B2, hle2, h, hr4, _⟩ := h.fix
        exact ⟨⟨hkp h, trivial⟩, fin (hle1.trans hle2) h hr4⟩
    · refine Sat.buildRec h fun p10 w17 h => ?_
      obtain ⟨B1, hle1, h, hr3, _⟩ := h.fix
      refine ⟨⟨hkp h, trivial⟩, ?_⟩
      refine Sat.buildNone h fun p8 w15 h => ⟨⟨hkp (h.pull 1), trivial⟩, ?_⟩
      refine Sat.appendRecs (xs := []) h rfl (hr2.mono hle1) hm2 (by simp; omega) fun p9 c9 w16 h => ⟨⟨hkp (h.pull 1), trivial⟩, ?_⟩
      refine Sat.appendRecs h rfl hr3 rfl (by simp; omega) fun p11 c11 w18 h => ?_
      obtain ⟨B2, hle2, h, hr4, _⟩ := h.fix
      exact ⟨⟨hkp h, trivial⟩, fin (hle1.trans hle2) h hr4⟩
  rintro b8 w29 ⟨hb, S4, L4, hat, h⟩
  obtain rfl : b8 = false := by simpa using hb
  refine Br.f ?_
  have h := (h.pull 1).tail
  refine apopen_ok h G hat.zero (by omega) fun S5 L5 kb2 p c w' hat _ _ h => ⟨_, _, _, _, rfl, ?_⟩
  obtain ⟨B5, hle5, h, hr5, _⟩ := (h.pull 6).fix
  rw [hlist] at hr5
  have hfit : ∀ r ∈ st, r.fit := fun r hr => good_fit (List.all_eq_true.1 e4 r hr)
  rw [hlist]
  refine Jn.dupB (Br.t (Same_ok h hr5 rfl (hr1.mono hle5) hm1 hfit hfit (by omega) fun c w' hc h => ⟨_, rfl, _, rfl, ?_⟩))
  rw [hc.2 rfl]
  exact hk _ (h.thaw hle5).tail.tail.tail.tail.tail.tail.tail

end Go.Dv

/-! SnapState -/
set_option maxRecDepth 20000
namespace Go.Dv
open Go Go.Sh Go.Sl

variable {B : Bs} {w : World} {F : List HP} {K : Value → World → Prop}

theorem Rf.commit_list {R : Rf} {rs : List Rec} : (R.commit rs).2 = 0 → (R.commit rs).1.list = R.list ++ rs := by
  unfold Rf.commit
  split
  · intro h; simp at h
  · split
    · intro h; simp at h
    · split
      · intro h; simp at h
      · split
        · intro h; simp at h
        · intro _; rfl
theorem Rf.commit_epoch {R : Rf} {rs : List Rec} : (R.commit rs).1.epoch = R.epoch := by
  unfold Rf.commit
  split
  · rfl
  · split
    · rfl
    · split
      · rfl
      · split
        · rfl
        · rfl

theorem Rf.save_epoch {R : Rf} {st ch : List Rec} (h : (R.save st ch).2.1 = 0) : (R.save st ch).1.epoch = R.epoch ∨ (R.save st ch).1.list = st ++ ch := by
  unfold Rf.save at h ⊢
  split at h
  · rename_i h1
    rw [if_pos h1]
    exact .inl Rf.commit_epoch
  · rename_i h1
    rw [if_neg h1]
    split at h
    · simp at h
    · rename_i h2
      rw [if_neg h2]
      split at h
      · rename_i h3
        exact absurd h h3
      · rename_i h3
        rw [if_neg h3]
        simp only at h
        refine .inr ?_
        have h3 : ((R.commit ch).1.turn st).2 = 0 := by omega
        rw [Rf.commit_list h, (Rf.turn_list h3).1]

theorem ld_kp {pb vb db mb kb : Nat} (h : Sat B w (bk pb t_coffretlaw18_Place (pcells vb db mb (at0 kb)) :: F)) : (loadVar t_p_snap_Keeper (Addr.add ⟨pb, 0, none⟩ 3)).run P w = .ok (.pointer (at0 kb)) w := ld1 sc_pkeeper h.bk rfl

/-- The epoch of a place's keeper. -/
theorem oepoch {pb kb vb wb db mb : Nat} {S : St} {L : Lg} {Q : Int → World → Prop} (h : Op B w pb kb vb wb db mb S L F) (hk : Q L.epoch w) :
    NN (at0 pb) fun a2 ↦ LdP P t_p_snap_Keeper (Addr.add a2 3) w fun p4 ↦ NN p4 fun a3 ↦ LdP P t_p_commit_Log (Addr.add a3 0) w fun p5 ↦ Cs P f_commit_Log_Epoch #[Value.pointer p5] w fun v8 w11 ↦ ∃ n3, v8 = .int .i64 n3 ∧ Q n3 w11 := by
  refine NN.some ⟨_, ld_kp h, NN.some ?_⟩
  obtain ⟨lb, h⟩ := Sat.kOpen (h.pull 1)
  refine ⟨_, ld1 sc_plog h.bk rfl, ?_⟩
  exact Epoch_ok (h.pull 1) ⟨_, rfl, hk⟩

/-- A place is opened, and a turn follows. -/
theorem openTurn {pb vb wb db mb n : Nat} {k : Option Addr} {S : St} {R : Rf} {q : Option Addr} {m c : Nat} {st : List Rec} {Rest : Bool → World → Prop}
    (h : Sat B w (bk pb t_coffretlaw18_Place (pcells vb db mb k) :: vlt vb wb S.V :: idl wb S.I :: dsk db S.D :: mtr mb db S.M :: F)) (G : Gl B) (hat : At0 S R n) (hn : n + R.list.length < 1000000000) (hc : R.count < 900000) (hr : Rd B q (rcells st)) (hm : m = st.length) (hcap : st.length ≤ c) (hl : st.length ≤ 1000)
    (hk : ∀ b S' L' kb w', (b = false → At S' L' (({ R with fresh := false } : Rf).turn st).1 (n + 2 + R.list.length + 5 * st.length) ∧ (({ R with fresh := false } : Rf).turn st).2 = 0 ∧ (S.V.used = [] → S.V.clash = 0 → Uq S' L')) → ((({ R with fresh := false } : Rf).turn st).2 = 0 → b = false) → Op B w' pb kb vb wb db mb S' L' F → Rest b w') :
    Cs P f_coffretlaw18_Place_open #[Value.pointer (at0 pb)] w fun v6 w7 ↦ ∃ p1 l0 l1 n0, v6 = Value.tuple #[Value.slice p1 l0 l1, .int .i64 n0] ∧
      Jn (fun K2 ↦ Br (neI n0 0) (K2 [Value.bool true] w7) (NN (at0 pb) fun a0 ↦ LdP P t_p_snap_Keeper (Addr.add a0 3) w7 fun p2 ↦ NN p2 fun a1 ↦ LdP P t_p_commit_Log (Addr.add a1 0) w7 fun p3 ↦ Cs P f_commit_Log_Turn #[Value.pointer p3, Value.slice q m c] w7 fun v7 w8 ↦ ∃ n1, v7 = .int .i64 n1 ∧ K2 [Value.bool (neI n1 0)] w8))
        fun K3 ↦ ∀ (b6 : Bool) (w9 : World), K3 [Value.bool b6] w9 → Rest b6 w9 := by
  refine apopen_ok h G hat (by omega) fun S' L' kb p c' w' hat _ hVV h => ⟨_, _, _, _, rfl, ?_⟩
  replace h := (h.pull 6).tail
  refine Jn.dupB (Br.f (NN.some ⟨_, ld_kp h, NN.some ?_⟩))
  obtain ⟨lb, h⟩ := Sat.kOpen (h.pull 1)
  replace h := h.pull 2
  refine ⟨_, ld1 sc_plog (h.pull 1).bk rfl, ?_⟩
  obtain ⟨fs, a, s, hi, hl', hf⟩ := hat.rel
  have hmd := hat.made
  refine oturn_ok h G hi hl' hf hat.down hr hm hcap (by omega) (by rw [hat.waits]; omega) (by omega) hc fun S'' L'' e w' ho kf hu h => ⟨_, rfl, _, rfl, ?_⟩
  obtain ⟨he, hat⟩ := hat.turned ho kf
  refine hk _ S'' L'' kb w' (fun hb => ?_) (fun h0 => by rw [he, h0]; rfl) ((Sat.kShut lb ((h.pull 2).pull 2)).pull 1)
  have h0 : e = 0 := by
    by_cases h0 : e = 0
    · exact h0
    · have : neI e 0 = true := by simp [neI, h0]
      rw [this] at hb; cases hb
  refine ⟨hat.more (by omega), by rw [← he]; exact h0, fun hv1 hv2 => hu h0 ⟨?_, by rw [hVV]; exact hv2⟩⟩
  rw [hVV]
  intro p hp
  rw [hv1] at hp; cases hp

/-- What both statements ask first. -/
theorem asks_ok {q1 q2 : Option Addr} {m1 c1 m2 c2 : Nat} {st ch : List Rec} {x0 x3 k : Int} {Rest : Bool → World → Prop} (h : Sat B w F) (hr1 : Rd B q1 (rcells st)) (hm1 : m1 = st.length) (hl1 : st.length < 9223372036854775808) (hr2 : Rd B q2 (rcells ch)) (hm2 : m2 = ch.length) (hl2 : ch.length < 9223372036854775808) (hk20 : k ≤ 1000)
    (hk : ∀ b w', (b = false → (2 ≤ x0 ∧ x0 ≤ 100) ∧ (1 ≤ x3 ∧ x3 ≤ 60) ∧ ((st.length : Int) ≤ k ∧ (ch.length : Int) ≤ k) ∧ goodL st = true ∧ goodL ch = true) → Sat B w' F → Rest b w') :
    Jn (fun K0 ↦ Br (ltI x0 2) (K0 [Value.bool true] w) (Br (gtI x0 100) (K0 [Value.bool true] w) (Br (ltI x3 1) (K0 [Value.bool true] w) (Br (gtI x3 60) (K0 [Value.bool true] w)
      (Cs P f_coffretref13_Great #[Value.slice q1 m1 c1, .int .i64 k] w fun v1 w1 ↦ ∃ b1, v1 = Value.bool b1 ∧ Br b1 (K0 [Value.bool true] w1)
        (Cs P f_coffretref13_Great #[Value.slice q2 m2 c2, .int .i64 k] w1 fun v2 w2 ↦ ∃ b2, v2 = Value.bool b2 ∧ Br b2 (K0 [Value.bool true] w2)
          (Br (eqI (Nat.cast m1) 0) (K0 [Value.bool true] w2) (Br (eqI (Nat.cast m2) 0) (K0 [Value.bool true] w2) (Cs P f_coffretref13_All #[Value.slice q1 m1 c1] w2 fun v3 w3 ↦ ∃ b3, v3 = Value.bool b3 ∧ Br (!b3) (K0 [Value.bool true] w3)
            (Cs P f_coffretref13_All #[Value.slice q2 m2 c2] w3 fun v4 w4 ↦ ∃ b4, v4 = Value.bool b4 ∧ K0 [Value.bool !b4] w4)))))))))) fun K1 ↦ ∀ (b5 : Bool) (w5 : World), K1 [Value.bool b5] w5 → Rest b5 w5 := by
  refine Jn.dupB ?_
  have no : ∀ w', Sat B w' F → ∃ b, [Value.bool true] = [Value.bool b] ∧ Rest b w' := fun w' h => ⟨_, rfl, hk true w' (fun e => by cases e) h⟩
  refine Br.lt (fun _ => no _ h) fun a1 => Br.gt (fun _ => no _ h) fun a2 => Br.lt (fun _ => no _ h) fun a3 => Br.gt (fun _ => no _ h) fun a4 => ?_
  refine Great_ok h hr1 hm1 hl1 fun w' h => ⟨_, rfl, Br.bool (fun _ => no _ h) fun e1 => ?_⟩
  refine Great_ok h hr2 hm2 hl2 fun w' h => ⟨_, rfl, Br.bool (fun _ => no _ h) fun e2 => ?_⟩
  refine Br.eq (fun _ => no _ h) fun e3 => Br.eq (fun _ => no _ h) fun e4 => ?_
  obtain ⟨g1, _⟩ := great_false e1
  obtain ⟨g2, _⟩ := great_false e2
  refine All_ok h hr1 hm1 (by omega) fun w' h => ⟨_, rfl, Br.not (Br.bool (fun e5 => ?_) fun _ => no _ h)⟩
  refine All_ok h hr2 hm2 (by omega) fun w' h => ⟨_, rfl, _, rfl, hk _ w' (fun e6 => ⟨⟨a1, a2⟩, ⟨a3, a4⟩, ⟨g1, g2⟩, ?_, ?_⟩) h⟩
  · have : st ≠ [] := fun e => e3 (by rw [hm1, e]; rfl)
    simp [goodL, this, e5]
  · have : ch ≠ [] := fun e => e4 (by rw [hm2, e]; rfl)
    have e6 : ch.all Rec.good = true := by simpa using e6
    simp [goodL, this, e6]

theorem State_ok {x0 x3 : Int} {q1 q2 : Option Addr} {m1 c1 m2 c2 : Nat} {st ch : List Rec} (h : Sat B w F) (G : Gl B) (hr1 : Rd B q1 (rcells st)) (hm1 : m1 = st.length) (hc1 : st.length ≤ c1) (hl1 : st.length < 9223372036854775808) (hr2 : Rd B q2 (rcells ch)) (hm2 : m2 = ch.length) (hl2 : ch.length < 9223372036854775808)
    (hk : ∀ w', Sat B w' F → K (.bool true) w') : Cs P f_coffretlaw18_SnapState #[.int .i64 x0, .slice q1 m1 c1, .slice q2 m2 c2, .int .i64 x3] w K := by
  refine ok_coffretlaw18_SnapState _ _ _ _ _ _ _ _ ?_
  unfold vc_coffretlaw18_SnapState
  refine alive_ok h G fun w' h => ⟨_, rfl, Br.f ?_⟩
  refine asks_ok h hr1 hm1 hl1 hr2 hm2 hl2 (by omega) fun b w' hb h => ?_
  refine Br.bool (fun _ => hk _ h) fun e => ?_
  obtain ⟨⟨a1, a2⟩, ⟨a3, a4⟩, ⟨g1, g2⟩, gs, gc⟩ := hb e
  clear hb
  refine place_ok18 h fun pb vb wb db mb w' h => ⟨_, rfl, ?_⟩
  have hat := start_at (n := x0) (l := 1099511627776) (m := 1099511627776) (by omega) (by omega)
  have off : ∀ {w' : World} {kb : Nat} {S : St} {L : Lg}, Op B w' pb kb vb wb db mb S L F → Sat B w' F := fun h => h.tail.tail.tail.tail.tail.tail
  refine openTurn (S := ⟨⟨[], []⟩, ⟨key0, mxI 1099511627776 0, [], 0⟩, Dk.new x0, Mt.new 1099511627776⟩) h G hat (by simp) (by show (0 : Int) < _; omega) hr1 hm1 hc1 (by omega) fun b S L kb w' hbt _ h => ?_
  refine Br.bool (fun _ => hk _ (off h)) fun e => ?_
  obtain ⟨hat, h0, _⟩ := hbt e
  clear hbt
  have hcnt := Rf.turn_count h0
  generalize (Rf.turn _ st).1 = R at *
  simp only at hcnt
  have hcnt1 : R.count = 1 := by rw [hcnt]; rfl
  clear hcnt h0
  refine Lp.up x3.toNat (fun i vs w => vs = [.int .i64 (i : Int)] ∧ ∃ S L R, At S L R (1000 * (i + 1)) ∧ R.count ≤ 3 * i + 1 ∧ Op B w pb kb vb wb db mb S L F) ⟨rfl, S, L, R, hat.more (by simp; omega), by omega, h⟩ fun J nx cs => ?_
  clear hat hcnt1 h
  intro n2 l2 w10 hJ
  obtain ⟨i, hi, rfl, hv, S, L, R, hat, hcnt, h⟩ := cs _ _ _ hJ
  obtain rfl : n2 = (i : Int) := by simpa using hv
  refine Br.lt (fun hlt => ?_) fun hge => hk _ (off h)
  refine oepoch h ?_
  refine NN.some ⟨_, ld_kp h, ?_⟩
  obtain ⟨fs, a, s, hi', hl, hf⟩ := hat.rel
  have hmd := hat.made
  have hsq := hat.seq
  refine osave_ok h G hi' hl hf hat.down hr1 hm1 hc1 (by omega) hr2 hm2 (by omega) (by rw [hat.waits]; omega) (by omega) (by omega) (by omega) fun S' L' e w' ho kf hu h => ⟨_, rfl, ?_⟩
  have hepL : L.epoch = R.epoch := by rw [hf.epoch, hl.epoch]
  obtain ⟨he, hat⟩ := hat.saved ho kf
  clear ho kf hi' hl hf
  refine Br.ne (fun _ => hk _ (off h)) fun e0 => ?_
  refine oepoch h ?_
  have hup := Rf.save_up (R := R) (st := st) (ch := ch)
  obtain ⟨fs', a', s', hi', hl', hf'⟩ := hat.rel
  have hepL' : L'.epoch = (R.save st ch).1.epoch := by rw [hf'.epoch, hl'.epoch]
  have hsv := Rf.save_epoch (R := R) (st := st) (ch := ch) (by rw [← he]; exact e0)
  refine Br.eq (fun _ => ?_) fun hne => ?_
  · refine nx i _ _ _ (by omega) rfl ⟨?_, S', L', _, hat.more (by omega), by omega, h⟩
    rw [w64 (by omega) (by omega)]
    rfl
  have hlist : (R.save st ch).1.list = st ++ ch := by
    rcases hsv with hsv | hsv
    · exact absurd (by rw [hepL', hsv, hepL]) hne
    · exact hsv
  replace h := (h.pull 1).tail
  refine apopen_ok h G hat.zero (by omega) fun S5 L5 kb2 p c w' _ _ _ h => ⟨_, _, _, _, rfl, ?_⟩
  obtain ⟨B5, hle5, h, hr5, _⟩ := (h.pull 6).fix
  rw [hlist] at hr5
  have hfit : ∀ r ∈ st ++ ch, r.fit := fun r hr => by
    rcases List.mem_append.1 hr with hr | hr
    · exact good_fit ((goodL_all gs).2 r hr)
    · exact good_fit ((goodL_all gc).2 r hr)
  rw [hlist]
  refine Jn.dupB (Br.t ?_)
  refine Sat.buildNone h fun p10 w15 h => ?_
  refine Sat.appendRecs (xs := []) h rfl (hr1.mono hle5) hm1 (by simp; omega) fun p11 c11 w16 h => ?_
  refine Sat.appendRecs h rfl (hr2.mono hle5) hm2 (by simp; omega) fun p12 c12 w17 h => ?_
  obtain ⟨B6, hle6, h, hr6, _⟩ := h.fix
  refine Same_ok h (hr5.mono hle6) rfl hr6 rfl hfit (by simpa using hfit) (by simp; omega) fun c w' hc h => ⟨_, rfl, _, rfl, ?_⟩
  rw [hc.2 (by simp)]
  exact hk _ ((h.thaw hle6).thaw hle5).tail.tail.tail.tail.tail.tail

end Go.Dv

/-! SnapGoes -/
set_option maxRecDepth 20000
namespace Go.Dv
open Go Go.Sh Go.Sl

variable {B : Bs} {w : World} {F : List HP} {K : Value → World → Prop}

structure GoR (R : Rf) (st ch : List Rec) (i : Nat) : Prop where
  fresh : R.fresh = true
  room : ((total (split st) + fsect ch : Nat) : Int) ≤ R.half
  limit : R.limit = 1099511627776
  most : R.most = 1099511627776
  count : 0 ≤ R.count ∧ R.count ≤ 3 * i + 1
  epoch : 0 ≤ R.epoch ∧ R.epoch ≤ i + 1
  seq : 0 ≤ R.seq ∧ R.seq ≤ 1000 * (i + 1)
  used : 0 ≤ R.used
  first : i = 0 → R.list = st
  later : 0 < i → ∃ mid, R.list = st ++ mid ++ ch
  len : R.list.length ≤ 1000 * (i + 1)

theorem goes_save {R : Rf} {st ch : List Rec} {i : Nat} (h : GoR R st ch i) (hi : i < 60) (gs : goodL st = true) (gc : goodL ch = true) (hl1 : st.length ≤ 20) (hl2 : ch.length ≤ 20) (hsz : fsize ch ≤ 16384) : (R.save st ch).2.1 = 0 ∧ GoR (R.save st ch).1 st ch (i + 1) := by
  obtain ⟨h1, h2, h3, h4, h5, h6, h7, h8, h9, h10, h11⟩ := h
  by_cases hf : R.half < R.used + fsect ch
  · have hc : R.commit ch = (R, 7) := by
      unfold Rf.commit
      rw [if_neg (by rw [gc, h1]; simp), if_neg (by omega), if_neg (by omega), if_pos hf]
    have ht : R.turn st = ({ R with count := R.count + 1, epoch := R.epoch + 1, fresh := true, used := total (split st), seq := st.length, list := st }, 0) := by
      unfold Rf.turn
      rw [if_neg (by rw [gs]; simp), if_neg (by omega), if_neg (by omega)]
    have hc2 : (R.turn st).1.commit ch = ({ R with count := R.count + 1 + 1, epoch := R.epoch + 1, fresh := true, used := total (split st) + fsect ch, seq := st.length + ch.length, list := st ++ ch }, 0) := by
      rw [ht]
      unfold Rf.commit
      rw [if_neg (by rw [gc]; simp), if_neg (by omega), if_neg (by simp only; omega), if_neg (by simp only; omega)]
    have hs : R.save st ch = (((R.turn st).1.commit ch).1, ((R.turn st).1.commit ch).2, some (R.turn st).1) := by
      unfold Rf.save
      rw [hc, if_neg (by simp), if_neg (by simp only; omega)]
      simp only
      rw [ht, if_neg (by simp)]
    rw [hs, hc2]
    exact ⟨rfl, rfl, h2, h3, h4, by simp only; omega, by simp only; omega, by simp only; omega, by simp only; omega, fun h => by omega, fun _ => ⟨[], by simp⟩, by simp only [List.length_append]; omega⟩
  · have hc : R.commit ch = ({ R with count := R.count + 1, used := R.used + fsect ch, seq := R.seq + ch.length, list := R.list ++ ch }, 0) := by
      unfold Rf.commit
      rw [if_neg (by rw [gc, h1]; simp), if_neg (by omega), if_neg (by omega), if_neg hf]
    have hs : R.save st ch = ((R.commit ch).1, 0, none) := by
      unfold Rf.save
      rw [hc, if_pos ⟨by simp, by simp⟩]
    rw [hs, hc]
    refine ⟨rfl, h1, h2, h3, h4, by simp only; omega, by simp only; omega, by simp only; omega, by simp only; omega, fun h => by omega, fun _ => ?_, by simp only [List.length_append]; omega⟩
    rcases Nat.eq_zero_or_pos i with h0 | h0
    · exact ⟨[], by simp only; rw [h9 h0]; simp⟩
    · obtain ⟨mid, hm⟩ := h10 h0
      exact ⟨mid ++ ch, by simp only; rw [hm]; simp⟩

theorem Goes_ok {x0 x3 : Int} {q1 q2 : Option Addr} {m1 c1 m2 c2 : Nat} {st ch : List Rec} (h : Sat B w F) (G : Gl B) (hr1 : Rd B q1 (rcells st)) (hm1 : m1 = st.length) (hc1 : st.length ≤ c1) (hl1 : st.length < 9223372036854775808) (hr2 : Rd B q2 (rcells ch)) (hm2 : m2 = ch.length) (hl2 : ch.length < 9223372036854775808)
    (hk : ∀ w', Sat B w' F → K (.bool true) w') : Cs P f_coffretlaw18_SnapGoes #[.int .i64 x0, .slice q1 m1 c1, .slice q2 m2 c2, .int .i64 x3] w K := by
  refine ok_coffretlaw18_SnapGoes _ _ _ _ _ _ _ _ ?_
  unfold vc_coffretlaw18_SnapGoes
  refine alive_ok h G fun w' h => ⟨_, rfl, Br.f ?_⟩
  refine asks_ok h hr1 hm1 hl1 hr2 hm2 hl2 (by omega) fun b w' hb h => ?_
  refine Br.bool (fun _ => hk _ h) fun e => ?_
  obtain ⟨⟨a1, a2⟩, ⟨a3, a4⟩, ⟨g1, g2⟩, gs, gc⟩ := hb e
  clear hb
  have hss := good_small (goodL_all gs).2
  have hsc := good_small (goodL_all gc).2
  refine Sectors15_ok h hr2 hm2 hsc (by omega) fun w' h => ⟨_, rfl, ?_⟩
  refine Split15_ok h hr1 hm1 hss (by omega) fun B1 p c vs w2 hle1 h hrows => ⟨_, _, _, rfl, ?_⟩
  obtain ⟨B2, hle2, h, hrd, hvl⟩ := h.fix
  rw [Nat.mul_one] at hvl
  have hle12 := hle1.trans hle2
  have hps := split_facts (rs := st) fun r hr => by have := (good_spans ((goodL_all gs).2 r hr)).2.2.2.2.2; omega
  have hpl : ∀ p ∈ split st, fsect p ≤ 64 := fun p hp => by
    have := (hps.1 p hp).2
    unfold fsect; omega
  have htl := total_le17 hpl
  have hnsp := hps.2.2
  have hfc : fsect ch ≤ 100000000 := by
    have hsz := sizes_le hsc
    unfold fsect fsize
    have : (36 + 1048576) * ch.length ≤ (36 + 1048576) * 20 := Nat.mul_le_mul_left _ (by omega)
    omega
  refine Lp.up (split st).length (fun i vs w => vs = [.int .i64 ((fsect ch + total ((split st).take i) : Nat) : Int), .int .i64 i] ∧ Sat B2 w F) ⟨by simp [total], h⟩ fun J nx cs => ?_
  intro n4 n5 l2 w3 hJ
  obtain ⟨i, hi, rfl, hv4, h⟩ := cs _ _ _ hJ
  simp only [List.cons.injEq, Value.int.injEq, true_and, and_true] at hv4
  obtain ⟨rfl, rfl⟩ := hv4
  refine Br.lt (fun hlt => ?_) fun hge => ?_
  · have hlt : i < (split st).length := by omega
    obtain ⟨p', c', hpv, hpc, hpr⟩ := hrows.each i hlt (by omega)
    refine hrd.ix hlt (by omega) fun a hr' => ⟨p', (split st)[i].length, c', by rw [← hpv]; exact hr'.ld1 h sc_recs (by simp), ?_⟩
    have hmem := List.getElem_mem hlt
    have hsub : ∀ r ∈ (split st)[i], r ∈ st := fun r hr => by
      rw [← hps.2.1]
      exact List.mem_flatten.2 ⟨_, hmem, hr⟩
    have hlen : (split st)[i].length ≤ 1048576 := by
      have := (hps.1 _ hmem).2
      unfold fsize at this
      omega
    refine Sectors15_ok h (hpr.mono hle2) rfl (fun r hr => hss r (hsub r hr)) hlen fun w' h => ⟨_, rfl, ?_⟩
    refine nx i _ _ _ hlt rfl ⟨?_, h⟩
    have h1 := htl i
    have h2 := hpl _ hmem
    rw [w64 (by omega) (by omega), w64 (by omega) (by omega), total_take hlt]
    simp
    omega
  have hin : i = (split st).length := by omega
  rw [hin, List.take_length]
  have htl := htl (split st).length
  rw [List.take_length] at htl
  replace h := h.thaw hle12
  clear hrd hrows hvl hJ cs nx
  have ht2 : Int.tdiv x0 2 = x0 / 2 := Int.tdiv_eq_ediv_of_nonneg (by omega)
  refine Jn.by (fun vs w => ∃ b, vs = [.bool b] ∧ (b = false → ((total (split st) + fsect ch : Nat) : Int) ≤ Int.tdiv x0 2 ∧ fsize ch ≤ 16384) ∧ Sat B w F) ?_ ?_
  · refine ⟨by simp [Nz], ?_⟩
    rw [w64 (x := Int.tdiv x0 2) (by omega) (by omega)]
    refine Br.gt (fun _ => ⟨_, rfl, (by intro h; cases h), h⟩) fun hle => ?_
    refine Size15_ok h hr2 hm2 hsc (by omega) fun w' h => ⟨_, rfl, _, rfl, fun e => ⟨by omega, ?_⟩, h⟩
    simp only [gtI, decide_eq_false_iff_not] at e
    omega
  rintro b6 w11 ⟨b, hb, hbc, h⟩
  obtain rfl : b6 = b := by simpa using hb
  refine Br.bool (fun _ => hk _ h) fun e => ?_
  obtain ⟨hroom, hsize⟩ := hbc e
  clear hbc hb
  refine place_ok18 h fun pb vb wb db mb w' h => ⟨_, rfl, ?_⟩
  have hat := start_at (n := x0) (l := 1099511627776) (m := 1099511627776) (by omega) (by omega)
  have off : ∀ {w' : World} {kb : Nat} {S : St} {L : Lg}, Op B w' pb kb vb wb db mb S L F → Sat B w' F := fun h => h.tail.tail.tail.tail.tail.tail
  have hR0 : (Rf.turn ({ (⟨Int.tdiv x0 2, mxI 1099511627776 0, mxI 1099511627776 0, 0, 0, false, 0, 0, []⟩ : Rf) with fresh := false }) st) = (⟨Int.tdiv x0 2, 1099511627776, 1099511627776, 1, 1, true, total (split st), st.length, st⟩, 0) := by
    unfold Rf.turn
    have e1 : mxI 1099511627776 0 = 1099511627776 := by decide
    rw [if_neg (by rw [gs]; simp), if_neg (by simp only [e1]; omega), if_neg (by simp only; omega)]
    simp only [e1]
    rfl
  refine openTurn (S := ⟨⟨[], []⟩, ⟨key0, mxI 1099511627776 0, [], 0⟩, Dk.new x0, Mt.new 1099511627776⟩) h G hat (by simp) (by show (0 : Int) < _; omega) hr1 hm1 hc1 (by omega) fun b S L kb w' hbt hb0 h => ?_
  have hbf : b = false := hb0 (by rw [hR0])
  subst hbf
  refine Br.f ?_
  obtain ⟨hat, _, hq⟩ := hbt rfl
  have hu := hq rfl rfl
  rw [hR0] at hat
  clear hbt hb0 hq
  refine Lp.up x3.toNat (fun i vs w => vs = [.int .i64 (i : Int)] ∧ ∃ S L R, At S L R (2000 * (i + 1)) ∧ GoR R st ch i ∧ Uq S L ∧ Op B w pb kb vb wb db mb S L F) ⟨rfl, S, L, _, hat.more (by simp; omega), ⟨rfl, by simp only; omega, rfl, rfl, by simp, by simp, by simp only; omega, by simp only; omega, fun _ => rfl, fun h => by omega, by simp only; omega⟩, hu, h⟩ fun J nx cs => ?_
  clear hat hu h hR0
  intro n2 l2 w10 hJ
  obtain ⟨i, hi, rfl, hv, S, L, R, hat, hgo, hu, h⟩ := cs _ _ _ hJ
  obtain rfl : n2 = (i : Int) := by simpa using hv
  have hmd := hat.made
  have hsq := hat.seq
  have hgc := hgo.count
  refine Br.lt (fun hlt => ?_) fun hge => ?_
  · refine NN.some ⟨_, ld_kp h, ?_⟩
    obtain ⟨fs, a, s, hi', hl, hf⟩ := hat.rel
    refine osave_ok h G hi' hl hf hat.down hr1 hm1 hc1 (by omega) hr2 hm2 (by omega) (by rw [hat.waits]; omega) (by omega) (by omega) (by omega) fun S' L' e w' ho kf hu' h => ⟨_, rfl, ?_⟩
    obtain ⟨he, hat⟩ := hat.saved ho kf
    obtain ⟨z1, z2⟩ := goes_save hgo (by omega) gs gc (by omega) (by omega) hsize
    rw [z1] at he
    subst he
    refine Br.f (nx i _ _ _ (by omega) rfl ⟨?_, S', L', _, hat.more (by omega), z2, hu' rfl hu, h⟩)
    rw [w64 (by omega) (by omega)]
    rfl
  have hin : i = x3.toNat := by omega
  obtain ⟨mid, hlist⟩ := hgo.later (by omega)
  have hll := hgo.len
  replace h := (h.pull 1).tail
  refine apopen_ok h G hat.zero (by omega) fun S5 L5 kb2 p c w' hat5 _ hV5 h => ⟨_, _, _, _, rfl, ?_⟩
  have hcap := Sat.bufCap (h.pull 6)
  obtain ⟨B5, hle5, h, hr5, _⟩ := (h.pull 6).fix
  have hlen : R.list.length = st.length + mid.length + ch.length := by rw [hlist]; simp [Nat.add_assoc]
  have hfit1 : ∀ r ∈ st, r.fit := fun r hr => good_fit ((goodL_all gs).2 r hr)
  have hfit2 : ∀ r ∈ ch, r.fit := fun r hr => good_fit ((goodL_all gc).2 r hr)
  have hrl : Rd B5 p (rcells st ++ rcells (mid ++ ch)) := by
    rw [← rcells_app, ← List.append_assoc, ← hlist]; exact hr5
  have hrr : Rd B5 p (rcells (st ++ mid) ++ rcells ch) := by
    rw [← rcells_app, ← hlist]; exact hr5
  refine Jn.dupB (Br.t (Br.ge (fun _ => ?_) fun hlt => ?_))
  · refine DoL.part el_recs (bounds_h (j := (m1 : Int)) (by omega) (by omega)) ?_
    refine Same_ok (xs := st) (bs := st) h (Rd.left (m := c) (a := 0 * 6) hrl rfl) (by simp; omega) (hr1.mono hle5) hm1 hfit1 hfit1 (by omega) fun cc w' hcc h => ⟨_, rfl, ?_⟩
    rw [hcc.2 rfl]
    refine Br.t ?_
    have hlo : IntKind.i64.wrap (((R.list.length : Nat) : Int) - ((m2 : Nat) : Int)) = ((st.length + mid.length : Nat) : Int) := by
      rw [w64 (by omega) (by omega)]; omega
    rw [hlo]
    refine DoL.part el_recs (bounds_l (i := ((st.length + mid.length : Nat) : Int)) (by omega) (by omega)) ?_
    simp only [Int.toNat_natCast]
    have hne : ch ≠ [] := (goodL_all gc).1
    have hpos : 0 < ch.length := List.length_pos_iff.2 hne
    refine Same_ok (xs := ch) (bs := ch) h (Rd.right (m := c) (a := st.length + mid.length) (a' := (st.length + mid.length) * 6) hrr (by rw [rcells_length]; simp) (fun e => by omega)) (by omega) (hr2.mono hle5) hm2 hfit2 hfit2 (by omega) fun cc w' hcc h => ⟨_, rfl, ?_⟩
    rw [hcc.2 rfl]
    refine Br.t (NN.some ⟨_, ld1 sc_pvault h.bk rfl, ?_⟩)
    refine Clashes_ok (h.pull 2) ⟨_, rfl, _, rfl, ?_⟩
    rw [hV5, hu.2]
    exact hk _ (h.thaw hle5).tail.tail.tail.tail.tail.tail
  · rw [w64 (by omega) (by omega)] at hlt
    omega

end Go.Dv

/-! steps -/
set_option maxRecDepth 20000
namespace Go.Dv
open Go Go.Sh Go.Sl

variable {B : Bs} {w : World} {F : List HP} {K : Value → World → Prop}

structure Sx where
  v0 : Value
  v1 : Value
  st : List Rec
  ch : List Rec
  fuse : Int
  keep : Int
  again : Bool
def Sx.cells (x : Sx) : List Value := [x.v0, x.v1, .int .i64 x.fuse, .int .u64 x.keep, .bool x.again]
theorem Sx.cells_length (x : Sx) : x.cells.length = 5 := rfl
def Sx.val (x : Sx) : Value := .agg x.cells.toArray
structure Sx.okB (B : Bs) (x : Sx) : Prop where
  st : RsOf B x.v0 x.st
  ch : RsOf B x.v1 x.ch
  fuse : x.fuse < 9223372036854775808
  stl : x.st.length < 9223372036854775808
  chl : x.ch.length < 9223372036854775808
theorem Sx.okB.mono {B B' : Bs} (hle : B.le B') {x : Sx} (h : x.okB B) : x.okB B' := ⟨h.st.mono hle, h.ch.mono hle, h.fuse, h.stl, h.chl⟩

theorem ones_Sx {B : Bs} {x : Sx} (h : x.okB B) : ones x.cells := by
  obtain ⟨p0, c0, e0, _⟩ := h.st
  obtain ⟨p1, c1, e1, _⟩ := h.ch
  intro v hv
  simp only [Sx.cells, List.mem_cons, List.not_mem_nil, or_false] at hv
  rcases hv with rfl | rfl | rfl | rfl | rfl
  · rw [e0]; rfl
  · rw [e1]; rfl
  · rfl
  · rfl
  · rfl

theorem ld_step {a : Addr} {xs : List Sx} {j : Nat} (h : Sat B w F) (hr : Rd B (some a) (xs.flatMap Sx.cells)) (hj : j < xs.length) : (loadVar t_coffretlaw18_Step (a.add (j * 5))).run P w = .ok xs[j].val w := by
  have := hr.ldA (n := 5) (j := j * 5) h wd_Step (by rw [flat_length Sx.cells_length]; omega)
  rw [flat_at Sx.cells_length xs j hj] at this
  exact this


theorem greatS_ok {q : Option Addr} {m mc : Nat} {xs : List Sx} (h : Sat B w F) (hr : Rd B q (xs.flatMap Sx.cells)) (hx : ∀ x ∈ xs, x.okB B) (hm : m = xs.length) (hl : xs.length < 9223372036854775808)
    (hk : ∀ c w', (c = false → xs.length ≤ 30 ∧ ∀ x ∈ xs, x.st.length + x.ch.length ≤ 150) → Sat B w' F → K (.bool c) w') : Cs P f_coffretlaw18_great #[.slice q m mc] w K := by
  subst hm
  refine ok_coffretlaw18_great _ _ _ ?_
  unfold vc_coffretlaw18_great
  refine Lp.up xs.length (fun i vs w => ∃ n : Nat, vs = [.int .i64 (n : Int), .int .i64 i] ∧ n ≤ 150 ∧ (∀ x ∈ xs.take i, x.st.length + x.ch.length ≤ 150) ∧ Sat B w F) ⟨0, rfl, by omega, by simp, h⟩ fun J nx cs => ?_
  intro n0 n1 l0 w1 hJ
  obtain ⟨i, hi, rfl, n, hv, hn, hg, h⟩ := cs _ _ _ hJ
  simp only [List.cons.injEq, Value.int.injEq, true_and, and_true] at hv
  obtain ⟨rfl, rfl⟩ := hv
  refine Br.lt (fun hlt => ?_) (fun hge => ?_)
  · have hlt : i < xs.length := by omega
    have hxi := hx _ (List.getElem_mem hlt)
    refine hr.ix hlt (by rw [flat_length Sx.cells_length]; omega) fun a hr' => ⟨_, ld_step h hr' hlt, ?_⟩
    refine h.var zr_Step fun b1 w' h => ?_
    refine Sat.stA (n := 5) (vs := xs[i].cells) h wd_Step rfl (ones_Sx hxi) (by simp) fun w' h => ?_
    have ec : List.take 0 [Value.slice none 0 0, .slice none 0 0, .int .i64 0, .int .u64 0, .bool false] ++ xs[i].cells ++ List.drop (0 + 5) [Value.slice none 0 0, .slice none 0 0, .int .i64 0, .int .u64 0, .bool false] = xs[i].cells := by simp
    rw [ec] at h
    obtain ⟨p0, c0, e0, z0, r0⟩ := hxi.st
    obtain ⟨p1, c1, e1, z1, r1⟩ := hxi.ch
    have l0' : ∀ {w' : World}, Sat B w' (bk b1 t_coffretlaw18_Step xs[i].cells :: F) → (loadVar t_sl_api_Record (Addr.add ⟨b1, 0, none⟩ 0)).run P w' = .ok (.slice p0 xs[i].st.length c0) w' := fun h => ld1 sc_recs h.bk (by rw [← e0]; rfl)
    have l1' : ∀ {w' : World}, Sat B w' (bk b1 t_coffretlaw18_Step xs[i].cells :: F) → (loadVar t_sl_api_Record (Addr.add ⟨b1, 0, none⟩ 1)).run P w' = .ok (.slice p1 xs[i].ch.length c1) w' := fun h => ld1 sc_recs h.bk (by rw [← e1]; rfl)
    refine ⟨_, _, _, l1' h, _, _, _, l0' h, ?_⟩
    refine Jn.by (fun vs w => ∃ b, vs = [.bool b] ∧ (b = false → xs[i].st.length ≤ 150 ∧ xs[i].ch.length ≤ 150 ∧ IntKind.i64.wrap ((n : Int) + IntKind.i64.wrap ((xs[i].ch.length : Int) + xs[i].st.length)) ≤ 150) ∧ Sat B w F) ?_ ?_
    · refine Br.gt (fun _ => ⟨_, rfl, (by intro h; cases h), h.tail⟩) fun hle => ?_
      refine ⟨_, _, _, l1' h, ?_⟩
      refine Great_ok h r1 rfl hxi.chl fun w' h => ⟨_, rfl, Br.bool (fun _ => ⟨_, rfl, (by intro h; cases h), h.tail⟩) fun g1 => ?_⟩
      refine ⟨_, _, _, l0' h, ?_⟩
      refine Great_ok h r0 rfl hxi.stl fun w' h => ⟨_, rfl, _, rfl, fun g2 => ?_, h.tail⟩
      have := (great_false g1).1
      have := (great_false g2).1
      exact ⟨by omega, by omega, hle⟩
    · rintro b2 w5 ⟨b, hb, hbc, h⟩
      obtain rfl : b2 = b := by simpa using hb
      refine Br.bool (fun _ => hk true _ (fun e => by cases e) h) fun e => ?_
      obtain ⟨k1, k2, k3⟩ := hbc e
      rw [w64 (x := (xs[i].ch.length : Int) + xs[i].st.length) (by omega) (by omega), w64 (by omega) (by omega)] at k3 ⊢
      refine nx i _ _ _ hlt rfl ⟨n + xs[i].ch.length + xs[i].st.length, ?_, by omega, ?_, h⟩
      · rw [w64 (by omega) (by omega)]
        simp
        omega
      · have ht : xs.take (i + 1) = xs.take i ++ [xs[i]] := by rw [List.take_add_one, List.getElem?_eq_getElem hlt]; rfl
        rw [ht]
        intro x hx'
        rcases List.mem_append.1 hx' with hx' | hx'
        · exact hg x hx'
        · rw [List.mem_singleton.1 hx']; omega
  · have hin : i = xs.length := by omega
    rw [hin, List.take_length] at hg
    refine hk _ _ (fun e => ⟨?_, hg⟩) h
    simp only [gtI, decide_eq_false_iff_not] at e
    omega

theorem SOpen_nil {d m : Option Addr} (h : Sat B w F) (hk : ∀ w', Sat B w' F → K (.tuple #[.pointer none, .slice none 0 0, .int .i64 2]) w') : Cs P f_snap_Open #[.pointer none, .pointer d, .pointer m] w K := by
  refine ok_snap_Open _ _ _ ?_
  unfold vc_snap_Open
  refine ok_commit_Open _ _ _ ?_
  unfold vc_commit_Open
  refine Jn.dupB (Br.t ⟨_, rfl, Br.t ?_⟩)
  exact ⟨_, _, _, _, _, rfl, Br.t (hk _ h)⟩

theorem Save_nil {p q : Option Addr} {m mc n nc : Nat} (hk : K (.int .i64 2) w) : Cs P f_snap_Keeper_Save #[.pointer none, .slice p m mc, .slice q n nc] w K := by
  refine ok_snap_Keeper_Save _ _ _ _ _ _ _ ?_
  unfold vc_snap_Keeper_Save
  exact Br.t hk

theorem Rf.turn_at2 {R : Rf} {rs : List Rec} {n : Nat} (h : R.at n) (hl : rs.length ≤ n) : (R.turn rs).1.at n := by
  have h1 := h.1
  have h2 := h.2
  unfold Rf.turn
  split
  · exact h
  · split
    · exact h
    · split
      · exact h
      · exact ⟨by simp only; omega, by simp only; omega⟩
theorem Rf.at.more {R : Rf} {n m : Nat} (h : R.at n) (hm : n ≤ m) : R.at m := ⟨by have := h.1; omega, by have := h.2; omega⟩
theorem Rf.ok.again {R : Rf} (h : R.ok) : Rf.ok { R with fresh := false } := ⟨h.half, h.limit, h.most, h.count, h.epoch, h.used, h.seq, h.list, h.good⟩

end Go.Dv

/-! SnapDoes -/
set_option maxRecDepth 20000
namespace Go.Dv
open Go Go.Sh Go.Sl

variable {B : Bs} {w : World} {F : List HP} {K : Value → World → Prop}

theorem neI_self (x : Int) : neI x x = false := by simp [neI]
theorem eqI_self (x : Int) : eqI x x = true := by simp [eqI]

theorem Save18_any {b m1 mc1 m2 mc2 : Nat} {R : Rf} {v : Value} {q1 q2 : Option Addr} {st ch : List Rec} (h : Sat B w (bk b t_coffretref17_Log (rfc R v) :: F)) (hR : R.ok) (hv : RsOf B v R.list) (hr1 : Rd B q1 (rcells st)) (hm1 : m1 = st.length) (hr2 : Rd B q2 (rcells ch)) (hm2 : m2 = ch.length) {n : Nat} (ha : R.at n) (hn : n + st.length + ch.length + ch.length ≤ 1000000)
    (hk : ∀ B' v' w' p, B.le B' → RsOf B' v' (R.save st ch).1.list → Sat B' w' (bk b t_coffretref17_Log (rfc (R.save st ch).1 v') :: F) → K (.tuple #[.int .i64 (R.save st ch).2.1, .pointer p]) w') :
    Cs P f_coffretref18_Save #[.pointer (at0 b), .slice q1 m1 mc1, .slice q2 m2 mc2] w K :=
  Save18_ok h hR hv hr1 hm1 hr2 hm2 ha hn (fun B' v' w' _ h1 h2 h3 => hk B' v' w' _ h1 h2 h3) fun B' v' w' _ _ _ _ h1 h2 _ h3 => hk B' v' w' _ h1 h2 (h3.pull 1).tail

theorem tick_good : (tickR 0).good = true := by decide

theorem Does_ok {x0 x1 x2 : Int} {q : Option Addr} {m c : Nat} {xs : List Sx} (h : Sat B w F) (G : Gl B) (hr : Rd B q (xs.flatMap Sx.cells)) (hx : ∀ x ∈ xs, x.okB B) (hm : m = xs.length) (hl : xs.length < 9223372036854775808) (hb0 : -9223372036854775808 ≤ x0 ∧ x0 < 9223372036854775808) (hb1 : x1 < 9223372036854775808) (hb2 : x2 < 9223372036854775808)
    (hk : ∀ w', Sat B w' F → K (.bool true) w') : Cs P f_coffretlaw18_SnapDoes #[.int .i64 x0, .int .i64 x1, .int .i64 x2, .slice q m c] w K := by
  refine ok_coffretlaw18_SnapDoes _ _ _ _ _ _ ?_
  unfold vc_coffretlaw18_SnapDoes
  refine alive_ok h G fun w' h => ⟨_, rfl, Br.f ?_⟩
  refine Jn.by (fun vs w => ∃ b, vs = [.bool b] ∧ (b = false → (0 ≤ x0 ∧ x0 ≤ 100) ∧ xs.length ≤ 30 ∧ ∀ x ∈ xs, x.st.length + x.ch.length ≤ 150) ∧ Sat B w F) ?_ ?_
  · refine greatS_ok h hr hx hm hl fun c w' hc h => ⟨_, rfl, Br.bool (fun _ => ⟨_, rfl, (by intro h; cases h), h⟩) fun e => ?_⟩
    refine Br.lt (fun _ => ⟨_, rfl, (by intro h; cases h), h⟩) fun e1 => ⟨_, rfl, fun e2 => ⟨⟨e1, ?_⟩, hc e⟩, h⟩
    simp only [gtI, decide_eq_false_iff_not] at e2
    omega
  rintro b2 w2 ⟨b, hb, hbc, h⟩
  obtain rfl : b2 = b := by simpa using hb
  refine Br.bool (fun _ => hk _ h) fun e => ?_
  obtain ⟨⟨a1, a2⟩, a3, a4⟩ := hbc e
  clear hbc hb
  refine place_ok18 h fun pb vb wb db mb w' h => ⟨_, rfl, ?_⟩
  refine New17_ok h hb0 fun rb w' h => ⟨_, rfl, ?_⟩
  replace h := (((((h.pull 5).pull 5).pull 5).pull 5).pull 5)
  have hat := start_at (n := x0) (l := x1) (m := x2) (by omega) hb1
  obtain ⟨_, _, hRok⟩ := start_run (n := x0) (l := x1) (m := x2) (by omega) hb1
  have hRok := hRok hb2
  generalize hR0 : (⟨Int.tdiv x0 2, mxI x1 0, mxI x2 0, 0, 0, false, 0, 0, []⟩ : Rf) = R0 at *
  have hR0f : { R0 with fresh := false } = R0 := by rw [← hR0]
  have hR0l : R0.list = [] := by rw [← hR0]
  have hR0c : R0.count = 0 := by rw [← hR0]
  have hR0s : R0.seq = 0 := by rw [← hR0]
  refine apopen_ok (S := ⟨⟨[], []⟩, ⟨key0, mxI x1 0, [], 0⟩, Dk.new x0, Mt.new x2⟩) h G hat (by omega) fun S L kb p c' w' hat _ _ h => ⟨_, _, _, _, rfl, Br.f ?_⟩
  rw [hR0f, hR0l] at hat
  replace h := (h.pull 6).tail
  intro w1 ha
  replace h := h.alk ha
  refine NN.some ⟨_, ld_kp h, NN.some ?_⟩
  obtain ⟨lb, h⟩ := Sat.kOpen (h.pull 1)
  replace h := h.pull 2
  refine ⟨_, ld1 sc_plog (h.pull 1).bk rfl, ?_⟩
  refine tick_ok h fun w2 h => ⟨_, rfl, ⟨ld1 sc_plog (h.pull 1).bk rfl, ld_kp h, trivial⟩, ?_⟩
  refine Sat.buildRec h fun p8 w3 h => ?_
  obtain ⟨B1, hle1, h, hr1, _⟩ := h.fix
  refine ⟨⟨ld1 sc_plog (h.pull 1).bk rfl, ld_kp h, trivial⟩, ?_⟩
  obtain ⟨fs, a, s, hi, hl', hf⟩ := hat.rel
  have hmd := hat.made
  refine oturn_ok h (G.mono hle1) hi hl' hf hat.down hr1 rfl (by simp) (by simp) (by rw [hat.waits]; omega) (by simp at hmd; omega) (by omega) fun S' L' e w4 ho kf _ h => ⟨_, rfl, ⟨ld_kp h, trivial⟩, ?_⟩
  obtain ⟨he, hat⟩ := hat.turned ho kf
  clear ho kf hi hl' hf
  refine tick_ok h fun w2 h => ⟨_, rfl, ⟨ld_kp h, trivial⟩, ?_⟩
  refine Sat.buildRec h fun p9 w3 h => ?_
  obtain ⟨B2, hle2, h, hr2, _⟩ := h.fix
  refine ⟨⟨ld_kp h, trivial⟩, ?_⟩
  refine Turn17_ok (h.pull 7) hRok (by rw [hR0l]; exact ⟨none, 0, rfl, Nat.le_refl 0, .inl rfl⟩) hr2 rfl (by simp) fun B3 v3 w4 hle3 hv3 h => ⟨_, rfl, ⟨ld_kp (h.pull 1), trivial⟩, ?_⟩
  rw [he]
  refine Br.ne (fun hne => absurd rfl hne) fun _ => ?_
  have hRok1 := Rf.turn_ok hRok (rs := [tickR 0]) (by simp)
  have hRat1 : (R0.turn [tickR 0]).1.at 1 := Rf.turn_at2 ⟨by rw [hR0s]; simp, by rw [hR0l]; simp⟩ (by simp)
  have hRc1 := Rf.turn_up (R := R0) (rs := [tickR 0])
  generalize (R0.turn [tickR 0]).1 = R1 at *
  replace h := (Sat.kShut lb ((h.pull 3).pull 3))
  replace h := (((((((h.pull 1).pull 6).pull 6).pull 6).pull 6).pull 5).pull 6)
  have hle13 := (hle1.trans hle2).trans hle3
  refine Lp.up xs.length (fun i vs w => vs = [.int .i64 (i : Int)] ∧ ∃ B' S L R v kb, B.le B' ∧ At S L R (100000 * (i + 1)) ∧ R.ok ∧ R.at (302 * i + 1) ∧ R.count ≤ 4 * i + 1 ∧ RsOf B' v R.list ∧ Op B' w pb kb vb wb db mb S L (bk rb t_coffretref17_Log (rfc R v) :: F))
    ⟨rfl, B3, S', L', R1, v3, kb, hle13, hat.more (by simp), hRok1, hRat1, by omega, hv3, h⟩ fun J nx cs => ?_
  clear hat h hv3 hle13 hle3 hle2 hle1 hr1 hr2 hRok1 hRat1 hRc1
  intro n3 l6 w13 hJ
  obtain ⟨i, hi, rfl, hv, B', S, L, R, v, kb, hle, hat, hRok, hRat, hRc, hvR, h⟩ := cs _ _ _ hJ
  obtain rfl : n3 = (i : Int) := by simpa using hv
  clear hJ hv
  have hmd := hat.made
  have hsq := hat.seq
  refine Br.lt (fun hlt => ?_) fun hge => ?_
  · have hlt : i < xs.length := by omega
    have hxi := (hx _ (List.getElem_mem hlt)).mono hle
    have hxl := a4 _ (List.getElem_mem hlt)
    refine (hr.mono hle).ix (by omega) (by rw [flat_length Sx.cells_length]; omega) fun a hr' => ⟨_, ld_step h hr' hlt, ?_⟩
    refine h.var zr_Step fun ab w' h => ?_
    refine Sat.stA (n := 5) (vs := xs[i].cells) h wd_Step rfl (ones_Sx hxi) (by simp) fun w' h => ?_
    have ec : List.take 0 [Value.slice none 0 0, .slice none 0 0, .int .i64 0, .int .u64 0, .bool false] ++ xs[i].cells ++ List.drop (0 + 5) [Value.slice none 0 0, .slice none 0 0, .int .i64 0, .int .u64 0, .bool false] = xs[i].cells := by simp
    rw [ec] at h
    obtain ⟨p0, c0, e0, z0, r0⟩ := hxi.st
    obtain ⟨p1, c1, e1, z1, r1⟩ := hxi.ch
    have l0' : ∀ {B' : Bs} {w' : World} {X : List HP}, Sat B' w' (bk ab t_coffretlaw18_Step xs[i].cells :: X) → (loadVar t_sl_api_Record (Addr.add ⟨ab, 0, none⟩ 0)).run P w' = .ok (.slice p0 xs[i].st.length c0) w' := fun h => ld1 sc_recs h.bk (by rw [← e0]; rfl)
    have l1' : ∀ {B' : Bs} {w' : World} {X : List HP}, Sat B' w' (bk ab t_coffretlaw18_Step xs[i].cells :: X) → (loadVar t_sl_api_Record (Addr.add ⟨ab, 0, none⟩ 1)).run P w' = .ok (.slice p1 xs[i].ch.length c1) w' := fun h => ld1 sc_recs h.bk (by rw [← e1]; rfl)
    have l4' : ∀ {B' : Bs} {w' : World} {X : List HP}, Sat B' w' (bk ab t_coffretlaw18_Step xs[i].cells :: X) → (loadVar t_bool (Addr.add ⟨ab, 0, none⟩ 4)).run P w' = .ok (.bool xs[i].again) w' := fun h => ld1 sc_bool h.bk rfl
    generalize xs[i] = x at *
    refine ⟨_, _, _, l0' h, _, _, _, l1' h, ?_⟩
    refine Save18_any (h.pull 7) hRok hvR r0 rfl r1 rfl hRat (by omega) fun B1 v1 w16 po hle1 hv1 h => ⟨_, _, rfl, ?_⟩
    obtain ⟨hRok1, hRat1, _⟩ := Rf.save_ok hRok (st := x.st) (ch := x.ch) hRat (by omega)
    have hup := Rf.save_up (R := R) (st := x.st) (ch := x.ch)
    replace h := ((((((((h.pull 1).pull 1).pull 7).pull 7).pull 7).pull 7).pull 7).pull 7)
    refine Jn.dupB ?_
    intro w17 ha
    replace h := h.alk ha
    refine NN.some ⟨_, ld_kp h, _, _, _, l0' (h.pull 7), _, _, _, l1' (h.pull 7), ?_⟩
    obtain ⟨fs, a', s, hi', hl', hf⟩ := hat.rel
    refine osave_ok h (G.mono (hle.trans hle1)) hi' hl' hf hat.down (r0.mono hle1) rfl z0 (by omega) (r1.mono hle1) rfl (by omega) (by rw [hat.waits]; omega) (by omega) (by omega) (by omega) fun S' L' e w' ho kf _ h => ⟨_, rfl, ?_⟩
    obtain ⟨he, hat⟩ := hat.saved ho kf
    clear ho kf hi' hl' hf
    rw [he]
    refine Br.ne (fun hne => absurd rfl hne) fun _ => ?_
    generalize (R.save x.st x.ch).1 = R1 at *
    obtain ⟨fs, a', s, hi', hl', hf⟩ := hat.rel
    refine NN.some ⟨_, ld_kp h, NN.some ?_⟩
    obtain ⟨lb, h⟩ := Sat.kOpen (h.pull 1)
    replace h := h.pull 2
    have g4 : ∀ {w' : World}, Sat B1 w' (bk pb t_coffretlaw18_Place (pcells vb db mb (at0 kb)) :: bk kb t_snap_Keeper [.pointer (at0 lb), .pointer (at0 mb)] :: lg lb vb db mb L' :: vlt vb wb S'.V :: idl wb S'.I :: dsk db S'.D :: mtr mb db S'.M :: bk rb t_coffretref17_Log (rfc R1 v1) :: bk ab t_coffretlaw18_Step x.cells :: F) →
        (loadVar t_int (Addr.add ⟨rb, 0, none⟩ 4)).run P w' = .ok (.int .i64 R1.epoch) w' ∧ (loadVar t_int (Addr.add ⟨rb, 0, none⟩ 3)).run P w' = .ok (.int .i64 R1.count) w' ∧ (loadVar t_bool (Addr.add ⟨rb, 0, none⟩ 5)).run P w' = .ok (.bool R1.fresh) w' ∧ (loadVar t_int (Addr.add ⟨rb, 0, none⟩ 0)).run P w' = .ok (.int .i64 R1.half) w' ∧ (loadVar t_int (Addr.add ⟨rb, 0, none⟩ 6)).run P w' = .ok (.int .i64 R1.used) w' := fun h =>
      ⟨ld1 sc_int (h.pull 7).bk rfl, ld1 sc_int (h.pull 7).bk rfl, ld1 sc_bool (h.pull 7).bk rfl, ld1 sc_int (h.pull 7).bk rfl, ld1 sc_int (h.pull 7).bk rfl⟩
    refine ⟨_, ld1 sc_plog (h.pull 1).bk rfl, NN.some ⟨_, (g4 h).1, ?_⟩⟩
    refine Epoch_ok (h.pull 2) ⟨_, rfl, ⟨(g4 h).1, ld_kp h, trivial⟩, ?_⟩
    have hepE : L'.epoch = R1.epoch := by rw [hf.epoch, hl'.epoch]
    have hcnE : S'.M.count = R1.count := hl'.count.symm
    rw [hepE]
    refine Br.ne (fun hne => absurd rfl hne) fun _ => NN.some ⟨_, (g4 h).2.2.1, ?_⟩
    -- what comes behind the comparisons
    have rest : ∀ w20, Sat B1 w20 (bk pb t_coffretlaw18_Place (pcells vb db mb (at0 kb)) :: bk kb t_snap_Keeper [.pointer (at0 lb), .pointer (at0 mb)] :: lg lb vb db mb L' :: vlt vb wb S'.V :: idl wb S'.I :: dsk db S'.D :: mtr mb db S'.M :: bk rb t_coffretref17_Log (rfc R1 v1) :: bk ab t_coffretlaw18_Step x.cells :: F) →
        LdB P t_bool (Addr.add ⟨ab, 0, none⟩ 4) w20 fun b5 ↦ Jn
          (fun K5 ↦ Br b5
            (Cs P f_coffretlaw18_Place_open #[Value.pointer (at0 pb)] w20 fun v16 w22 ↦ ∃ p19 l15 l16 n15, v16 = Value.tuple #[Value.slice p19 l15 l16, .int .i64 n15] ∧
              Jn (fun K6 ↦ Br (neI n15 0) (K6 [Value.bool true] w22) (NN (at0 rb) fun a19 ↦ LdL P t_sl_api_Record (Addr.add a19 8) w22 fun p20 l17 l18 ↦ Cs P f_coffretref13_Same #[Value.slice p19 l15 l16, Value.slice p20 l17 l18] w22 fun v17 w23 ↦ ∃ b6, v17 = Value.bool b6 ∧ K6 [Value.bool !b6] w23))
                fun K7 ↦ ∀ (b7 : Bool) (w24 : World), K7 [Value.bool b7] w24 → Br b7 (K (Value.bool false) w24)
                  (Cs P f_coffretref17_Log_Again #[Value.pointer (at0 rb)] w24 fun v18 w25 ↦ v18 = Value.tuple #[] ∧ DoL P (Instr.buildSlice t_sl_api_Record 0 #[]) w25 fun p21 l19 l20 w26 ↦
                    DoL P (Builtin.append_ #[t_sl_api_Record, t_sl_api_Record] t_sl_api_Record #[Value.slice p21 l19 l20, Value.slice p19 l15 l16]) w26 fun p22 l21 l22 w27 ↦
                      Cs P f_coffretlaw18_tick #[.int .i64 0] w27 fun v19 w28 ↦ ∃ v20, v19 = v20 ∧ DoL P (Instr.buildSlice t_sl_api_Record 1 #[(0, v20)]) w28 fun p23 l23 l24 w29 ↦
                        DoL P (Builtin.append_ #[t_sl_api_Record, t_sl_api_Record] t_sl_api_Record #[Value.slice p22 l21 l22, Value.slice p23 l23 l24]) w29 fun p24 l25 l26 w30 ↦
                          NN (at0 pb) fun a20 ↦ LdP P t_p_snap_Keeper (Addr.add a20 3) w30 fun p25 ↦ NN p25 fun a21 ↦ LdP P t_p_commit_Log (Addr.add a21 0) w30 fun p26 ↦
                            Cs P f_commit_Log_Turn #[Value.pointer p26, Value.slice p24 l25 l26] w30 fun v21 w31 ↦ ∃ n16, v21 = .int .i64 n16 ∧
                              Cs P f_coffretref17_Log_Turn #[Value.pointer (at0 rb), Value.slice p24 l25 l26] w31 fun v22 w32 ↦ ∃ n17, v22 = .int .i64 n17 ∧ Br (neI n16 n17) (K (Value.bool false) w32) (K5 [] w32)))
            (K5 [] w20))
          fun K8 ↦ ∀ (w33 : World), K8 [] w33 → Nx J (xs.length - i) [.int .i64 (IntKind.wrap .i64 ((i : Int) + 1))] w33 := by
      intro w20 h
      refine ⟨_, l4' (h.pull 8), ?_⟩
      refine Jn.by (fun vs w => vs = [] ∧ ∃ B' S L R v kb, B.le B' ∧ At S L R (100000 * (i + 1 + 1)) ∧ R.ok ∧ R.at (302 * (i + 1) + 1) ∧ R.count ≤ 4 * (i + 1) + 1 ∧ RsOf B' v R.list ∧ Op B' w pb kb vb wb db mb S L (bk rb t_coffretref17_Log (rfc R v) :: F)) ?_ ?_
      · have hRat2 := hRat1.2
        refine Br.bool (fun _ => ?_) fun _ => ?_
        · have h := ((h.pull 1).tail.pull 1).tail
          have hfit : ∀ r ∈ R1.list, r.fit := fun r hr => good_fit (hRok1.good r hr)
          obtain ⟨pl, cl, ev, hcl, hrl⟩ := hv1
          subst ev
          refine apopen_ok h (G.mono (hle.trans hle1)) hat.zero (by omega) fun S5 L5 kb2 p19 c19 w22 hat5 _ _ h => ⟨_, _, _, _, rfl, ?_⟩
          obtain ⟨B5, hle5, h, hr5, _⟩ := (h.pull 6).fix
          refine Jn.dupB (Br.f (NN.some ⟨_, _, _, ld1 sc_recs (h.pull 6).bk rfl, ?_⟩))
          refine Same_ok h hr5 rfl (hrl.mono hle5) rfl hfit hfit (by omega) fun cc w' hcc h => ⟨_, rfl, _, rfl, ?_⟩
          rw [hcc.2 rfl]
          refine Br.f ?_
          refine Again17_ok (h.pull 6) fun w' h => ⟨rfl, ?_⟩
          refine Sat.buildNone h fun p21 w26 h => ?_
          refine Sat.appendRecs (xs := []) h rfl hr5 rfl (by simp; omega) fun p22 c22 w27 h => ?_
          refine tick_ok h fun w28 h => ⟨_, rfl, ?_⟩
          refine Sat.buildRec h fun p23 w29 h => ?_
          obtain ⟨B6, hle6, h, hr6, _⟩ := h.fix
          refine Sat.appendRecs h rfl hr6 rfl (by simp; omega) fun p24 c24 w30 h => ?_
          have hcap := Sat.bufCap h
          obtain ⟨B7, hle7, h, hr7, _⟩ := h.fix
          obtain ⟨list2, hlist2⟩ : ∃ l, l = [] ++ R1.list ++ [tickR 0] := ⟨_, rfl⟩
          have hlen2 : list2.length = R1.list.length + 1 := by rw [hlist2]; simp
          rw [← hlist2] at hr7 hcap ⊢
          refine NN.some ⟨_, ld_kp (h.pull 1), NN.some ?_⟩
          obtain ⟨lb2, h⟩ := Sat.kOpen (h.pull 2)
          replace h := ((((((((h.pull 2).pull 7).pull 7).pull 7).pull 7).pull 6).pull 6).pull 7)
          refine ⟨_, ld1 sc_plog (h.pull 1).bk rfl, ?_⟩
          obtain ⟨fs, a', s, hi', hl', hf⟩ := hat5.rel
          have hmd5 := hat5.made
          have hle7' := (((hle.trans hle1).trans hle5).trans hle6).trans hle7
          refine oturn_ok h (G.mono hle7') hi' hl' hf hat5.down hr7 rfl hcap (by omega) (by rw [hat5.waits]; omega) (by omega) (by simp only; omega) fun S6 L6 e w' ho kf _ h => ⟨_, rfl, ?_⟩
          obtain ⟨he2, hat6⟩ := hat5.turned ho kf
          clear ho kf hi' hl' hf
          refine Turn17_ok (h.pull 7) hRok1.again ⟨pl, cl, rfl, hcl, (((hrl.mono hle5).mono hle6).mono hle7)⟩ hr7 rfl (by omega) fun B8 v8 w32 hle8 hv8 h => ⟨_, rfl, ?_⟩
          rw [he2]
          refine Br.ne (fun hne => absurd rfl hne) fun _ => ⟨rfl, ?_⟩
          have hR2ok := Rf.turn_ok hRok1.again (rs := list2) (by omega)
          have hR2at : (({ R1 with fresh := false } : Rf).turn list2).1.at (302 * (i + 1) + 1) := Rf.turn_at2 ⟨by have := hRat1.1; simp only; omega, by simp only; omega⟩ (by omega)
          have hR2c := Rf.turn_up (R := { R1 with fresh := false }) (rs := list2)
          simp only at hR2c
          generalize (({ R1 with fresh := false } : Rf).turn list2).1 = R2 at *
          replace h := (Sat.kShut lb2 ((h.pull 3).pull 3))
          replace h := (((((((((h.pull 1).pull 6).pull 6).pull 6).pull 6).pull 5).pull 6).pull 7)).tail
          exact ⟨B8, S6, L6, R2, v8, kb2, hle7'.trans hle8, hat6.more (by omega), hR2ok, hR2at, by omega, hv8, h⟩
        · have h := (((Sat.kShut lb ((h.pull 2).pull 2)).pull 1).pull 7).tail
          exact ⟨rfl, B1, S', L', R1, v1, kb, hle.trans hle1, hat.more (by omega), hRok1, hRat1.more (by omega), by omega, hv1, h⟩
      · rintro w33 ⟨_, B2, S2, L2, R2, v2, kb2, k1, k2, k3, k4, k5, k6, h⟩
        refine nx i _ _ _ hlt rfl ⟨?_, B2, S2, L2, R2, v2, kb2, k1, k2, k3, k4, k5, k6, h⟩
        rw [w64 (by omega) (by omega)]
        rfl
    refine Br.bool (fun hfr => ?_) fun hfr => ?_
    · obtain ⟨f1, f2, f3, f4, f5, f6⟩ := hf.at_ (by rw [hf.fresh]; exact hfr)
      obtain ⟨v1', v2', v3', v4'⟩ := hi'.vouch.facts
      have hleft : ((L'.A.to - L'.A.at_ : Nat) : Int) = R1.half - R1.used := by
        have := (area_half S'.D.now.length S'.M.epoch).1
        have h4 := hl'.half
        rw [f3]
        simp only
        omega
      obtain ⟨k1, k2, k3, k4, k5, k6, k7, k8, k9⟩ := hRok1
      refine NN.some ⟨_, ld_kp h, NN.some ⟨_, ld1 sc_plog (h.pull 1).bk rfl, NN.some ⟨_, (g4 h).2.2.2.1, NN.some ⟨_, (g4 h).2.2.2.2, ?_⟩⟩⟩⟩
      refine LLeft_ok (h.pull 2) fun w8 h => ⟨_, rfl, ?_⟩
      replace h := (h.pull 2).pull 2
      refine ⟨⟨(g4 h).2.2.2.2, (g4 h).2.2.2.1, ld_kp h, (g4 h).2.2.1, (g4 h).1, ld_kp h, trivial⟩, ?_⟩
      rw [hleft, w64 (x := R1.half - R1.used) (by omega) (by omega)]
      refine Br.ne (fun hne => absurd rfl hne) fun _ => ?_
      refine NN.some ⟨_, ld1 sc_pmeter h.bk rfl, NN.some ⟨_, ld_count (h.pull 6), NN.some ⟨_, (g4 h).2.1, _, rfl, ?_⟩⟩⟩
      rw [hcnE, neI_self]
      exact Br.f (rest _ h)
    · refine NN.some ⟨_, ld1 sc_pmeter h.bk rfl, NN.some ⟨_, ld_count (h.pull 6), NN.some ⟨_, (g4 h).2.1, _, rfl, ?_⟩⟩⟩
      rw [hcnE, neI_self]
      exact Br.f (rest _ h)
  · have hfit : ∀ r ∈ R.list, r.fit := fun r hr => good_fit (hRok.good r hr)
    have hRat2 := hRat.2
    obtain ⟨pl, cl, ev, hcl, hrl⟩ := hvR
    subst ev
    replace h := (h.pull 1).tail
    refine apopen_ok h (G.mono hle) hat.zero (by omega) fun S5 L5 kb2 p19 c19 w22 hat5 _ _ h => ⟨_, _, _, _, rfl, ?_⟩
    obtain ⟨B5, hle5, h, hr5, _⟩ := (h.pull 6).fix
    intro w35 ha
    replace h := h.alk ha
    refine NN.some ⟨_, ld1 sc_pdisk h.bk rfl, NN.some ⟨_, ld1 sc_pmeter h.bk rfl, ?_⟩⟩
    refine SOpen_nil h fun w36 h => ⟨_, _, _, _, _, rfl, ?_⟩
    refine Jn.dupB (Br.t (NN.some ⟨_, _, _, ld1 sc_recs (h.pull 6).bk rfl, ?_⟩))
    refine Same_ok h hr5 rfl (hrl.mono hle5) rfl hfit hfit (by omega) fun cc w' hcc h => ⟨_, rfl, ?_⟩
    rw [hcc.2 rfl]
    refine Br.t (Save_nil ⟨_, rfl, Br.t ⟨_, rfl, ?_⟩⟩)
    exact hk _ ((h.thaw hle5).thaw hle).tail.tail.tail.tail.tail.tail.tail

end Go.Dv

/-! SnapDoes: the row and the card -/
set_option maxRecDepth 100000
namespace Go.Dv
open Go Go.Sh Go.Sl Go.Proofs Go.Proofs.YtnmkbnfidjoljaaDoor
open Go.ChangeShapes Go.WideShapes Go.ChangeAt Go.RowKit

theorem own_t : ownKnob Tryd.prog.godebug = none := by kernel_rfl
theorem laidOut_t : laidOutB Tryd.prog = true := by kernel_rfl

theorem us_Steps : P.underlying 22 = some (.slice t_coffretlaw18_Step) := by kernel_rfl
theorem us_Step : ∃ fs, P.underlying t_coffretlaw18_Step = some (.struct fs) ∧ flds fs = [(t_sl_api_Record, 0), (t_sl_api_Record, 1), (t_int, 2), (t_uint64, 3), (t_bool, 4)] := by
  refine ⟨((match P.underlying t_coffretlaw18_Step with | some (.struct fs) => fs | _ => #[])), ?_, ?_⟩ <;> kernel_rfl
theorem ci_Step : P.cellsOf t_coffretlaw18_Step = 5 := by kernel_rfl
theorem ci_Records : P.cellsOf t_sl_api_Record = 1 := by kernel_rfl
theorem ci_u64 : P.cellsOf t_uint64 = 1 := by kernel_rfl
theorem ci_bool : P.cellsOf t_bool = 1 := by kernel_rfl
theorem ui_u64 : P.underlying t_uint64 = some (.int .u64) := by kernel_rfl
theorem ui_bool : P.underlying t_bool = some .bool := by kernel_rfl

theorem step_of {H : Type} {enc : TypeId × Value → H} {W : World} {sp : Nat → Bool} {held : Bool} {fuel : Nat} {cs : List Value} {x : DataW H × List MemPlace} (h : DataW.trod enc P W 0 sp held fuel t_coffretlaw18_Step cs = some x) : ∃ s : Sx, cs = s.cells ∧ s.okB (Bs.of W) := by
  obtain ⟨fs, hu, hf⟩ := us_Step
  obtain ⟨xs, n, _, _, hlen, hxs, hel⟩ := DataW.trod_struct hu h
  rw [ci_Step] at hlen
  have hsz : fs.size = 5 := by
    have := congrArg List.length hf
    simpa [flds] using this
  have get : ∀ i ty, (i : Nat) < 5 → (flds fs)[i]? = some (ty, i) → P.cellsOf ty = 1 → ∃ y, DataW.trod enc P W 0 sp held n ty ((cs.drop i).take 1) = some y := by
    intro i ty hi hfi hct
    obtain ⟨f, h1, h2, h3⟩ := field_at rfl hfi
    have := hel i f h1
    rw [h2, h3, hct, List.getElem?_eq_getElem (by omega)] at this
    exact ⟨_, this⟩
  match cs, hlen with
  | [c0, c1, c2, c3, c4], _ =>
    obtain ⟨y0, g0⟩ := get 0 t_sl_api_Record (by omega) (by rw [hf]; rfl) ci_Records
    obtain ⟨y1, g1⟩ := get 1 t_sl_api_Record (by omega) (by rw [hf]; rfl) ci_Records
    obtain ⟨y2, g2⟩ := get 2 t_int (by omega) (by rw [hf]; rfl) ci_int
    obtain ⟨y3, g3⟩ := get 3 t_uint64 (by omega) (by rw [hf]; rfl) ci_u64
    obtain ⟨y4, g4⟩ := get 4 t_bool (by omega) (by rw [hf]; rfl) ci_bool
    obtain ⟨p0, k0, st, e0, l0, m0, r0, _⟩ := recs_of g0
    obtain ⟨p1, k1, ch, e1, l1, m1, r1, _⟩ := recs_of g1
    obtain ⟨n2, e2, _, w2⟩ := DataW.trod_int ui_int g2
    obtain ⟨n3, e3, _, _⟩ := DataW.trod_int ui_u64 g3
    obtain ⟨b4, e4, _⟩ := DataW.trod_bool ui_bool g4
    simp only [List.drop_zero, List.drop_succ_cons, List.take_succ_cons, List.take_zero, List.cons.injEq, and_true] at e0 e1 e2 e3 e4
    unfold maxLen at m0 m1
    refine ⟨⟨c0, c1, st, ch, n2, n3, b4⟩, by simp only [Sx.cells, e2, e3, e4], ⟨⟨p0, k0, e0, l0, r0⟩, ⟨p1, k1, e1, l1, r1⟩, (wf_i64' w2).2, by show st.length < _; omega, by show ch.length < _; omega⟩⟩

theorem steps_of {H : Type} {enc : TypeId × Value → H} {W : World} {sp : Nat → Bool} {held : Bool} {fuel : Nat} {cs : List Value} {x : DataW H × List MemPlace} (h : DataW.trod enc P W 0 sp held fuel 22 cs = some x) :
    ∃ p c xs, cs = [.slice p (xs : List Sx).length c] ∧ xs.length ≤ c ∧ c ≤ maxLen ∧ Rd (Bs.of W) p (xs.flatMap Sx.cells) ∧ ∀ s ∈ xs, s.okB (Bs.of W) := by
  rcases DataW.trod_slice us_Steps h with ⟨rfl, _⟩ | ⟨a, len, cap, elems, rest, n, _, rfl, _, _, hl, hm, hlen, hel, _, _⟩
  · exact ⟨none, 0, [], rfl, Nat.le_refl 0, Nat.zero_le _, .inl rfl, by simp⟩
  · have each : ∀ i, ∃ s : Sx, i < len → s.okB (Bs.of W) ∧ W.cells? 0 (a.add (i * 5)) 5 = some s.cells := by
      intro i
      by_cases hi : i < len
      · have := hel i hi
        rw [ci_Step, List.getElem?_eq_getElem (by omega), Option.bind_eq_some_iff] at this
        obtain ⟨cs', h1, h2⟩ := this
        obtain ⟨s, rfl, hs⟩ := step_of h2
        exact ⟨s, fun _ => ⟨hs, h1⟩⟩
      · exact ⟨⟨.bool true, .bool true, [], [], 0, 0, false⟩, fun h => absurd h hi⟩
    obtain ⟨g, hg⟩ := Classical.skolem.1 each
    have hgl : ((List.range len).map g).length = len := by simp
    refine ⟨some a, cap, (List.range len).map g, by rw [hgl], by rw [hgl]; exact hl, hm, ?_, ?_⟩
    · refine row_of_elems (k := 5) Sx.cells_length (by omega) (fun i hi cs' hcs => ?_) fun i hi => ?_
      · rw [hgl] at hi
        rw [(hg i hi).2] at hcs
        simp only [Option.some.injEq] at hcs
        rw [← hcs]; simp
      · rw [hgl] at hi
        exact ⟨_, (hg i hi).2⟩
    · intro s hs
      obtain ⟨i, hi, rfl⟩ := List.mem_map.1 hs
      exact (hg i (List.mem_range.1 hi)).1

theorem does_lifted (os : Os) (started : os.Started) (H : Type) (enc : TypeId × Value → H) :
    ReturnsInHanded {} Tryd.checked os 3 .any (fun w args => (Rows.snapDoesSpec.pre enc Tryd.prog Tryd.f3 Rows.snapDoesRow.domain false w args ∧ laidMetH Tryd.prog Rows.snapDoesRow.laid w) ∧ sizedMet enc Tryd.prog Tryd.f3 (OpenSpec.ofChange Rows.snapDoesSpec) false w args)
      (Rows.snapDoesSpec.post enc Tryd.prog Tryd.f3 false true false false) := by
  refine returnsInHanded_of_change_and (C := Tryd.checked) (X := fun w _ => laidMetH Tryd.prog Rows.snapDoesRow.laid w) (fun _ _ _ hh h => h.of_heap hh) own_t started (by kernel_rfl) Tryd.func3
    (ChangeSpec.witness_shaped (enc := enc) (C := Tryd.checked) (os := os) (X := fun w _ => laidMetH Tryd.prog Rows.snapDoesRow.laid w) false (World.laidAll Tryd.prog os Rows.snapDoesRow.laid) #[.int .i64 0, .int .i64 0, .int .i64 0, .slice none 0 0] 8 (World.laidAll_os _ _ _)
      (World.shaped_of_ZipB (by kernel_rfl) (by kernel_rfl)) (by kernel_rfl) (by kernel_rfl) (by kernel_rfl)
      (by rw [MakeChecks.laidMetH_plain _ _ _ (by kernel_rfl)]; exact laidMet_laidAll _ (by kernel_rfl) (by kernel_rfl))) ?_
  intro W base args ds gs before hval0 hW _ _ hL _
  have hval : ∀ (j : Nat) t v, Tryd.f3.params[j]? = some t → args[j]? = some v → Value.okWide Tryd.prog W .any base t v := hval0
  have hW' := hW
  obtain ⟨p, q, hA0, hV, rfl, _, _⟩ := hW
  have hA : DataW.TrodAll enc Tryd.prog W 0 (fun _ => true) true Tryd.f3.params.toList args.toList ds p := hA0
  rw [Tryd.params3] at hA hval
  obtain ⟨v0, v1, v2, v3, d0, d1, d2, d3, p0, p1, p2, p3, rfl, rfl, rfl, h0, h1, h2, h3⟩ := trodAll_four hA
  obtain ⟨rfl, rfl⟩ := trodVars_none hV
  obtain ⟨x0, rfl, rfl, rfl, w0⟩ := open_int Tryd.underlying3 (hval 0 3 v0 rfl rfl) h0
  obtain ⟨x1, rfl, rfl, rfl, w1⟩ := open_int Tryd.underlying3 (hval 1 3 v1 rfl rfl) h1
  obtain ⟨x2, rfl, rfl, rfl, w2⟩ := open_int Tryd.underlying3 (hval 2 3 v2 rfl rfl) h2
  obtain ⟨a3, l3, c3, rfl⟩ := okWide_slice us_Steps (hval 3 22 v3 rfl rfl)
  obtain ⟨f3, hf3⟩ := h3
  obtain ⟨q3, k3, xs, e3, hl3, hm3, hr3, hx3⟩ := steps_of hf3
  simp only [Value.cells, List.cons.injEq, Value.slice.injEq, and_true] at e3
  obtain ⟨rfl, rfl, rfl⟩ := e3
  unfold maxLen at hm3
  have main : Cs P f_coffretlaw18_SnapDoes #[.int .i64 x0, .int .i64 x1, .int .i64 x2, .slice a3 xs.length c3] W fun v W' => v = .bool true ∧ Sat (Bs.of W) W' [] :=
    Does_ok (Sat.start W) (gl_of hL) hr3 hx3 rfl (by omega) (wf_i64' w0) (wf_i64' w1).2 (wf_i64' w2).2 fun w' h => ⟨rfl, h⟩
  refine (show Calls Tryd.prog 3 _ W _ from main).mono fun e W' he => ?_
  obtain ⟨v, rfl, rfl, hsat⟩ := he
  have hbel := below_of hsat
  have hlt : ∀ x ∈ p3, x.block < W.heap.size := fun x hx => by simpa using hW'.lt x (by simpa using hx)
  refine ⟨_, rfl, ⟨_, _, _, [], _, [], hW', trodAll_mk1 (shut_bool Tryd.underlying4 true), trodAll_mk4 (shut_int Tryd.underlying3 w0) (shut_int Tryd.underlying3 w1) (shut_int Tryd.underlying3 w2) (Below.trod laidOut_t (by kernel_rfl) (of_decide_eq_true (by kernel_rfl)) ⟨f3, hf3⟩ hbel fun x hx => hlt x (by simp [hx])), rfl, hbel.frame _, fun h => by cases h⟩⟩

theorem does_holds : Rows.SnapDoesSaid :=
  OpenClaim.holds_of_wide 3 Tryd.f3 rfl rfl rfl rfl rfl rfl rfl ⟨rfl, rfl, rfl, rfl, rfl⟩ rfl rfl rfl rfl rfl (by kernel_rfl) Tryd.func3 (by kernel_rfl)
    (of_decide_eq_true (by kernel_rfl)) (by unfold Func.isWrapper; first | (rw [if_pos (by decide +kernel)]; kernel_rfl) | (rw [if_neg (by decide +kernel)]; exact ⟨rfl, rfl⟩))
    (fun os started H enc _ => does_lifted os started H enc)

theorem does_card : Rows.SnapDoesCardSaid :=
  Claim7.holds_tied_plain_at .later [] [.data, .data, .data, .data, .data, .data, .data] true (true, "966f9f35a4cbca90f0a71d87ea0b3fa4fe318bef6e1e96fbfea0ec53c06e0a0f") false does_holds (fun _ h => by cases h) (by kernel_rfl) (fun _ h => by cases h) snapDoes_row_tie rfl ⟨rfl, rfl⟩ (by kernel_rfl) rfl
    (fun f fn hf hfn => by
      obtain rfl : f = 3 := Option.some.inj ((show Tryd.prog.funcNamed "coffret/coffretlaw18.SnapDoes" = some 3 by kernel_rfl).symm.trans hf) |>.symm
      obtain rfl : fn = Tryd.f3 := (Option.some.inj (Tryd.func3.symm.trans hfn)).symm
      exact ⟨by kernel_rfl, fun j t ht => by
        rw [Tryd.params3] at ht
        have hm : t ∈ [3, 3, 3, 22] := by simpa using Array.mem_of_getElem? ht
        have hall : ([3, 3, 3, 22].all fun u => !Tryd.prog.wantsStandIn u) = true := by kernel_rfl
        exact (show Tryd.prog.wantsStandIn t = false by simpa using List.all_eq_true.1 hall t hm)⟩)
    (by kernel_rfl)

end Go.Dv

namespace Go.Proofs.YtnmkbnfidjoljaaDoor
theorem snapDoes_card : Rows.SnapDoesCardSaid := Go.Dv.does_card
end Go.Proofs.YtnmkbnfidjoljaaDoor
#print axioms Go.Proofs.YtnmkbnfidjoljaaDoor.snapDoes_card
