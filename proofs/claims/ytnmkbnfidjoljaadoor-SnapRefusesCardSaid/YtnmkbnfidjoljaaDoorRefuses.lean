/- coffretlaw18.SnapRefuses returns true for every input and leaves its arguments as they were; the seven variables of package record are as the text of the program lays them (the tied card). -/
import Derived.Test.YtnmkbnfidjoljaaDoorGh
import Derived.Test.YtnmkbnfidjoljaaDoorCards

/-! SnapRefuses -/
set_option maxRecDepth 20000
namespace Go.Dv
open Go Go.Sh Go.Sl

variable {B : Bs} {w : World} {F : List HP} {K : Value → World → Prop}

structure At0 (S : St) (R : Rf) (n : Nat) : Prop where
  rel : ∃ fs a s, Inv S fs a s ∧ Like S R fs
  down : S.D.down = false
  fuse : S.D.fuse = 0
  waits : S.D.waits.length = 0
  made : S.I.made.length ≤ n

theorem At.zero {S : St} {L : Lg} {R : Rf} {n : Nat} (h : At S L R n) : At0 S R n := by
  obtain ⟨⟨fs, a, s, h1, h2, _⟩, h3, h4, h5, h6, _⟩ := h
  exact ⟨⟨fs, a, s, h1, h2⟩, h3, h4, h5, h6⟩

theorem start_at {n l m : Int} (hn : 0 ≤ n ∧ n ≤ 4096) (hl : l < 9223372036854775808) : At0 ⟨⟨[], []⟩, ⟨key0, mxI l 0, [], 0⟩, Dk.new n, Mt.new m⟩ ⟨Int.tdiv n 2, mxI l 0, mxI m 0, 0, 0, false, 0, 0, []⟩ 0 := by
  obtain ⟨hi, hl', _⟩ := start_run (m := m) hn hl
  exact ⟨⟨_, _, _, hi, hl'⟩, rfl, rfl, rfl, Nat.le_refl 0⟩

/-- A place's keeper is opened. -/
theorem apopen_ok {pb vb wb db mb n : Nat} {k : Option Addr} {S : St} {R : Rf} (h : Sat B w (bk pb t_coffretlaw18_Place (pcells vb db mb k) :: vlt vb wb S.V :: idl wb S.I :: dsk db S.D :: mtr mb db S.M :: F)) (G : Gl B) (hat : At0 S R n) (hn : n < 1000000000000)
    (hk : ∀ S' L' kb p c w', At S' L' { R with fresh := false } (n + 1 + R.list.length) → S'.M = S.M → S'.V = S.V → Op B w' pb kb vb wb db mb S' L' (buf t_api_Record 6 p R.list.length c (rcells R.list) :: F) → K (.tuple #[.slice p R.list.length c, .int .i64 0]) w') :
    Cs P f_coffretlaw18_Place_open #[.pointer (at0 pb)] w K := by
  obtain ⟨fs, a, s, hi, hl⟩ := hat.rel
  have hm := hat.made
  refine popen_ok h G hi hl hat.down (by omega) fun o fs' a' s' kb p c w' o1 o2 o3 o4 o5 o6 o7 h => ?_
  exact hk { S with I := o.I } ⟨o.A, S.M.epoch, o.seq, o.head, false⟩ kb p c w' ⟨⟨fs', a', s', o5, o6, o7⟩, hat.down, hat.fuse, hat.waits, by show o.I.made.length ≤ _; omega, by show o.seq ≤ _; rw [o3]; omega⟩ rfl rfl h

theorem ld_count {mb db : Nat} {M : Mt} (h : Sat B w (mtr mb db M :: F)) : (loadVar t_int (Addr.add (Addr.add ⟨mb, 0, none⟩ 0) 0)).run P w = .ok (.int .i64 M.count) w := by
  obtain ⟨h, hM⟩ := Sat.mOpen h
  exact ld1 (L := mcells db M) sc_int h.bk rfl

theorem Rf.turn_list {R : Rf} {rs : List Rec} : (R.turn rs).2 = 0 → (R.turn rs).1.list = rs ∧ goodL rs = true := by
  unfold Rf.turn
  split
  · intro h; simp at h
  · rename_i hg
    split
    · intro h; simp at h
    · split
      · intro h; simp at h
      · intro _; exact ⟨rfl, by simpa using hg⟩

theorem Rf.save_bad {R : Rf} {st ch : List Rec} (h : goodL ch = false) : R.save st ch = (R, 1, none) := by
  have hc : R.commit ch = (R, 1) := by
    unfold Rf.commit
    rw [if_pos (.inl h)]
  unfold Rf.save
  rw [hc, if_pos ⟨by simp, by simp⟩]

theorem great_false {rs : List Rec} {n : Int} (h : greatB rs n = false) : (rs.length : Int) ≤ n ∧ ∀ r ∈ rs, r.body.length ≤ 4096 := by
  simp only [greatB, Bool.or_eq_false_iff, List.any_eq_false, decide_eq_true_eq, decide_eq_false_iff_not] at h
  exact ⟨by omega, fun r hr => by have := h.1 r hr; omega⟩

theorem Refuses_ok {q1 q2 : Option Addr} {m1 c1 m2 c2 : Nat} {st ch : List Rec} {bad : Rec} (h : Sat B w F) (G : Gl B) (hr1 : Rd B q1 (rcells st)) (hm1 : m1 = st.length) (hc1 : st.length ≤ c1) (hl1 : st.length < 9223372036854775808) (hr2 : Rd B q2 (rcells ch)) (hm2 : m2 = ch.length) (hl2 : ch.length < 9223372036854775808)
    (hk : ∀ w', Sat B w' F → K (.bool true) w') : Cs P f_coffretlaw18_SnapRefuses #[.slice q1 m1 c1, .slice q2 m2 c2, bad.val] w K := by
  refine ok_coffretlaw18_SnapRefuses _ _ _ _ _ _ _ ?_
  unfold vc_coffretlaw18_SnapRefuses
  refine h.new fun a0 w' h => ?_
  refine alive_ok h G fun w' h => ⟨_, rfl, Br.f ?_⟩
  have ldb : ∀ {B' : Bs} {w' : World} {X : List HP}, Sat B' w' (bk a0 t_api_Record bad.val.cells.toList :: X) → (loadVar t_api_Record ⟨a0, 0, none⟩).run P w' = .ok bad.val w' := fun h => ldA (n := 6) (L := bad.cells) wd_Record h.bk (by simp [Rec.cells])
  refine Jn.by (fun vs w => ∃ b, vs = [.bool b] ∧ (b = false → greatB st 10 = false ∧ greatB ch 10 = false ∧ st ≠ [] ∧ st.all Rec.good = true ∧ bad.good = false) ∧ Sat B w (bk a0 t_api_Record bad.val.cells.toList :: F)) ?_ ?_
  · refine Great_ok h hr1 hm1 hl1 fun w' h => ⟨_, rfl, Br.bool (fun e => ⟨_, rfl, (by intro h; cases h), h⟩) fun e1 => ?_⟩
    refine Great_ok h hr2 hm2 hl2 fun w' h => ⟨_, rfl, Br.bool (fun e => ⟨_, rfl, (by intro h; cases h), h⟩) fun e2 => ?_⟩
    refine ⟨_, ldb h, Sat.buildRec h fun p0 w' h => ?_⟩
    obtain ⟨B1, hle1, h, hr3, _⟩ := h.fix
    refine Great_ok h hr3 rfl (by simp) fun w' h => ⟨_, rfl, Br.bool (fun e => ⟨_, rfl, (by intro h; cases h), h.thaw hle1⟩) fun e3 => ?_⟩
    refine Br.eq (fun e => ⟨_, rfl, (by intro h; cases h), h.thaw hle1⟩) fun e4 => ?_
    have hlen := (great_false e1).1
    refine All_ok h (hr1.mono hle1) hm1 (by omega) fun w' h => ⟨_, rfl, Br.not (Br.bool (fun e5 => ?_) fun e => ⟨_, rfl, (by intro h; cases h), h.thaw hle1⟩)⟩
    refine ⟨_, ldb h, RGood13_ok h fun w' h => ⟨_, rfl, _, rfl, fun e => ⟨e1, e2, fun hs => e4 (by rw [hm1, hs]; rfl), e5, e⟩, h.thaw hle1⟩⟩
  rintro b6 w8 ⟨b, hb, hbc, h⟩
  obtain rfl : b6 = b := by simpa using hb
  refine Br.bool (fun e => hk _ h.tail) fun e => ?_
  obtain ⟨e1, e2, e3, e4, e5⟩ := hbc e
  obtain ⟨g1, _⟩ := great_false e1
  obtain ⟨g2, _⟩ := great_false e2
  have hbadL : goodL (ch ++ [bad]) = false := by simp [goodL, e5]
  refine place_ok18 h fun pb vb wb db mb w' h => ⟨_, rfl, ?_⟩
  have hat := start_at (n := 100) (l := 1099511627776) (m := 1099511627776) (by omega) (by omega)
  refine apopen_ok (S := ⟨⟨[], []⟩, ⟨key0, mxI 1099511627776 0, [], 0⟩, Dk.new 100, Mt.new 1099511627776⟩) h G hat (by omega) fun S L kb p c w' hat _ _ h => ⟨_, _, _, _, rfl, ?_⟩
  replace h := (h.pull 6).tail
  generalize hR : ({ (⟨Int.tdiv 100 2, mxI 1099511627776 0, mxI 1099511627776 0, 0, 0, false, 0, 0, []⟩ : Rf) with fresh := false } : Rf) = R at *
  have hRc : R.count = 0 := by rw [← hR]
  have hRl : R.list.length = 0 := by rw [← hR]; rfl
  refine Jn.by (fun vs w => ∃ b, vs = [.bool b] ∧ ∃ S' L' R', (b = false → At S' L' R' 1000 ∧ R'.list = st ∧ R'.count = 1) ∧ Op B w pb kb vb wb db mb S' L' (bk a0 t_api_Record bad.val.cells.toList :: F)) ?_ ?_
  · refine Br.f (NN.some ⟨_, ld1 sc_pkeeper h.bk rfl, NN.some ?_⟩)
    obtain ⟨lb, h⟩ := Sat.kOpen (h.pull 1)
    have h := h.pull 2
    refine ⟨_, ld1 sc_plog (h.pull 1).bk rfl, ?_⟩
    obtain ⟨fs, a, s, hi, hl, hf⟩ := hat.rel
    have hm := hat.made
    refine oturn_ok h G hi hl hf hat.down hr1 hm1 hc1 (by omega) (by rw [hat.waits]; omega) (by omega) (by omega) fun S' L' e w' ho kf h => ⟨_, rfl, ?_⟩
    obtain ⟨he, hat⟩ := hat.turned ho kf
    refine ⟨_, rfl, S', L', (R.turn st).1, fun hb => ?_, ?_⟩
    · have h0 : (R.turn st).2 = 0 := by
        have : ¬ e ≠ 0 := fun hne => by
          have : neI e 0 = true := by simp [neI, hne]
          rw [this] at hb; cases hb
        omega
      exact ⟨hat.more (by omega), (Rf.turn_list h0).1, by rw [Rf.turn_count h0, hRc]; rfl⟩
    · exact (Sat.kShut lb ((h.pull 2).pull 2)).pull 1
  rintro b7 w12 ⟨b, hb, S', L', R', hbc, h⟩
  obtain rfl : b7 = b := by simpa using hb
  refine Br.bool (fun e => hk _ h.tail.tail.tail.tail.tail.tail.tail) fun e => ?_
  obtain ⟨hat, hlist, hcnt⟩ := hbc e
  clear hbc hb
  refine NN.some ⟨_, ld1 sc_pmeter h.bk rfl, NN.some ⟨_, ld_count (h.pull 5), ?_⟩⟩
  obtain ⟨fs, a, s, hi, hl, hf⟩ := hat.rel
  have hcM : S'.M.count = 1 := by rw [← hl.count, hcnt]
  have hkp : ∀ {B' : Bs} {w' : World} {X : List HP}, Sat B' w' (bk pb t_coffretlaw18_Place (pcells vb db mb (at0 kb)) :: X) → (loadVar t_p_snap_Keeper (Addr.add ⟨pb, 0, none⟩ 3)).run P w' = .ok (.pointer (at0 kb)) w' := fun h => ld1 sc_pkeeper h.bk rfl
  rw [hcM]
  -- a save that is refused
  have ref : ∀ {B1 : Bs} {w' : World} {q : Option Addr} {m c n : Nat} {rs : List Rec} {S : St} {L : Lg} {K' : Value → World → Prop}, B.le B1 → Op B1 w' pb kb vb wb db mb S L (bk a0 t_api_Record bad.val.cells.toList :: F) → At S L R' n → n ≤ 100000 → Rd B1 q (rcells rs) → m = rs.length → rs.length ≤ 1000 → goodL rs = false →
      (∀ S' L' w', At S' L' R' (n + 12000) → Op B1 w' pb kb vb wb db mb S' L' (bk a0 t_api_Record bad.val.cells.toList :: F) → K' (.int .i64 1) w') → Cs P f_snap_Keeper_Save #[.pointer (at0 kb), .slice q1 m1 c1, .slice q m c] w' K' := by
    intro B1 w' q m c n rs S L K' hle h hat hn hr hm hl hg hk'
    obtain ⟨fs, a, s, hi, hl', hf⟩ := hat.rel
    have hmd := hat.made
    have hsq := hat.seq
    refine osave_ok h (G.mono hle) hi hl' hf hat.down (hr1.mono hle) hm1 hc1 (by omega) hr hm hl (by rw [hat.waits]; omega) (by omega) (by omega) (by omega) fun S' L' e w' ho kf h => ?_
    obtain ⟨he, hat⟩ := hat.saved ho kf
    rw [Rf.save_bad hg] at he hat
    rw [he]
    exact hk' S' L' w' (hat.more (by omega)) h
  refine Jn.by (fun vs w => vs = [.bool false] ∧ ∃ S L, At S L R' 30000 ∧ Op B w pb kb vb wb db mb S L (bk a0 t_api_Record bad.val.cells.toList :: F)) ?_ ?_
  · intro w13 ha
    have h := h.alk ha
    refine NN.some ⟨_, hkp h, ?_⟩
    refine ref (rs := []) (Bs.le.refl B) h hat (by omega) (.inl rfl) rfl (by simp) rfl fun S2 L2 w14 hat h => ⟨_, rfl, Br.f ?_⟩
    refine NN.some ⟨_, hkp h, _, ldb (h.pull 6), ?_⟩
    have fin : ∀ {B1 : Bs} {w' : World} {q : Option Addr} {c : Nat}, B.le B1 → Op B1 w' pb kb vb wb db mb S2 L2 (bk a0 t_api_Record bad.val.cells.toList :: F) → Rd B1 q (rcells (ch ++ [bad])) → Cs P f_snap_Keeper_Save #[.pointer (at0 kb), .slice q1 m1 c1, .slice q (ch ++ [bad]).length c] w' fun v13 w19 => ∃ n4, v13 = .int .i64 n4 ∧ Br (neI n4 1) ((fun vs w => vs = [Value.bool false] ∧ ∃ S L, At S L R' 30000 ∧ Op B w pb kb vb wb db mb S L (bk a0 t_api_Record bad.val.cells.toList :: F)) [.bool true] w19)
        (NN (at0 pb) fun a7 ↦ LdP P t_p_meter_Meter (Addr.add a7 2) w19 fun p12 ↦ NN p12 fun a8 ↦ LdI .i64 P t_int (Addr.add (Addr.add a8 0) 0) w19 fun n5 ↦ (fun vs w => vs = [Value.bool false] ∧ ∃ S L, At S L R' 30000 ∧ Op B w pb kb vb wb db mb S L (bk a0 t_api_Record bad.val.cells.toList :: F)) [.bool (neI n5 1)] w19) := by
      intro B1 w' q c hle h hr
      refine ref (rs := ch ++ [bad]) hle h hat (by omega) hr rfl (by simp; omega) hbadL fun S3 L3 w14 hat h => ⟨_, rfl, Br.f ?_⟩
      refine NN.some ⟨_, ld1 sc_pmeter h.bk rfl, NN.some ⟨_, ld_count (h.pull 5), ?_⟩⟩
      obtain ⟨fs, a, s, hi, hl', hf⟩ := hat.rel
      have hc3 : S3.M.count = 1 := by rw [← hl'.count, hcnt]
      rw [hc3]
      exact ⟨rfl, S3, L3, hat.more (by omega), h.thaw hle⟩
    refine ⟨?_, ?_⟩
    · refine Sat.buildNone h fun p8 w15 h => ⟨⟨ldb (h.pull 7), hkp (h.pull 1), trivial⟩, ?_, ?_⟩
      · refine Sat.appendRecs (xs := []) h rfl hr2 hm2 (by simp; omega) fun p9 c9 w16 h => ⟨⟨ldb (h.pull 7), hkp (h.pull 1), trivial⟩, ?_⟩
        refine Sat.buildRec h fun p10 w17 h => ?_
        obtain ⟨B1, hle1, h, hr3, _⟩ := h.fix
        refine ⟨⟨hkp (h.pull 1), trivial⟩, ?_⟩
        refine Sat.appendRecs h rfl hr3 rfl (by simp; omega) fun p11 c11 w18 h => ?_
        obtain ⟨B2, hle2, h, hr4, _⟩ := h.fix
        exact ⟨⟨hkp h, trivial⟩, fin (hle1.trans hle2) h hr4⟩
      · refine Sat.buildRec h fun p10 w17 h => ?_
        obtain ⟨B1, hle1, h, hr3, _⟩ := h.fix
        refine ⟨⟨hkp (h.pull 1), trivial⟩, ?_⟩
        refine Sat.appendRecs (xs := []) h rfl (hr2.mono hle1) hm2 (by simp; omega) fun p9 c9 w16 h => ⟨⟨hkp (h.pull 1), trivial⟩, ?_⟩
        refine Sat.appendRecs h rfl hr3 rfl (by simp; omega) fun p11 c11 w18 h => ?_
        obtain ⟨B2, hle2, h, hr4, _⟩ := h.fix
        exact ⟨⟨hkp h, trivial⟩, fin (hle1.trans hle2) h hr4⟩
    · refine Sat.buildRec h fun p10 w17 h => ?_
      obtain ⟨B1, hle1, h, hr3, _⟩ := h.fix
      refine ⟨⟨hkp h, trivial⟩, ?_⟩
      refine Sat.buildNone h fun p8 w15 h => ⟨⟨hkp (h.pull 1), trivial⟩, ?_⟩
      refine Sat.appendRecs (xs := []) h rfl (hr2.mono hle1) hm2 (by simp; omega) fun p9 c9 w16 h => ⟨⟨hkp (h.pull 1), trivial⟩, ?_⟩
      refine Sat.appendRecs h rfl hr3 rfl (by simp; omega) fun p11 c11 w18 h => ?_
      obtain ⟨B2, hle2, h, hr4, _⟩ := h.fix
      exact ⟨⟨hkp h, trivial⟩, fin (hle1.trans hle2) h hr4⟩
  rintro b8 w29 ⟨hb, S4, L4, hat, h⟩
  obtain rfl : b8 = false := by simpa using hb
  refine Br.f ?_
  have h := (h.pull 1).tail
  refine apopen_ok h G hat.zero (by omega) fun S5 L5 kb2 p c w' hat _ _ h => ⟨_, _, _, _, rfl, ?_⟩
  obtain ⟨B5, hle5, h, hr5, _⟩ := (h.pull 6).fix
  rw [hlist] at hr5
  have hfit : ∀ r ∈ st, r.fit := fun r hr => good_fit (List.all_eq_true.1 e4 r hr)
  rw [hlist]
  refine Jn.dupB (Br.t (Same_ok h hr5 rfl (hr1.mono hle5) hm1 hfit hfit (by omega) fun c w' hc h => ⟨_, rfl, _, rfl, ?_⟩))
  rw [hc.2 rfl]
  exact hk _ (h.thaw hle5).tail.tail.tail.tail.tail.tail.tail

end Go.Dv

/-! SnapRefuses: the row and the card -/
set_option maxRecDepth 100000
namespace Go.Dv
open Go Go.Sh Go.Sl Go.Proofs Go.Proofs.YtnmkbnfidjoljaaDoor
open Go.ChangeShapes Go.WideShapes Go.ChangeAt Go.RowKit

theorem own_t : ownKnob Tryd.prog.godebug = none := by kernel_rfl
theorem laidOut_t : laidOutB Tryd.prog = true := by kernel_rfl

theorem refuses_lifted (os : Os) (started : os.Started) (H : Type) (enc : TypeId × Value → H) :
    ReturnsInHanded {} Tryd.checked os 5 .any (fun w args => (Rows.snapRefusesSpec.pre enc Tryd.prog Tryd.f5 Rows.snapRefusesRow.domain false w args ∧ laidMetH Tryd.prog Rows.snapRefusesRow.laid w) ∧ sizedMet enc Tryd.prog Tryd.f5 (OpenSpec.ofChange Rows.snapRefusesSpec) false w args)
      (Rows.snapRefusesSpec.post enc Tryd.prog Tryd.f5 false true false false) := by
  refine returnsInHanded_of_change_and (C := Tryd.checked) (X := fun w _ => laidMetH Tryd.prog Rows.snapRefusesRow.laid w) (fun _ _ _ hh h => h.of_heap hh) own_t started (by kernel_rfl) Tryd.func5
    (ChangeSpec.witness_shaped (enc := enc) (C := Tryd.checked) (os := os) (X := fun w _ => laidMetH Tryd.prog Rows.snapRefusesRow.laid w) false (World.laidAll Tryd.prog os Rows.snapRefusesRow.laid) #[.slice none 0 0, .slice none 0 0, .agg #[.int .i64 0, .int .i64 0, .int .i64 0, .int .i64 0, .int .i64 0, .string ⟨#[]⟩]] 8 (World.laidAll_os _ _ _)
      (World.shaped_of_ZipB (by kernel_rfl) (by kernel_rfl)) (by kernel_rfl) (by kernel_rfl) (by kernel_rfl)
      (by rw [MakeChecks.laidMetH_plain _ _ _ (by kernel_rfl)]; exact laidMet_laidAll _ (by kernel_rfl) (by kernel_rfl))) ?_
  intro W base args ds gs before hval0 hW _ _ hL _
  have hval : ∀ (j : Nat) t v, Tryd.f5.params[j]? = some t → args[j]? = some v → Value.okWide Tryd.prog W .any base t v := hval0
  have hW' := hW
  obtain ⟨p, q, hA0, hV, rfl, _, _⟩ := hW
  have hA : DataW.TrodAll enc Tryd.prog W 0 (fun _ => true) true Tryd.f5.params.toList args.toList ds p := hA0
  rw [Tryd.params5] at hA hval
  obtain ⟨v0, v1, v2, d0, d1, d2, p0, p1, p2, rfl, rfl, rfl, h0, h1, h2⟩ := trodAll_three hA
  obtain ⟨rfl, rfl⟩ := trodVars_none hV
  obtain ⟨a0, l0, c0, rfl⟩ := okWide_slice us_Records (hval 0 29 v0 rfl rfl)
  obtain ⟨a1, l1, c1, rfl⟩ := okWide_slice us_Records (hval 1 29 v1 rfl rfl)
  obtain ⟨f0, hf0⟩ := h0
  obtain ⟨f1, hf1⟩ := h1
  obtain ⟨f2, hf2⟩ := h2
  obtain ⟨q0, k0, st, e0, hl0, hm0, hr0, _⟩ := recs_of hf0
  obtain ⟨q1, k1, ch, e1, hl1, hm1, hr1, _⟩ := recs_of hf1
  obtain ⟨bad, e2, _⟩ := rec_of hf2
  have hv2 : ∃ cs, v2 = .agg cs := by
    obtain ⟨fs, hu, _⟩ := un_Record
    have := hval 2 44 v2 rfl rfl
    unfold Value.okWide at this
    have hu' : Tryd.prog.underlying 44 = some (.struct fs) := hu
    rw [hu'] at this
    obtain ⟨cs, h, _⟩ := this
    exact ⟨cs, h⟩
  obtain ⟨cs2, rfl⟩ := hv2
  have hb2 : Value.agg cs2 = bad.val := by
    have : cs2.toList = bad.cells := e2
    unfold Rec.val
    rw [← this]
  simp only [Value.cells, List.cons.injEq, Value.slice.injEq, and_true] at e0 e1
  obtain ⟨rfl, rfl, rfl⟩ := e0
  obtain ⟨rfl, rfl, rfl⟩ := e1
  unfold maxLen at hm0 hm1
  have G : Gl (Bs.of W) := gl_of hL
  have main : Cs P f_coffretlaw18_SnapRefuses #[.slice a0 st.length c0, .slice a1 ch.length c1, bad.val] W fun v W' => v = .bool true ∧ Sat (Bs.of W) W' [] :=
    Refuses_ok (Sat.start W) G hr0 rfl hl0 (by omega) hr1 rfl (by omega) fun w' h => ⟨rfl, h⟩
  rw [hb2] at hW' hf2 ⊢
  refine (show Calls Tryd.prog 5 _ W _ from main).mono fun e W' he => ?_
  obtain ⟨v, rfl, rfl, hsat⟩ := he
  have hbel := below_of hsat
  have hlt : ∀ x ∈ p0 ++ p1 ++ p2, x.block < W.heap.size := fun x hx => by simpa using hW'.lt x (by simpa using hx)
  refine ⟨_, rfl, ⟨_, _, _, [], _, [], hW', trodAll_mk1 (shut_bool Tryd.underlying4 true), trodAll_mk3
    (Below.trod laidOut_t (by kernel_rfl) (of_decide_eq_true (by kernel_rfl)) ⟨f0, hf0⟩ hbel fun x hx => hlt x (by simp [hx]))
    (Below.trod laidOut_t (by kernel_rfl) (of_decide_eq_true (by kernel_rfl)) ⟨f1, hf1⟩ hbel fun x hx => hlt x (by simp [hx]))
    (Below.trod laidOut_t (by kernel_rfl) (of_decide_eq_true (by kernel_rfl)) ⟨f2, hf2⟩ hbel fun x hx => hlt x (by simp [hx])), rfl, hbel.frame _, fun h => by cases h⟩⟩

theorem refuses_holds : Rows.SnapRefusesSaid :=
  OpenClaim.holds_of_wide 5 Tryd.f5 rfl rfl rfl rfl rfl rfl rfl ⟨rfl, rfl, rfl, rfl, rfl⟩ rfl rfl rfl rfl rfl (by kernel_rfl) Tryd.func5 (by kernel_rfl)
    (of_decide_eq_true (by kernel_rfl)) (by unfold Func.isWrapper; first | (rw [if_pos (by decide +kernel)]; kernel_rfl) | (rw [if_neg (by decide +kernel)]; exact ⟨rfl, rfl⟩))
    (fun os started H enc _ => refuses_lifted os started H enc)

theorem refuses_card : Rows.SnapRefusesCardSaid :=
  Claim7.holds_tied_plain_at .later [] [.data, .data, .data, .data, .data, .data, .data] true (true, "966f9f35a4cbca90f0a71d87ea0b3fa4fe318bef6e1e96fbfea0ec53c06e0a0f") false refuses_holds (fun _ h => by cases h) (by kernel_rfl) (fun _ h => by cases h) snapRefuses_row_tie rfl ⟨rfl, rfl⟩ (by kernel_rfl) rfl
    (fun f fn hf hfn => by
      obtain rfl : f = 5 := Option.some.inj ((show Tryd.prog.funcNamed "coffret/coffretlaw18.SnapRefuses" = some 5 by kernel_rfl).symm.trans hf) |>.symm
      obtain rfl : fn = Tryd.f5 := (Option.some.inj (Tryd.func5.symm.trans hfn)).symm
      exact ⟨by kernel_rfl, fun j t ht => by
        rw [Tryd.params5] at ht
        have hm : t ∈ [29, 29, 44] := by simpa using Array.mem_of_getElem? ht
        have hall : ([29, 29, 44].all fun u => !Tryd.prog.wantsStandIn u) = true := by kernel_rfl
        exact (show Tryd.prog.wantsStandIn t = false by simpa using List.all_eq_true.1 hall t hm)⟩)
    (by kernel_rfl)

end Go.Dv

namespace Go.Proofs.YtnmkbnfidjoljaaDoor
theorem snapRefuses_card : Rows.SnapRefusesCardSaid := Go.Dv.refuses_card
end Go.Proofs.YtnmkbnfidjoljaaDoor
#print axioms Go.Proofs.YtnmkbnfidjoljaaDoor.snapRefuses_card
