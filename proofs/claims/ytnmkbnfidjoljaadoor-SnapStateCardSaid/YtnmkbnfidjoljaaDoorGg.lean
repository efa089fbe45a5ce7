/- Contracts: chain.Add, commit, snap. -/
import Derived.RangeFuncBox
import Derived.RangeFuncLeaves
import Derived.Shelf.Abstract
import Derived.WalkKit
import Derived.OwnWalkIn
import Derived.TacticsInMore
import Derived.LoopNIn
import Derived.LoopIn
import Derived.Shelf.RegionOpen
import Derived.Test.YtnmkbnfidjoljaaDoorGc
import Derived.Test.YtnmkbnfidjoljaaDoorGf
import Derived.Test.YtnmkbnfidjoljaaDoorGb
import Derived.DeepKeys4

/-! slices.Chunk's closure -/
namespace Go.Dv
open Go Go.RowKit Go.Shelf Go.Proofs
attribute [local go_sem] Oper.semAt_some

set_option maxRecDepth 100000 in
set_option maxHeartbeats 2000000 in
theorem chunk_in (l b1 b2 : Nat) (p : Option Addr) (len cap : Nat) (N : Nat) (hlen : 0 < len) (hl2 : len ≤ 1000000) (hlc : len ≤ cap) (hN : N = (len + 255) / 256) (J : Nat → World → Prop) (Jx : World → Prop)
    (hcell : ∀ i W, J i W → W.cell? ⟨b1, 0, none⟩ = some (.slice p len cap) ∧ W.cell? ⟨b2, 0, none⟩ = some (.int .i64 256)) (hdr : ∀ i W, J i W → J i W.drew)
    (hY : ∀ (i : Nat) (W : World) m, i < N → J i W → YieldAt Fence.wide m Tryd.prog l #[.slice (p.map (·.add (256 * i * 1))) (min 256 (len - 256 * i)) (min 256 (len - 256 * i))] W fun e W' => (e = .returned (.bool true) ∧ J (i + 1) W') ∨ (e = .returned (.bool false) ∧ Jx W'))
    (W : World) (h0 : J 0 W) :
    CallsIn Fence.wide 5 Tryd.prog 87 #[.func (.yield l) #[] #[], .pointer (some ⟨b1, 0, none⟩), .pointer (some ⟨b2, 0, none⟩)] W fun e W' => (∃ v, e = .returned v) ∧ (J N W' ∨ Jx W') := by
  refine callsIn_of_wp Tryd.func87 rfl trivial ?_ rfl
  simp only [Tryd.ntmps87, List.size_toArray, List.length_cons, List.length_nil, Nat.reduceAdd, Nat.reduceSub, Array.replicate_succ, Array.replicate_zero, List.push_toArray, List.append_toArray, List.nil_append, List.cons_append]
  gi_wp2
  gi_loopw [4] (fun i wr => ∃ k : Nat, k ≤ N ∧ i = .int .i64 (256 * k : Nat) ∧ J k wr) (fun i _ => 256 * N - (intOf i).toNat)
  case atStart => exact ⟨0, Nat.zero_le _, rfl, h0⟩
  case round =>
    obtain ⟨k, hk, rfl, hJs⟩ := hrel
    obtain ⟨hc1, hc2⟩ := hcell _ _ hJs
    have hmx : Tryd.prog.follows .mixedOrders = true := by kernel_rfl
    by_cases hlt : k < N
    · have hlt2 : ((256 * k : Nat) : Int) < (len : Int) := by omega
      gi_wp2
      gi_region
      all_goals gi_wp2
      all_goals (try go_bits)
      · obtain ⟨fn, tmps, assign, body, hy, hR⟩ := hY k _ 4 hlt (hdr _ _ hJs)
        have e1 : 256 * k + (len - 256 * k) - 256 * k = len - 256 * k := by omega
        have e2 : min 256 (len - 256 * k) = len - 256 * k := by omega
        rw [e2, Nat.mul_one] at hy
        rw [e1]
        rw [hy]
        rw [Oper.uponIn_round]
        refine ⟨fun h => by simp [Fence.wide] at h, hR.mono ?_⟩
        rintro e W3 (⟨rfl, hJ3⟩ | ⟨rfl, hJx3⟩)
        · have hc3 := (hcell _ _ hJ3).2
          gi_wp2
          go_roundw
          case rel => exact ⟨k + 1, by omega, by simp; omega, hJ3⟩
          case measure => simp [intOf]; omega
        · gi_wp2
          refine bodyPost_ret (results_none rfl _ _ _) rfl ?_
          exact ⟨⟨_, rfl⟩, .inr hJx3⟩
      · obtain ⟨fn, tmps, assign, body, hy, hR⟩ := hY k _ 4 hlt (hdr _ _ hJs)
        have e2 : min 256 (len - 256 * k) = 256 := by omega
        have e1 : 256 * k + 256 - 256 * k = 256 := by omega
        rw [e2, Nat.mul_one] at hy
        rw [e1]
        rw [hy]
        rw [Oper.uponIn_round]
        refine ⟨fun h => by simp [Fence.wide] at h, hR.mono ?_⟩
        rintro e W3 (⟨rfl, hJ3⟩ | ⟨rfl, hJx3⟩)
        · have hc3 := (hcell _ _ hJ3).2
          gi_wp2
          go_roundw
          case rel => exact ⟨k + 1, by omega, by simp; omega, hJ3⟩
          case measure => simp [intOf]; omega
        · gi_wp2
          refine bodyPost_ret (results_none rfl _ _ _) rfl ?_
          exact ⟨⟨_, rfl⟩, .inr hJx3⟩
    · have hkN : k = N := by omega
      have hge : ¬ ((256 * k : Nat) : Int) < (len : Int) := by omega
      gi_wp2
      go_end0
      exact ⟨⟨_, rfl⟩, .inl (by rw [← hN, ← hkN]; exact hJs)⟩

end Go.Dv

/-! chain.Add: its code in parts -/
set_option maxRecDepth 100000
namespace Go.Dv
open Go Go.Sh Go.Sl Go.Proofs

def cL : Code → Code | .seq a _ => a | c => c
def cR : Code → Code | .seq _ b => b | c => c
def pre : List Code → Code → Code
  | [], s => s
  | c :: cs, s => .seq c (pre cs s)
noncomputable def body47 : Code := match Tryd.f47.body with | some c => c | none => .skip
noncomputable def p0 : Code := cL body47
noncomputable def q1 : Code := cR body47
noncomputable def p1 : Code := cL q1
noncomputable def q2 : Code := cR q1
noncomputable def p3 : Code := cL q2
noncomputable def q3 : Code := cR q2
noncomputable def p4 : Code := cL q3
noncomputable def q4 : Code := cR q3
noncomputable def p10 : Code := cL q4
noncomputable def q5 : Code := cR q4
noncomputable def rg : Code := cL q5
noncomputable def sf : Code := cR q5
noncomputable def p11 : Code := cL rg
noncomputable def blk1 : Code := cR rg
def inB : Code → Code | .block _ c => c | c => c
def rbody : Code → Code | .rangeFunc _ _ _ b => b | c => c
def rasg : Code → Code | .rangeFunc _ _ a _ => a | c => c
noncomputable def bodyR : Code := rbody (inB blk1)
noncomputable def asgR : Code := rasg (inB blk1)
noncomputable abbrev lv0 : Lv := ⟨resMask Tryd.f47.results.toList, resMask Tryd.f47.results.toList, []⟩
noncomputable abbrev lvA : Lv := ⟨bit 2 ||| (bit 4 ||| (bit 6 ||| bit 43)), resMask Tryd.f47.results.toList, []⟩

theorem body_is : Tryd.f47.body = some (pre [p0, p1, p3, p4, p10] (.seq (.seq p11 (.block 1 (.rangeFunc (.tmp 43) #[44] asgR bodyR))) sf)) := by kernel_rfl
theorem plain_body : plainC bodyR := plain_of _ (by kernel_rfl)
theorem plain_asg : plainC asgR := plain_of _ (by kernel_rfl)

def vcA (x0 x1 : Option Addr) (x1l x1c : Nat) (w : World) (R : Value → World → Prop) (KN : Value → Value → Value → Value → World → Prop) : Prop :=
  DoA P (Instr.box t_p_chain_Area (Value.pointer x0)) w fun a0 w0 ↦
    DoA P (Instr.alloc t_api_Errno true (Value.tuple #[])) w0 fun a1 w1 ↦
      LdP P t_p_chain_Area a0 w1 fun p0 ↦
        Br (Option.isNone p0) (DoU P (storeVar t_api_Errno a1 (Value.int IntKind.i64 2)) w1 fun w2 ↦ LdI IntKind.i64 P t_api_Errno a1 w2 fun n0 ↦ R (Value.int IntKind.i64 n0) w2)
          (Nz 256 ∧
            Jn (fun K0 ↦ Br (eqI (Nat.cast x1l) 0) (K0 [Value.bool true] w1) (Cs P f_seg_Length #[Value.slice x1 x1l x1c] w1 fun v0 w3 ↦ ∃ n1, v0 = Value.int IntKind.i64 n1 ∧ K0 [Value.bool (neI n1 (Nat.cast x1l))] w3)) fun K1 ↦
              ∀ (b0 : Bool) (w4 : World),
                K1 [Value.bool b0] w4 →
                  Br b0 (DoU P (storeVar t_api_Errno a1 (Value.int IntKind.i64 1)) w4 fun w5 ↦ LdI IntKind.i64 P t_api_Errno a1 w5 fun n2 ↦ R (Value.int IntKind.i64 n2) w5)
                    (LdP P t_p_chain_Area a0 w4 fun p1 ↦
                      NN p1 fun a2 ↦
                        LdP P t_p_disk_Disk (Addr.add a2 0) w4 fun p2 ↦
                          Cs P f_disk_Disk_Down #[Value.pointer p2] w4 fun v1 w6 ↦
                            ∃ b1,
                              v1 = Value.bool b1 ∧
                                Br b1 (DoU P (storeVar t_api_Errno a1 (Value.int IntKind.i64 8)) w6 fun w7 ↦ LdI IntKind.i64 P t_api_Errno a1 w7 fun n3 ↦ R (Value.int IntKind.i64 n3) w7)
                                  (LdP P t_p_chain_Area a0 w6 fun p3 ↦
                                    Cs P f_chain_Area_Left #[Value.pointer p3] w6 fun v2 w8 ↦
                                      ∃ n4,
                                        v2 = Value.int IntKind.i64 n4 ∧
                                          Br (gtI (IntKind.wrap IntKind.i64 (Int.tdiv (IntKind.wrap IntKind.i64 (IntKind.wrap IntKind.i64 (Nat.cast x1l + 256) - 1)) 256)) n4)
                                            (DoU P (storeVar t_api_Errno a1 (Value.int IntKind.i64 7)) w8 fun w9 ↦ LdI IntKind.i64 P t_api_Errno a1 w9 fun n5 ↦ R (Value.int IntKind.i64 n5) w9)
                                            (LdP P t_p_chain_Area a0 w8 fun p4 ↦
                                              NN p4 fun a3 ↦
                                                LdI IntKind.i64 P t_int (Addr.add a3 3) w8 fun n6 ↦
                                                  DoA P (Instr.alloc t_int true (Value.tuple #[])) w8 fun a4 w10 ↦
                                                    DoU P (storeVar t_int a4 (Value.int IntKind.i64 n6)) w10 fun w11 ↦ Cs P f_slices_Chunk_byte_byte #[Value.slice x1 x1l x1c, Value.int IntKind.i64 256] w11 fun v3 w12 ↦ ∃ v4, v3 = v4 ∧ KN (Value.pointer (some a0)) (Value.pointer (some a1)) (Value.pointer (some a4)) v4 w12))))
theorem okA {x0 x1 : Option Addr} {x1l x1c : Nat} {w : World} {R : Value → World → Prop} {KN : Value → Value → Value → Value → World → Prop} (h : vcA x0 x1 x1l x1c w R KN) :
    wpc P 61 (pre [p0, p1, p3, p4, p10, p11] .skip) lvA [(0, .pointer x0), (1, .slice x1 x1l x1c)] w (fun E w => evK E (.tmp 2) fun v2 => evK E (.tmp 4) fun v4 => evK E (.tmp 6) fun v6 => evK E (.tmp 43) fun v43 => KN v2 v4 v6 v43 w) (resK P Tryd.f47 R) [] := Eq.mpr (by kernel_rfl) h

def vcB (a0 a1 a4 : Addr) (x : Option Addr) (xl xc : Nat) (w : World) (KN KR : World → Prop) : Prop :=
  Dr w fun w0 ↦
    LdP P t_p_chain_Area a0 w0 fun p0 ↦
      NN p0 fun a0_1 ↦
        LdP P t_p_disk_Disk (Addr.add a0_1 0) w0 fun p1 ↦
          LdI IntKind.i64 P t_int a4 w0 fun n0 ↦
            Cs P f_disk_Disk_Write #[Value.pointer p1, Value.int IntKind.i64 n0, Value.slice x xl xc] w0 fun v0 w1 ↦
              ∃ n1,
                v0 = Value.int IntKind.i64 n1 ∧
                  (Still P (loadVar t_p_chain_Area a0) (Value.pointer p0) w1 ∧ True) ∧
                    Br (neI n1 0) (DoU P (storeVar t_api_Errno a1 (Value.int IntKind.i64 n1)) w1 fun w2 ↦ KR w2) (LdI IntKind.i64 P t_int a4 w1 fun n2 ↦ DoU P (storeVar t_int a4 (Value.int IntKind.i64 (IntKind.wrap IntKind.i64 (n2 + 1)))) w1 fun w3 ↦ KN w3)
theorem okB {a0 a1 a4 : Addr} {x : Option Addr} {xl xc : Nat} {w : World} {KN KR : World → Prop} (h : vcB a0 a1 a4 x xl xc w KN KR) :
    wpc P 61 bodyR lv0 [(7, .slice x xl xc), (2, .pointer (some a0)), (4, .pointer (some a1)), (6, .pointer (some a4))] w (fun _ w => KN w) (fun _ w => KR w) [] := Eq.mpr (by kernel_rfl) h

def vcC (a0 a1 a4 : Addr) (w : World) (KR : Value → World → Prop) : Prop :=
  LdP P t_p_chain_Area a0 w fun p0 ↦ LdI IntKind.i64 P t_int a4 w fun n0 ↦ NN p0 fun a0 ↦ DoU P (storeVar t_int (Addr.add a0 3) (Value.int IntKind.i64 n0)) w fun w0 ↦ DoU P (storeVar t_api_Errno a1 (Value.int IntKind.i64 0)) w0 fun w1 ↦ KR (Value.pointer (some a1)) w1
theorem okC {a0 a1 a4 : Addr} {w : World} {KR : Value → World → Prop} (h : vcC a0 a1 a4 w KR) :
    wpc P 61 sf lv0 [(2, .pointer (some a0)), (4, .pointer (some a1)), (6, .pointer (some a4))] w (fun _ _ => False) (fun E w => evK E (.tmp 4) fun v => KR v w) [] := Eq.mpr (by kernel_rfl) h

theorem okE {v u2 u4 u6 : Value} {w : World} {KN : Value → Value → Value → Value → World → Prop} (h : KN v u2 u4 u6 w) :
    wpc P 61 asgR lv0 [(44, v), (2, u2), (4, u4), (6, u6)] w (fun E w => evK E (.tmp 7) fun v7 => evK E (.tmp 2) fun v2 => evK E (.tmp 4) fun v4 => evK E (.tmp 6) fun v6 => KN v7 v2 v4 v6 w) (fun _ _ => False) [] := Eq.mpr (by kernel_rfl) h

def vcD (x0 : Option Addr) (x0l x0c : Nat) (x1 : Int) (w : World) (R : Value → World → Prop) : Prop :=
  DoA P (Instr.box t_sl_uint8 (Value.slice x0 x0l x0c)) w fun a0 w0 ↦
    DoA P (Instr.box t_int (Value.int IntKind.i64 x1)) w0 fun a1 w1 ↦ LdI IntKind.i64 P t_int a1 w1 fun n0 ↦ Jn (fun K0 ↦ Br (ltI n0 1) False (K0 [] w1)) fun K1 ↦ ∀ (w2 : World), K1 [] w2 → R (Value.func (Fn.func 87) #[] #[Value.pointer (some a0), Value.pointer (some a1)]) w2
theorem okD {x0 : Option Addr} {x0l x0c : Nat} {x1 : Int} {w : World} {R : Value → World → Prop} (h : vcD x0 x0l x0c x1 w R) : Cs P f_slices_Chunk_byte_byte #[.slice x0 x0l x0c, .int .i64 x1] w R :=
  wpF_ok follows Tryd.func71 (Eq.mpr (by kernel_rfl) h)

/-- A row of codes, and one behind it. -/
theorem wpc_pre {n : Nat} {dfs : List Deferred} {lv : Lv} {KN KR : Kont} {s : Code} {Q : Exit → Act → World → Prop} (hs : ∀ a E w, Agr dfs n a E → KN E w → s.wp P Q a w) (hr : ∀ a E w, Agr dfs n a E → KR E w → Q .ret a w) :
    ∀ (cs : List Code) (E : Env) (w : World) (a : Act), Agr dfs n a E → wpc P n (pre cs .skip) lv E w KN KR [] → (pre cs s).wp P Q a w
  | [], E, w, a, ha, h => hs a E w ha h
  | c :: cs, E, w, a, ha, h => by
    simp only [pre, wpc] at h
    refine wp_seq (wpc_ok follows c _ E [] w a _ KR [] _ (fun F hF => by cases hF) ⟨?_, ?_, ?_⟩ ha (fun F hF => by cases hF) h)
    · intro a' E' w' ha' _ hk
      exact wpc_pre hs hr cs E' w' a' ha' hk
    · intro a' E' w' ha' hk; exact hr _ _ _ ha' hk
    · intro id K hid; cases hid

end Go.Dv

/-! chain.Add -/
set_option maxRecDepth 20000
namespace Go.Dv
open Go Go.Sh Go.Sl Go.Proofs

variable {B : Bs} {w : World} {F : List HP} {K : Value → World → Prop}

theorem sc_parea : scal P t_p_chain_Area = true := by kernel_rfl
theorem sc_errno : scal P t_api_Errno = true := by kernel_rfl
theorem zr_errno : zeros P t_api_Errno = some [.int .i64 0] := by kernel_rfl

theorem Chunk_ok {q : Option Addr} {m mc : Nat} (h : Sat B w F) (hk : ∀ b1 b2 w', Sat B w' (bk b1 t_sl_uint8 [.slice q m mc] :: bk b2 t_int [.int .i64 256] :: F) → K (.func (.func 87) #[] #[.pointer (at0 b1), .pointer (at0 b2)]) w') :
    Cs P f_slices_Chunk_byte_byte #[.slice q m mc, .int .i64 256] w K := by
  refine okD ?_
  unfold vcD
  refine h.new fun b1 w' h => h.new fun b2 w' h => ⟨_, ld1 (L := [.int .i64 256]) sc_int h.bk rfl, Jn.dup (Br.f ⟨rfl, hk b1 b2 _ (h.pull 1)⟩)⟩

/-- A sector's part of bytes. -/
def chunk (bs : List UInt8) (i : Nat) : List UInt8 := (bs.drop (256 * i)).take 256
theorem chunk_length (bs : List UInt8) (i : Nat) : (chunk bs i).length = min 256 (bs.length - 256 * i) := by simp [chunk]

def addF (bs : List UInt8) (a : Nat) : Nat → Nat → Dk → Dk × Int
  | 0, _, D => (D, 0)
  | k + 1, i, D => if (D.write (a + i) (chunk bs i)).2 ≠ 0 then D.write (a + i) (chunk bs i) else addF bs a k (i + 1) (D.write (a + i) (chunk bs i)).1

theorem write_len {D : Dk} (h : D.ok) {i : Nat} (hi : i < D.now.length) {bs : List UInt8} (hb : bs.length ≤ 256) : (D.write i bs).1.now.length = D.now.length := by
  obtain ⟨e1, e2, e3, e4, e5⟩ := act_same D
  unfold Dk.write
  split
  · rfl
  · split
    · dsimp only
      rw [off_len (put_ok (act_okd h) (by rw [e1]; exact hi) hb)]
      simp [Dk.put, e1]
    · simp [Dk.put, e1]
theorem write_waits {D : Dk} {i : Nat} {bs : List UInt8} : (D.write i bs).1.waits.length ≤ D.waits.length + 1 := by
  obtain ⟨e1, e2, e3, e4, e5⟩ := act_same D
  unfold Dk.write
  split
  · simp
  · split
    · dsimp only
      unfold Dk.off
      split
      · simp [Dk.put, e3]
      · simp
    · simp [Dk.put, e3]

/-- A frame is added. -/
def Ar.add (A : Ar) (D : Dk) (bs : List UInt8) : Ar × Dk × Int :=
  if D.down then (A, D, 8) else if A.to - A.at_ < (bs.length + 255) / 256 then (A, D, 7)
  else if (addF bs A.at_ ((bs.length + 255) / 256) 0 D).2 ≠ 0 then (A, addF bs A.at_ ((bs.length + 255) / 256) 0 D)
  else ({ A with at_ := A.at_ + (bs.length + 255) / 256 }, (addF bs A.at_ ((bs.length + 255) / 256) 0 D).1, 0)

theorem agr_get {dfs : List Deferred} {n : Nat} {a : Act} {E : Env} (h : Agr dfs n a E) {i : Nat} {v : Value} (hv : find E i = some v) : Agr dfs n a [(i, v)] :=
  ⟨h.defers, h.size, fun j u hj => by
    simp only [find] at hj
    cases hb : Nat.beq i j with
    | true =>
      rw [hb] at hj
      simp only [cond_true, Option.some.injEq] at hj
      subst hj
      rw [← Nat.eq_of_beq_eq_true hb]
      exact h.at_ i v hv
    | false => rw [hb] at hj; cases hj⟩

theorem evK_some {E : Env} {i : Nat} {K : Value → Prop} (h : evK E (.tmp i) K) : ∃ v, find E i = some v ∧ K v := by
  unfold evK ev at h
  split at h
  · rename_i v hv; exact ⟨v, hv, h⟩
  · exact h.elim

theorem agr_of {dfs : List Deferred} {n : Nat} {a : Act} {E E' : Env} (h : Agr dfs n a E) (h' : ∀ i v, find E' i = some v → find E i = some v) : Agr dfs n a E' := ⟨h.defers, h.size, fun i v hi => h.at_ i v (h' i v hi)⟩

theorem find4 {i1 i2 i3 i4 : Nat} {v1 v2 v3 v4 : Value} {E : Env} (h1 : find E i1 = some v1) (h2 : find E i2 = some v2) (h3 : find E i3 = some v3) (h4 : find E i4 = some v4) :
    ∀ i v, find [(i1, v1), (i2, v2), (i3, v3), (i4, v4)] i = some v → find E i = some v := by
  have one : ∀ {j i : Nat} {u v : Value} {E' : Env}, find E j = some u → (find E' i = some v → find E i = some v) → find ((j, u) :: E') i = some v → find E i = some v := by
    intro j i u v E' hj ih h
    simp only [find] at h
    cases hb : Nat.beq j i with
    | true =>
      rw [hb] at h
      simp only [cond_true, Option.some.injEq] at h
      rw [← Nat.eq_of_beq_eq_true hb, hj, h]
    | false => rw [hb] at h; exact ih h
  intro i v
  exact one h1 (one h2 (one h3 (one h4 fun h => by cases h)))

theorem find3 {i2 i3 i4 : Nat} {v2 v3 v4 : Value} {E : Env} (h2 : find E i2 = some v2) (h3 : find E i3 = some v3) (h4 : find E i4 = some v4) :
    ∀ i v, find [(i2, v2), (i3, v3), (i4, v4)] i = some v → find E i = some v := by
  intro i v h
  refine find4 h2 h3 h4 h4 i v ?_
  simp only [find] at h ⊢
  cases hb2 : Nat.beq i2 i <;> cases hb3 : Nat.beq i3 i <;> cases hb4 : Nat.beq i4 i <;> simp_all

theorem agr_args {args : List Value} {n : Nat} (hle : args.length ≤ n) : Agr [] n { tmps := args.toArray ++ Array.replicate (n - args.toArray.size) undef, defers := [] } (zipE (List.range args.length) args []) := by
  refine ⟨rfl, by simp; omega, ?_⟩
  intro i v hi
  rw [List.range_eq_range'] at hi
  refine zip_args args (n - args.toArray.size) 0 args ?_ i v hi
  intro j u hj
  have hlt := (List.getElem?_eq_some_iff.1 hj).1
  rw [Array.getD_eq_getD_getElem?, Nat.zero_add, Array.getElem?_append_left (by simpa using hlt)]
  simp [hj]

theorem so4 {p1 p2 p3 p4 : HP} {φ : Prop} (h : Sat B w (p1 :: p2 :: p3 :: p4 :: F)) (hφ : φ) : Sat B w (p1 :: p2 :: p3 :: p4 :: so φ :: F) := ((((Sat.known hφ h).pull 4).pull 4).pull 4).pull 4
theorem so3 {p1 p2 p3 : HP} {φ : Prop} (h : Sat B w (p1 :: p2 :: p3 :: F)) (hφ : φ) : Sat B w (p1 :: p2 :: p3 :: so φ :: F) := (((Sat.known hφ h).pull 3).pull 3).pull 3

theorem res47 {b : Nat} {w : World} {K : Value → World → Prop} (h : LdI .i64 P t_api_Errno ⟨b, 0, none⟩ w fun n => K (.int .i64 n) w) : resK P Tryd.f47 K [(4, .pointer (at0 b))] w := Eq.mpr (by kernel_rfl) h

theorem leave47 {B2 : Bs} {D' b1 ab db : Nat} {a' : Act} {E' : Env} {w' : World} {e : Int} {A' : Ar} {D2 : Dk} (hle : B.le B2) (ha : Agr [{ target := .collected D', args := #[] }] 61 a' E') (h4 : find E' 4 = some (.pointer (at0 b1)))
    (h : Sat B2 w' (bk b1 t_api_Errno [.int .i64 e] :: ara ab db A' :: dsk db D2 :: Sl.blk D' (.deferred (some [])) :: F)) (hk : ∀ w, Sat B w (ara ab db A' :: dsk db D2 :: F) → K (.int .i64 e) w) :
    LeavesInM Fence.wide 9 P Tryd.f47 a'.tmps (fun e w => ∃ v, e = .returned v ∧ K v w) a'.defers .returning w' := by
  rw [ha.defers]
  have h := Sat.pull 3 h
  have hK := Sat.blk h
  have h := h.put (o' := .deferred none)
  refine ⟨by simp, .inl ⟨D', _, rfl, run_takeDeferred hK, ?_⟩⟩
  have h : Sat B2 (w'.putObj D' (.deferred none)) (_ :: bk b1 t_api_Errno [.int .i64 e] :: ara ab db A' :: dsk db D2 :: F) := h
  obtain ⟨v, h1, h2⟩ := resK_ok (agr_get ha h4) (res47 (K := K) (b := b1) (w := w'.putObj D' (.deferred none)) ⟨e, ld1 (L := [.int .i64 e]) sc_errno (h.pull 1).bk rfl, hk _ ((h.tail.tail).thaw hle)⟩)
  exact ⟨v, h1, v, rfl, h2⟩

theorem nt47 : Tryd.f47.ntmps = 61 := by kernel_rfl

theorem Add_ok {ab db m mc : Nat} {A : Ar} {D : Dk} {q : Option Addr} {bs : List UInt8} (h : Sat B w (ara ab db A :: dsk db D :: F)) (hr : Rd B q (bcells bs)) (hm : m = bs.length) (hmc : bs.length ≤ mc) (hne : bs ≠ []) (hfl : flen bs = bs.length)
    (hto : A.to ≤ D.now.length) (hwl : D.waits.length < 10000000)
    (hk : ∀ w', Sat B w' (ara ab db (A.add D bs).1 :: dsk db (A.add D bs).2.1 :: F) → K (.int .i64 (A.add D bs).2.2) w') : Cs P f_chain_Area_Add #[.pointer (at0 ab), .slice q m mc] w K := by
  subst hm
  have hbl : bs.length ≤ 16384 := by have := flen_le bs; omega
  have hb0 : 0 < bs.length := List.length_pos_iff.2 hne
  obtain ⟨N, hN⟩ : ∃ N, N = (bs.length + 255) / 256 := ⟨_, rfl⟩
  have hA := (Sat.aOpen h).2
  have hD := Sat.dFact (h.pull 1)
  refine callsIn_wide.1 (callsIn_of_wp_marks (n := 9) Tryd.func47 body_is trivial ?_ rfl)
  refine wpIn_wide.2 ?_
  refine wpc_pre (n := 61) (dfs := []) (lv := lvA) (KN := fun E w => wpc P 61 (pre [p11] .skip) lvA E w (fun E w => evK E (.tmp 2) fun v2 => evK E (.tmp 4) fun v4 => evK E (.tmp 6) fun v6 => evK E (.tmp 43) fun v43 =>
      ∃ a0 b1 b4 c1 c2, v2 = .pointer (at0 a0) ∧ v4 = .pointer (at0 b1) ∧ v6 = .pointer (at0 b4) ∧ v43 = .func (.func 87) #[] #[.pointer (at0 c1), .pointer (at0 c2)] ∧ D.down = false ∧ N ≤ A.to - A.at_ ∧
        Sat B w (bk c1 t_sl_uint8 [.slice q bs.length mc] :: bk c2 t_int [.int .i64 256] :: bk a0 t_p_chain_Area [.pointer (at0 ab)] :: bk b4 t_int [.int .i64 A.at_] :: bk b1 t_api_Errno [.int .i64 0] :: ara ab db A :: dsk db D :: F)) (resK P Tryd.f47 K) [])
    (KR := resK P Tryd.f47 K) ?_ ?_ _ [(0, .pointer (at0 ab)), (1, .slice q bs.length mc)] _ _ ?_ ?_
  · intro a E w ha hk0
    simp only [pre, wpc] at hk0
    refine wp_seq (wp_seq (wpc_ok follows p11 _ E [] w a _ (resK P Tryd.f47 K) [] _ (fun F hF => by cases hF) ⟨?_, ?_, fun id K hid => by cases hid⟩ ha (fun F hF => by cases hF) hk0))
    · clear hk0 ha
      intro a E w ha _ hk0
      obtain ⟨v2, f2, hk0⟩ := evK_some hk0
      obtain ⟨v4, f4, hk0⟩ := evK_some hk0
      obtain ⟨v6, f6, hk0⟩ := evK_some hk0
      obtain ⟨v43, f43, a0, b1, b4, c1, c2, rfl, rfl, rfl, rfl, hd, hle, h⟩ := evK_some hk0
      show (Code.block 1 _).wp P _ a w
      refine wp_block ?_
      obtain ⟨B1, hle1, h, hz1, _⟩ := h.lendBk
      obtain ⟨B2, hle2, h, hz2, _⟩ := h.lendBk
      obtain ⟨B3, hle3, h, hz3, _⟩ := h.lendBk
      have hz1 := hle3.z _ _ (hle2.z _ _ hz1)
      have hz2 := hle3.z _ _ hz2
      have hleB := (hle1.trans hle2).trans hle3
      have hr3 := hr.mono hleB
      have hex : A.add D bs = if (addF bs A.at_ N 0 D).2 ≠ 0 then (A, addF bs A.at_ N 0 D) else ({ A with at_ := A.at_ + N }, (addF bs A.at_ N 0 D).1, 0) := by
        unfold Ar.add
        rw [hd, if_neg (by simp), if_neg (by omega), hN]
      rw [hex] at hk
      generalize hR : addF bs A.at_ N 0 D = R at *
      let I : Nat → HP := fun i => box fun (D' : Dk) => [dsk db D', bk b4 t_int [.int .i64 ((A.at_ + i : Nat) : Int)], bk b1 t_api_Errno [.int .i64 0], ara ab db A, so (addF bs A.at_ (N - i) i D' = R ∧ D'.now.length = D.now.length ∧ D'.waits.length ≤ D.waits.length + i)]
      let Ix : HP := box fun (x : Dk × Int) => [dsk db x.1, bk b1 t_api_Errno [.int .i64 x.2], ara ab db A, so (R = x ∧ x.2 ≠ 0)]
      let enc : Nat → Value := fun i => .slice (q.map (·.add (256 * i * 1))) (min 256 (bs.length - 256 * i)) (min 256 (bs.length - 256 * i))
      refine Sat.range (B := B3) (G := F) (n := 5) (gf := 87) (lb := #[.pointer (at0 c1), .pointer (at0 c2)]) (ha.at_ 43 _ f43) (enters_of Tryd.func87 (by kernel_rfl) rfl) N (fun i => #[enc i]) (fun _ => rfl) I Ix ?_
        (fun i a' => Agr [] 61 a' [(7, enc i), (2, .pointer (at0 a0)), (4, .pointer (at0 b1)), (6, .pointer (at0 b4))]) ?_ ?_ ?_ ?_ ?_
      · refine Sat.shut (f := fun (D' : Dk) => [dsk db D', bk b4 t_int [.int .i64 ((A.at_ + 0 : Nat) : Int)], bk b1 t_api_Errno [.int .i64 0], ara ab db A, so (addF bs A.at_ (N - 0) 0 D' = R ∧ D'.now.length = D.now.length ∧ D'.waits.length ≤ D.waits.length + 0)]) D ?_
        exact so4 (h.pull 3) ⟨hR, rfl, Nat.le_refl _⟩
      · intro l J Jx Fr W1 h0 hY
        have := chunk_in l c1 c2 q bs.length mc N hb0 (by omega) hmc hN (fun i W => Sat B3 W (J i :: Fr)) (fun W => Sat B3 W (Jx :: Fr))
          (fun i W h => ⟨cell_of (L := [.slice q bs.length mc]) (h.z hz1) rfl, cell_of (L := [.int .i64 256]) (h.z hz2) rfl⟩) (fun i W h => h.drew) (fun i W m hi h => hY i W m hi h) W1 h0
        exact callsIn_wide.1 this
      · intro l i m W X hi hX
        have hact : ({ tmps := ((#[44] : Array Tmp).zip #[enc i]).foldl (fun t x => t.setIfInBounds x.1 x.2) a.tmps, defers := [] } : Act) = a.put (some 44) (enc i) := by
          have : a.put (some 44) (enc i) = { tmps := a.tmps.setIfInBounds 44 (enc i), defers := a.defers } := rfl
          rw [this, ha.defers]
          simp
        have hag : Agr [] 61 (a.put (some 44) (enc i)) [(44, enc i), (2, .pointer (at0 a0)), (4, .pointer (at0 b1)), (6, .pointer (at0 b4))] := by
          have := Agr.put ha (d := 44) (by decide) (enc i)
          refine agr_of this (find4 (by simp [find]) ?_ ?_ ?_)
          · simp only [find]; exact f2
          · simp only [find]; exact f4
          · simp only [find]; exact f6
        show Code.wpIn (Fence.wide.inRound l) m P asgR _ ({ tmps := ((#[44] : Array Tmp).zip #[enc i]).foldl (fun t x => t.setIfInBounds x.1 x.2) a.tmps, defers := [] } : Act) W
        rw [hact]
        refine wpcIn_ok (dfs := []) (n := 61) follows asgR lv0 [(44, enc i), (2, .pointer (at0 a0)), (4, .pointer (at0 b1)), (6, .pointer (at0 b4))] [] W _ (fun E w => evK E (.tmp 7) fun v7 => evK E (.tmp 2) fun v2 => evK E (.tmp 4) fun v4 => evK E (.tmp 6) fun v6 => (v7 = enc i ∧ v2 = .pointer (at0 a0) ∧ v4 = .pointer (at0 b1) ∧ v6 = .pointer (at0 b4)) ∧ w = W) (fun _ _ => False) [] _ (fun F hF => by cases hF) ⟨?_, fun _ _ _ _ h => h.elim, fun id K hid => by cases hid⟩ plain_asg hag (fun F hF => by cases hF) (okE ⟨⟨rfl, rfl, rfl, rfl⟩, rfl⟩)
        intro a' E' w' ha' _ hk'
        obtain ⟨v7, g7, hk'⟩ := evK_some hk'
        obtain ⟨v2, g2, hk'⟩ := evK_some hk'
        obtain ⟨v4, g4, hk'⟩ := evK_some hk'
        obtain ⟨v6, g6, ⟨rfl, rfl, rfl, rfl⟩, rfl⟩ := evK_some hk'
        exact hX a' (agr_of ha' (find4 g7 g2 g4 g6))
      · intro l i m W Fr a' hi hax h
        refine wpcIn_ok (dfs := []) (n := 61) follows bodyR lv0 [(7, enc i), (2, .pointer (at0 a0)), (4, .pointer (at0 b1)), (6, .pointer (at0 b4))] [] W a' (fun _ w => Sat B3 w (I (i + 1) :: Fr)) (fun _ w => Sat B3 w (Ix :: Fr)) [] _ (fun F hF => by cases hF) ⟨fun a E w _ _ h => h, fun a E w _ h => h, fun id K hid => by cases hid⟩ plain_body hax (fun F hF => by cases hF) (okB ?_)
        obtain ⟨D', h⟩ := h.opened
        have h : Sat B3 W (dsk db D' :: bk b4 t_int [.int .i64 ((A.at_ + i : Nat) : Int)] :: bk b1 t_api_Errno [.int .i64 0] :: ara ab db A :: so (addF bs A.at_ (N - i) i D' = R ∧ D'.now.length = D.now.length ∧ D'.waits.length ≤ D.waits.length + i) :: Fr) := h
        obtain ⟨⟨hRi, hlen, hwt⟩, h⟩ := (h.pull 4).fact
        obtain ⟨k, hk1⟩ : ∃ k, N - i = k + 1 := ⟨N - i - 1, by omega⟩
        rw [hk1, addF] at hRi
        have hin : A.at_ + i < D'.now.length := by have := hA.at_; omega
        have hcl := chunk_length bs i
        have hD' := Sat.dFact h
        intro w1 hal
        have h := h.alk hal
        have la0 : ∀ {w' G}, Sat B3 w' G → (loadVar t_p_chain_Area ⟨a0, 0, none⟩).run P w' = .ok (.pointer (at0 ab)) w' := fun h => ld1 (L := [.pointer (at0 ab)]) sc_parea (h.z hz3) rfl
        refine ⟨_, la0 h, NN.some ⟨_, ld1 (L := acells db A) sc_pdisk (Sat.aOpen (h.pull 3)).1.bk rfl, _, ld1 (L := [.int .i64 ((A.at_ + i : Nat) : Int)]) sc_int (h.pull 1).bk rfl, ?_⟩⟩
        have hrc : Rd B3 (q.map (·.add (256 * i * 1))) (bcells (chunk bs i)) := by
          have := hr3.sub (256 * i) (min 256 (bs.length - 256 * i)) (by rw [bcells_length]; omega)
          have e : bcells (chunk bs i) = ((bcells bs).drop (256 * i)).take (min 256 (bs.length - 256 * i)) := by
            simp only [chunk, bcells, List.map_take, List.map_drop]
            rw [List.take_eq_take_iff]
            simp only [List.length_drop, List.length_map]
            omega
          rw [e, Nat.mul_one]
          exact this
        refine Write_ok h hin hrc hcl.symm (by omega) (by omega) fun w' h => ⟨_, rfl, ⟨la0 h, trivial⟩, ?_⟩
        refine Br.ne (fun hne => ?_) fun h0 => ?_
        · rw [if_pos hne] at hRi
          refine Sat.st1 (h.pull 2) sc_errno rfl (by simp) fun w' h => ?_
          refine Sat.shut (f := fun (x : Dk × Int) => [dsk db x.1, bk b1 t_api_Errno [.int .i64 x.2], ara ab db A, so (R = x ∧ x.2 ≠ 0)]) (D'.write (A.at_ + i) (chunk bs i)) ?_
          have h : Sat B3 w' (bk b1 t_api_Errno [.int .i64 (D'.write (A.at_ + i) (chunk bs i)).2] :: dsk db (D'.write (A.at_ + i) (chunk bs i)).1 :: bk b4 t_int [.int .i64 ((A.at_ + i : Nat) : Int)] :: ara ab db A :: Fr) := h
          exact so3 ((h.pull 2).tail.pull 1) ⟨hRi.symm, hne⟩
        · rw [if_neg (by simpa using h0)] at hRi
          refine ⟨_, ld1 (L := [.int .i64 ((A.at_ + i : Nat) : Int)]) sc_int (h.pull 1).bk rfl, ?_⟩
          refine Sat.st1 (h.pull 1) sc_int rfl (by simp) fun w' h => ?_
          refine Sat.shut (f := fun (D' : Dk) => [dsk db D', bk b4 t_int [.int .i64 ((A.at_ + (i + 1) : Nat) : Int)], bk b1 t_api_Errno [.int .i64 0], ara ab db A, so (addF bs A.at_ (N - (i + 1)) (i + 1) D' = R ∧ D'.now.length = D.now.length ∧ D'.waits.length ≤ D.waits.length + (i + 1))]) (D'.write (A.at_ + i) (chunk bs i)).1 ?_
          have hat : A.at_ + i < 5000 := by have := hA.at_; have := hA.to; omega
          rw [w64 (x := ((A.at_ + i : Nat) : Int) + 1) (by omega) (by omega), show ((A.at_ + i : Nat) : Int) + 1 = ((A.at_ + (i + 1) : Nat) : Int) by omega] at h
          have h : Sat B3 w' (bk b4 t_int [.int .i64 ((A.at_ + (i + 1) : Nat) : Int)] :: dsk db (D'.write (A.at_ + i) (chunk bs i)).1 :: bk b1 t_api_Errno [.int .i64 0] :: ara ab db A :: Fr) := h
          have hww := write_waits (D := D') (i := A.at_ + i) (bs := chunk bs i)
          exact so4 (h.pull 1) ⟨by rw [show N - (i + 1) = k by omega]; exact hRi, by rw [write_len hD' hin (by omega), hlen], by omega⟩
      · intro D' W h
        show Code.wp P sf _ _ W
        have hag : Agr [{ target := .collected D', args := #[] }] 61 { a with defers := { target := .collected D', args := #[] } :: a.defers } E := ⟨by rw [ha.defers], ha.size, ha.at_⟩
        obtain ⟨D2, h⟩ := h.opened
        have h : Sat B3 W (dsk db D2 :: bk b4 t_int [.int .i64 ((A.at_ + N : Nat) : Int)] :: bk b1 t_api_Errno [.int .i64 0] :: ara ab db A :: so (addF bs A.at_ (N - N) N D2 = R ∧ D2.now.length = D.now.length ∧ D2.waits.length ≤ D.waits.length + N) :: Sl.blk D' (.deferred (some [])) :: F) := h
        obtain ⟨⟨hRN, _, _⟩, h⟩ := (h.pull 4).fact
        rw [Nat.sub_self] at hRN
        have hR2 : R = (D2, 0) := hRN.symm
        rw [hR2, if_neg (by simp)] at hk
        refine wpc_ok (dfs := [{ target := .collected D', args := #[] }]) (n := 61) follows sf lv0 [(2, .pointer (at0 a0)), (4, .pointer (at0 b1)), (6, .pointer (at0 b4))] [] W _ (fun _ _ => False) (fun E w => evK E (.tmp 4) fun v => v = .pointer (at0 b1) ∧ Sat B3 w (bk b1 t_api_Errno [.int .i64 0] :: ara ab db { A with at_ := A.at_ + N } :: dsk db D2 :: Sl.blk D' (.deferred (some [])) :: F)) [] _
          (fun F hF => by cases hF) ⟨fun _ _ _ _ _ h => h.elim, ?_, fun id K hid => by cases hid⟩ (agr_of hag (find3 f2 f4 f6)) (fun F hF => by cases hF) (okC ?_)
        · intro a' E' w' ha' hk'
          obtain ⟨v4, g4, rfl, h⟩ := evK_some hk'
          exact leave47 hleB ha' g4 h hk
        · have hat := hA.at_
          have hto' := hA.to
          refine ⟨_, ld1 (L := [.pointer (at0 ab)]) sc_parea (h.z hz3) rfl, _, ld1 (L := [.int .i64 ((A.at_ + N : Nat) : Int)]) sc_int (h.pull 1).bk rfl, NN.some ?_⟩
          refine Sat.st1 (Sat.aOpen (h.pull 3)).1 sc_int rfl (by simp [acells]) fun w' h => ?_
          have h : Sat B3 w' (bk ab t_chain_Area (acells db { A with at_ := A.at_ + N }) :: dsk db D2 :: bk b4 t_int [.int .i64 ((A.at_ + N : Nat) : Int)] :: bk b1 t_api_Errno [.int .i64 0] :: Sl.blk D' (.deferred (some [])) :: F) := h
          have h := Sat.aShut (A := { A with at_ := A.at_ + N }) ⟨by have := hA.frm; dsimp only; omega, by dsimp only; omega, hto'⟩ h
          refine Sat.st1 (h.pull 3) sc_errno rfl (by simp) fun w' h => ⟨rfl, ?_⟩
          exact ((h.pull 3).tail)
      · intro D' W h
        obtain ⟨x, h⟩ := h.opened
        have h : Sat B3 W (dsk db x.1 :: bk b1 t_api_Errno [.int .i64 x.2] :: ara ab db A :: so (R = x ∧ x.2 ≠ 0) :: Sl.blk D' (.deferred (some [])) :: F) := h
        obtain ⟨⟨hRx, hx⟩, h⟩ := (h.pull 3).fact
        rw [hRx, if_pos hx] at hk
        have hag : Agr [{ target := .collected D', args := #[] }] 61 { a with defers := { target := .collected D', args := #[] } :: a.defers } E := ⟨by rw [ha.defers], ha.size, ha.at_⟩
        exact leave47 hleB hag f4 ((h.pull 2).pull 2 |>.pull 0) hk
    · intro a E w ha hk
      obtain ⟨v, h1, h2⟩ := resK_ok ha hk
      show LeavesInM _ _ _ _ _ _ a.defers _ _
      rw [ha.defers]
      exact ⟨v, h1, v, rfl, h2⟩
  · intro a E w ha hk
    obtain ⟨v, h1, h2⟩ := resK_ok ha hk
    show LeavesInM _ _ _ _ _ _ a.defers _ _
    rw [ha.defers]
    exact ⟨v, h1, v, rfl, h2⟩
  · rw [nt47]
    exact agr_args (args := [.pointer (at0 ab), .slice q bs.length mc]) (n := 61) (by simp)
  · refine okA ?_
    unfold vcA
    refine h.new fun a0 w' h => h.var zr_errno fun b1 w' h => ⟨_, ld1 (L := [.pointer (at0 ab)]) sc_parea (h.pull 1).bk rfl, Br.f ⟨by simp [Nz], ?_⟩⟩
    have h : Sat B w' (bk b1 t_api_Errno [.int .i64 0] :: bk a0 t_p_chain_Area [.pointer (at0 ab)] :: ara ab db A :: dsk db D :: F) := h
    have n0 : eqI (bs.length : Int) 0 = false := by simp only [eqI, beq_eq_false_iff_ne]; omega
    rw [n0]
    refine Jn.dupB (Br.f (Length_ok h hr rfl (by omega) fun w' h => ⟨_, rfl, _, rfl, ?_⟩))
    rw [hfl, show neI (bs.length : Int) bs.length = false by simp [neI]]
    refine Br.f ⟨_, ld1 (L := [.pointer (at0 ab)]) sc_parea (h.pull 1).bk rfl, NN.some ⟨_, ld1 (L := acells db A) sc_pdisk (Sat.aOpen (h.pull 2)).1.bk rfl, ?_⟩⟩
    have ret : ∀ {w' : World} {e : Int}, Sat B w' (bk b1 t_api_Errno [.int .i64 0] :: bk a0 t_p_chain_Area [.pointer (at0 ab)] :: ara ab db A :: dsk db D :: F) → A.add D bs = (A, D, e) →
        DoU P (storeVar t_api_Errno ⟨b1, 0, none⟩ (.int .i64 e)) w' fun w7 ↦ LdI .i64 P t_api_Errno ⟨b1, 0, none⟩ w7 fun n3 ↦ K (.int .i64 n3) w7 := by
      intro w' e h he
      rw [he] at hk
      exact Sat.st1 h sc_errno rfl (by simp) fun w' h => ⟨_, ld1 (L := [.int .i64 e]) sc_errno h.bk rfl, hk _ h.tail.tail⟩
    refine Down_ok (h.pull 3) ⟨_, rfl, Br.bool (fun hd => ?_) fun hd => ⟨_, ld1 (L := [.pointer (at0 ab)]) sc_parea (h.pull 1).bk rfl, ?_⟩⟩
    · exact ret h (by simp [Ar.add, hd])
    refine ALeft_ok (h.pull 2) fun w' h => ⟨_, rfl, ?_⟩
    have h := (h.pull 2).pull 2
    have en : IntKind.i64.wrap (Int.tdiv (IntKind.i64.wrap (IntKind.i64.wrap ((bs.length : Int) + 256) - 1)) 256) = N := by
      rw [w64 (x := (bs.length : Int) + 256) (by omega) (by omega), w64 (x := (bs.length : Int) + 256 - 1) (by omega) (by omega), Int.tdiv_eq_ediv_of_nonneg (by omega), w64 (by omega) (by omega)]
      omega
    rw [en]
    refine Br.gt (fun hgt => ret h (by
      unfold Ar.add
      rw [hd, if_neg (by simp), if_pos (by omega)])) fun hle => ⟨_, ld1 (L := [.pointer (at0 ab)]) sc_parea (h.pull 1).bk rfl, NN.some ⟨_, ld1 (L := acells db A) sc_int (Sat.aOpen (h.pull 2)).1.bk rfl, ?_⟩⟩
    refine h.var zr_int fun b4 w' h => ?_
    refine Sat.st1 h sc_int rfl (by simp) fun w' h => ?_
    refine Chunk_ok h fun c1 c2 w' h => ⟨_, rfl, a0, b1, b4, c1, c2, rfl, rfl, rfl, rfl, hd, by omega, ?_⟩
    have h : Sat B w' (bk c1 t_sl_uint8 [.slice q bs.length mc] :: bk c2 t_int [.int .i64 256] :: bk b4 t_int [.int .i64 A.at_] :: bk b1 t_api_Errno [.int .i64 0] :: bk a0 t_p_chain_Area [.pointer (at0 ab)] :: ara ab db A :: dsk db D :: F) := h
    exact ((h.pull 4).pull 2).pull 2

end Go.Dv

/-! commit: the log, good, sealT -/
set_option maxRecDepth 20000
namespace Go.Dv
open Go Go.Sh Go.Sl

theorem wd_Log : wide P t_commit_Log = some 39 := by kernel_rfl
theorem pt_Log : parts P t_commit_Log = some ([(0, 1), (1, 1), (2, 1), (3, 1), (4, 1), (5, 1), (6, 32), (38, 1)], [.pointer none, .pointer none, .pointer none, .pointer none, .int .i64 0, .int .i64 0] ++ bcells (List.replicate 32 0) ++ [.bool false]) := by kernel_rfl
theorem sc_pvault : scal P t_p_vault_Vault = true := by kernel_rfl
theorem sc_pmeter : scal P t_p_meter_Meter = true := by kernel_rfl

variable {B : Bs} {w : World} {F : List HP} {K : Value → World → Prop}

structure Lg where
  A : Ar
  epoch : Int
  seq : Int
  head : List UInt8
  fresh : Bool
structure Lg.ok (L : Lg) : Prop where
  head : L.head.length = 32
  epoch : 0 ≤ L.epoch ∧ L.epoch < 4294967296
  seq : 0 ≤ L.seq ∧ L.seq < 1000000000000

def lgc (vb db mb ab : Nat) (L : Lg) : List Value := [.pointer (at0 vb), .pointer (at0 db), .pointer (at0 mb), .pointer (at0 ab), .int .i64 L.epoch, .int .i64 L.seq] ++ bcells L.head ++ [.bool L.fresh]
def lg (b vb db mb : Nat) (L : Lg) : HP := box fun (ab : Nat) => [bk b t_commit_Log (lgc vb db mb ab L), ara ab db L.A, so L.ok]
theorem Sat.lOpen {b vb db mb : Nat} {L : Lg} (h : Sat B w (lg b vb db mb L :: F)) : ∃ ab, Sat B w (bk b t_commit_Log (lgc vb db mb ab L) :: ara ab db L.A :: F) ∧ L.ok := by
  obtain ⟨ab, h⟩ := h.opened
  obtain ⟨h1, h⟩ := (h.pull 2).fact
  exact ⟨ab, h, h1⟩
theorem Sat.lShut {b vb db mb : Nat} {L : Lg} (ab : Nat) (hL : L.ok) (h : Sat B w (bk b t_commit_Log (lgc vb db mb ab L) :: ara ab db L.A :: F)) : Sat B w (lg b vb db mb L :: F) :=
  Sat.shut (f := fun (ab : Nat) => [bk b t_commit_Log (lgc vb db mb ab L), ara ab db L.A, so L.ok]) ab (((Sat.known hL h).pull 2).pull 2)
theorem Sat.lFact {b vb db mb : Nat} {L : Lg} (h : Sat B w (lg b vb db mb L :: F)) : L.ok := let ⟨_, _, h1⟩ := Sat.lOpen h; h1

theorem lgc_len {vb db mb ab : Nat} {L : Lg} (h : L.head.length = 32) : (lgc vb db mb ab L).length = 39 := by simp [lgc, bcells_length, h]
theorem lgc_38 {vb db mb ab : Nat} {L : Lg} (h : L.head.length = 32) : (lgc vb db mb ab L)[38]? = some (.bool L.fresh) := by
  unfold lgc
  rw [List.getElem?_append_right (by simp [bcells_length, h])]
  simp [bcells_length, h]
theorem lgc_low {vb db mb ab : Nat} {L : Lg} {i : Nat} {v : Value} (hv : [Value.pointer (at0 vb), .pointer (at0 db), .pointer (at0 mb), .pointer (at0 ab), .int .i64 L.epoch, .int .i64 L.seq][i]? = some v) : (lgc vb db mb ab L)[i]? = some v := by
  have hi := (List.getElem?_eq_some_iff.1 hv).1
  unfold lgc
  rw [List.append_assoc, List.getElem?_append_left hi]
  exact hv
theorem lgc_head {vb db mb ab : Nat} {L : Lg} (h : L.head.length = 32) : ((lgc vb db mb ab L).drop 6).take 32 = bcells L.head := by
  unfold lgc
  simp only [List.append_assoc, List.cons_append, List.nil_append, List.drop_succ_cons, List.drop_zero]
  exact List.take_left' (by rw [bcells_length, h])
theorem lgc_set_head {vb db mb ab : Nat} {L : Lg} {x : List UInt8} (h : L.head.length = 32) : (lgc vb db mb ab L).take 6 ++ bcells x ++ (lgc vb db mb ab L).drop (6 + 32) = lgc vb db mb ab { L with head := x } := by
  have e : lgc vb db mb ab L = [.pointer (at0 vb), .pointer (at0 db), .pointer (at0 mb), .pointer (at0 ab), .int .i64 L.epoch, .int .i64 L.seq] ++ (bcells L.head ++ [.bool L.fresh]) := by simp [lgc]
  rw [e, ← List.drop_drop]
  simp only [List.cons_append, List.nil_append, List.drop_succ_cons, List.drop_zero, List.take_succ_cons, List.take_zero]
  rw [List.drop_left' (by rw [bcells_length, h])]
  simp [lgc]
theorem lgc_set_fresh {vb db mb ab : Nat} {L : Lg} {x : Bool} (h : L.head.length = 32) : (lgc vb db mb ab L).set 38 (.bool x) = lgc vb db mb ab { L with fresh := x } := by
  unfold lgc
  rw [List.set_append_right _ _ (by simp [bcells_length, h])]
  simp [bcells_length, h]

/-- The loads of a log's fields. -/
theorem ld_log {b vb db mb ab : Nat} {L : Lg} (hL : L.ok) {G : List HP} (h : Sat B w (bk b t_commit_Log (lgc vb db mb ab L) :: G)) :
    (loadVar t_p_vault_Vault (Addr.add ⟨b, 0, none⟩ 0)).run P w = .ok (.pointer (at0 vb)) w ∧ (loadVar t_p_disk_Disk (Addr.add ⟨b, 0, none⟩ 1)).run P w = .ok (.pointer (at0 db)) w ∧ (loadVar t_p_meter_Meter (Addr.add ⟨b, 0, none⟩ 2)).run P w = .ok (.pointer (at0 mb)) w ∧
    (loadVar t_p_chain_Area (Addr.add ⟨b, 0, none⟩ 3)).run P w = .ok (.pointer (at0 ab)) w ∧ (loadVar t_int (Addr.add ⟨b, 0, none⟩ 4)).run P w = .ok (.int .i64 L.epoch) w ∧ (loadVar t_int (Addr.add ⟨b, 0, none⟩ 5)).run P w = .ok (.int .i64 L.seq) w ∧
    (loadVar t_arr32_uint8 (Addr.add ⟨b, 0, none⟩ 6)).run P w = .ok (arr L.head) w ∧ (loadVar t_bool (Addr.add ⟨b, 0, none⟩ 38)).run P w = .ok (.bool L.fresh) w := by
  refine ⟨ld1 sc_pvault h.bk (lgc_low rfl), ld1 sc_pdisk h.bk (lgc_low rfl), ld1 sc_pmeter h.bk (lgc_low rfl), ld1 sc_parea h.bk (lgc_low rfl), ld1 sc_int h.bk (lgc_low rfl), ld1 sc_int h.bk (lgc_low rfl), ?_, ld1 sc_bool h.bk (lgc_38 hL.head)⟩
  have := ldA (P := P) (n := 32) (off := 6) wd_arr32 h.bk (by rw [lgc_len hL.head]; omega)
  rw [lgc_head hL.head] at this
  exact this

theorem Epoch_ok {b vb db mb : Nat} {L : Lg} (h : Sat B w (lg b vb db mb L :: F)) (hk : K (.int .i64 L.epoch) w) : Cs P f_commit_Log_Epoch #[.pointer (at0 b)] w K := by
  obtain ⟨ab, h, hL⟩ := Sat.lOpen h
  refine ok_commit_Log_Epoch _ ?_
  unfold vc_commit_Log_Epoch
  exact Br.f (NN.some ⟨_, (ld_log hL h).2.2.2.2.1, hk⟩)

theorem LLeft_ok {b vb db mb : Nat} {L : Lg} (h : Sat B w (lg b vb db mb L :: F)) (hk : ∀ w', Sat B w' (lg b vb db mb L :: F) → K (.int .i64 ((L.A.to - L.A.at_ : Nat) : Int)) w') : Cs P f_commit_Log_Left #[.pointer (at0 b)] w K := by
  obtain ⟨ab, h, hL⟩ := Sat.lOpen h
  refine ok_commit_Log_Left _ ?_
  unfold vc_commit_Log_Left
  exact Br.f (NN.some ⟨_, (ld_log hL h).2.2.2.1, ALeft_ok (h.pull 1) fun w' h => ⟨_, rfl, hk _ (Sat.lShut ab hL (h.pull 1))⟩⟩)

/-- Why records can't be written. -/
def goodE (D : Dk) (rs : List Rec) : Int := if D.down then 8 else if rs = [] then 1 else if rs.all Rec.good then 0 else 1

theorem good_ok {b vb db mb m mc : Nat} {L : Lg} {D : Dk} {q : Option Addr} {rs : List Rec} (h : Sat B w (lg b vb db mb L :: dsk db D :: F)) (G : Gl B) (hr : Rd B q (rcells rs)) (hm : m = rs.length) (hn : rs.length ≤ 1000000)
    (hk : ∀ w', Sat B w' (lg b vb db mb L :: dsk db D :: F) → K (.int .i64 (goodE D rs)) w') : Cs P f_commit_Log_good #[.pointer (at0 b), .slice q m mc] w K := by
  subst hm
  refine ok_commit_Log_good _ _ _ _ ?_
  unfold vc_commit_Log_good
  have hld : (loadVar t_p_disk_Disk (Addr.add ⟨b, 0, none⟩ 1)).run P w = .ok (.pointer (at0 db)) w := by
    obtain ⟨ab, h, hL⟩ := Sat.lOpen h
    exact (ld_log hL h).2.1
  refine Br.f (NN.some ⟨_, hld, ?_⟩)
  refine Down_ok (h.pull 1) ⟨_, rfl, Br.bool (fun hd => ?_) fun hd => Br.eq (fun h0 => ?_) fun h0 => ?_⟩
  · have e : goodE D rs = 8 := by simp [goodE, hd]
    rw [e] at hk
    exact hk _ h
  · have hnil : rs = [] := List.eq_nil_of_length_eq_zero (by omega)
    have e : goodE D rs = 1 := by simp [goodE, hd, hnil]
    rw [e] at hk
    exact hk _ h
  have hne : rs ≠ [] := fun e => h0 (by rw [e]; rfl)
  refine Lp.up rs.length (fun i vs w => vs = [.int .i64 i] ∧ (∀ r ∈ rs.take i, r.good = true) ∧ Sat B w (lg b vb db mb L :: dsk db D :: F)) ⟨rfl, by simp, h⟩ fun J nx cs => ?_
  intro n0 l0 w1 hJ
  obtain ⟨i, hi, rfl, hv, hg, h⟩ := cs _ _ _ hJ
  obtain rfl : n0 = (i : Int) := by simpa using hv
  refine Br.lt (fun hlt => ?_) (fun hge => ?_)
  · have hlt : i < rs.length := by omega
    refine hr.ix hlt (by rw [rcells_length]; omega) fun a hr' => ⟨_, ld_rec h hr' hlt, ?_⟩
    refine h.var zr_Record fun b1 w' h => ?_
    refine Sat.stA (n := 6) (vs := rs[i].cells) h wd_Record rfl (ones_Rec _) (by simp) fun w' h => ⟨_, ldA (n := 6) (L := rs[i].cells) wd_Record h.bk (by simp [Rec.cells]), ?_⟩
    refine RGood_ok (r := rs[i]) h G fun w' h => ⟨_, rfl, Br.not (Br.bool (fun hgi => ?_) fun hgi => ?_)⟩
    · refine nx i _ _ _ hlt rfl ⟨?_, ?_, h.tail⟩
      · rw [w64 (by omega) (by omega)]; simp
      · have ht : rs.take (i + 1) = rs.take i ++ [rs[i]] := by rw [List.take_add_one, List.getElem?_eq_getElem hlt]; rfl
        rw [ht]
        intro r hr
        rcases List.mem_append.1 hr with hr | hr
        · exact hg r hr
        · rw [List.mem_singleton.1 hr]; exact hgi
    · have e : goodE D rs = 1 := by
        have : rs.all Rec.good = false := by
          rw [List.all_eq_false]
          exact ⟨rs[i], List.getElem_mem hlt, by simp [hgi]⟩
        simp [goodE, hd, hne, this]
      rw [e] at hk
      exact hk _ h.tail
  · have hin : i = rs.length := by omega
    rw [hin, List.take_length] at hg
    have e : goodE D rs = 0 := by
      have : rs.all Rec.good = true := List.all_eq_true.2 hg
      simp [goodE, hd, hne, this]
    rw [e] at hk
    exact hk _ h

/-- What is written is safe, and vouched for. -/
def sealF (D : Dk) (M : Mt) (e : Int) (head : List UInt8) : Dk × Mt × Int :=
  if D.sync.2 ≠ 0 then (D.sync.1, M, D.sync.2) else ((M.next D.sync.1 e head).2.1, (M.next D.sync.1 e head).1, (M.next D.sync.1 e head).2.2)

theorem sync_waits {D : Dk} : D.sync.1.waits.length ≤ D.waits.length := by
  obtain ⟨e1, e2, e3, e4, e5⟩ := act_same D
  unfold Dk.sync
  split
  · simp
  · split
    · unfold Dk.off
      split
      · rw [e3]; exact Nat.le_refl _
      · simp
    · simp

theorem seal_ok {b vb db mb : Nat} {L : Lg} {D : Dk} {M : Mt} {e : Int} {head : List UInt8} (h : Sat B w (lg b vb db mb L :: dsk db D :: mtr mb db M :: F)) (hh : head.length = 32) (hwl : D.waits.length < 100000000)
    (hk : ∀ w', Sat B w' (lg b vb db mb L :: dsk db (sealF D M e head).1 :: mtr mb db (sealF D M e head).2.1 :: F) → K (.int .i64 (sealF D M e head).2.2) w') : Cs P f_commit_Log_seal #[.pointer (at0 b), .int .i64 e, arr head] w K := by
  refine ok_commit_Log_seal _ _ _ ?_
  unfold vc_commit_Log_seal
  refine h.new fun a0 w' h => NN.some ?_
  have ex : (arr head).cells.toList = bcells head := rfl
  rw [ex] at h
  have hbl : (bcells head).length = 32 := by rw [bcells_length, hh]
  have lds : ∀ {w' : World} {G : List HP}, Sat B w' (lg b vb db mb L :: G) → (loadVar t_p_disk_Disk (Addr.add ⟨b, 0, none⟩ 1)).run P w' = .ok (.pointer (at0 db)) w' ∧ (loadVar t_p_meter_Meter (Addr.add ⟨b, 0, none⟩ 2)).run P w' = .ok (.pointer (at0 mb)) w' := fun h => by
    obtain ⟨ab, h, hL⟩ := Sat.lOpen h
    exact ⟨(ld_log hL h).2.1, (ld_log hL h).2.2.1⟩
  refine ⟨_, (lds (h.pull 1)).1, ?_⟩
  refine Sync_ok (h.pull 2) hwl fun w' h => ⟨_, rfl, ?_⟩
  have hws := sync_waits (D := D)
  have e0 : sealF D M e head = if D.sync.2 ≠ 0 then (D.sync.1, M, D.sync.2) else ((M.next D.sync.1 e head).2.1, (M.next D.sync.1 e head).1, (M.next D.sync.1 e head).2.2) := rfl
  rw [e0] at hk
  clear e0
  generalize D.sync = s at *
  refine Br.ne (fun hne => ?_) fun h0 => ?_
  · rw [if_pos hne] at hk
    exact hk _ ((h.pull 1).tail.pull 1)
  · rw [if_neg (by simpa using h0)] at hk
    intro w1 ha
    have h := h.alk ha
    refine NN.some ⟨_, (lds (h.pull 2)).2, _, ldA (n := 32) wd_arr32 (h.pull 1).bk (by omega), ?_⟩
    rw [List.drop_zero, List.take_of_length_le (by omega)]
    refine Next_m ((h.pull 3).pull 1 |>.pull 1) hh (by omega) fun w' h => ⟨_, rfl, hk _ ?_⟩
    exact ((h.pull 2).tail.pull 1 |>.pull 2)

end Go.Dv

/-! commit.Commit -/
set_option maxRecDepth 20000
namespace Go.Dv
open Go Go.Sh Go.Sl

variable {B : Bs} {w : World} {F : List HP} {K : Value → World → Prop}

theorem pack_len {I : Id} {V : Vt} {at_ : List UInt8} {e s : Int} {rs : List Rec} : (packB I V at_ e s rs).length = fsize rs := by
  have hf := packF_facts (I := I) (V := V) (at_ := at_) (e := e) (s := s) (n := rs.length) (rs := rs) (i := rs.length) (Nat.le_refl _)
  rw [List.take_length] at hf
  obtain ⟨f1, f2, f3, _⟩ := hf
  have := rootF_length rs.length (packF I V at_ e s rs.length rs).I (packF I V at_ e s rs.length rs).leaves (by omega) f3
  simp only [packB, List.length_append, num8_length, this, f1, fsize]
  omega

theorem flen_pack {I : Id} {V : Vt} {at_ : List UInt8} {e s : Int} {rs : List Rec} (hs : fsize rs ≤ 16384) : flen (packB I V at_ e s rs) = (packB I V at_ e s rs).length := by
  have hl := pack_len (I := I) (V := V) (at_ := at_) (e := e) (s := s) (rs := rs)
  have hf := packF_facts (I := I) (V := V) (at_ := at_) (e := e) (s := s) (n := rs.length) (rs := rs) (i := rs.length) (Nat.le_refl _)
  rw [List.take_length] at hf
  have hb : (packF I V at_ e s rs.length rs).body.length + 48 = fsize rs := by rw [hf.1]; unfold fsize; omega
  have ht : (packB I V at_ e s rs).take 8 = num8 (fsize rs) := by
    unfold packB
    have : (((packF I V at_ e s rs.length rs).body.length : Int) + 48) = (fsize rs : Int) := by omega
    rw [this, List.append_assoc, List.append_assoc]
    exact List.take_left' (num8_length _)
  have h48 : 48 ≤ fsize rs := by omega
  unfold flen
  rw [ht, num_num8 (by omega) (by omega), hl, if_pos (by omega)]

/-- What all belongs to. -/
structure St where
  I : Id
  V : Vt
  D : Dk
  M : Mt

def commitG (S : St) (L : Lg) (fr hd : List UInt8) (I' : Id) (V' : Vt) (n : Nat) : St × Lg × Int :=
  let r := L.A.add S.D fr
  if r.2.2 ≠ 0 then (⟨I', V', r.2.1, S.M⟩, { L with A := r.1 }, r.2.2)
  else
    let s := sealF r.2.1 S.M L.epoch hd
    if s.2.2 ≠ 0 then (⟨I', V', s.1, s.2.1⟩, { L with A := r.1 }, s.2.2)
    else (⟨I', V', s.1, s.2.1⟩, { L with A := r.1, seq := L.seq + n, head := hd }, 0)

def commitF (S : St) (L : Lg) (rs : List Rec) : St × Lg × Int :=
  if goodE S.D rs ≠ 0 then (S, L, goodE S.D rs)
  else if L.fresh = false then (S, L, 1)
  else if 16384 < fsize rs then (S, L, 3)
  else if S.M.most - S.M.count = 0 ∨ S.V.limit - L.seq < rs.length then (S, L, 10)
  else if L.A.to - L.A.at_ < fsect rs then (S, L, 7)
  else commitG S L (packB S.I S.V L.head L.epoch L.seq rs) ((packI S.I S.V L.head L.epoch L.seq rs).dig (L.head ++ packB S.I S.V L.head L.epoch L.seq rs))
    ((packI S.I S.V L.head L.epoch L.seq rs).hash (L.head ++ packB S.I S.V L.head L.epoch L.seq rs)) (packV S.I S.V L.head L.epoch L.seq rs) rs.length

theorem addF_waits {bs : List UInt8} {a : Nat} : ∀ (k i : Nat) (D : Dk), (addF bs a k i D).1.waits.length ≤ D.waits.length + k
  | 0, _, _ => Nat.le_refl _
  | k + 1, i, D => by
    unfold addF
    have h := write_waits (D := D) (i := a + i) (bs := chunk bs i)
    split
    · omega
    · have := addF_waits (bs := bs) (a := a) k (i + 1) (D.write (a + i) (chunk bs i)).1
      omega

theorem add_waits {A : Ar} {D : Dk} {bs : List UInt8} (hb : bs.length ≤ 16384) : (A.add D bs).2.1.waits.length ≤ D.waits.length + 64 := by
  have := addF_waits (bs := bs) (a := A.at_) ((bs.length + 255) / 256) 0 D
  unfold Ar.add
  repeat' split
  all_goals dsimp only
  all_goals omega

theorem good_all {D : Dk} {rs : List Rec} (h : goodE D rs = 0) : D.down = false ∧ rs ≠ [] ∧ ∀ r ∈ rs, r.good = true := by
  unfold goodE at h
  split at h
  · omega
  · rename_i hd
    split at h
    · omega
    · rename_i hne
      split at h
      · rename_i hg
        exact ⟨by simpa using hd, hne, List.all_eq_true.1 hg⟩
      · omega

theorem good_small {rs : List Rec} (h : ∀ r ∈ rs, r.good = true) : ∀ r ∈ rs, r.body.length ≤ 1048576 := fun r hr => by have := (good_spans (h r hr)).2.2.2.2.2; omega

theorem Commit_ok {b vb wb db mb m mc : Nat} {L : Lg} {S : St} {q : Option Addr} {rs : List Rec} (h : Sat B w (lg b vb db mb L :: vlt vb wb S.V :: idl wb S.I :: dsk db S.D :: mtr mb db S.M :: F)) (G : Gl B) (hr : Rd B q (rcells rs)) (hm : m = rs.length) (hn : rs.length ≤ 1000000)
    (hto : L.A.to ≤ S.D.now.length) (hwl : S.D.waits.length < 1000000) (hI : S.I.made.length < 1000000000000000) (hV : 0 ≤ S.V.limit ∧ S.V.limit < 9223372036854775808) (hsq : L.seq < 1000000000)
    (hk : ∀ w', Sat B w' (lg b vb db mb (commitF S L rs).2.1 :: vlt vb wb (commitF S L rs).1.V :: idl wb (commitF S L rs).1.I :: dsk db (commitF S L rs).1.D :: mtr mb db (commitF S L rs).1.M :: F) → K (.int .i64 (commitF S L rs).2.2) w') :
    Cs P f_commit_Log_Commit #[.pointer (at0 b), .slice q m mc] w K := by
  subst hm
  refine ok_commit_Log_Commit _ _ _ _ ?_
  unfold vc_commit_Log_Commit
  have hL := Sat.lFact h
  have hh := hL.head
  refine good_ok ((h.pull 3).pull 1) G hr rfl hn fun w' h => ⟨_, rfl, ?_⟩
  have h := (h.pull 3).pull 3 |>.pull 2
  have hS : Sat B w' (lg b vb db mb L :: vlt vb wb S.V :: idl wb S.I :: dsk db S.D :: mtr mb db S.M :: F) := h
  refine Br.ne (fun hne => ?_) fun hg0 => ?_
  · have e : commitF S L rs = (S, L, goodE S.D rs) := by unfold commitF; rw [if_pos hne]
    rw [e] at hk
    exact hk _ h
  obtain ⟨hd, hne, hgood⟩ := good_all hg0
  have hsm := good_small hgood
  have e1 : commitF S L rs = if L.fresh = false then (S, L, 1)
    else if 16384 < fsize rs then (S, L, 3)
    else if S.M.most - S.M.count = 0 ∨ S.V.limit - L.seq < rs.length then (S, L, 10)
    else if L.A.to - L.A.at_ < fsect rs then (S, L, 7)
    else commitG S L (packB S.I S.V L.head L.epoch L.seq rs) ((packI S.I S.V L.head L.epoch L.seq rs).dig (L.head ++ packB S.I S.V L.head L.epoch L.seq rs))
      ((packI S.I S.V L.head L.epoch L.seq rs).hash (L.head ++ packB S.I S.V L.head L.epoch L.seq rs)) (packV S.I S.V L.head L.epoch L.seq rs) rs.length := by unfold commitF; rw [if_neg (by simpa using hg0)]
  rw [e1] at hk
  clear e1 hg0
  obtain ⟨ab, h, _⟩ := Sat.lOpen h
  have hvc := ld_log hL h
  refine NN.some ⟨_, hvc.2.2.2.2.2.2.2, ?_⟩
  cases hfr : L.fresh with
  | false =>
    rw [if_pos hfr] at hk
    exact Br.t (hk _ hS)
  | true =>
  rw [if_neg (by simp [hfr])] at hk
  refine Br.f (SSize_ok h hr rfl hsm (by omega) fun w' h => ⟨_, rfl, Br.gt (fun hgt => ?_) fun hle => ?_⟩)
  · rw [if_pos (by omega)] at hk
    exact hk _ (Sat.lShut ab hL h)
  rw [if_neg (by omega)] at hk
  have hlen : rs.length ≤ 16384 := by unfold fsize at hle; omega
  have hM := Sat.mFact (h.pull 5)
  have hse := hL.seq
  have spent : ∀ (c : Bool) (w' : World), (c = true ↔ S.M.most - S.M.count = 0 ∨ S.V.limit - L.seq < rs.length) → Sat B w' (bk b t_commit_Log (lgc vb db mb ab L) :: ara ab db L.A :: vlt vb wb S.V :: idl wb S.I :: dsk db S.D :: mtr mb db S.M :: F) →
      ∃ b1, [Value.bool c] = [.bool b1] ∧ (∃ c, c = b1 ∧ (c = true ↔ S.M.most - S.M.count = 0 ∨ S.V.limit - L.seq < rs.length) ∧ Sat B w' (bk b t_commit_Log (lgc vb db mb ab L) :: ara ab db L.A :: vlt vb wb S.V :: idl wb S.I :: dsk db S.D :: mtr mb db S.M :: F)) := fun c w' hc h => ⟨c, rfl, c, rfl, hc, h⟩
  refine Jn.by (fun vs w => ∃ c, vs = [.bool c] ∧ (c = true ↔ S.M.most - S.M.count = 0 ∨ S.V.limit - L.seq < rs.length) ∧ Sat B w (bk b t_commit_Log (lgc vb db mb ab L) :: ara ab db L.A :: vlt vb wb S.V :: idl wb S.I :: dsk db S.D :: mtr mb db S.M :: F)) ?_ ?_
  · intro w2 ha
    have h := h.alk ha
    refine NN.some ⟨_, (ld_log hL h).2.2.1, MLeft_ok (h.pull 5) fun w' h => ⟨_, rfl, Br.eq (fun h0 => ⟨_, rfl, ⟨fun _ => .inl h0, fun _ => rfl⟩, ((((h.pull 5).pull 5).pull 5).pull 5).pull 5⟩) fun h0 => ?_⟩⟩
    have h := ((((h.pull 5).pull 5).pull 5).pull 5).pull 5
    have h : Sat B w' (bk b t_commit_Log (lgc vb db mb ab L) :: ara ab db L.A :: vlt vb wb S.V :: idl wb S.I :: dsk db S.D :: mtr mb db S.M :: F) := h
    refine NN.some ⟨_, (ld_log hL h).1, NN.some ⟨_, (ld_log hL h).2.2.2.2.2.1, Limit_ok (h.pull 2) ⟨_, rfl, ⟨(ld_log hL h).2.2.2.2.2.1, trivial⟩, ?_⟩⟩⟩
    rw [w64 (x := S.V.limit - L.seq) (by omega) (by omega)]
    refine ⟨_, rfl, ?_, h⟩
    simp only [gtI, decide_eq_true_eq]
    constructor
    · intro hx; exact .inr (by omega)
    · rintro (hx | hx)
      · exact absurd hx h0
      · omega
  rintro c w5 ⟨c', hcc, hsp, h⟩
  obtain rfl : c = c' := by simpa using hcc
  refine Br.bool (fun hc => ?_) fun hc => ?_
  · rw [if_pos (hsp.1 hc)] at hk
    exact hk _ (Sat.lShut ab hL h)
  have hns : ¬ (S.M.most - S.M.count = 0 ∨ S.V.limit - L.seq < rs.length) := fun hx => by rw [hsp.2 hx] at hc; cases hc
  rw [if_neg hns] at hk
  intro w6 ha
  have h := h.alk ha
  refine NN.some ⟨_, (ld_log hL h).2.2.2.1, ?_⟩
  refine SSectors_ok h hr rfl hsm (by omega) fun w' h => ⟨_, rfl, ⟨(ld_log hL h).2.2.2.1, trivial⟩, ?_⟩
  refine ALeft_ok (h.pull 1) fun w' h => ⟨_, rfl, Br.gt (fun hgt => ?_) fun hle2 => ?_⟩
  · rw [if_pos (by omega)] at hk
    exact hk _ (Sat.lShut ab hL (h.pull 1))
  rw [if_neg (by omega)] at hk
  have h := h.pull 1
  have hmay : ∀ i : Nat, i < rs.length → S.V.may L.epoch (L.seq + i) = 0 := by
    intro i hi
    have he := hL.epoch
    unfold Vt.may
    rw [if_neg (by omega), if_neg (by omega)]
  have hpl := pack_len (I := S.I) (V := S.V) (at_ := L.head) (e := L.epoch) (s := L.seq) (rs := rs)
  have hfp := flen_pack (I := S.I) (V := S.V) (at_ := L.head) (e := L.epoch) (s := L.seq) (rs := rs) (by omega)
  generalize hfrE : packB S.I S.V L.head L.epoch L.seq rs = fr at *
  generalize hIE : packI S.I S.V L.head L.epoch L.seq rs = I1 at *
  generalize hVE : packV S.I S.V L.head L.epoch L.seq rs = V1 at *
  have hdl : (bcells (I1.dig (L.head ++ fr))).length = 32 := by rw [bcells_length, dig_length]
  refine Jn.by (fun vs w => ∃ a p c, vs = [.slice p (fsize rs) c, .pointer (at0 a), .int .i64 0] ∧
    Sat B w (bk a t_arr32_uint8 (bcells (I1.dig (L.head ++ fr))) :: buf t_uint8 1 p (fsize rs) c (bcells fr) :: vlt vb wb V1 :: idl wb (I1.hash (L.head ++ fr)) :: bk b t_commit_Log (lgc vb db mb ab L) :: ara ab db L.A :: dsk db S.D :: mtr mb db S.M :: F)) ?_ ?_
  · intro w7 ha
    have h := h.alk ha
    refine NN.some ⟨_, (ld_log hL h).1, NN.some ⟨_, (ld_log hL h).2.2.2.2.1, NN.some ⟨_, (ld_log hL h).2.2.2.2.2.1, NN.some ⟨_, (ld_log hL h).2.2.2.2.2.2.1, ?_, ?_⟩⟩⟩⟩
    · refine Pack_ok ((h.pull 3).pull 3) G hh hr rfl hne hgood (by omega) hmay hse.1 (by omega) (by omega) fun p c w' h => ⟨_, _, _, _, _, rfl, ?_⟩
      rw [hfrE, hIE, hVE] at *
      refine h.var zr_arr32 fun a w' h => ?_
      refine Sat.stA (n := 32) h wd_arr32 hdl (ones_bcells _) (by simp [bcells]) fun w' h => ⟨a, p, c, rfl, ?_⟩
      have e32 : List.take 0 (bcells (List.replicate 32 0)) ++ bcells (I1.dig (L.head ++ fr)) ++ List.drop (0 + 32) (bcells (List.replicate 32 0)) = bcells (I1.dig (L.head ++ fr)) := by
        rw [List.drop_eq_nil_iff.2 (by simp [bcells_length])]; simp
      rw [e32] at h
      exact h
    · refine h.var zr_arr32 fun a w' h => ?_
      refine ⟨⟨(ld_log hL (h.pull 1)).2.2.2.2.2.2.1, (ld_log hL (h.pull 1)).2.2.2.2.2.1, (ld_log hL (h.pull 1)).2.2.2.2.1, (ld_log hL (h.pull 1)).1, trivial⟩, ?_⟩
      refine Pack_ok ((h.pull 4).pull 4) G hh hr rfl hne hgood (by omega) hmay hse.1 (by omega) (by omega) fun p c w' h => ⟨_, _, _, _, _, rfl, ?_⟩
      rw [hfrE, hIE, hVE] at *
      refine Sat.stA (n := 32) (h.pull 3) wd_arr32 hdl (ones_bcells _) (by simp [bcells]) fun w' h => ⟨a, p, c, rfl, ?_⟩
      have e32 : List.take 0 (bcells (List.replicate 32 0)) ++ bcells (I1.dig (L.head ++ fr)) ++ List.drop (0 + 32) (bcells (List.replicate 32 0)) = bcells (I1.dig (L.head ++ fr)) := by
        rw [List.drop_eq_nil_iff.2 (by simp [bcells_length])]; simp
      rw [e32] at h
      exact h
  rintro p6 l4 l5 a11 n11 w16 ⟨a, p, c, hv, h⟩
  obtain ⟨⟨rfl, rfl, rfl⟩, rfl, rfl⟩ : (p6 = p ∧ l4 = fsize rs ∧ l5 = c) ∧ a11 = ⟨a, 0, none⟩ ∧ n11 = 0 := by simpa using hv
  have hcap : fsize rs ≤ l5 := by
    rcases (h.pull 1).bufCases with ⟨_, h1, h2, _⟩ | ⟨_, _, _, h1, _⟩
    · omega
    · exact h1
  have hfr0 : fr ≠ [] := by
    intro e
    rw [e] at hpl
    simp only [List.length_nil] at hpl
    unfold fsize at hpl
    omega
  obtain ⟨B1, hle1, h, hrf, _⟩ := (h.pull 1).fix
  have h : Sat B1 w16 (bk a t_arr32_uint8 (bcells (I1.dig (L.head ++ fr))) :: vlt vb wb V1 :: idl wb (I1.hash (L.head ++ fr)) :: bk b t_commit_Log (lgc vb db mb ab L) :: ara ab db L.A :: dsk db S.D :: mtr mb db S.M :: F) := h
  have haw := add_waits (A := L.A) (D := S.D) (bs := fr) (by omega)
  have hadl : (L.A.add S.D fr).1.frm = L.A.frm ∧ (L.A.add S.D fr).1.to = L.A.to := by
    unfold Ar.add; repeat' split
    all_goals simp
  unfold commitG at hk
  simp only at hk
  generalize hr1 : L.A.add S.D fr = r at *
  refine Jn.by (fun vs w => vs = [.int .i64 r.2.2] ∧ Sat B1 w (bk a t_arr32_uint8 (bcells (I1.dig (L.head ++ fr))) :: bk b t_commit_Log (lgc vb db mb ab L) :: ara ab db r.1 :: vlt vb wb V1 :: idl wb (I1.hash (L.head ++ fr)) :: dsk db r.2.1 :: mtr mb db S.M :: F)) ?_ ?_
  · refine Br.t (NN.some ⟨_, (ld_log hL (h.pull 3)).2.2.2.1, ?_⟩)
    refine Add_ok ((h.pull 5).pull 5) hrf hpl.symm (by omega) hfr0 hfp hto (by omega) fun w' h => ⟨_, rfl, ?_⟩
    rw [hr1] at h ⊢
    refine ⟨rfl, ?_⟩
    exact (((((h.pull 1).pull 4).pull 4).pull 3).pull 5).pull 5
  rintro n13 w18 ⟨hv13, h⟩
  obtain rfl : n13 = r.2.2 := by simpa using hv13
  have hlc : ∀ (A' : Ar), Lg.ok { L with A := A' } := fun A' => ⟨hL.head, hL.epoch, hL.seq⟩
  by_cases hr2 : r.2.2 ≠ 0
  · rw [if_pos hr2] at hk
    have ee : eqI r.2.2 0 = false := by simp only [eqI, beq_eq_false_iff_ne]; exact hr2
    refine Jn.dupI ?_
    rw [ee]
    refine Br.f ⟨_, rfl, Br.ne (fun _ => ?_) fun h0 => absurd h0 hr2⟩
    refine hk _ (Sat.thaw hle1 (Sat.lShut ab (hlc r.1) ?_))
    exact h.tail
  rw [if_neg hr2] at hk
  have hr20 : r.2.2 = 0 := by simpa using hr2
  rw [hr20]
  have hsw := sync_waits (D := r.2.1)
  generalize hsE : sealF r.2.1 S.M L.epoch (I1.dig (L.head ++ fr)) = s at *
  refine Jn.by (fun vs w => vs = [.int .i64 s.2.2] ∧ Sat B1 w (bk a t_arr32_uint8 (bcells (I1.dig (L.head ++ fr))) :: lg b vb db mb { L with A := r.1 } :: vlt vb wb V1 :: idl wb (I1.hash (L.head ++ fr)) :: dsk db s.1 :: mtr mb db s.2.1 :: F)) ?_ ?_
  · refine Br.t fun w8 ha => ?_
    have h := h.alk ha
    refine NN.some ⟨_, (ld_log hL (h.pull 1)).2.2.2.2.1, _, ldA (n := 32) wd_arr32 h.bk (by omega), ?_⟩
    rw [List.drop_zero, List.take_of_length_le (by omega)]
    have hq := Sat.lShut (L := { L with A := r.1 }) ab (hlc r.1) (((((((h.pull 4).pull 4).pull 2).pull 6).pull 6).pull 6).pull 6)
    refine seal_ok hq (dig_length _ _) (by omega) fun w' h => ⟨_, rfl, ?_⟩
    rw [hsE] at h ⊢
    refine ⟨rfl, ?_⟩
    exact (((((h.pull 2).pull 2).pull 5).pull 5).pull 4).pull 5
  rintro n16 w21 ⟨hv16, h⟩
  obtain rfl : n16 = s.2.2 := by simpa using hv16
  refine Br.ne (fun hs2 => ?_) fun hs2 => ?_
  · rw [if_pos hs2] at hk
    exact hk _ (Sat.thaw hle1 h.tail)
  rw [if_neg (by simpa using hs2)] at hk
  intro w22 ha
  have h := h.alk ha
  obtain ⟨ab2, hb, hL2⟩ := Sat.lOpen (h.pull 1)
  refine NN.some ⟨_, (ld_log hL2 hb).2.2.2.2.2.1, _, ldA (n := 32) wd_arr32 h.bk (by omega), NN.some ?_⟩
  rw [List.drop_zero, List.take_of_length_le (by omega), w64 (x := L.seq + (rs.length : Int)) (by omega) (by omega)]
  refine Sat.st1 hb sc_int rfl (by rw [lgc_len hL2.head]; show 0 + 5 < 39; omega) fun w' hb => ⟨⟨?_, trivial⟩, NN.some ?_⟩
  · have := ldA (P := P) (n := 32) (off := 0) wd_arr32 (hb.pull 2).bk (by omega)
    rw [List.drop_zero, List.take_of_length_le (by omega)] at this
    exact this
  have hb : Sat B1 w' (bk b t_commit_Log (lgc vb db mb ab2 { L with A := r.1, seq := L.seq + rs.length }) :: _) := hb
  refine Sat.stA (n := 32) hb wd_arr32 hdl (ones_bcells _) (by rw [lgc_len (L := { L with A := r.1, seq := L.seq + rs.length }) hL.head]; show 0 + 6 + 32 ≤ 39; omega) fun w' hb => ?_
  have e6 : List.take (0 + 6) (lgc vb db mb ab2 { L with A := r.1, seq := L.seq + rs.length }) ++ bcells (I1.dig (L.head ++ fr)) ++ List.drop (0 + 6 + 32) (lgc vb db mb ab2 { L with A := r.1, seq := L.seq + rs.length }) = lgc vb db mb ab2 { L with A := r.1, seq := L.seq + rs.length, head := I1.dig (L.head ++ fr) } := lgc_set_head (L := { L with A := r.1, seq := L.seq + rs.length }) hL.head
  rw [e6] at hb
  have hq := Sat.lShut (L := { L with A := r.1, seq := L.seq + rs.length, head := I1.dig (L.head ++ fr) }) ab2 ⟨dig_length _ _, hL.epoch, by dsimp only; omega⟩ hb
  exact hk _ (Sat.thaw hle1 (hq.pull 1).tail)

end Go.Dv

/-! commit.Turn, its plain side -/
set_option maxRecDepth 20000
namespace Go.Dv
open Go Go.Sh Go.Sl

theorem split_inv : ∀ (rs : List Rec) (st : List (List Rec) × List Rec), (∀ r ∈ rs, r.body.length ≤ 512) → (∀ p ∈ st.1, p ≠ [] ∧ fsize p ≤ 16384) → fsize st.2 ≤ 16384 →
    (∀ p ∈ (rs.foldl splitStep st).1, p ≠ [] ∧ fsize p ≤ 16384) ∧ fsize (rs.foldl splitStep st).2 ≤ 16384 ∧ (rs.foldl splitStep st).1.flatten ++ (rs.foldl splitStep st).2 = st.1.flatten ++ st.2 ++ rs ∧
    (rs.foldl splitStep st).1.length + (if (rs.foldl splitStep st).2 = [] then 0 else 1) ≤ st.1.length + (if st.2 = [] then 0 else 1) + rs.length
  | [], st, _, h1, h2 => by simp only [List.foldl_nil, List.append_nil, List.length_nil, Nat.add_zero]; exact ⟨h1, h2, trivial, Nat.le_refl _⟩
  | r :: rs, st, hb, h1, h2 => by
    have hr := hb r (by simp)
    rw [List.foldl_cons]
    have hs : splitStep st r = if st.2 ≠ [] ∧ 16384 < fsize st.2 + (36 + r.body.length + 27) then (st.1 ++ [st.2], [r]) else (st.1, st.2 ++ [r]) := rfl
    by_cases hc : st.2 ≠ [] ∧ 16384 < fsize st.2 + (36 + r.body.length + 27)
    · rw [if_pos hc] at hs
      rw [hs]
      obtain ⟨a, b, c, d⟩ := split_inv rs (st.1 ++ [st.2], [r]) (fun x hx => hb x (by simp [hx])) (fun p hp => by
        rcases List.mem_append.1 hp with hp | hp
        · exact h1 p hp
        · rw [List.mem_singleton.1 hp]; exact ⟨hc.1, h2⟩) (by simp [fsize, sizes]; omega)
      refine ⟨a, b, by rw [c]; simp, ?_⟩
      simp only [List.length_append, List.length_cons, List.length_nil, List.cons_ne_nil, if_false, if_neg hc.1] at d ⊢
      omega
    · rw [if_neg hc] at hs
      rw [hs]
      have hf : fsize (st.2 ++ [r]) ≤ 16384 := by
        rw [fsize_snoc]
        by_cases he : st.2 = []
        · rw [he]; simp [fsize, sizes]; omega
        · have : ¬ 16384 < fsize st.2 + (36 + r.body.length + 27) := fun hx => hc ⟨he, hx⟩
          omega
      obtain ⟨a, b, c, d⟩ := split_inv rs (st.1, st.2 ++ [r]) (fun x hx => hb x (by simp [hx])) h1 hf
      refine ⟨a, b, by rw [c]; simp, ?_⟩
      have hne : st.2 ++ [r] ≠ [] := by simp
      simp only [if_neg hne, List.length_cons] at d ⊢
      omega

theorem split_facts {rs : List Rec} (hb : ∀ r ∈ rs, r.body.length ≤ 512) : (∀ p ∈ split rs, p ≠ [] ∧ fsize p ≤ 16384) ∧ (split rs).flatten = rs ∧ (split rs).length ≤ rs.length := by
  obtain ⟨a, b, c, d⟩ := split_inv rs ([], []) hb (by simp) (by simp [fsize, sizes])
  unfold split splitEnd
  generalize rs.foldl splitStep ([], []) = st at *
  simp only [List.flatten_nil, List.nil_append, List.length_nil, if_true, Nat.zero_add] at c d
  split
  · rename_i he
    rw [he, List.append_nil] at c
    rw [if_pos he] at d
    exact ⟨a, c, by omega⟩
  · rename_i he
    rw [if_neg he] at d
    refine ⟨fun p hp => ?_, by rw [← c]; simp, by simpa using d⟩
    rcases List.mem_append.1 hp with hp | hp
    · exact a p hp
    · rw [List.mem_singleton.1 hp]; exact ⟨he, b⟩

/-- A new epoch under way. -/
structure Tl where
  I : Id
  V : Vt
  D : Dk
  A : Ar
  head : List UInt8
  seq : Int

def Tl.step (ep : Int) (T : Tl) (p : List Rec) : Tl × Int :=
  (⟨(packI T.I T.V T.head ep T.seq p).hash (T.head ++ packB T.I T.V T.head ep T.seq p), packV T.I T.V T.head ep T.seq p, (T.A.add T.D (packB T.I T.V T.head ep T.seq p)).2.1, (T.A.add T.D (packB T.I T.V T.head ep T.seq p)).1,
    (packI T.I T.V T.head ep T.seq p).dig (T.head ++ packB T.I T.V T.head ep T.seq p), T.seq + p.length⟩, (T.A.add T.D (packB T.I T.V T.head ep T.seq p)).2.2)
def turnLoop (ep : Int) : List (List Rec) → Tl → Tl × Int
  | [], T => (T, 0)
  | p :: ps, T => if (T.step ep p).2 ≠ 0 then T.step ep p else turnLoop ep ps (T.step ep p).1

def total (ps : List (List Rec)) : Nat := (ps.map fsect).sum

def turnG (S : St) (L : Lg) (ep : Int) (T : Tl × Int) : St × Lg × Int :=
  if T.2 ≠ 0 then (⟨T.1.I, T.1.V, T.1.D, S.M⟩, L, T.2)
  else if (sealF T.1.D S.M ep T.1.head).2.2 ≠ 0 then (⟨T.1.I, T.1.V, (sealF T.1.D S.M ep T.1.head).1, (sealF T.1.D S.M ep T.1.head).2.1⟩, L, (sealF T.1.D S.M ep T.1.head).2.2)
  else (⟨T.1.I, T.1.V, (sealF T.1.D S.M ep T.1.head).1, (sealF T.1.D S.M ep T.1.head).2.1⟩, ⟨T.1.A, ep, T.1.seq, T.1.head, true⟩, 0)

def turn0 (S : St) (ep : Int) : Tl := ⟨S.I.hash (startT ep), S.V, S.D, areaOf S.D.now.length ep, S.I.dig (startT ep), 0⟩

def turnF (S : St) (L : Lg) (rs : List Rec) : St × Lg × Int :=
  if goodE S.D rs ≠ 0 then (S, L, goodE S.D rs)
  else if S.M.most - S.M.count = 0 ∨ 4294967296 ≤ L.epoch + 1 ∨ S.V.limit < rs.length then (S, L, 10)
  else if (areaOf S.D.now.length (L.epoch + 1)).to - (areaOf S.D.now.length (L.epoch + 1)).at_ < total (split rs) then (S, L, 7)
  else turnG S L (L.epoch + 1) (turnLoop (L.epoch + 1) (split rs) (turn0 S (L.epoch + 1)))

theorem write_okd {D : Dk} (h : D.ok) {i : Nat} (hi : i < D.now.length) {bs : List UInt8} (hb : bs.length ≤ 256) : (D.write i bs).1.ok := by
  obtain ⟨e1, e2, e3, e4, e5⟩ := act_same D
  have hp := put_ok (act_okd h) (i := i) (by rw [e1]; exact hi) hb
  unfold Dk.write
  split
  · exact h
  · split
    · exact off_ok hp _
    · exact hp

theorem addF_len {bs : List UInt8} {a : Nat} : ∀ (k i : Nat) (D : Dk), D.ok → a + i + k ≤ D.now.length → (addF bs a k i D).1.now.length = D.now.length ∧ (addF bs a k i D).1.ok
  | 0, _, _, h, _ => ⟨rfl, h⟩
  | k + 1, i, D, h, hl => by
    have hc : (chunk bs i).length ≤ 256 := by rw [chunk_length]; omega
    have h1 := write_len h (i := a + i) (by omega) hc
    have h2 := write_okd h (i := a + i) (by omega) hc
    unfold addF
    split
    · exact ⟨h1, h2⟩
    · obtain ⟨h3, h4⟩ := addF_len (bs := bs) (a := a) k (i + 1) (D.write (a + i) (chunk bs i)).1 h2 (by rw [h1]; omega)
      exact ⟨h3.trans h1, h4⟩

theorem add_facts {A : Ar} {D : Dk} {bs : List UInt8} (hA : A.ok) (hD : D.ok) (hto : A.to ≤ D.now.length) : (A.add D bs).1.frm = A.frm ∧ (A.add D bs).1.to = A.to ∧ (A.add D bs).2.1.now.length = D.now.length ∧ (A.add D bs).1.ok ∧ (A.add D bs).2.1.ok := by
  have h1 := hA.frm
  have h2 := hA.at_
  have h3 := hA.to
  unfold Ar.add
  split
  · exact ⟨rfl, rfl, rfl, hA, hD⟩
  · split
    · exact ⟨rfl, rfl, rfl, hA, hD⟩
    · rename_i hle
      obtain ⟨h4, h5⟩ := addF_len (bs := bs) (a := A.at_) ((bs.length + 255) / 256) 0 D hD (by omega)
      split
      · exact ⟨rfl, rfl, h4, hA, h5⟩
      · exact ⟨rfl, rfl, h4, ⟨by dsimp only; omega, by dsimp only; omega, h3⟩, h5⟩

theorem pack_made {I : Id} {V : Vt} {at_ : List UInt8} {e s : Int} {rs : List Rec} (hne : rs ≠ []) (x : List UInt8) : ((packI I V at_ e s rs).hash x).made.length ≤ I.made.length + 5 * rs.length := by
  have hf := packF_facts (I := I) (V := V) (at_ := at_) (e := e) (s := s) (n := rs.length) (rs := rs) (i := rs.length) (Nat.le_refl _)
  rw [List.take_length] at hf
  obtain ⟨_, f2, _, _, _, f6⟩ := hf
  have h1 : 1 ≤ rs.length := List.length_pos_iff.2 hne
  have hm := rootF_made rs.length (packF I V at_ e s rs.length rs).I (packF I V at_ e s rs.length rs).leaves (by omega)
  have hp := Id.put_le (packI I V at_ e s rs) (nm 72 [x])
  unfold packI at hp ⊢
  simp only [Id.hash] at *
  omega

theorem pack_limit {I : Id} {V : Vt} {at_ : List UInt8} {e s : Int} {rs : List Rec} : (packV I V at_ e s rs).limit = V.limit ∧ (packV I V at_ e s rs).master = V.master := by
  have hf := packF_facts (I := I) (V := V) (at_ := at_) (e := e) (s := s) (n := rs.length) (rs := rs) (i := rs.length) (Nat.le_refl _)
  rw [List.take_length] at hf
  exact ⟨hf.2.2.2.1, hf.2.2.2.2.1⟩

theorem areaOf_facts (n : Nat) (e : Int) (hn : n ≤ 4096) : (areaOf n e).ok ∧ (areaOf n e).to ≤ n := by
  have h1 : e % 2 = 0 ∨ e % 2 = 1 := by omega
  unfold areaOf
  rcases h1 with h | h <;> rw [h]
  · exact ⟨⟨by simp, by simp, by simp; omega⟩, by simp; omega⟩
  · exact ⟨⟨by simp, by simp, by simp; omega⟩, by simp; omega⟩

end Go.Dv

/-! commit.Turn -/
set_option maxRecDepth 20000
namespace Go.Dv
open Go Go.Sh Go.Sl

variable {B : Bs} {w : World} {F : List HP} {K : Value → World → Prop}

/-- What holds of an epoch under way. -/
structure Tl.inv (S : St) (n : Nat) (i : Nat) (T : Tl) : Prop where
  limit : T.V.limit = S.V.limit
  made : T.I.made.length ≤ S.I.made.length + 1 + 5 * T.seq.toNat
  waits : T.D.waits.length ≤ S.D.waits.length + 64 * i
  now : T.D.now.length = n
  to : T.A.to ≤ n
  head : T.head.length = 32
  seq : 0 ≤ T.seq

theorem total_take {ps : List (List Rec)} {i : Nat} (h : i < ps.length) : total (ps.take (i + 1)) = total (ps.take i) + fsect ps[i] := by
  have : ps.take (i + 1) = ps.take i ++ [ps[i]] := by rw [List.take_add_one, List.getElem?_eq_getElem h]; rfl
  rw [this]
  simp only [total, List.map_append, List.sum_append, List.map_cons, List.map_nil, List.sum_cons, List.sum_nil, Nat.add_zero]

theorem Rows.mono {B B' : Bs} (hle : B.le B') {vs : List Value} {ps : List (List Rec)} (h : Rows B vs ps) : Rows B' vs ps := ⟨h.len, fun i h1 h2 => (h.each i h1 h2).mono hle⟩

theorem fsect_le {p : List Rec} (h : fsize p ≤ 16384) : fsect p ≤ 64 := by unfold fsect; omega

theorem total_le {ps : List (List Rec)} (h : ∀ p ∈ ps, fsize p ≤ 16384) : total ps ≤ 64 * ps.length := by
  induction ps with
  | nil => simp [total]
  | cons p ps ih =>
    have h1 := fsect_le (h p (by simp))
    have h2 := ih fun x hx => h x (by simp [hx])
    simp only [total, List.map_cons, List.sum_cons, List.length_cons] at h2 ⊢
    omega

theorem Turn_ok {b vb wb db mb m mc : Nat} {L : Lg} {S : St} {q : Option Addr} {rs : List Rec} (h : Sat B w (lg b vb db mb L :: vlt vb wb S.V :: idl wb S.I :: dsk db S.D :: mtr mb db S.M :: F)) (G : Gl B) (hr : Rd B q (rcells rs)) (hm : m = rs.length) (hmc : rs.length ≤ mc) (hn : rs.length ≤ 10000)
    (hwl : S.D.waits.length < 1000000) (hI : S.I.made.length < 1000000000000000) (hV : 0 ≤ S.V.limit ∧ S.V.limit < 9223372036854775808)
    (hk : ∀ w', Sat B w' (lg b vb db mb (turnF S L rs).2.1 :: vlt vb wb (turnF S L rs).1.V :: idl wb (turnF S L rs).1.I :: dsk db (turnF S L rs).1.D :: mtr mb db (turnF S L rs).1.M :: F) → K (.int .i64 (turnF S L rs).2.2) w') :
    Cs P f_commit_Log_Turn #[.pointer (at0 b), .slice q m mc] w K := by
  subst hm
  refine ok_commit_Log_Turn _ _ _ _ ?_
  unfold vc_commit_Log_Turn
  have hL := Sat.lFact h
  have hh := hL.head
  refine good_ok ((h.pull 3).pull 1) G hr rfl (by omega) fun w' h => ⟨_, rfl, ?_⟩
  have h := (h.pull 3).pull 3 |>.pull 2
  have hS : Sat B w' (lg b vb db mb L :: vlt vb wb S.V :: idl wb S.I :: dsk db S.D :: mtr mb db S.M :: F) := h
  refine Br.ne (fun hne => ?_) fun hg0 => ?_
  · have e : turnF S L rs = (S, L, goodE S.D rs) := by unfold turnF; rw [if_pos hne]
    rw [e] at hk
    exact hk _ h
  obtain ⟨hd, hne, hgood⟩ := good_all hg0
  have hsm := good_small hgood
  have hb512 : ∀ r ∈ rs, r.body.length ≤ 512 := fun r hr => (good_spans (hgood r hr)).2.2.2.2.2
  obtain ⟨hp1, hp2, hp3⟩ := split_facts hb512
  have e1 : turnF S L rs = if S.M.most - S.M.count = 0 ∨ 4294967296 ≤ L.epoch + 1 ∨ S.V.limit < rs.length then (S, L, 10)
    else if (areaOf S.D.now.length (L.epoch + 1)).to - (areaOf S.D.now.length (L.epoch + 1)).at_ < total (split rs) then (S, L, 7)
    else turnG S L (L.epoch + 1) (turnLoop (L.epoch + 1) (split rs) (turn0 S (L.epoch + 1))) := by unfold turnF; rw [if_neg (by simpa using hg0)]
  rw [e1] at hk
  clear e1 hg0
  obtain ⟨ab, h, _⟩ := Sat.lOpen h
  have hep := hL.epoch
  refine NN.some ⟨_, (ld_log hL h).2.2.2.2.1, ?_⟩
  refine Split_ok h hr rfl hmc hsm (by omega) fun p0 c0 vs w' hbf hrows => ⟨_, _, _, rfl, ?_⟩
  clear h hS
  obtain ⟨B1, hle1, h, hrv, hvl⟩ := hbf.fix
  clear hbf
  have hG1 := G.mono hle1
  have hps : ∀ p ∈ split rs, (∀ r ∈ p, r.good = true) ∧ p.length ≤ rs.length := by
    intro p hp
    refine ⟨fun r hr => hgood r ?_, ?_⟩
    · rw [← hp2]; exact List.mem_flatten.2 ⟨p, hp, hr⟩
    · have : (split rs).flatten.length = rs.length := by rw [hp2]
      rw [← this]
      obtain ⟨a, b, e⟩ := List.append_of_mem hp
      rw [e]
      simp; omega
  rw [w64 (x := L.epoch + 1) (by omega) (by omega)]
  generalize hepE : L.epoch + 1 = ep at *
  generalize hpsE : split rs = ps at *
  have hvl : vs.length = ps.length := by omega
  have htot := total_le (ps := ps) fun p hp => (hp1 p hp).2
  refine Lp.up ps.length (fun i vs w => vs = [.int .i64 (total (ps.take i)), .int .i64 i] ∧ Sat B1 w (bk b t_commit_Log (lgc vb db mb ab L) :: ara ab db L.A :: vlt vb wb S.V :: idl wb S.I :: dsk db S.D :: mtr mb db S.M :: F)) ⟨by simp [total], h⟩ fun J nx cs => ?_
  intro n2 n3 l2 w2 hJ
  obtain ⟨i, hi, rfl, hv, h⟩ := cs _ _ _ hJ
  obtain ⟨rfl, rfl⟩ : n2 = (total (ps.take i) : Int) ∧ n3 = (i : Int) := by simpa using hv
  refine Br.lt (fun hlt => ?_) (fun hge => ?_)
  · have hlt : i < ps.length := by omega
    have hlt' : i < vs.length := by omega
    obtain ⟨pp, pc, epv, hpc, hrp⟩ := (hrows.mono hle1).each i hlt hlt'
    have hpi := hps ps[i] (List.getElem_mem hlt)
    have htt := total_take hlt
    have hti := total_le (ps := ps.take i) fun p hp => (hp1 p (List.mem_of_mem_take hp)).2
    have hfs := fsect_le (hp1 ps[i] (List.getElem_mem hlt)).2
    have htl : (ps.take i).length ≤ ps.length := by rw [List.length_take]; omega
    refine hrv.ix hlt (by omega) fun a hr' => ⟨pp, _, pc, hr'.ld1 h sc_recs (by rw [← epv]; simp [hlt']), ?_⟩
    refine SSectors_ok h hrp rfl (good_small hpi.1) (by omega) fun w' h => ⟨_, rfl, nx i _ _ _ hlt rfl ⟨?_, h⟩⟩
    rw [w64 (x := (total (ps.take i) : Int) + _) (by omega) (by omega), w64 (x := (i : Int) + 1) (by omega) (by omega), htt]
    simp
  have hin : i = ps.length := by omega
  rw [hin, List.take_length]
  clear hJ cs nx J
  have hDo := Sat.dFact (h.pull 4)
  refine NN.some ⟨_, (ld_log hL h).2.1, ?_⟩
  refine Half_ok (h.pull 4) (by omega) (by omega) fun ab2 w' h => ⟨_, rfl, ?_⟩
  have h := (((((h.pull 6).pull 2).pull 6).pull 6).pull 6).pull 6
  generalize hnE : S.D.now.length = n at *
  have hM := Sat.mFact (h.pull 5)
  refine Jn.by (fun vs w => ∃ c, vs = [.bool c] ∧ (c = true ↔ S.M.most - S.M.count = 0 ∨ 4294967296 ≤ ep ∨ S.V.limit < rs.length) ∧ Sat B1 w (bk b t_commit_Log (lgc vb db mb ab L) :: ara ab db L.A :: vlt vb wb S.V :: idl wb S.I :: dsk db S.D :: mtr mb db S.M :: ara ab2 db (areaOf n ep) :: F)) ?_ ?_
  · refine NN.some ⟨_, (ld_log hL h).2.2.1, MLeft_ok (h.pull 5) fun w' h => ⟨_, rfl, ?_⟩⟩
    have h := ((((h.pull 5).pull 5).pull 5).pull 5).pull 5
    refine Br.eq (fun h0 => ⟨_, rfl, ⟨fun _ => .inl h0, fun _ => rfl⟩, h⟩) fun h0 => Br.ge (fun h1 => ⟨_, rfl, ⟨fun _ => .inr (.inl h1), fun _ => rfl⟩, h⟩) fun h1 => ?_
    have h : Sat B1 w' (bk b t_commit_Log (lgc vb db mb ab L) :: ara ab db L.A :: vlt vb wb S.V :: idl wb S.I :: dsk db S.D :: mtr mb db S.M :: ara ab2 db (areaOf n ep) :: F) := h
    refine NN.some ⟨_, (ld_log hL h).1, Limit_ok (h.pull 2) ⟨_, rfl, ⟨_, rfl, ?_, h⟩⟩⟩
    simp only [gtI, decide_eq_true_eq]
    constructor
    · intro hx; exact .inr (.inr hx)
    · rintro (hx | hx | hx)
      · exact absurd hx h0
      · omega
      · exact hx
  rintro c w5 ⟨c', hcc, hsp, h⟩
  obtain rfl : c = c' := by simpa using hcc
  refine Br.bool (fun hc => ?_) fun hc => ?_
  · rw [if_pos (hsp.1 hc)] at hk
    exact hk _ (Sat.thaw hle1 (Sat.lShut ab hL (h.pull 6).tail))
  have hns : ¬ (S.M.most - S.M.count = 0 ∨ 4294967296 ≤ ep ∨ S.V.limit < rs.length) := fun hx => by rw [hsp.2 hx] at hc; cases hc
  rw [if_neg hns] at hk
  obtain ⟨hao, hat⟩ := areaOf_facts n ep (by rw [← hnE]; exact hDo.size)
  refine ALeft_ok (h.pull 6) fun w' h => ⟨_, rfl, Br.gt (fun hgt => ?_) fun hle2 => ?_⟩
  · rw [if_pos (by omega)] at hk
    exact hk _ (Sat.thaw hle1 (Sat.lShut ab hL h.tail))
  rw [if_neg (by omega)] at hk
  have h := (((((h.pull 6).pull 6).pull 6).pull 6).pull 6).pull 6
  have h : Sat B1 w' (bk b t_commit_Log (lgc vb db mb ab L) :: ara ab db L.A :: vlt vb wb S.V :: idl wb S.I :: dsk db S.D :: mtr mb db S.M :: ara ab2 db (areaOf n ep) :: F) := h
  refine NN.some ⟨_, (ld_log hL h).1, ?_⟩
  refine Start_ok ((h.pull 3).pull 3) (by omega) fun w' h => ⟨_, rfl, ?_⟩
  have h := (h.pull 3).pull 3
  refine h.var zr_arr32 fun a6 w' h => ?_
  have hdl0 : (bcells (S.I.dig (startT ep))).length = 32 := by rw [bcells_length, dig_length]
  have e32 : ∀ {X : List UInt8}, (bcells X).length = 32 → ∀ {Y : List Value}, Y.length = 32 → List.take 0 Y ++ bcells X ++ List.drop (0 + 32) Y = bcells X := by
    intro X hX Y hY
    rw [List.drop_eq_nil_iff.2 (by omega)]; simp
  have hz32 : (bcells (List.replicate 32 0)).length = 32 := by simp [bcells]
  refine Sat.stA (n := 32) h wd_arr32 hdl0 (ones_bcells _) (by simp [bcells]) fun w' h => ?_
  rw [e32 hdl0 hz32] at h
  have hflen : ∀ i, i < ps.length → ((ps.take (i + 1)).flatten.length = (ps.take i).flatten.length + (ps[i]?.getD []).length) ∧ (ps.take (i + 1)).flatten.length ≤ rs.length := by
    intro i hi
    have ht : ps.take (i + 1) = ps.take i ++ [ps[i]] := by rw [List.take_add_one, List.getElem?_eq_getElem hi]; rfl
    refine ⟨by rw [ht, List.flatten_append, List.length_append]; simp [hi], ?_⟩
    have : ps.flatten = (ps.take (i + 1)).flatten ++ (ps.drop (i + 1)).flatten := by rw [← List.flatten_append, List.take_append_drop]
    rw [← hp2, this, List.length_append]; omega
  have hturn0 : turn0 S ep = ⟨S.I.hash (startT ep), S.V, S.D, areaOf n ep, S.I.dig (startT ep), 0⟩ := by unfold turn0; rw [hnE]
  generalize hR : turnLoop ep ps (turn0 S ep) = R at *
  refine Lp.up ps.length (fun i vs w => ∃ T : Tl, vs = [.int .i64 T.seq, .int .i64 i] ∧ turnLoop ep (ps.drop i) T = R ∧ T.inv S n i ∧ T.seq = ((ps.take i).flatten.length : Nat) ∧
    Sat B1 w (bk a6 t_arr32_uint8 (bcells T.head) :: bk b t_commit_Log (lgc vb db mb ab L) :: ara ab db L.A :: vlt vb wb T.V :: idl wb T.I :: dsk db T.D :: mtr mb db S.M :: ara ab2 db T.A :: F)) ?_ fun J nx cs => ?_
  · refine ⟨turn0 S ep, by rw [hturn0]; simp, by simpa using hR, ?_, by rw [hturn0]; simp, by rw [hturn0]; exact h⟩
    rw [hturn0]
    refine ⟨rfl, ?_, by simp, hnE, hat, dig_length _ _, Int.le_refl _⟩
    have := Id.put_le S.I (nm 72 [startT ep])
    simp only [Id.hash]
    omega
  intro n8 n9 l5 w12 hJ
  obtain ⟨i, hi, rfl, T, hv, hTR, hinv, hseq, h⟩ := cs _ _ _ hJ
  obtain ⟨rfl, rfl⟩ : n8 = T.seq ∧ n9 = (i : Int) := by simpa using hv
  have hth : (bcells T.head).length = 32 := by rw [bcells_length, hinv.head]
  refine Br.lt (fun hlt => ?_) (fun hge => ?_)
  · have hlt : i < ps.length := by omega
    have hlt' : i < vs.length := by omega
    obtain ⟨pp, pc, epv, hpc, hrp⟩ := (hrows.mono hle1).each i hlt hlt'
    have hmem : ps[i] ∈ ps := List.getElem_mem hlt
    have hpi := hps ps[i] hmem
    obtain ⟨hpne, hpsz⟩ := hp1 ps[i] hmem
    obtain ⟨hfl1, hfl2⟩ := hflen i hlt
    have hgi : (ps[i]?.getD []) = ps[i] := by simp [hlt]
    rw [hgi] at hfl1
    have hdrop : ps.drop i = ps[i] :: ps.drop (i + 1) := List.drop_eq_getElem_cons hlt
    rw [hdrop] at hTR
    generalize hpE : ps[i] = p at *
    have hplen : p.length ≤ 16384 := by unfold fsize at hpsz; omega
    have hpl1 : 1 ≤ p.length := List.length_pos_iff.2 hpne
    unfold turnLoop at hTR
    have hi1 := hinv.limit
    have hi2 := hinv.made
    have hi3 := hinv.waits
    have hi7 := hinv.seq
    have hmay : ∀ j : Nat, j < p.length → T.V.may ep (T.seq + j) = 0 := by
      intro j hj
      unfold Vt.may
      rw [if_neg (by omega), if_neg (by omega)]
    have hpl := pack_len (I := T.I) (V := T.V) (at_ := T.head) (e := ep) (s := T.seq) (rs := p)
    have hfp := flen_pack (I := T.I) (V := T.V) (at_ := T.head) (e := ep) (s := T.seq) (rs := p) (by omega)
    have hpm := pack_made (I := T.I) (V := T.V) (at_ := T.head) (e := ep) (s := T.seq) (rs := p) hpne (T.head ++ packB T.I T.V T.head ep T.seq p)
    have hpv := (pack_limit (I := T.I) (V := T.V) (at_ := T.head) (e := ep) (s := T.seq) (rs := p)).1
    have hst : T.step ep p = (⟨(packI T.I T.V T.head ep T.seq p).hash (T.head ++ packB T.I T.V T.head ep T.seq p), packV T.I T.V T.head ep T.seq p, (T.A.add T.D (packB T.I T.V T.head ep T.seq p)).2.1, (T.A.add T.D (packB T.I T.V T.head ep T.seq p)).1,
      (packI T.I T.V T.head ep T.seq p).dig (T.head ++ packB T.I T.V T.head ep T.seq p), T.seq + p.length⟩, (T.A.add T.D (packB T.I T.V T.head ep T.seq p)).2.2) := rfl
    rw [hst] at hTR
    clear hst
    generalize hfrE : packB T.I T.V T.head ep T.seq p = fr at *
    generalize hIE : packI T.I T.V T.head ep T.seq p = I1 at *
    generalize hVE : packV T.I T.V T.head ep T.seq p = V1 at *
    have hdl : (bcells (I1.dig (T.head ++ fr))).length = 32 := by rw [bcells_length, dig_length]
    refine hrv.ix hlt (by omega) fun ax hr' => ⟨pp, _, pc, hr'.ld1 h sc_recs (by rw [← epv]; simp [hlt']), ?_⟩
    refine Jn.by (fun vs w => ∃ a p' c, vs = [.slice p' (fsize p) c, .pointer (at0 a), .int .i64 0] ∧
      Sat B1 w (bk a t_arr32_uint8 (bcells (I1.dig (T.head ++ fr))) :: buf t_uint8 1 p' (fsize p) c (bcells fr) :: bk a6 t_arr32_uint8 (bcells T.head) :: bk b t_commit_Log (lgc vb db mb ab L) :: ara ab db L.A :: vlt vb wb V1 :: idl wb (I1.hash (T.head ++ fr)) :: dsk db T.D :: mtr mb db S.M :: ara ab2 db T.A :: F)) ?_ ?_
    · intro w7 ha
      have h := h.alk ha
      refine NN.some ⟨_, (ld_log hL (h.pull 1)).1, _, ldA (n := 32) wd_arr32 h.bk (by omega), ?_⟩
      rw [List.drop_zero, List.take_of_length_le (by omega)]
      refine ⟨?_, ?_⟩
      · refine Pack_ok (((((h.pull 2).pull 2).pull 2).pull 4).pull 4) hG1 hinv.head hrp rfl hpne hpi.1 (by omega) hmay hi7 (by omega) (by omega) fun p' c w' h => ⟨_, _, _, _, _, rfl, ?_⟩
        rw [hfrE, hIE, hVE] at *
        refine h.var zr_arr32 fun a w' h => ?_
        refine Sat.stA (n := 32) h wd_arr32 hdl (ones_bcells _) (by simp [bcells]) fun w' h => ⟨a, p', c, rfl, ?_⟩
        rw [e32 hdl hz32] at h
        exact (((((((h.pull 3).pull 3).pull 6).pull 6).pull 6).pull 6).pull 6)
      · refine h.var zr_arr32 fun a w' h => ?_
        refine ⟨⟨?_, (ld_log hL (h.pull 2)).1, trivial⟩, ?_⟩
        · have := ldA (P := P) (n := 32) (off := 0) wd_arr32 (h.pull 1).bk (by omega)
          rw [List.drop_zero, List.take_of_length_le (by omega)] at this
          exact this
        refine Pack_ok ((((((h.pull 3).pull 3).pull 3).pull 3).pull 5).pull 5) hG1 hinv.head hrp rfl hpne hpi.1 (by omega) hmay hi7 (by omega) (by omega) fun p' c w' h => ⟨_, _, _, _, _, rfl, ?_⟩
        rw [hfrE, hIE, hVE] at *
        refine Sat.stA (n := 32) (h.pull 3) wd_arr32 hdl (ones_bcells _) (by simp [bcells]) fun w' h => ⟨a, p', c, rfl, ?_⟩
        rw [e32 hdl hz32] at h
        exact (((((((h.pull 3).pull 3).pull 6).pull 6).pull 6).pull 6).pull 6)
    rintro p6 l4 l5' a11 n11 w16 ⟨a, p', c, hv, h⟩
    obtain ⟨⟨rfl, rfl, rfl⟩, rfl, rfl⟩ : (p6 = p' ∧ l4 = fsize p ∧ l5' = c) ∧ a11 = ⟨a, 0, none⟩ ∧ n11 = 0 := by simpa using hv
    have hcap : fsize p ≤ l5' := by
      rcases (h.pull 1).bufCases with ⟨_, h1, h2, _⟩ | ⟨_, _, _, h1, _⟩
      · omega
      · exact h1
    have hfr0 : fr ≠ [] := by
      intro e
      rw [e] at hpl
      simp only [List.length_nil] at hpl
      unfold fsize at hpl
      omega
    obtain ⟨B2, hle2, h, hrf, _⟩ := (h.pull 1).fix
    have h : Sat B2 w16 (bk a t_arr32_uint8 (bcells (I1.dig (T.head ++ fr))) :: bk a6 t_arr32_uint8 (bcells T.head) :: bk b t_commit_Log (lgc vb db mb ab L) :: ara ab db L.A :: vlt vb wb V1 :: idl wb (I1.hash (T.head ++ fr)) :: dsk db T.D :: mtr mb db S.M :: ara ab2 db T.A :: F) := h
    have haw := add_waits (A := T.A) (D := T.D) (bs := fr) (by omega)
    have hTo := (Sat.aOpen (h.pull 8)).2
    have hTd := Sat.dFact (h.pull 6)
    obtain ⟨g1, g2, g3, g4, g5⟩ := add_facts (A := T.A) (D := T.D) (bs := fr) hTo hTd (by rw [hinv.now]; exact hinv.to)
    have hto := hinv.to
    have hnow := hinv.now
    generalize hr1 : T.A.add T.D fr = r at *
    refine Jn.by (fun vs w => vs = [.int .i64 r.2.2] ∧ Sat B2 w (bk a t_arr32_uint8 (bcells (I1.dig (T.head ++ fr))) :: bk a6 t_arr32_uint8 (bcells T.head) :: bk b t_commit_Log (lgc vb db mb ab L) :: ara ab db L.A :: vlt vb wb V1 :: idl wb (I1.hash (T.head ++ fr)) :: dsk db r.2.1 :: mtr mb db S.M :: ara ab2 db r.1 :: F)) ?_ ?_
    · refine Br.t ?_
      refine Add_ok (((((((((h.pull 7).pull 6).pull 6).pull 6).pull 6).pull 6).pull 6).pull 7).pull 8) hrf hpl.symm (by omega) hfr0 hfp (by omega) (by omega) fun w' h => ⟨_, rfl, ?_⟩
      rw [hr1] at h ⊢
      refine ⟨rfl, ?_⟩
      exact ((((((((h.pull 8).pull 2).pull 8).pull 8).pull 8).pull 8).pull 8).pull 8)
    rintro n13 w18 ⟨hv13, h⟩
    obtain rfl : n13 = r.2.2 := by simpa using hv13
    refine Br.ne (fun hr2 => ?_) fun hr20 => ?_
    · rw [if_pos hr2] at hTR
      have hfin : turnG S L ep R = (⟨I1.hash (T.head ++ fr), V1, r.2.1, S.M⟩, L, r.2.2) := by
        rw [← hTR]; unfold turnG; rw [if_pos hr2]
      rw [hfin] at hk
      have h := Sat.thaw (hle1.trans hle2) h.tail.tail
      exact hk _ (Sat.lShut ab hL (h.pull 6).tail)
    · rw [if_neg (by simpa using hr20)] at hTR
      refine ⟨_, ldA (n := 32) wd_arr32 h.bk (by omega), ?_⟩
      rw [List.drop_zero, List.take_of_length_le (by omega)]
      refine Sat.stA (n := 32) (h.pull 1) wd_arr32 hdl (ones_bcells _) (by omega) fun w' h => ?_
      rw [e32 hdl hth] at h
      rw [w64 (x := T.seq + (p.length : Int)) (by omega) (by omega), w64 (x := (i : Int) + 1) (by omega) (by omega)]
      refine nx i _ _ _ hlt rfl ⟨⟨I1.hash (T.head ++ fr), V1, r.2.1, r.1, I1.dig (T.head ++ fr), T.seq + p.length⟩, by simp, hTR, ?_, by rw [hfl1]; dsimp only; omega, ?_⟩
      · exact ⟨hpv.trans hi1, by dsimp only; omega, by dsimp only; omega, by dsimp only; omega, by dsimp only; omega, dig_length _ _, by dsimp only; omega⟩
      · exact Sat.thaw hle2 ((h.pull 1).tail)
  · have hin : i = ps.length := by omega
    have hTR2 : R = (T, 0) := by
      rw [hin, List.drop_length] at hTR
      exact hTR.symm
    have hsqv : T.seq ≤ rs.length := by
      rw [hseq, hin, List.take_length, hp2]; exact Int.le_refl _
    have hi3 := hinv.waits
    have hi7 := hinv.seq
    rw [hTR2] at hk
    clear hTR hTR2 hR hJ cs nx
    unfold turnG at hk
    rw [if_neg (by simp)] at hk
    simp only at hk
    refine ⟨_, ldA (n := 32) wd_arr32 h.bk (by omega), ?_⟩
    rw [List.drop_zero, List.take_of_length_le (by omega)]
    have hq := Sat.lShut ab hL (((((((h.pull 4).pull 4).pull 2).pull 6).pull 6).pull 6).pull 6)
    refine seal_ok hq hinv.head (by omega) fun w' h => ⟨_, rfl, ?_⟩
    generalize hsE : sealF T.D S.M ep T.head = s at *
    refine Br.ne (fun hs2 => ?_) fun hs2 => ?_
    · rw [if_pos hs2] at hk
      have h : Sat B1 w' (lg b vb db mb L :: dsk db s.1 :: mtr mb db s.2.1 :: bk a6 t_arr32_uint8 (bcells T.head) :: vlt vb wb T.V :: idl wb T.I :: ara ab2 db T.A :: F) := h
      exact hk _ (Sat.thaw hle1 ((((((((h.pull 2).pull 2).pull 5).pull 5).pull 4).pull 5).pull 6)).tail.tail)
    rw [if_neg (by simpa using hs2)] at hk
    intro w22 ha
    have h := h.alk ha
    obtain ⟨ab', h, _⟩ := Sat.lOpen h
    have h : Sat B1 w22 (bk b t_commit_Log (lgc vb db mb ab' L) :: ara ab' db L.A :: dsk db s.1 :: mtr mb db s.2.1 :: bk a6 t_arr32_uint8 (bcells T.head) :: vlt vb wb T.V :: idl wb T.I :: ara ab2 db T.A :: F) := h
    have la6 : ∀ {w' : World} {X Y Z U : HP} {G : List HP}, Sat B1 w' (X :: Y :: Z :: U :: bk a6 t_arr32_uint8 (bcells T.head) :: G) → (loadVar t_arr32_uint8 ⟨a6, 0, none⟩).run P w' = .ok (arr T.head) w' := fun h => by
      have := ldA (P := P) (n := 32) (off := 0) wd_arr32 (h.pull 4).bk (by omega)
      rw [List.drop_zero, List.take_of_length_le (by omega)] at this
      exact this
    refine ⟨_, la6 h, NN.some ?_⟩
    have hll : ∀ {ab L'}, L'.head.length = 32 → (lgc vb db mb ab L').length = 39 := fun h => lgc_len h
    refine Sat.st1 h sc_parea rfl (by rw [hll hh]; show 0 + 3 < 39; omega) fun w' h => ⟨⟨la6 h, trivial⟩, NN.some ?_⟩
    have h : Sat B1 w' (bk b t_commit_Log (lgc vb db mb ab2 L) :: _) := h
    refine Sat.st1 h sc_int rfl (by rw [hll hh]; show 0 + 4 < 39; omega) fun w' h => ⟨⟨la6 h, trivial⟩, NN.some ?_⟩
    have h : Sat B1 w' (bk b t_commit_Log (lgc vb db mb ab2 { L with epoch := ep }) :: _) := h
    refine Sat.st1 h sc_int rfl (by rw [hll (L' := { L with epoch := ep }) hh]; show 0 + 5 < 39; omega) fun w' h => ⟨⟨la6 h, trivial⟩, NN.some ?_⟩
    have h : Sat B1 w' (bk b t_commit_Log (lgc vb db mb ab2 { L with epoch := ep, seq := T.seq }) :: _) := h
    refine Sat.stA (n := 32) h wd_arr32 hth (ones_bcells _) (by rw [hll (L' := { L with epoch := ep, seq := T.seq }) hh]; show 0 + 6 + 32 ≤ 39; omega) fun w' h => NN.some ?_
    have e6 : List.take (0 + 6) (lgc vb db mb ab2 { L with epoch := ep, seq := T.seq }) ++ bcells T.head ++ List.drop (0 + 6 + 32) (lgc vb db mb ab2 { L with epoch := ep, seq := T.seq }) = lgc vb db mb ab2 { L with epoch := ep, seq := T.seq, head := T.head } := lgc_set_head (L := { L with epoch := ep, seq := T.seq }) hh
    rw [e6] at h
    refine Sat.st1 h sc_bool rfl (by rw [hll (L' := { L with epoch := ep, seq := T.seq, head := T.head }) hinv.head]; show 0 + 38 < 39; omega) fun w' h => ?_
    have e7 : (lgc vb db mb ab2 { L with epoch := ep, seq := T.seq, head := T.head }).set (0 + 38) (.bool true) = lgc vb db mb ab2 ⟨T.A, ep, T.seq, T.head, true⟩ := lgc_set_fresh (L := { L with epoch := ep, seq := T.seq, head := T.head }) hinv.head
    rw [e7] at h
    have h : Sat B1 w' (bk b t_commit_Log (lgc vb db mb ab2 ⟨T.A, ep, T.seq, T.head, true⟩) :: ara ab' db L.A :: dsk db s.1 :: mtr mb db s.2.1 :: bk a6 t_arr32_uint8 (bcells T.head) :: vlt vb wb T.V :: idl wb T.I :: ara ab2 db T.A :: F) := h
    have h := (((((((((h.pull 3).pull 3).pull 6).pull 6).pull 7).pull 5).pull 7).pull 7)).tail.tail
    have hfo : Lg.ok ⟨T.A, ep, T.seq, T.head, true⟩ := ⟨hinv.head, by dsimp only; omega, by dsimp only; omega⟩
    exact hk _ (Sat.thaw hle1 (Sat.lShut (L := ⟨T.A, ep, T.seq, T.head, true⟩) ab2 hfo h))

end Go.Dv

/-! arrays held against one another -/
set_option maxRecDepth 20000
namespace Go.Dv
open Go Go.Sh Go.Sl

variable {B : Bs} {w : World} {F : List HP} {K : Value → World → Prop}

theorem neq_run {t m : Nat} (hm : m ≤ 10000) (hk : P.keyTypeAt m t = true) (hw : (match P.underlying t with | some (.array _ _) | some (.struct _) => true | _ => false) = true) (ht : P.tiled m t = true) (hg : P.eqGuardType P.depth t = false)
    {xs ys : Array Value} {lx ly : Lit} (hx : keyOf P t (.agg xs) = some lx) (hy : keyOf P t (.agg ys) = some ly) (x y : Operand) :
    ∃ r : Bool, (binS .neq t x y (.agg xs) (.agg ys)).run P w = .ok (.bool r) w ∧ (r = true ↔ xs ≠ ys) := by
  obtain ⟨r, h1, h2⟩ := run_equal_deep w hm hk hw hx hy
  refine ⟨!r, ?_, ?_⟩
  · have e1 : (eqGuard .neq t x y (.agg xs) (.agg ys)).run P w = .ok () w := by
      simp [eqGuard, hg]
    have e2 : binOp .neq t (.agg xs) (.agg ys) = (do let r ← Op.equal t (.agg xs) (.agg ys); pure (.bool !r)) := rfl
    unfold binS
    simp only [Sem.run_bind, e1, Result.andThen_ok, e2, h1, Sem.run_pure]
  · cases hr : r with
    | true =>
      have := h2.1 hr
      subst this
      have := keyOf_inj_deep ht hw hx hy
      simp only [Value.agg.injEq] at this
      simp [this]
    | false =>
      simp only [Bool.not_false, true_iff]
      intro e
      subst e
      rw [hx] at hy
      have := h2.2 (by simpa using hy)
      rw [hr] at this; cases this

theorem key_arr32 {l : List UInt8} (h : l.length = 32) : ∃ x, keyOf P t_arr32_uint8 (arr l) = some x := by
  have hc32 : P.cellsOf t_arr32_uint8 = 32 := by kernel_rfl
  have hkt : P.keyType t_arr32_uint8 = true := by kernel_rfl
  have c3 : P.cellsOf t_uint8 = 1 := by kernel_rfl
  obtain ⟨d, hd⟩ : ∃ d, P.types.size = d + 3 := ⟨P.types.size - 3, by
    have : 3 < P.types.size := of_decide_eq_true (by kernel_rfl)
    omega⟩
  have h0 : P.keyLits (P.types.size + 1) t_arr32_uint8 (bcells l) = some (l.map fun c => Lit.int .u8 (c.toNat : Int)) := by
    rw [hd]
    exact keyLits_arr un_arr32 un_u8 hc32 c3 h
  refine ⟨.string (keyBytes (l.map fun c => Lit.int .u8 (c.toNat : Int))), ?_⟩
  have hfm : (arr l).formed P t_arr32_uint8 = true := by
    simp only [arr, Value.formed, un_arr32, hc32, List.size_toArray, bcells_length, h]
    rfl
  unfold keyOf
  rw [un_arr32]
  simp only [hkt, hfm, Bool.and_self, if_true]
  have : (arr l).cells.toList = bcells l := rfl
  rw [this, h0]
  rfl

theorem neq_arr32 {a b : List UInt8} (ha : a.length = 32) (hb : b.length = 32) (x y : Operand) : (binS .neq t_arr32_uint8 x y (arr a) (arr b)).run P w = .ok (.bool (decide (a ≠ b))) w := by
  obtain ⟨lx, hx⟩ := key_arr32 ha
  obtain ⟨ly, hy⟩ := key_arr32 hb
  have hkt : P.keyTypeAt 3 t_arr32_uint8 = true := by kernel_rfl
  obtain ⟨r, h1, h2⟩ := neq_run (w := w) (m := 3) (by omega) hkt (by kernel_rfl) (tiled_of_laidOut laid 3 t_arr32_uint8 (by kernel_rfl) hkt) (by kernel_rfl) hx hy x y
  have : r = decide (a ≠ b) := by
    rw [Bool.eq_iff_iff, h2, decide_eq_true_eq]
    constructor
    · intro h e; exact h (by rw [e])
    · intro h e; exact h (arr_inj (by simp only [arr]; rw [e]))
  rw [← this]
  exact h1

end Go.Dv

/-! commit.Open, its plain side -/
set_option maxRecDepth 20000
namespace Go.Dv
open Go Go.Sh Go.Sl

theorem upStep_facts {V : Vt} {e s : Int} {at_ : List UInt8} {n : Int} {i : Nat} {u : Up} :
    (upStep V e s at_ n i u).1.I.made.length ≤ u.I.made.length + 2 ∧ (upStep V e s at_ n i u).1.I.texts = u.I.texts ∧ (upStep V e s at_ n i u).1.leaves.length ≤ u.leaves.length + 1 ∧ (upStep V e s at_ n i u).1.list.length ≤ u.list.length + 1 ∧
    ((∀ x ∈ u.leaves, x.length = 32) → ∀ x ∈ (upStep V e s at_ n i u).1.leaves, x.length = 32) := by
  unfold upStep
  split
  · rename_i x _
    obtain ⟨a, b, c, d⟩ := upRec_made (V := V) (e := e) (s := s) (at_ := at_) (n := n) (i := i) (u := u) (q := x.1) (t := x.2.1) (rest := x.2.2)
    refine ⟨a, b, c, ?_, d⟩
    unfold upRec
    repeat' split
    all_goals try dsimp only
    all_goals first | (simp; done) | omega
  · exact ⟨by dsimp only; omega, rfl, by dsimp only; omega, by dsimp only; omega, fun h => h⟩

theorem upF_facts {V : Vt} {e s : Int} {at_ : List UInt8} {n : Int} : ∀ (k i : Nat) (u : Up),
    (upF V e s at_ n k i u).1.I.made.length ≤ u.I.made.length + 2 * k ∧ (upF V e s at_ n k i u).1.I.texts = u.I.texts ∧ (upF V e s at_ n k i u).1.leaves.length ≤ u.leaves.length + k ∧ (upF V e s at_ n k i u).1.list.length ≤ u.list.length + k ∧
    ((∀ x ∈ u.leaves, x.length = 32) → ∀ x ∈ (upF V e s at_ n k i u).1.leaves, x.length = 32)
  | 0, _, u => ⟨Nat.le_refl _, rfl, Nat.le_refl _, Nat.le_refl _, fun h => h⟩
  | k + 1, i, u => by
    obtain ⟨a, b, c, d, f⟩ := upStep_facts (V := V) (e := e) (s := s) (at_ := at_) (n := n) (i := i) (u := u)
    unfold upF
    split
    · exact ⟨by dsimp only; omega, rfl, by dsimp only; omega, by dsimp only; omega, fun h => h⟩
    · split
      · exact ⟨by omega, b, by omega, by omega, f⟩
      · obtain ⟨a', b', c', d', f'⟩ := upF_facts (V := V) (e := e) (s := s) (at_ := at_) (n := n) k (i + 1) (upStep V e s at_ n i u).1
        exact ⟨by omega, b'.trans b, by omega, by omega, fun h => f' (f h)⟩

theorem unpack_facts {I : Id} {V : Vt} {e s : Int} {at_ bs : List UInt8} : (unpackF I V e s at_ bs).1.made.length ≤ I.made.length + 1000 ∧ (unpackF I V e s at_ bs).1.texts = I.texts ∧ ∀ l hd, (unpackF I V e s at_ bs).2 = .inr (l, hd) → l.length ≤ 260 ∧ hd.length = 32 := by
  have hgo : (upGo I V e s at_ (bs.drop 8)).1.I.made.length ≤ I.made.length + 520 ∧ (upGo I V e s at_ (bs.drop 8)).1.I.texts = I.texts ∧ (upGo I V e s at_ (bs.drop 8)).1.leaves.length ≤ 260 ∧ (upGo I V e s at_ (bs.drop 8)).1.list.length ≤ 260 ∧ ∀ x ∈ (upGo I V e s at_ (bs.drop 8)).1.leaves, x.length = 32 := by
    unfold upGo
    split
    · rename_i h
      obtain ⟨a, b, c, d, f⟩ := upF_facts (V := V) (e := e) (s := s) (at_ := at_) (n := num ((bs.drop 8).take 8)) (num ((bs.drop 8).take 8)).toNat 0 ⟨I, (bs.drop 8).drop 8, false, [], []⟩
      simp only [List.length_nil] at a c d
      exact ⟨by omega, b, by omega, by omega, f (by simp)⟩
    · exact ⟨by dsimp only; omega, rfl, by simp, by simp, by simp⟩
  unfold unpackF
  split
  · exact ⟨by dsimp only; omega, rfl, fun l hd h => by simp at h⟩
  · generalize upGo I V e s at_ (bs.drop 8) = u at *
    obtain ⟨a, b, c, d, f⟩ := hgo
    have hrm : (rootF u.1.leaves.length u.1.I u.1.leaves).1.made.length ≤ u.1.I.made.length + 261 := by
      by_cases h1 : 1 ≤ u.1.leaves.length
      · have := rootF_made u.1.leaves.length u.1.I u.1.leaves h1
        omega
      · have e0 : u.1.leaves = [] := List.eq_nil_of_length_eq_zero (by omega)
        rw [e0]
        have := Id.put_le u.1.I (nm 72 [[48]])
        simp only [List.length_nil, rootF, Id.hash]
        omega
    have hrt : ∀ (k : Nat) (I : Id) (l : List (List UInt8)), (rootF k I l).1.texts = I.texts := by
      intro k
      induction k with
      | zero =>
        intro I l
        match l with
        | [] => exact put_texts _ _
        | [_] => rfl
        | _ :: _ :: _ => rfl
      | succ k ih =>
        intro I l
        match l with
        | [] => exact put_texts _ _
        | [_] => rfl
        | x :: y :: l =>
          simp only [rootF]
          exact ((put_texts _ _).trans (ih _ _)).trans (ih _ _)
    unfold upEnd
    split
    · exact ⟨by dsimp only; omega, b, fun l hd h => by simp at h⟩
    · split
      · have hp := Id.put_le (rootF u.1.leaves.length u.1.I u.1.leaves).1 (nm 72 [at_ ++ bs])
        refine ⟨by dsimp only [Id.hash]; omega, (put_texts _ _).trans ((hrt _ _ _).trans b), fun l hd h => ?_⟩
        simp only [Sum.inr.injEq, Prod.mk.injEq] at h
        rw [← h.1, ← h.2]
        exact ⟨d, dig_length _ _⟩
      · exact ⟨by dsimp only; omega, (hrt _ _ _).trans b, fun l hd h => by simp at h⟩

/-- A log that is being opened. -/
structure Ol where
  I : Id
  A : Ar
  head : List UInt8
  seq : Int
  list : List Rec

noncomputable def openLoop (V : Vt) (now : List (List UInt8)) (M : Mt) : Nat → Ol → Ol × Int
  | 0, o => (o, 11)
  | k + 1, o => if 0 < M.count ∧ o.head ≠ M.root then
      match o.A.next now with
      | none => (o, 11)
      | some x => match unpackF o.I V M.epoch o.seq o.head x.1 with
        | (I', .inl _) => ({ o with I := I', A := { o.A with at_ := x.2 } }, 11)
        | (I', .inr y) => openLoop V now M k ⟨I', { o.A with at_ := x.2 }, y.2, o.seq + y.1.length, o.list ++ y.1⟩
    else (o, 0)

noncomputable def open0 (S : St) : Ol := ⟨S.I.hash (startT S.M.epoch), areaOf S.D.now.length S.M.epoch, S.I.dig (startT S.M.epoch), 0, []⟩
noncomputable def openGo (S : St) : Ol × Int := openLoop S.V S.D.now S.M (S.D.now.length / 2 + 1) (open0 S)
noncomputable def openF (S : St) : St × Option (Lg × List Rec) × Int :=
  if S.D.down then (S, none, 8)
  else if (openGo S).2 ≠ 0 then ({ S with I := (openGo S).1.I }, none, (openGo S).2)
  else ({ S with I := (openGo S).1.I }, some (⟨(openGo S).1.A, S.M.epoch, (openGo S).1.seq, (openGo S).1.head, false⟩, (openGo S).1.list), 0)

theorem nextF_lt {now : List (List UInt8)} {to : Nat} : ∀ (k i : Nat) (acc : List UInt8) {x : List UInt8 × Nat}, nextF now to k i acc = some x → i < x.2 ∧ x.2 ≤ to ∧ x.1.length ≤ 16384
  | 0, _, _, _, h => by cases h
  | k + 1, i, acc, x, h => by
    unfold nextF at h
    split at h
    · split at h
      · have := flen_le (acc ++ now.getD i [])
        cases h
        exact ⟨by dsimp only; omega, by dsimp only; omega, by simp only [List.length_take]; omega⟩
      · have := nextF_lt k (i + 1) _ h
        exact ⟨by omega, this.2⟩
    · cases h

end Go.Dv

/-! commit.Open -/
set_option maxRecDepth 20000
namespace Go.Dv
open Go Go.Sh Go.Sl

variable {B : Bs} {w : World} {F : List HP} {K : Value → World → Prop}

theorem b_log {vb db mb ab : Nat} {e : Int} {hd : List UInt8} (hl : hd.length = 32) {A : Ar} :
    (Instr.build t_commit_Log #[(0, .pointer (at0 vb)), (1, .pointer (at0 db)), (2, .pointer (at0 mb)), (3, .pointer (at0 ab)), (4, .int .i64 e), (6, arr hd)]).run P w = .ok (.agg (lgc vb db mb ab ⟨A, e, 0, hd, false⟩).toArray) w := by
  have hbl : (bcells hd).length = 32 := by rw [bcells_length, hl]
  have hz : (bcells (List.replicate 32 0)).length = 32 := by simp [bcells]
  refine bld_run pt_Log ?_
  generalize bcells (List.replicate 32 0) = z at *
  have s1 : List.take 0 ([Value.pointer none, .pointer none, .pointer none, .pointer none, .int .i64 0, .int .i64 0] ++ z ++ [.bool false]) ++ [Value.pointer (at0 vb)] ++ List.drop (0 + 1) ([Value.pointer none, .pointer none, .pointer none, .pointer none, .int .i64 0, .int .i64 0] ++ z ++ [.bool false]) = [Value.pointer (at0 vb), .pointer none, .pointer none, .pointer none, .int .i64 0, .int .i64 0] ++ z ++ [.bool false] := rfl
  have s2 : List.take 1 ([Value.pointer (at0 vb), .pointer none, .pointer none, .pointer none, .int .i64 0, .int .i64 0] ++ z ++ [.bool false]) ++ [Value.pointer (at0 db)] ++ List.drop (1 + 1) ([Value.pointer (at0 vb), .pointer none, .pointer none, .pointer none, .int .i64 0, .int .i64 0] ++ z ++ [.bool false]) = [Value.pointer (at0 vb), .pointer (at0 db), .pointer none, .pointer none, .int .i64 0, .int .i64 0] ++ z ++ [.bool false] := rfl
  have s3 : List.take 2 ([Value.pointer (at0 vb), .pointer (at0 db), .pointer none, .pointer none, .int .i64 0, .int .i64 0] ++ z ++ [.bool false]) ++ [Value.pointer (at0 mb)] ++ List.drop (2 + 1) ([Value.pointer (at0 vb), .pointer (at0 db), .pointer none, .pointer none, .int .i64 0, .int .i64 0] ++ z ++ [.bool false]) = [Value.pointer (at0 vb), .pointer (at0 db), .pointer (at0 mb), .pointer none, .int .i64 0, .int .i64 0] ++ z ++ [.bool false] := rfl
  have s4 : List.take 3 ([Value.pointer (at0 vb), .pointer (at0 db), .pointer (at0 mb), .pointer none, .int .i64 0, .int .i64 0] ++ z ++ [.bool false]) ++ [Value.pointer (at0 ab)] ++ List.drop (3 + 1) ([Value.pointer (at0 vb), .pointer (at0 db), .pointer (at0 mb), .pointer none, .int .i64 0, .int .i64 0] ++ z ++ [.bool false]) = [Value.pointer (at0 vb), .pointer (at0 db), .pointer (at0 mb), .pointer (at0 ab), .int .i64 0, .int .i64 0] ++ z ++ [.bool false] := rfl
  have s5 : List.take 4 ([Value.pointer (at0 vb), .pointer (at0 db), .pointer (at0 mb), .pointer (at0 ab), .int .i64 0, .int .i64 0] ++ z ++ [.bool false]) ++ [Value.int .i64 e] ++ List.drop (4 + 1) ([Value.pointer (at0 vb), .pointer (at0 db), .pointer (at0 mb), .pointer (at0 ab), .int .i64 0, .int .i64 0] ++ z ++ [.bool false]) = [Value.pointer (at0 vb), .pointer (at0 db), .pointer (at0 mb), .pointer (at0 ab), .int .i64 e, .int .i64 0] ++ z ++ [.bool false] := rfl
  have s6 : List.take 6 ([Value.pointer (at0 vb), .pointer (at0 db), .pointer (at0 mb), .pointer (at0 ab), .int .i64 e, .int .i64 0] ++ z ++ [.bool false]) ++ bcells hd ++ List.drop (6 + 32) ([Value.pointer (at0 vb), .pointer (at0 db), .pointer (at0 mb), .pointer (at0 ab), .int .i64 e, .int .i64 0] ++ z ++ [.bool false]) = lgc vb db mb ab ⟨A, e, 0, hd, false⟩ := by
    rw [← List.drop_drop]
    simp only [List.append_assoc, List.cons_append, List.nil_append, List.drop_succ_cons, List.drop_zero, List.take_succ_cons, List.take_zero]
    rw [List.drop_left' hz]
    simp [lgc]
  have hzl : ∀ {a b c d f g : Value}, ([a, b, c, d, f, g] ++ z ++ [Value.bool false]).length = 39 := by intros; simp [hz]
  rw [fill_step (size := 1) (L := [.pointer (at0 vb)]) rfl rfl rfl (by rw [hzl]; omega), s1, fill_step (size := 1) (L := [.pointer (at0 db)]) rfl rfl rfl (by rw [hzl]; omega), s2, fill_step (size := 1) (L := [.pointer (at0 mb)]) rfl rfl rfl (by rw [hzl]; omega), s3,
    fill_step (size := 1) (L := [.pointer (at0 ab)]) rfl rfl rfl (by rw [hzl]; omega), s4, fill_step (size := 1) (L := [.int .i64 e]) rfl rfl rfl (by rw [hzl]; omega), s5, fill_step (L := bcells hd) rfl rfl hbl (by rw [hzl]; omega), s6, fill_nil]

/-- One frame more. -/
theorem open_stage {vb wb db mb a1 ab : Nat} {S : St} {o : Ol} {bs : List UInt8} {A' : Ar} {p3 p1 : Option Addr} {l0 c3 c1 : Nat} {Y : Nat → List Value → World → Prop} {l2 : Nat}
    (h : Sat B w (bk a1 t_commit_Log (lgc vb db mb ab ⟨A', S.M.epoch, o.seq, o.head, false⟩) :: ara ab db A' :: vlt vb wb S.V :: idl wb o.I :: buf t_api_Record 6 p1 o.list.length c1 (rcells o.list) :: F)) (G : Gl B) (hr : Rd B p3 (bcells bs)) (hl0 : l0 = bs.length)
    (hbl : bs.length ≤ 16384) (hT : o.I.recs) (hh : o.head.length = 32) (hs : 0 ≤ o.seq ∧ o.seq < 100000000) (hI : o.I.made.length < 100000000000000000) (hll : o.list.length < 100000000)
    (hfail : ∀ I' x, unpackF o.I S.V S.M.epoch o.seq o.head bs = (I', .inl x) → ∀ w', Sat B w' (vlt vb wb S.V :: idl wb I' :: F) → K (.tuple #[.pointer none, .slice none 0 0, .int .i64 11]) w')
    (hgo : ∀ I' l hd, unpackF o.I S.V S.M.epoch o.seq o.head bs = (I', .inr (l, hd)) → ∀ p c w', Sat B w' (bk a1 t_commit_Log (lgc vb db mb ab ⟨A', S.M.epoch, o.seq + l.length, hd, false⟩) :: ara ab db A' :: vlt vb wb S.V :: idl wb I' :: buf t_api_Record 6 p (o.list ++ l).length c (rcells (o.list ++ l)) :: F) → Nx Y l2 [.slice p (o.list ++ l).length c] w') :
    Jn (fun K5 ↦ Dr w fun w12 ↦ NN (some ⟨a1, 0, none⟩) fun a4 ↦ LdI .i64 P t_int (Addr.add a4 4) w12 fun n6 ↦ NN (some ⟨a1, 0, none⟩) fun a5 ↦ LdI .i64 P t_int (Addr.add a5 5) w12 fun n7 ↦ NN (some ⟨a1, 0, none⟩) fun a6 ↦ LdV P t_arr32_uint8 (Addr.add a6 6) w12 fun v9 ↦
        (Cs P f_seg_Unpack #[Value.pointer (at0 vb), .int .i64 n6, .int .i64 n7, v9, Value.slice p3 l0 c3] w12 fun v10 w13 ↦
          ∃ p4 l5 l6 v11 n8, v10 = Value.tuple #[Value.slice p4 l5 l6, v11, .int .i64 n8] ∧
            DoA P (Instr.alloc t_arr32_uint8 true (Value.tuple #[])) w13 fun a7 w14 ↦ DoU P (storeVar t_arr32_uint8 a7 v11) w14 fun w15 ↦ K5 [.int .i64 n8, Value.slice p4 l5 l6, Value.pointer (some a7)] w15) ∧
        DoA P (Instr.alloc t_arr32_uint8 true (Value.tuple #[])) w12 fun a8 w16 ↦
          (Still P (loadVar t_arr32_uint8 (Addr.add a6 6)) v9 w16 ∧ Still P (loadVar t_int (Addr.add a5 5)) (.int .i64 n7) w16 ∧ Still P (loadVar t_int (Addr.add a4 4)) (.int .i64 n6) w16 ∧ True) ∧
          Cs P f_seg_Unpack #[Value.pointer (at0 vb), .int .i64 n6, .int .i64 n7, v9, Value.slice p3 l0 c3] w16 fun v12 w17 ↦
            ∃ p5 l7 l8 v13 n9, v12 = Value.tuple #[Value.slice p5 l7 l8, v13, .int .i64 n9] ∧ DoU P (storeVar t_arr32_uint8 a8 v13) w17 fun w18 ↦ K5 [.int .i64 n9, Value.slice p5 l7 l8, Value.pointer (some a8)] w18)
      fun K6 ↦ ∀ (n10 : Int) (p6 : Option Addr) (l9 l10 : Nat) (a9 : Addr) (w19 : World), K6 [.int .i64 n10, Value.slice p6 l9 l10, Value.pointer (some a9)] w19 →
        Br (neI n10 0) (K (Value.tuple #[Value.pointer none, Value.slice none 0 0, .int .i64 11]) w19)
          (Dr w19 fun w20 ↦ LdV P t_arr32_uint8 a9 w20 fun v14 ↦ NN (some ⟨a1, 0, none⟩) fun a10 ↦ LdI .i64 P t_int (Addr.add a10 5) w20 fun n11 ↦
            DoL P (Builtin.append_ #[t_sl_api_Record, t_sl_api_Record] t_sl_api_Record #[Value.slice p1 o.list.length c1, Value.slice p6 l9 l10]) w20 fun p7 l11 l12 w21 ↦
              (Still P (loadVar t_int (Addr.add a10 5)) (.int .i64 n11) w21 ∧ Still P (loadVar t_arr32_uint8 a9) v14 w21 ∧ True) ∧
              NN (some ⟨a1, 0, none⟩) fun a11 ↦ DoU P (storeVar t_arr32_uint8 (Addr.add a11 6) v14) w21 fun w22 ↦ NN (some ⟨a1, 0, none⟩) fun a12 ↦ DoU P (storeVar t_int (Addr.add a12 5) (.int .i64 (IntKind.i64.wrap (n11 + Nat.cast l9)))) w22 fun w23 ↦ Nx Y l2 [Value.slice p7 l11 l12] w23) := by
  subst hl0
  have hL : Lg.ok ⟨A', 0, o.seq, o.head, false⟩ := ⟨hh, by dsimp only; omega, by dsimp only; omega⟩
  have hl39 : ∀ {e s : Int} {hd : List UInt8}, hd.length = 32 → (lgc vb db mb ab ⟨A', e, s, hd, false⟩).length = 39 := fun h => lgc_len h
  have lds : ∀ {w' : World} {G' : List HP}, Sat B w' (bk a1 t_commit_Log (lgc vb db mb ab ⟨A', S.M.epoch, o.seq, o.head, false⟩) :: G') →
      (loadVar t_int (Addr.add ⟨a1, 0, none⟩ 4)).run P w' = .ok (.int .i64 S.M.epoch) w' ∧ (loadVar t_int (Addr.add ⟨a1, 0, none⟩ 5)).run P w' = .ok (.int .i64 o.seq) w' ∧ (loadVar t_arr32_uint8 (Addr.add ⟨a1, 0, none⟩ 6)).run P w' = .ok (arr o.head) w' := fun h => by
    refine ⟨ld1 sc_int h.bk (lgc_low rfl), ld1 sc_int h.bk (lgc_low rfl), ?_⟩
    have := ldA (P := P) (n := 32) (off := 6) wd_arr32 h.bk (by rw [hl39 hh]; omega)
    rw [lgc_head (L := ⟨A', S.M.epoch, o.seq, o.head, false⟩) hh] at this
    exact this
  have hz32 : (bcells (List.replicate 32 0)).length = 32 := by simp [bcells]
  have e32 : ∀ {X : List UInt8}, (bcells X).length = 32 → ∀ {Y : List Value}, Y.length = 32 → List.take 0 Y ++ bcells X ++ List.drop (0 + 32) Y = bcells X := by
    intro X hX Y hY
    rw [List.drop_eq_nil_iff.2 (by omega)]; simp
  obtain ⟨uf1, uf2, uf3⟩ := unpack_facts (I := o.I) (V := S.V) (e := S.M.epoch) (s := o.seq) (at_ := o.head) (bs := bs)
  refine Jn.by (fun vs w => (∃ I' x a, unpackF o.I S.V S.M.epoch o.seq o.head bs = (I', .inl x) ∧ x ≠ 0 ∧ vs = [.int .i64 x, .slice none 0 0, .pointer (at0 a)] ∧ Sat B w (vlt vb wb S.V :: idl wb I' :: F)) ∨
    (∃ I' l hd a p c, unpackF o.I S.V S.M.epoch o.seq o.head bs = (I', .inr (l, hd)) ∧ vs = [.int .i64 0, .slice p l.length c, .pointer (at0 a)] ∧
      Sat B w (bk a t_arr32_uint8 (bcells hd) :: buf t_api_Record 6 p l.length c (rcells l) :: bk a1 t_commit_Log (lgc vb db mb ab ⟨A', S.M.epoch, o.seq, o.head, false⟩) :: ara ab db A' :: vlt vb wb S.V :: idl wb I' :: buf t_api_Record 6 p1 o.list.length c1 (rcells o.list) :: F))) ?_ ?_
  · intro w1 ha
    have h := h.alk ha
    refine NN.some ⟨_, (lds h).1, NN.some ⟨_, (lds h).2.1, NN.some ⟨_, (lds h).2.2, ?_, ?_⟩⟩⟩
    · refine Unpack_ok ((((h.pull 1).pull 1).pull 3).pull 3) G hh hr rfl (by omega) hT hs.1 (by omega) (by omega) (fun l hd I' hu p c w' h => ⟨_, _, _, _, _, rfl, ?_⟩) fun x I' hu hx w' h => ⟨_, _, _, _, _, rfl, ?_⟩
      · have hhd := (uf3 l hd (by rw [hu])).2
        have hbh : (bcells hd).length = 32 := by rw [bcells_length, hhd]
        refine h.var zr_arr32 fun a w' h => ?_
        refine Sat.stA (n := 32) h wd_arr32 hbh (ones_bcells _) (by simp [bcells]) fun w' h => .inr ⟨I', l, hd, a, p, c, hu, rfl, ?_⟩
        rw [e32 hbh hz32] at h
        exact ((((((h.pull 3).pull 3).pull 5).pull 5).pull 5).pull 5)
      · refine h.var zr_arr32 fun a w' h => ?_
        refine Sat.stA (n := 32) h wd_arr32 hz32 (ones_bcells _) (by simp [bcells]) fun w' h => .inl ⟨I', x, a, hu, hx, rfl, ?_⟩
        exact (((((((h.pull 2).pull 2).pull 5).pull 5).pull 5).pull 5)).tail.tail.tail.tail
    · refine h.var zr_arr32 fun a w' h => ?_
      refine ⟨⟨(lds (h.pull 1)).2.2, (lds (h.pull 1)).2.1, (lds (h.pull 1)).1, trivial⟩, ?_⟩
      refine Unpack_ok (((((h.pull 2).pull 2).pull 2).pull 4).pull 4) G hh hr rfl (by omega) hT hs.1 (by omega) (by omega) (fun l hd I' hu p c w' h => ⟨_, _, _, _, _, rfl, ?_⟩) fun x I' hu hx w' h => ⟨_, _, _, _, _, rfl, ?_⟩
      · have hhd := (uf3 l hd (by rw [hu])).2
        have hbh : (bcells hd).length = 32 := by rw [bcells_length, hhd]
        refine Sat.stA (n := 32) (h.pull 3) wd_arr32 hbh (ones_bcells _) (by simp [bcells]) fun w' h => .inr ⟨I', l, hd, a, p, c, hu, rfl, ?_⟩
        rw [e32 hbh hz32] at h
        exact ((((((h.pull 3).pull 3).pull 5).pull 5).pull 5).pull 5)
      · refine Sat.stA (n := 32) (h.pull 2) wd_arr32 hz32 (ones_bcells _) (by simp [bcells]) fun w' h => .inl ⟨I', x, a, hu, hx, rfl, ?_⟩
        exact (((((((h.pull 2).pull 2).pull 5).pull 5).pull 5).pull 5)).tail.tail.tail.tail
  · rintro n10 p6 l9 l10 a9 w19 (⟨I', x, a, hu, hx, hv, h⟩ | ⟨I', l, hd, a, p, c, hu, hv, h⟩)
    · obtain ⟨rfl, _⟩ : n10 = x ∧ True := ⟨by simpa using (List.cons.inj hv).1, trivial⟩
      exact Br.ne (fun _ => hfail I' n10 hu _ h) fun h0 => absurd h0 hx
    · obtain ⟨rfl, ⟨rfl, rfl, rfl⟩, rfl⟩ : n10 = 0 ∧ (p6 = p ∧ l9 = l.length ∧ l10 = c) ∧ a9 = ⟨a, 0, none⟩ := by simpa using hv
      obtain ⟨ul, uh⟩ := uf3 l hd (by rw [hu])
      have hbh : (bcells hd).length = 32 := by rw [bcells_length, uh]
      refine Br.f fun w20 ha => ?_
      have h := h.alk ha
      have lhd : ∀ {w' : World} {B' : Bs} {G' : List HP}, Sat B' w' (bk a t_arr32_uint8 (bcells hd) :: G') → (loadVar t_arr32_uint8 ⟨a, 0, none⟩).run P w' = .ok (arr hd) w' := fun h => by
        have := ldA (P := P) (n := 32) (off := 0) wd_arr32 h.bk (by omega)
        rw [List.drop_zero, List.take_of_length_le (by omega)] at this
        exact this
      refine ⟨_, lhd h, NN.some ⟨_, (lds (h.pull 2)).2.1, ?_⟩⟩
      obtain ⟨B1, hle1, h, hrl, _⟩ := (h.pull 1).fix
      have h : Sat B1 w20 (bk a t_arr32_uint8 (bcells hd) :: bk a1 t_commit_Log (lgc vb db mb ab ⟨A', S.M.epoch, o.seq, o.head, false⟩) :: ara ab db A' :: vlt vb wb S.V :: idl wb I' :: buf t_api_Record 6 p1 o.list.length c1 (rcells o.list) :: F) := h
      refine Sat.append (h.pull 5) el_recs hrl (rcells_length l) ?_ (by omega) fun p7 c7 w' h => ?_
      · intro v hv
        simp only [rcells, List.mem_flatMap] at hv
        obtain ⟨r, _, hv⟩ := hv
        exact ones_Rec r v hv
      have el : rcells o.list ++ rcells l = rcells (o.list ++ l) := by simp [rcells]
      have h : Sat B1 w' (buf t_api_Record 6 p7 (o.list.length + l.length) c7 (rcells o.list ++ rcells l) :: bk a t_arr32_uint8 (bcells hd) :: bk a1 t_commit_Log (lgc vb db mb ab ⟨A', S.M.epoch, o.seq, o.head, false⟩) :: ara ab db A' :: vlt vb wb S.V :: idl wb I' :: F) := h
      have h := Sat.thaw hle1 h
      refine ⟨⟨(lds (h.pull 2)).2.1, lhd (h.pull 1), trivial⟩, NN.some ?_⟩
      refine Sat.stA (n := 32) (h.pull 2) wd_arr32 hbh (ones_bcells _) (by rw [hl39 hh]; show 0 + 6 + 32 ≤ 39; omega) fun w' h => NN.some ?_
      have e6 : List.take (0 + 6) (lgc vb db mb ab ⟨A', S.M.epoch, o.seq, o.head, false⟩) ++ bcells hd ++ List.drop (0 + 6 + 32) (lgc vb db mb ab ⟨A', S.M.epoch, o.seq, o.head, false⟩) = lgc vb db mb ab ⟨A', S.M.epoch, o.seq, hd, false⟩ := lgc_set_head (L := ⟨A', S.M.epoch, o.seq, o.head, false⟩) hh
      rw [e6] at h
      rw [w64 (x := o.seq + (l.length : Int)) (by omega) (by omega)]
      refine Sat.st1 h sc_int rfl (by rw [hl39 uh]; show 0 + 5 < 39; omega) fun w' h => ?_
      have h : Sat B w' (bk a1 t_commit_Log (lgc vb db mb ab ⟨A', S.M.epoch, o.seq + l.length, hd, false⟩) :: buf t_api_Record 6 p7 (o.list.length + l.length) c7 (rcells o.list ++ rcells l) :: bk a t_arr32_uint8 (bcells hd) :: ara ab db A' :: vlt vb wb S.V :: idl wb I' :: F) := h
      have := hgo I' l hd hu p7 c7 w' (by
        rw [List.length_append, ← el]
        exact (((((((h.pull 1).pull 5).pull 5).pull 5).pull 4).pull 5)).tail)
      rw [List.length_append] at this
      exact this

end Go.Dv

/-! commit.Open -/
set_option maxRecDepth 20000
namespace Go.Dv
open Go Go.Sh Go.Sl

variable {B : Bs} {w : World} {F : List HP} {K : Value → World → Prop}

theorem ones_vc {M : Mt} : ones M.vcells := fun v hv => by
  simp only [Mt.vcells, List.mem_cons] at hv
  rcases hv with rfl | rfl | hv
  · rfl
  · rfl
  · exact ones_bcells _ v hv

theorem Open_ok {vb wb db mb : Nat} {S : St} (h : Sat B w (vlt vb wb S.V :: idl wb S.I :: dsk db S.D :: mtr mb db S.M :: F)) (G : Gl B) (hT : S.I.recs) (hI : S.I.made.length < 10000000000000000) (hep : 0 ≤ S.M.epoch ∧ S.M.epoch < 4294967296)
    (hk1 : S.D.down = true → ∀ w', Sat B w' (vlt vb wb S.V :: idl wb S.I :: dsk db S.D :: mtr mb db S.M :: F) → K (.tuple #[.pointer none, .slice none 0 0, .int .i64 8]) w')
    (hk2 : ∀ o, S.D.down = false → openGo S = (o, 11) → ∀ w', Sat B w' (vlt vb wb S.V :: idl wb o.I :: dsk db S.D :: mtr mb db S.M :: F) → K (.tuple #[.pointer none, .slice none 0 0, .int .i64 11]) w')
    (hk3 : ∀ o, S.D.down = false → openGo S = (o, 0) → ∀ lb p c w', Sat B w' (lg lb vb db mb ⟨o.A, S.M.epoch, o.seq, o.head, false⟩ :: buf t_api_Record 6 p o.list.length c (rcells o.list) :: vlt vb wb S.V :: idl wb o.I :: dsk db S.D :: mtr mb db S.M :: F) → K (.tuple #[.pointer (at0 lb), .slice p o.list.length c, .int .i64 0]) w') :
    Cs P f_commit_Open #[.pointer (at0 vb), .pointer (at0 db), .pointer (at0 mb)] w K := by
  refine ok_commit_Open _ _ _ ?_
  unfold vc_commit_Open
  refine Jn.dupB (Br.f (Br.f ⟨_, rfl, Br.f ?_⟩))
  have hzv : (Value.int .i64 0 :: .int .i64 0 :: bcells (List.replicate 32 0)).length = 34 := by simp [bcells_length]
  refine Get_m ((h.pull 2).pull 3) (fun hd w' h => ⟨_, _, rfl, ?ok⟩) fun hd w' h => ⟨_, _, rfl, ?dn⟩
  case dn =>
    refine h.var zr_Value fun a0 w' h => ?_
    refine Sat.stA (n := 34) h wd_Value (by simp [Mt.vcells, bcells_length]) ones_vc (by rw [hzv]; omega) fun w' h => Br.t (hk1 hd _ ?_)
    exact ((h.tail.pull 1).pull 3).pull 3
  have hM := Sat.mFact h
  have hvl : S.M.vcells.length = 34 := vcells_len hM
  have hDo := Sat.dFact (h.pull 1)
  refine h.var zr_Value fun a0 w' h => ?_
  refine Sat.stA (n := 34) h wd_Value hvl ones_vc (by rw [hzv]; omega) fun w' h => Br.f fun w1 ha => ?_
  have e34 : List.take 0 (Value.int .i64 0 :: .int .i64 0 :: bcells (List.replicate 32 0)) ++ S.M.vcells ++ List.drop (0 + 34) (Value.int .i64 0 :: .int .i64 0 :: bcells (List.replicate 32 0)) = S.M.vcells := by
    rw [List.drop_eq_nil_iff.2 (by omega)]; simp
  rw [e34] at h
  have h := h.alk ha
  obtain ⟨B1, hle1, h, hz0, _⟩ := h.lendBk
  have lep : ∀ {B' : Bs} {w' : World} {G' : List HP}, B1.le B' → Sat B' w' G' → (loadVar t_int (Addr.add ⟨a0, 0, none⟩ 1)).run P w' = .ok (.int .i64 S.M.epoch) w' := fun hle h => ld1 (L := S.M.vcells) sc_int (h.z (hle.z _ _ hz0)) rfl
  refine ⟨_, lep (Bs.le.refl _) h, _, lep (Bs.le.refl _) h, _, lep (Bs.le.refl _) h, ?_⟩
  refine Half_ok (h.pull 1) hep.1 (by omega) fun ab w' h => ⟨_, rfl, ⟨lep (Bs.le.refl _) h, lep (Bs.le.refl _) h, trivial⟩, ?_⟩
  have h : Sat B1 w' (ara ab db (areaOf S.D.now.length S.M.epoch) :: dsk db S.D :: mtr mb db S.M :: vlt vb wb S.V :: idl wb S.I :: F) := h
  refine Start_ok ((h.pull 4).pull 4) (by omega) fun w' h => ⟨_, rfl, ⟨lep (Bs.le.refl _) h, trivial⟩, ?_⟩
  refine ⟨_, b_log (A := areaOf S.D.now.length S.M.epoch) (dig_length _ _), ?_⟩
  refine h.new fun a1 w' h => ⟨⟨lep (Bs.le.refl _) h, trivial⟩, ?_⟩
  have h : Sat B1 w' (bk a1 t_commit_Log (lgc vb db mb ab ⟨areaOf S.D.now.length S.M.epoch, S.M.epoch, 0, S.I.dig (startT S.M.epoch), false⟩) :: vlt vb wb S.V :: idl wb (S.I.hash (startT S.M.epoch)) :: ara ab db (areaOf S.D.now.length S.M.epoch) :: dsk db S.D :: mtr mb db S.M :: F) := h
  obtain ⟨hao, hat⟩ := areaOf_facts S.D.now.length S.M.epoch hDo.size
  have hhalf : (areaOf S.D.now.length S.M.epoch).to = (areaOf S.D.now.length S.M.epoch).at_ + S.D.now.length / 2 := rfl
  have hfr : (areaOf S.D.now.length S.M.epoch).frm = (areaOf S.D.now.length S.M.epoch).at_ := rfl
  have h0 : open0 S = ⟨S.I.hash (startT S.M.epoch), areaOf S.D.now.length S.M.epoch, S.I.dig (startT S.M.epoch), 0, []⟩ := rfl
  have hgo : openGo S = openLoop S.V S.D.now S.M (S.D.now.length / 2 + 1) (open0 S) := rfl
  have hds : S.D.now.length ≤ 4096 := hDo.size
  generalize hR : openGo S = R at *
  generalize hnE : S.D.now.length = n at *
  generalize hAE : areaOf n S.M.epoch = A0 at *
  have hG1 := G.mono hle1
  have hput := Id.put_le S.I (nm 72 [startT S.M.epoch])
  refine Lp.by (fun k vs w => ∃ (o : Ol) (p : Option Addr) (c : Nat), vs = [.slice p o.list.length c] ∧ openLoop S.V S.D.now S.M k o = R ∧ o.A.to + 1 - o.A.at_ ≤ k ∧ o.I.recs ∧ o.head.length = 32 ∧ o.A.to = A0.to ∧ o.A.frm = A0.frm ∧ A0.at_ ≤ o.A.at_ ∧
    (0 ≤ o.seq ∧ o.seq ≤ 260 * ((o.A.at_ - A0.at_ : Nat) : Int)) ∧ o.list.length ≤ 260 * (o.A.at_ - A0.at_) ∧ o.I.made.length ≤ S.I.made.length + 1 + 1000 * (o.A.at_ - A0.at_) ∧
    Sat B1 w (bk a1 t_commit_Log (lgc vb db mb ab ⟨o.A, S.M.epoch, o.seq, o.head, false⟩) :: ara ab db o.A :: vlt vb wb S.V :: idl wb o.I :: buf t_api_Record 6 p o.list.length c (rcells o.list) :: dsk db S.D :: mtr mb db S.M :: F)) (n / 2 + 1) ?_ ?_
  · refine ⟨open0 S, none, 0, by rw [h0]; rfl, hgo.symm, by rw [h0]; dsimp only; omega, ?_, by rw [h0]; exact dig_length _ _, by rw [h0], by rw [h0], by rw [h0]; exact Nat.le_refl _, by rw [h0]; simp, by rw [h0]; simp, by rw [h0]; simp only [Id.hash]; omega, ?_⟩
    · rw [h0]; intro x hx; rw [show (S.I.hash (startT S.M.epoch)).texts = S.I.texts from put_texts _ _] at hx; exact hT x hx
    · rw [h0]
      have h := Sat.buf0 (e := t_api_Record) (k := 6) h
      exact (((((h.pull 3).pull 3).pull 4).pull 4))
  intro p1 l0 l1 l2 w8 hJ
  obtain ⟨o, p, c, hv, hRo, hkk, hrecs, hh, hoto, hofr, hoat, hsq, hll, hmd, h⟩ := hJ
  obtain ⟨rfl, rfl, rfl⟩ : p1 = p ∧ l0 = o.list.length ∧ l1 = c := by simpa using hv
  have hoA := (Sat.aOpen (h.pull 1)).2
  have hoa := hoA.at_
  obtain ⟨k, rfl⟩ : ∃ k, l2 = k + 1 := ⟨l2 - 1, by omega⟩
  unfold openLoop at hRo
  have lroot : ∀ {B' : Bs} {w' : World} {G' : List HP}, B1.le B' → Sat B' w' G' → (loadVar t_arr32_uint8 (Addr.add ⟨a0, 0, none⟩ 2)).run P w' = .ok (arr S.M.root) w' := fun hle h => by
    have := ldA (P := P) (n := 32) (off := 2) wd_arr32 (h.z (hle.z _ _ hz0)) (by omega)
    have e : (S.M.vcells.drop 2).take 32 = bcells S.M.root := by
      simp only [Mt.vcells, List.drop_succ_cons, List.drop_zero]
      exact List.take_of_length_le (by rw [bcells_length, hM.root]; omega)
    rw [e] at this
    exact this
  have lhead : ∀ {w' : World} {G' : List HP}, Sat B1 w' (bk a1 t_commit_Log (lgc vb db mb ab ⟨o.A, S.M.epoch, o.seq, o.head, false⟩) :: G') → (loadVar t_arr32_uint8 (Addr.add ⟨a1, 0, none⟩ 6)).run P w' = .ok (arr o.head) w' := fun h => by
    have := ldA (P := P) (n := 32) (off := 6) wd_arr32 h.bk (by rw [lgc_len (L := ⟨o.A, S.M.epoch, o.seq, o.head, false⟩) hh]; omega)
    rw [lgc_head (L := ⟨o.A, S.M.epoch, o.seq, o.head, false⟩) hh] at this
    exact this
  refine Jn.by (fun vs w => ∃ c : Bool, vs = [.bool c] ∧ (c = true ↔ 0 < S.M.count ∧ o.head ≠ S.M.root) ∧ Sat B1 w (bk a1 t_commit_Log (lgc vb db mb ab ⟨o.A, S.M.epoch, o.seq, o.head, false⟩) :: ara ab db o.A :: vlt vb wb S.V :: idl wb o.I :: buf t_api_Record 6 p1 o.list.length l1 (rcells o.list) :: dsk db S.D :: mtr mb db S.M :: F)) ?_ ?_
  · intro w9 ha
    have h := h.alk ha
    refine ⟨_, ld1 (L := S.M.vcells) sc_int (h.z hz0) rfl, Br.gt (fun hgt => NN.some ⟨_, lhead h, _, lroot (Bs.le.refl _) h, _, neq_arr32 hh hM.root _ _, _, rfl, ?_, h⟩) fun hle => ⟨_, rfl, ?_, h⟩⟩
    · simp only [decide_eq_true_eq]; exact ⟨fun h => ⟨hgt, h⟩, fun h => h.2⟩
    · exact ⟨fun h => (by cases h), fun h => absurd h.1 (by omega)⟩
  rintro b2 w10 ⟨c', hcc, hc, h⟩
  obtain rfl : b2 = c' := by simpa using hcc
  refine Br.bool (fun hb => ?go) fun hb => ?no
  case no =>
    have hn : ¬ (0 < S.M.count ∧ o.head ≠ S.M.root) := fun hx => by rw [hc.2 hx] at hb; cases hb
    rw [if_neg hn] at hRo
    have hL : Lg.ok ⟨o.A, S.M.epoch, o.seq, o.head, false⟩ := ⟨hh, hep, by dsimp only; omega⟩
    exact hk3 o hd hRo.symm a1 p1 l1 _ (Sat.thaw hle1 (Sat.lShut ab hL (((((h.pull 3).pull 3).pull 4).pull 4).pull 4)))
  rw [if_pos (hc.1 hb)] at hRo
  refine NN.some ⟨_, ld1 sc_parea h.bk (lgc_low rfl), ?_⟩
  have fin : ∀ {B2 : Bs} {bs : List UInt8} {at' : Nat} {p3 : Option Addr} {c3 : Nat} {w' : World}, B1.le B2 → o.A.at_ ≤ at' → at' ≤ o.A.to → bs.length ≤ 16384 → Rd B2 p3 (bcells bs) →
      Sat B2 w' (ara ab db { o.A with at_ := at' } :: dsk db S.D :: bk a1 t_commit_Log (lgc vb db mb ab ⟨o.A, S.M.epoch, o.seq, o.head, false⟩) :: vlt vb wb S.V :: idl wb o.I :: buf t_api_Record 6 p1 o.list.length l1 (rcells o.list) :: mtr mb db S.M :: F) →
      (∀ I' x, unpackF o.I S.V S.M.epoch o.seq o.head bs = (I', .inl x) → ∃ o' : Ol, R = (o', 11) ∧ o'.I = I') →
      (∀ I' l hd, unpackF o.I S.V S.M.epoch o.seq o.head bs = (I', .inr (l, hd)) → o.A.at_ < at' ∧ openLoop S.V S.D.now S.M k ⟨I', { o.A with at_ := at' }, hd, o.seq + l.length, o.list ++ l⟩ = R) → _ := 
    fun {B2 bs at' p3 c3 w'} hle2 ha1 ha2 hbl hr3 h hf1 hf2 => open_stage (S := S) (o := o) (A' := { o.A with at_ := at' }) (p3 := p3) (c3 := c3) (l0 := bs.length) (K := K) (l2 := k + 1) (F := dsk db S.D :: mtr mb db S.M :: F) (ab := ab) (db := db) (mb := mb) (a1 := a1) (p1 := p1) (c1 := l1)
      (Y := fun k vs w => ∃ (o : Ol) (p : Option Addr) (c : Nat), vs = [.slice p o.list.length c] ∧ openLoop S.V S.D.now S.M k o = R ∧ o.A.to + 1 - o.A.at_ ≤ k ∧ o.I.recs ∧ o.head.length = 32 ∧ o.A.to = A0.to ∧ o.A.frm = A0.frm ∧ A0.at_ ≤ o.A.at_ ∧
    (0 ≤ o.seq ∧ o.seq ≤ 260 * ((o.A.at_ - A0.at_ : Nat) : Int)) ∧ o.list.length ≤ 260 * (o.A.at_ - A0.at_) ∧ o.I.made.length ≤ S.I.made.length + 1 + 1000 * (o.A.at_ - A0.at_) ∧
    Sat B1 w (bk a1 t_commit_Log (lgc vb db mb ab ⟨o.A, S.M.epoch, o.seq, o.head, false⟩) :: ara ab db o.A :: vlt vb wb S.V :: idl wb o.I :: buf t_api_Record 6 p o.list.length c (rcells o.list) :: dsk db S.D :: mtr mb db S.M :: F))
      ((((((h.pull 1).pull 5).pull 5).pull 5).pull 4).pull 5) (hG1.mono hle2) hr3 rfl hbl hrecs hh (by omega) (by omega) (by omega)
      (fun I' x hu w' h => by
        obtain ⟨o', hRo', hI'⟩ := hf1 I' x hu
        refine hk2 o' hd hRo' w' ?_
        rw [hI']
        exact Sat.thaw (hle1.trans hle2) h)
      (fun I' l hd hu p c w' h => by
        obtain ⟨u1, u2, u3⟩ := unpack_facts (I := o.I) (V := S.V) (e := S.M.epoch) (s := o.seq) (at_ := o.head) (bs := bs)
        rw [hu] at u1 u2
        obtain ⟨u3, u4⟩ := u3 l hd (by rw [hu])
        obtain ⟨g1, g2⟩ := hf2 I' l hd hu
        dsimp only at u1 u2
        refine Nx.by k (by omega) ⟨⟨I', { o.A with at_ := at' }, hd, o.seq + l.length, o.list ++ l⟩, p, c, rfl, g2, by dsimp only; omega, ?_, u4, hoto, hofr, by dsimp only; omega, by dsimp only; omega, by simp only [List.length_append]; omega, by dsimp only; omega, ?_⟩
        · intro x hx
          dsimp only at hx
          rw [u2] at hx
          exact hrecs x hx
        · exact Sat.thaw hle2 h)
  have hot := hoA.to
  refine ANext_ok ((((((h.pull 4).pull 4).pull 4).pull 3).pull 5).pull 5) (by omega) (fun hdd => by rw [hd] at hdd; cases hdd) (fun _ bs at' hnx hat' B2 p3 c3 w' hle2 h hr3 => ⟨_, _, _, _, rfl, Br.f ?_⟩) fun _ hnx w' h => ⟨_, _, _, _, rfl, Br.f ?_⟩
  · rw [hnx] at hRo
    simp only at hRo
    obtain ⟨n1, n2, n3⟩ := nextF_lt _ _ _ hnx
    dsimp only at n1 n2 n3
    refine fin hle2 (by omega) n2 n3 hr3 h (fun I' x hu => ?_) fun I' l hd hu => ?_
    · rw [hu] at hRo
      exact ⟨_, hRo.symm, rfl⟩
    · rw [hu] at hRo
      exact ⟨n1, hRo⟩
  · rw [hnx] at hRo
    simp only at hRo
    have hu0 : unpackF o.I S.V S.M.epoch o.seq o.head [] = (o.I, .inl 4) := by simp [unpackF]
    refine fin (bs := []) (at' := o.A.at_) (Bs.le.refl _) (Nat.le_refl _) hoa (by simp) (.inl rfl) h (fun I' x hu => ?_) fun I' l hd hu => ?_
    · rw [hu0] at hu
      simp only [Prod.mk.injEq] at hu
      exact ⟨_, hRo.symm, hu.1⟩
    · rw [hu0] at hu
      simp at hu

end Go.Dv

/-! facts about commit and turn; snap -/
set_option maxRecDepth 20000
namespace Go.Dv
open Go Go.Sh Go.Sl

variable {B : Bs} {w : World} {F : List HP} {K : Value → World → Prop}

theorem sync_facts {D : Dk} (h : D.ok) : D.sync.1.now.length = D.now.length ∧ D.sync.1.ok := by
  obtain ⟨e1, e2, e3, e4, e5⟩ := act_same D
  have ha := act_okd h
  unfold Dk.sync
  split
  · exact ⟨rfl, h⟩
  · split
    · exact ⟨by dsimp only; rw [off_len ha, e1], off_ok ha _⟩
    · exact ⟨by dsimp only; rw [e1], ⟨rfl, ha.now, ha.now, by simp, ha.size, ha.fuse⟩⟩

theorem next_facts {M : Mt} {D : Dk} {e : Int} {root : List UInt8} (h : D.ok) : (M.next D e root).2.1.now.length = D.now.length ∧ (M.next D e root).2.1.ok ∧ (M.next D e root).2.1.waits.length ≤ D.waits.length ∧ (M.next D e root).1.most = M.most := by
  obtain ⟨e1, e2, e3, e4, e5⟩ := act_same D
  have ha := act_okd h
  unfold Mt.next
  split
  · exact ⟨rfl, h, Nat.le_refl _, rfl⟩
  · split
    · exact ⟨rfl, h, Nat.le_refl _, rfl⟩
    · split
      · exact ⟨rfl, h, Nat.le_refl _, rfl⟩
      · split
        · refine ⟨by dsimp only; rw [off_len ha, e1], off_ok ha _, ?_, ?_⟩
          · dsimp only
            unfold Dk.off
            split
            · rw [e3]; exact Nat.le_refl _
            · simp
          · dsimp only; split <;> rfl
        · exact ⟨by dsimp only; rw [e1], ha, by dsimp only; rw [e3]; exact Nat.le_refl _, rfl⟩

theorem seal_facts {D : Dk} {M : Mt} {e : Int} {hd : List UInt8} (h : D.ok) : (sealF D M e hd).1.now.length = D.now.length ∧ (sealF D M e hd).1.ok ∧ (sealF D M e hd).1.waits.length ≤ D.waits.length ∧ (sealF D M e hd).2.1.most = M.most := by
  obtain ⟨a, b⟩ := sync_facts h
  have c := sync_waits (D := D)
  unfold sealF
  split
  · exact ⟨a, b, c, rfl⟩
  · obtain ⟨x, y, z, t⟩ := next_facts (M := M) (e := e) (root := hd) b
    exact ⟨x.trans a, y, Nat.le_trans z c, t⟩

/-- What a state and a log keep. -/
structure Keeps (S : St) (L : Lg) (S' : St) (L' : Lg) (m : Nat) : Prop where
  now : S'.D.now.length = S.D.now.length
  ok : S'.D.ok
  limit : S'.V.limit = S.V.limit
  master : S'.V.master = S.V.master
  made : S'.I.made.length ≤ S.I.made.length + 1 + 5 * m
  waits : S'.D.waits.length ≤ S.D.waits.length + 64 * m
  to : L.A.to ≤ S.D.now.length → L'.A.to ≤ S.D.now.length
  aok : L'.A.ok
  seq : L'.seq ≤ L.seq + m
  most : S'.M.most = S.M.most

theorem commit_facts {S : St} {L : Lg} {rs : List Rec} (hD : S.D.ok) (hA : L.A.ok) (hto : L.A.to ≤ S.D.now.length) (hseq : 0 ≤ L.seq) : Keeps S L (commitF S L rs).1 (commitF S L rs).2.1 rs.length := by
  have base : ∀ e : Int, Keeps S L (S, L, e).1 (S, L, e).2.1 rs.length := fun e => ⟨rfl, hD, rfl, rfl, by dsimp only; omega, by dsimp only; omega, fun h => h, hA, by dsimp only; omega, rfl⟩
  unfold commitF
  split
  · exact base _
  · rename_i hg
    split
    · exact base _
    · split
      · exact base _
      · rename_i hsz
        split
        · exact base _
        · split
          · exact base _
          · obtain ⟨_, hne, _⟩ := good_all (D := S.D) (rs := rs) (by simpa using hg)
            have h1 : 1 ≤ rs.length := List.length_pos_iff.2 hne
            have hpl := pack_len (I := S.I) (V := S.V) (at_ := L.head) (e := L.epoch) (s := L.seq) (rs := rs)
            have hpm := pack_made (I := S.I) (V := S.V) (at_ := L.head) (e := L.epoch) (s := L.seq) (rs := rs) hne (L.head ++ packB S.I S.V L.head L.epoch L.seq rs)
            have hpv := pack_limit (I := S.I) (V := S.V) (at_ := L.head) (e := L.epoch) (s := L.seq) (rs := rs)
            generalize packB S.I S.V L.head L.epoch L.seq rs = fr at *
            obtain ⟨a1, a2, a3, a4, a5⟩ := add_facts (A := L.A) (D := S.D) (bs := fr) hA hD hto
            have aw := add_waits (A := L.A) (D := S.D) (bs := fr) (by omega)
            unfold commitG
            dsimp only
            generalize L.A.add S.D fr = r at *
            split
            · exact ⟨a3, a5, hpv.1, hpv.2, by dsimp only; omega, by dsimp only; omega, fun h => by dsimp only; omega, a4, by dsimp only; omega, rfl⟩
            · obtain ⟨s1, s2, s3, s4⟩ := seal_facts (D := r.2.1) (M := S.M) (e := L.epoch) (hd := (packI S.I S.V L.head L.epoch L.seq rs).dig (L.head ++ fr)) a5
              split
              · exact ⟨s1.trans a3, s2, hpv.1, hpv.2, by dsimp only; omega, by dsimp only; omega, fun h => by dsimp only; omega, a4, by dsimp only; omega, s4⟩
              · exact ⟨s1.trans a3, s2, hpv.1, hpv.2, by dsimp only; omega, by dsimp only; omega, fun h => by dsimp only; omega, a4, by dsimp only; omega, s4⟩

theorem step_facts {ep : Int} {T : Tl} {p : List Rec} (hp : p ≠ []) (hs : fsize p ≤ 16384) (hD : T.D.ok) (hA : T.A.ok) (hto : T.A.to ≤ T.D.now.length) :
    (T.step ep p).1.D.ok ∧ (T.step ep p).1.A.ok ∧ (T.step ep p).1.D.now.length = T.D.now.length ∧ (T.step ep p).1.A.to = T.A.to ∧ (T.step ep p).1.V.limit = T.V.limit ∧ (T.step ep p).1.V.master = T.V.master ∧
    (T.step ep p).1.I.made.length ≤ T.I.made.length + 5 * p.length ∧ (T.step ep p).1.D.waits.length ≤ T.D.waits.length + 64 ∧ (T.step ep p).1.seq = T.seq + p.length := by
  have hpl := pack_len (I := T.I) (V := T.V) (at_ := T.head) (e := ep) (s := T.seq) (rs := p)
  have hpm := pack_made (I := T.I) (V := T.V) (at_ := T.head) (e := ep) (s := T.seq) (rs := p) hp (T.head ++ packB T.I T.V T.head ep T.seq p)
  have hpv := pack_limit (I := T.I) (V := T.V) (at_ := T.head) (e := ep) (s := T.seq) (rs := p)
  obtain ⟨a1, a2, a3, a4, a5⟩ := add_facts (A := T.A) (D := T.D) (bs := packB T.I T.V T.head ep T.seq p) hA hD hto
  have aw := add_waits (A := T.A) (D := T.D) (bs := packB T.I T.V T.head ep T.seq p) (by omega)
  exact ⟨a5, a4, a3, a2, hpv.1, hpv.2, hpm, aw, rfl⟩

theorem turnLoop_facts {ep : Int} : ∀ (ps : List (List Rec)) (T : Tl), (∀ p ∈ ps, p ≠ [] ∧ fsize p ≤ 16384) → T.D.ok → T.A.ok → T.A.to ≤ T.D.now.length →
    (turnLoop ep ps T).1.D.ok ∧ (turnLoop ep ps T).1.A.ok ∧ (turnLoop ep ps T).1.D.now.length = T.D.now.length ∧ (turnLoop ep ps T).1.A.to = T.A.to ∧ (turnLoop ep ps T).1.V.limit = T.V.limit ∧ (turnLoop ep ps T).1.V.master = T.V.master ∧
    (turnLoop ep ps T).1.I.made.length ≤ T.I.made.length + 5 * ps.flatten.length ∧ (turnLoop ep ps T).1.D.waits.length ≤ T.D.waits.length + 64 * ps.length ∧ T.seq ≤ (turnLoop ep ps T).1.seq ∧ (turnLoop ep ps T).1.seq ≤ T.seq + ps.flatten.length
  | [], T, _, hD, hA, _ => ⟨hD, hA, rfl, rfl, rfl, rfl, by simp [turnLoop], by simp [turnLoop], Int.le_refl _, by simp [turnLoop]⟩
  | p :: ps, T, hp, hD, hA, hto => by
    obtain ⟨p1, p2⟩ := hp p (by simp)
    obtain ⟨a1, a2, a3, a4, a5, a6, a7, a8, a9⟩ := step_facts (ep := ep) (T := T) p1 p2 hD hA hto
    simp only [List.flatten_cons, List.length_append, List.length_cons]
    unfold turnLoop
    split
    · exact ⟨a1, a2, a3, a4, a5, a6, by omega, by omega, by omega, by omega⟩
    · obtain ⟨b1, b2, b3, b4, b5, b6, b7, b8, b9, b10⟩ := turnLoop_facts (ep := ep) ps (T.step ep p).1 (fun x hx => hp x (by simp [hx])) a1 a2 (by omega)
      exact ⟨b1, b2, b3.trans a3, b4.trans a4, b5.trans a5, b6.trans a6, by omega, by omega, by omega, by omega⟩

theorem turn_facts {S : St} {L : Lg} {rs : List Rec} (hD : S.D.ok) (hA : L.A.ok) (hto : L.A.to ≤ S.D.now.length) (hseq : 0 ≤ L.seq) : Keeps S L (turnF S L rs).1 (turnF S L rs).2.1 rs.length := by
  have base : ∀ e : Int, Keeps S L (S, L, e).1 (S, L, e).2.1 rs.length := fun e => ⟨rfl, hD, rfl, rfl, by dsimp only; omega, by dsimp only; omega, fun h => h, hA, by dsimp only; omega, rfl⟩
  unfold turnF
  split
  · exact base _
  · rename_i hg
    split
    · exact base _
    · split
      · exact base _
      · obtain ⟨_, hne, hgood⟩ := good_all (D := S.D) (rs := rs) (by simpa using hg)
        obtain ⟨hp1, hp2, hp3⟩ := split_facts (rs := rs) fun r hr => (good_spans (hgood r hr)).2.2.2.2.2
        obtain ⟨hao, hat⟩ := areaOf_facts S.D.now.length (L.epoch + 1) hD.size
        obtain ⟨b1, b2, b3, b4, b5, b6, b7, b8, b9, b10⟩ := turnLoop_facts (ep := L.epoch + 1) (split rs) (turn0 S (L.epoch + 1)) hp1 hD hao hat
        rw [hp2] at b7 b10
        have hput := Id.put_le S.I (nm 72 [startT (L.epoch + 1)])
        simp only [turn0, Id.hash] at b3 b4 b5 b6 b7 b8 b9 b10
        have hfold : turnLoop (L.epoch + 1) (split rs) (turn0 S (L.epoch + 1)) = turnLoop (L.epoch + 1) (split rs) ⟨S.I.put (nm 72 [startT (L.epoch + 1)]), S.V, S.D, areaOf S.D.now.length (L.epoch + 1), S.I.dig (startT (L.epoch + 1)), 0⟩ := rfl
        rw [hfold] at b1 b2 ⊢
        generalize turnLoop (L.epoch + 1) (split rs) ⟨S.I.put (nm 72 [startT (L.epoch + 1)]), S.V, S.D, areaOf S.D.now.length (L.epoch + 1), S.I.dig (startT (L.epoch + 1)), 0⟩ = T at *
        unfold turnG
        split
        · exact ⟨b3, b1, b5, b6, by dsimp only; omega, by dsimp only; omega, fun h => h, hA, by dsimp only; omega, rfl⟩
        · obtain ⟨s1, s2, s3, s4⟩ := seal_facts (D := T.1.D) (M := S.M) (e := L.epoch + 1) (hd := T.1.head) b1
          split
          · exact ⟨s1.trans b3, s2, b5, b6, by dsimp only; omega, by dsimp only; omega, fun h => h, hA, by dsimp only; omega, s4⟩
          · exact ⟨s1.trans b3, s2, b5, b6, by dsimp only; omega, by dsimp only; omega, fun h => by dsimp only; omega, b2, by dsimp only; omega, s4⟩

end Go.Dv

/-! snap -/
set_option maxRecDepth 20000
namespace Go.Dv
open Go Go.Sh Go.Sl

theorem pt_Keeper : parts P t_snap_Keeper = some ([(0, 1), (1, 1)], [.pointer none, .pointer none]) := by kernel_rfl
theorem sc_plog : scal P t_p_commit_Log = true := by kernel_rfl

variable {B : Bs} {w : World} {F : List HP} {K : Value → World → Prop}

def kp (b vb db mb : Nat) (L : Lg) : HP := box fun (lb : Nat) => [bk b t_snap_Keeper [.pointer (at0 lb), .pointer (at0 mb)], lg lb vb db mb L]
theorem Sat.kOpen {b vb db mb : Nat} {L : Lg} (h : Sat B w (kp b vb db mb L :: F)) : ∃ lb, Sat B w (bk b t_snap_Keeper [.pointer (at0 lb), .pointer (at0 mb)] :: lg lb vb db mb L :: F) := Sat.opened h
theorem Sat.kShut {b vb db mb : Nat} {L : Lg} (lb : Nat) (h : Sat B w (bk b t_snap_Keeper [.pointer (at0 lb), .pointer (at0 mb)] :: lg lb vb db mb L :: F)) : Sat B w (kp b vb db mb L :: F) :=
  Sat.shut (f := fun (lb : Nat) => [bk b t_snap_Keeper [.pointer (at0 lb), .pointer (at0 mb)], lg lb vb db mb L]) lb h

theorem SOpen_ok {vb wb db mb : Nat} {S : St} (h : Sat B w (vlt vb wb S.V :: idl wb S.I :: dsk db S.D :: mtr mb db S.M :: F)) (G : Gl B) (hT : S.I.recs) (hI : S.I.made.length < 10000000000000000) (hep : 0 ≤ S.M.epoch ∧ S.M.epoch < 4294967296)
    (hk1 : S.D.down = true → ∀ w', Sat B w' (vlt vb wb S.V :: idl wb S.I :: dsk db S.D :: mtr mb db S.M :: F) → K (.tuple #[.pointer none, .slice none 0 0, .int .i64 8]) w')
    (hk2 : ∀ o, S.D.down = false → openGo S = (o, 11) → ∀ w', Sat B w' (vlt vb wb S.V :: idl wb o.I :: dsk db S.D :: mtr mb db S.M :: F) → K (.tuple #[.pointer none, .slice none 0 0, .int .i64 11]) w')
    (hk3 : ∀ o, S.D.down = false → openGo S = (o, 0) → ∀ kb p c w', Sat B w' (kp kb vb db mb ⟨o.A, S.M.epoch, o.seq, o.head, false⟩ :: buf t_api_Record 6 p o.list.length c (rcells o.list) :: vlt vb wb S.V :: idl wb o.I :: dsk db S.D :: mtr mb db S.M :: F) → K (.tuple #[.pointer (at0 kb), .slice p o.list.length c, .int .i64 0]) w') :
    Cs P f_snap_Open #[.pointer (at0 vb), .pointer (at0 db), .pointer (at0 mb)] w K := by
  refine ok_snap_Open _ _ _ ?_
  unfold vc_snap_Open
  refine Open_ok h G hT hI hep (fun hd w' h => ⟨_, _, _, _, _, rfl, Br.t (hk1 hd _ h)⟩) (fun o hd ho w' h => ⟨_, _, _, _, _, rfl, Br.t (hk2 o hd ho _ h)⟩) fun o hd ho lb p c w' h => ⟨_, _, _, _, _, rfl, Br.f ?_⟩
  refine ⟨_, _, bld_run pt_Keeper (by rw [fill_step (L := [.pointer (at0 lb)]) rfl rfl rfl (by simp), fill_step (L := [.pointer (at0 mb)]) rfl rfl rfl (by simp), fill_nil]), ?_⟩
  refine h.new fun kb w' h => hk3 o hd ho kb p c w' (Sat.kShut lb h)

def saveF (S : St) (L : Lg) (st ch : List Rec) : St × Lg × Int :=
  if (commitF S L ch).2.2 ≠ 7 ∧ (commitF S L ch).2.2 ≠ 10 then commitF S L ch
  else if (commitF S L ch).1.M.most - (commitF S L ch).1.M.count < 2 then ((commitF S L ch).1, (commitF S L ch).2.1, 10)
  else if (turnF (commitF S L ch).1 (commitF S L ch).2.1 st).2.2 ≠ 0 then turnF (commitF S L ch).1 (commitF S L ch).2.1 st
  else commitF (turnF (commitF S L ch).1 (commitF S L ch).2.1 st).1 (turnF (commitF S L ch).1 (commitF S L ch).2.1 st).2.1 ch

theorem Save_ok {kb vb wb db mb m1 mc1 m2 mc2 : Nat} {L : Lg} {S : St} {q1 q2 : Option Addr} {st ch : List Rec} (h : Sat B w (kp kb vb db mb L :: vlt vb wb S.V :: idl wb S.I :: dsk db S.D :: mtr mb db S.M :: F)) (G : Gl B)
    (hr1 : Rd B q1 (rcells st)) (hm1 : m1 = st.length) (hmc1 : st.length ≤ mc1) (hn1 : st.length ≤ 1000) (hr2 : Rd B q2 (rcells ch)) (hm2 : m2 = ch.length) (hn2 : ch.length ≤ 1000)
    (hto : L.A.to ≤ S.D.now.length) (hwl : S.D.waits.length < 100000) (hI : S.I.made.length < 100000000000000) (hV : 0 ≤ S.V.limit ∧ S.V.limit < 9223372036854775808) (hsq : L.seq < 100000000)
    (hk : ∀ w', Sat B w' (kp kb vb db mb (saveF S L st ch).2.1 :: vlt vb wb (saveF S L st ch).1.V :: idl wb (saveF S L st ch).1.I :: dsk db (saveF S L st ch).1.D :: mtr mb db (saveF S L st ch).1.M :: F) → K (.int .i64 (saveF S L st ch).2.2) w') :
    Cs P f_snap_Keeper_Save #[.pointer (at0 kb), .slice q1 m1 mc1, .slice q2 m2 mc2] w K := by
  refine ok_snap_Keeper_Save _ _ _ _ _ _ _ ?_
  unfold vc_snap_Keeper_Save
  obtain ⟨lb, h⟩ := Sat.kOpen h
  have hL := Sat.lFact (h.pull 1)
  have hD := Sat.dFact (h.pull 4)
  have hA : L.A.ok := by
    obtain ⟨ab, h', _⟩ := Sat.lOpen (h.pull 1)
    exact (Sat.aOpen (h'.pull 1)).2
  have lk : ∀ {w' : World} {G' : List HP}, Sat B w' (bk kb t_snap_Keeper [.pointer (at0 lb), .pointer (at0 mb)] :: G') → (loadVar t_p_commit_Log (Addr.add ⟨kb, 0, none⟩ 0)).run P w' = .ok (.pointer (at0 lb)) w' ∧ (loadVar t_p_meter_Meter (Addr.add ⟨kb, 0, none⟩ 1)).run P w' = .ok (.pointer (at0 mb)) w' := fun h =>
    ⟨ld1 (L := [.pointer (at0 lb), .pointer (at0 mb)]) sc_plog h.bk rfl, ld1 (L := [.pointer (at0 lb), .pointer (at0 mb)]) sc_pmeter h.bk rfl⟩
  refine Br.f (NN.some ⟨_, (lk h).1, ?_⟩)
  have hf1 := commit_facts (rs := ch) hD hA hto hL.seq.1
  refine Commit_ok ((((((h.pull 5).pull 5).pull 5).pull 5).pull 5)) G hr2 hm2 (by omega) hto (by omega) (by omega) hV (by omega) fun w' h => ⟨_, rfl, ?_⟩
  have h := ((((((h.pull 4).pull 4).pull 4).pull 4).pull 4).pull 5)
  have e0 : saveF S L st ch = if (commitF S L ch).2.2 ≠ 7 ∧ (commitF S L ch).2.2 ≠ 10 then commitF S L ch
    else if (commitF S L ch).1.M.most - (commitF S L ch).1.M.count < 2 then ((commitF S L ch).1, (commitF S L ch).2.1, 10)
    else if (turnF (commitF S L ch).1 (commitF S L ch).2.1 st).2.2 ≠ 0 then turnF (commitF S L ch).1 (commitF S L ch).2.1 st
    else commitF (turnF (commitF S L ch).1 (commitF S L ch).2.1 st).1 (turnF (commitF S L ch).1 (commitF S L ch).2.1 st).2.1 ch := rfl
  rw [e0] at hk
  clear e0
  generalize commitF S L ch = r at *
  have hL1 := Sat.lFact (h.pull 1)
  have ret1 : (r.2.2 ≠ 7 ∧ r.2.2 ≠ 10) → K (.int .i64 r.2.2) w' := fun hx => by
    rw [if_pos hx] at hk
    exact hk _ (Sat.kShut lb h)
  refine Jn.dupB (Br.ne (fun h7 => ⟨_, rfl, Br.ne (fun h10 => ret1 ⟨h7, h10⟩) fun h10 => ?_⟩) fun h7 => ⟨_, rfl, Br.f ?_⟩)
  all_goals
    rw [if_neg (by omega)] at hk
    refine NN.some ⟨_, (lk h).2, ?_⟩
    refine MLeft_ok (((((((h.pull 4).pull 4).pull 4).pull 4).pull 4).pull 5)) fun w' h => ⟨_, rfl, Br.lt (fun hlt => ?_) fun hge => ?_⟩
    · rw [if_pos hlt] at hk
      exact hk _ (Sat.kShut lb (((((h.pull 5).pull 5).pull 5).pull 5).pull 5))
    rw [if_neg (by omega)] at hk
    have h := (((((h.pull 5).pull 5).pull 5).pull 5).pull 5)
    refine NN.some ⟨_, (lk h).1, ?_⟩
    have hf2 := turn_facts (rs := st) hf1.ok hf1.aok (by rw [hf1.now]; exact hf1.to hto) hL1.seq.1
    have g1 := hf1.now
    have g2 := hf1.limit
    have g3 := hf1.made
    have g4 := hf1.waits
    have g5 := hf1.to hto
    have g6 := hf1.seq
    refine Turn_ok ((((((h.pull 5).pull 5).pull 5).pull 5).pull 5)) G hr1 hm1 hmc1 (by omega) (by omega) (by omega) (by rw [g2]; exact hV) fun w' h => ⟨_, rfl, ?_⟩
    have h := ((((((h.pull 4).pull 4).pull 4).pull 4).pull 4).pull 5)
    generalize turnF r.1 r.2.1 st = t at *
    refine Br.ne (fun hne => ?_) fun h0 => ?_
    · rw [if_pos hne] at hk
      exact hk _ (Sat.kShut lb h)
    rw [if_neg (by simpa using h0)] at hk
    refine NN.some ⟨_, (lk h).1, ?_⟩
    have k1 := hf2.now
    have k2 := hf2.limit
    have k3 := hf2.made
    have k4 := hf2.waits
    have k5 := hf2.to (by omega)
    have k6 := hf2.seq
    refine Commit_ok ((((((h.pull 5).pull 5).pull 5).pull 5).pull 5)) G hr2 hm2 (by omega) (by omega) (by omega) (by omega) (by rw [k2, g2]; exact hV) (by omega) fun w' h => ⟨_, rfl, ?_⟩
    have h := ((((((h.pull 4).pull 4).pull 4).pull 4).pull 4).pull 5)
    exact hk _ (Sat.kShut lb h)

end Go.Dv
