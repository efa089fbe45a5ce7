/- The plain texts of the functions, and that each implies its calls. -/
import Derived.Test.YtnmkbnfidjoljaaDoorGc

set_option maxRecDepth 100000
namespace Go.Dv
open Go Go.Sh Go.Proofs

/-- coffret/seg.Split -/
def vc_seg_Split (x0 : Option Addr) (x0l : Nat) (x0c : Nat) (w : World) (R : Value → World → Prop) : Prop :=
  Lp [Value.slice none 0 0, Value.int IntKind.i64 0, Value.int IntKind.i64 48, Value.int IntKind.i64 0] w fun K0 ↦
    ∀ (p0 : Option Addr) (l0 l1 : Nat) (n0 n1 n2 : Int) (l2 : Nat) (w0 : World),
      K0 l2 [Value.slice p0 l0 l1, Value.int IntKind.i64 n0, Value.int IntKind.i64 n1, Value.int IntKind.i64 n2] w0 →
        Br (ltI n2 (Nat.cast x0l))
          (Ix x0 x0l n2 6 fun a0 ↦
            LdV P t_api_Record a0 w0 fun v0 ↦
              DoA P (Instr.alloc t_api_Record true (Value.tuple #[])) w0 fun a1 w1 ↦
                DoU P (storeVar t_api_Record a1 v0) w1 fun w2 ↦
                  LdV P t_api_Record a1 w2 fun v1 ↦
                    DoL P (Instr.buildSlice t_sl_api_Record 1 #[(0, v1)]) w2 fun p1 l3 l4 w3 ↦
                      Cs P f_record_Size #[Value.slice p1 l3 l4] w3 fun v2 w4 ↦
                        ∃ n3,
                          v2 = Value.int IntKind.i64 n3 ∧
                            Jn (fun K1 ↦ Br (gtI n2 n0) (K1 [Value.bool (gtI (IntKind.wrap IntKind.i64 (n1 + IntKind.wrap IntKind.i64 (n3 + 27))) 16384)] w4) (K1 [Value.bool false] w4)) fun K2 ↦
                              ∀ (b0 : Bool) (w5 : World),
                                K2 [Value.bool b0] w5 →
                                  Jn
                                    (fun K3 ↦
                                      Br b0
                                        (DoL P (Instr.sliceAt t_sl_api_Record (Value.slice x0 x0l x0c) (some (Value.int IntKind.i64 n0)) (some (Value.int IntKind.i64 n2)) (some (Value.int IntKind.i64 n2))) w5 fun p2 l5 l6 w6 ↦
                                          DoL P (Instr.buildSlice t_sl_sl_api_Record 1 #[(0, Value.slice p2 l5 l6)]) w6 fun p3 l7 l8 w7 ↦
                                            DoL P (Builtin.append_ #[t_sl_sl_api_Record, t_sl_sl_api_Record] t_sl_sl_api_Record #[Value.slice p0 l0 l1, Value.slice p3 l7 l8]) w7 fun p4 l9 l10 w8 ↦ K3 [Value.slice p4 l9 l10, Value.int IntKind.i64 n2, Value.int IntKind.i64 48] w8)
                                        (K3 [Value.slice p0 l0 l1, Value.int IntKind.i64 n0, Value.int IntKind.i64 n1] w5))
                                    fun K4 ↦
                                    ∀ (p5 : Option Addr) (l11 l12 : Nat) (n4 n5 : Int) (w9 : World),
                                      K4 [Value.slice p5 l11 l12, Value.int IntKind.i64 n4, Value.int IntKind.i64 n5] w9 → Nx K0 l2 [Value.slice p5 l11 l12, Value.int IntKind.i64 n4, Value.int IntKind.i64 (IntKind.wrap IntKind.i64 (n5 + IntKind.wrap IntKind.i64 (n3 + 27))), Value.int IntKind.i64 (IntKind.wrap IntKind.i64 (n2 + 1))] w9)
          (Jn
            (fun K5 ↦
              Br (ltI n0 (Nat.cast x0l))
                (DoL P (Instr.sliceAt t_sl_api_Record (Value.slice x0 x0l x0c) (some (Value.int IntKind.i64 n0)) (some (Value.int IntKind.i64 (Nat.cast x0l))) (some (Value.int IntKind.i64 (Nat.cast x0l)))) w0 fun p6 l13 l14 w10 ↦
                  DoL P (Instr.buildSlice t_sl_sl_api_Record 1 #[(0, Value.slice p6 l13 l14)]) w10 fun p7 l15 l16 w11 ↦ DoL P (Builtin.append_ #[t_sl_sl_api_Record, t_sl_sl_api_Record] t_sl_sl_api_Record #[Value.slice p0 l0 l1, Value.slice p7 l15 l16]) w11 fun p8 l17 l18 w12 ↦ K5 [Value.slice p8 l17 l18] w12)
                (K5 [Value.slice p0 l0 l1] w0))
            fun K6 ↦ ∀ (p9 : Option Addr) (l19 l20 : Nat) (w13 : World), K6 [Value.slice p9 l19 l20] w13 → R (Value.slice p9 l19 l20) w13)
theorem ok_seg_Split {w : World} {R : Value → World → Prop} (x0 : Option Addr) (x0l : Nat) (x0c : Nat) (h : vc_seg_Split x0 x0l x0c w R) : Cs P f_seg_Split #[Value.slice x0 x0l x0c] w R := wpF_ok follows Tryd.func39 (Eq.mpr (by kernel_rfl) h)

/-- coffret/seg.Sectors -/
def vc_seg_Sectors (x0 : Option Addr) (x0l : Nat) (x0c : Nat) (w : World) (R : Value → World → Prop) : Prop :=
  Cs P f_seg_Size #[Value.slice x0 x0l x0c] w fun v0 w0 ↦ ∃ n0, v0 = Value.int IntKind.i64 n0 ∧ Nz 256 ∧ R (Value.int IntKind.i64 (IntKind.wrap IntKind.i64 (Int.tdiv (IntKind.wrap IntKind.i64 (IntKind.wrap IntKind.i64 (n0 + 256) - 1)) 256))) w0
theorem ok_seg_Sectors {w : World} {R : Value → World → Prop} (x0 : Option Addr) (x0l : Nat) (x0c : Nat) (h : vc_seg_Sectors x0 x0l x0c w R) : Cs P f_seg_Sectors #[Value.slice x0 x0l x0c] w R := wpF_ok follows Tryd.func40 (Eq.mpr (by kernel_rfl) h)

/-- coffret/chain.Half -/
def vc_chain_Half (x0 : Option Addr) (x1 : Int) (w : World) (R : Value → World → Prop) : Prop :=
  Cs P f_disk_Disk_Size #[Value.pointer x0] w fun v0 w0 ↦
    ∃ n0,
      v0 = Value.int IntKind.i64 n0 ∧
        Nz 2 ∧
          DoV P
            (Instr.build t_chain_Area
              #[(0, Value.pointer x0), (1, Value.int IntKind.i64 (IntKind.wrap IntKind.i64 (bitsOf BinOp.and IntKind.i64 x1 1 * IntKind.wrap IntKind.i64 (Int.tdiv n0 2)))),
                (2, Value.int IntKind.i64 (IntKind.wrap IntKind.i64 (IntKind.wrap IntKind.i64 (bitsOf BinOp.and IntKind.i64 x1 1 * IntKind.wrap IntKind.i64 (Int.tdiv n0 2)) + IntKind.wrap IntKind.i64 (Int.tdiv n0 2)))),
                (3, Value.int IntKind.i64 (IntKind.wrap IntKind.i64 (bitsOf BinOp.and IntKind.i64 x1 1 * IntKind.wrap IntKind.i64 (Int.tdiv n0 2))))])
            w0 fun v1 w1 ↦ DoA P (Instr.box t_chain_Area v1) w1 fun a0 w2 ↦ R (Value.pointer (some a0)) w2
theorem ok_chain_Half {w : World} {R : Value → World → Prop} (x0 : Option Addr) (x1 : Int) (h : vc_chain_Half x0 x1 w R) : Cs P f_chain_Half #[Value.pointer x0, Value.int IntKind.i64 x1] w R := wpF_ok follows Tryd.func41 (Eq.mpr (by kernel_rfl) h)

/-- (*coffret/meter.Meter).Left -/
def vc_meter_Meter_Left (x0 : Option Addr) (w : World) (R : Value → World → Prop) : Prop :=
  Br (Option.isNone x0) (R (Value.int IntKind.i64 0) w)
    (Dr w fun w0 ↦ NN x0 fun a0 ↦ LdI IntKind.i64 P t_int (Addr.add a0 34) w0 fun n0 ↦ NN x0 fun a1 ↦ LdI IntKind.i64 P t_int (Addr.add (Addr.add a1 0) 0) w0 fun n1 ↦ R (Value.int IntKind.i64 (IntKind.wrap IntKind.i64 (n0 - n1))) w0)
theorem ok_meter_Meter_Left {w : World} {R : Value → World → Prop} (x0 : Option Addr) (h : vc_meter_Meter_Left x0 w R) : Cs P f_meter_Meter_Left #[Value.pointer x0] w R := wpF_ok follows Tryd.func42 (Eq.mpr (by kernel_rfl) h)

/-- (*coffret/vault.Vault).Limit -/
def vc_vault_Vault_Limit (x0 : Option Addr) (w : World) (R : Value → World → Prop) : Prop :=
  Br (Option.isNone x0) (R (Value.int IntKind.i64 0) w) (NN x0 fun a0 ↦ LdI IntKind.i64 P t_int (Addr.add a0 33) w fun n0 ↦ R (Value.int IntKind.i64 n0) w)
theorem ok_vault_Vault_Limit {w : World} {R : Value → World → Prop} (x0 : Option Addr) (h : vc_vault_Vault_Limit x0 w R) : Cs P f_vault_Vault_Limit #[Value.pointer x0] w R := wpF_ok follows Tryd.func43 (Eq.mpr (by kernel_rfl) h)

/-- (*coffret/chain.Area).Left -/
def vc_chain_Area_Left (x0 : Option Addr) (w : World) (R : Value → World → Prop) : Prop :=
  Br (Option.isNone x0) (R (Value.int IntKind.i64 0) w) (Dr w fun w0 ↦ NN x0 fun a0 ↦ LdI IntKind.i64 P t_int (Addr.add a0 2) w0 fun n0 ↦ NN x0 fun a1 ↦ LdI IntKind.i64 P t_int (Addr.add a1 3) w0 fun n1 ↦ R (Value.int IntKind.i64 (IntKind.wrap IntKind.i64 (n0 - n1))) w0)
theorem ok_chain_Area_Left {w : World} {R : Value → World → Prop} (x0 : Option Addr) (h : vc_chain_Area_Left x0 w R) : Cs P f_chain_Area_Left #[Value.pointer x0] w R := wpF_ok follows Tryd.func44 (Eq.mpr (by kernel_rfl) h)

/-- coffret/seg.Start -/
def vc_seg_Start (x0 : Option Addr) (x1 : Int) (w : World) (R : Value → World → Prop) : Prop :=
  DoA P (Instr.alloc t_arr32_uint8 true (Value.tuple #[])) w fun a0 w0 ↦
    DoV P (Instr.build t_code_Writer #[]) w0 fun v0 w1 ↦
      DoA P (Instr.box t_code_Writer v0) w1 fun a1 w2 ↦
        DoL P (Instr.buildSlice t_sl_string 1 #[(0, Value.string (ByteArray.mk #[101, 112, 111, 99, 104]))]) w2 fun p0 l0 l1 w3 ↦
          Cs P f_code_Writer_Text #[Value.pointer (some a1), Value.slice p0 l0 l1] w3 fun v1 w4 ↦
            v1 = Value.tuple #[] ∧
              DoL P (Instr.buildSlice t_sl_int 1 #[(0, Value.int IntKind.i64 x1)]) w4 fun p1 l2 l3 w5 ↦
                Cs P f_code_Writer_Num #[Value.pointer (some a1), Value.slice p1 l2 l3] w5 fun v2 w6 ↦
                  v2 = Value.tuple #[] ∧
                    Cs P f_code_Writer_Bytes #[Value.pointer (some a1)] w6 fun v3 w7 ↦
                      ∃ p2 l4 l5,
                        v3 = Value.slice p2 l4 l5 ∧
                          DoL P (Instr.buildSlice t_sl_sl_uint8 1 #[(0, Value.slice p2 l4 l5)]) w7 fun p3 l6 l7 w8 ↦
                            Cs P f_vault_Vault_Hash #[Value.pointer x0, Value.slice p3 l6 l7] w8 fun v4 w9 ↦ ∃ v5, v4 = v5 ∧ DoU P (storeVar t_arr32_uint8 a0 v5) w9 fun w10 ↦ LdV P t_arr32_uint8 a0 w10 fun v6 ↦ R v6 w10
theorem ok_seg_Start {w : World} {R : Value → World → Prop} (x0 : Option Addr) (x1 : Int) (h : vc_seg_Start x0 x1 w R) : Cs P f_seg_Start #[Value.pointer x0, Value.int IntKind.i64 x1] w R := wpF_ok follows Tryd.func45 (Eq.mpr (by kernel_rfl) h)

/-- coffret/seg.Pack -/
def vc_seg_Pack (x0 : Option Addr) (x1 : Int) (x2 : Int) (x3 : Value) (x4 : Option Addr) (x4l : Nat) (x4c : Nat) (w : World) (R : Value → World → Prop) : Prop :=
  DoA P (Instr.box t_arr32_uint8 x3) w fun a0 w0 ↦
    DoA P (Instr.alloc t_arr32_uint8 true (Value.tuple #[])) w0 fun a1 w1 ↦
      Br (eqI (Nat.cast x4l) 0) (Dr w1 fun w2 ↦ LdV P t_arr32_uint8 a0 w2 fun v0 ↦ DoU P (storeVar t_arr32_uint8 a1 v0) w2 fun w3 ↦ LdV P t_arr32_uint8 a1 w3 fun v1 ↦ R (Value.tuple #[Value.slice none 0 0, v1, Value.int IntKind.i64 1]) w3)
        (DoV P (Instr.build t_code_Writer #[]) w1 fun v2 w4 ↦
          DoA P (Instr.box t_code_Writer v2) w4 fun a2 w5 ↦
            Lp [Value.slice none 0 0, Value.int IntKind.i64 0] w5 fun K0 ↦
              ∀ (p0 : Option Addr) (l0 l1 : Nat) (n0 : Int) (l2 : Nat) (w6 : World),
                K0 l2 [Value.slice p0 l0 l1, Value.int IntKind.i64 n0] w6 →
                  Br (ltI n0 (Nat.cast x4l))
                    (Ix x4 x4l n0 6 fun a3 ↦
                      LdV P t_api_Record a3 w6 fun v3 ↦
                        DoA P (Instr.alloc t_api_Record true (Value.tuple #[])) w6 fun a4 w7 ↦
                          DoU P (storeVar t_api_Record a4 v3) w7 fun w8 ↦
                            LdV P t_api_Record a4 w8 fun v4 ↦
                              Cs P f_record_Put #[v4] w8 fun v5 w9 ↦
                                ∃ p1 l3 l4 n1,
                                  v5 = Value.tuple #[Value.slice p1 l3 l4, Value.int IntKind.i64 n1] ∧
                                    Br (neI n1 0) (DoV P (Instr.build t_arr32_uint8 #[]) w9 fun v6 w10 ↦ DoU P (storeVar t_arr32_uint8 a1 v6) w10 fun w11 ↦ LdV P t_arr32_uint8 a1 w11 fun v7 ↦ R (Value.tuple #[Value.slice none 0 0, v7, Value.int IntKind.i64 n1]) w11)
                                      (Cs P f_code_Writer_Bytes #[Value.pointer (some a2)] w9 fun v8 w12 ↦
                                        ∃ p2 l5 l6,
                                          v8 = Value.slice p2 l5 l6 ∧
                                            Br (gtI (IntKind.wrap IntKind.i64 (IntKind.wrap IntKind.i64 (IntKind.wrap IntKind.i64 (Nat.cast l5 + Nat.cast l3) + 27) + 48)) 16384)
                                              (DoV P (Instr.build t_arr32_uint8 #[]) w12 fun v9 w13 ↦ DoU P (storeVar t_arr32_uint8 a1 v9) w13 fun w14 ↦ LdV P t_arr32_uint8 a1 w14 fun v10 ↦ R (Value.tuple #[Value.slice none 0 0, v10, Value.int IntKind.i64 3]) w14)
                                              (Dr w12 fun w15 ↦
                                                LdI IntKind.i64 P t_int (Addr.add a4 1) w15 fun n2 ↦
                                                  LdV P t_arr32_uint8 a0 w15 fun v11 ↦
                                                    Cs P f_seg_Key #[Value.pointer x0, Value.int IntKind.i64 n2] w15 fun v12 w16 ↦
                                                      ∃ v13,
                                                        v12 = v13 ∧
                                                          (Still P (loadVar t_arr32_uint8 a0) v11 w16 ∧ True) ∧
                                                            Cs P f_seg_place #[v11, Value.int IntKind.i64 n0, Value.int IntKind.i64 (Nat.cast x4l)] w16 fun v14 w17 ↦
                                                              ∃ p3 l7 l8,
                                                                v14 = Value.slice p3 l7 l8 ∧
                                                                  DoL P (Instr.buildSlice t_sl_sl_uint8 1 #[(0, Value.slice p3 l7 l8)]) w17 fun p4 l9 l10 w18 ↦
                                                                    Cs P f_vault_Vault_Seal #[Value.pointer x0, v13, Value.int IntKind.i64 x1, Value.int IntKind.i64 (IntKind.wrap IntKind.i64 (x2 + n0)), Value.slice p1 l3 l4, Value.slice p4 l9 l10] w18 fun v15 w19 ↦
                                                                      ∃ p5 l11 l12 n3,
                                                                        v15 = Value.tuple #[Value.slice p5 l11 l12, Value.int IntKind.i64 n3] ∧
                                                                          Br (neI n3 0)
                                                                            (DoV P (Instr.build t_arr32_uint8 #[]) w19 fun v16 w20 ↦ DoU P (storeVar t_arr32_uint8 a1 v16) w20 fun w21 ↦ LdV P t_arr32_uint8 a1 w21 fun v17 ↦ R (Value.tuple #[Value.slice none 0 0, v17, Value.int IntKind.i64 n3]) w21)
                                                                            (LdI IntKind.i64 P t_int (Addr.add a4 1) w19 fun n4 ↦
                                                                              DoL P (Instr.buildSlice t_sl_int 1 #[(0, Value.int IntKind.i64 n4)]) w19 fun p6 l13 l14 w22 ↦
                                                                                Cs P f_code_Writer_Num #[Value.pointer (some a2), Value.slice p6 l13 l14] w22 fun v18 w23 ↦
                                                                                  v18 = Value.tuple #[] ∧
                                                                                    DoS P (convert t_sl_uint8 t_string (Value.slice p5 l11 l12)) w23 fun s0 w24 ↦
                                                                                      DoL P (Instr.buildSlice t_sl_string 1 #[(0, Value.string s0)]) w24 fun p7 l15 l16 w25 ↦
                                                                                        Cs P f_code_Writer_Text #[Value.pointer (some a2), Value.slice p7 l15 l16] w25 fun v19 w26 ↦
                                                                                          v19 = Value.tuple #[] ∧
                                                                                            Cs P f_merkle_Leaf #[Value.pointer x0, Value.slice p5 l11 l12] w26 fun v20 w27 ↦
                                                                                              ∃ v21,
                                                                                                v20 = v21 ∧
                                                                                                  DoL P (Instr.buildSlice t_sl_arr32_uint8 1 #[(0, v21)]) w27 fun p8 l17 l18 w28 ↦
                                                                                                    DoL P (Builtin.append_ #[t_sl_arr32_uint8, t_sl_arr32_uint8] t_sl_arr32_uint8 #[Value.slice p0 l0 l1, Value.slice p8 l17 l18]) w28 fun p9 l19 l20 w29 ↦ Nx K0 l2 [Value.slice p9 l19 l20, Value.int IntKind.i64 (IntKind.wrap IntKind.i64 (n0 + 1))] w29))))
                    (Cs P f_merkle_Root #[Value.pointer x0, Value.slice p0 l0 l1] w6 fun v22 w30 ↦
                      ∃ v23,
                        v22 = v23 ∧
                          DoA P (Instr.alloc t_arr32_uint8 true (Value.tuple #[])) w30 fun a5 w31 ↦
                            DoU P (storeVar t_arr32_uint8 a5 v23) w31 fun w32 ↦
                              DoV P (Instr.build t_code_Writer #[]) w32 fun v24 w33 ↦
                                DoA P (Instr.box t_code_Writer v24) w33 fun a6 w34 ↦
                                  Cs P f_code_Writer_Bytes #[Value.pointer (some a2)] w34 fun v25 w35 ↦
                                    ∃ p10 l21 l22,
                                      v25 = Value.slice p10 l21 l22 ∧
                                        DoL P (Instr.buildSlice t_sl_int 2 #[(0, Value.int IntKind.i64 (IntKind.wrap IntKind.i64 (Nat.cast l21 + 48))), (1, Value.int IntKind.i64 (Nat.cast x4l))]) w35 fun p11 l23 l24 w36 ↦
                                          Cs P f_code_Writer_Num #[Value.pointer (some a6), Value.slice p11 l23 l24] w36 fun v26 w37 ↦
                                            v26 = Value.tuple #[] ∧
                                              Cs P f_code_Writer_Bytes #[Value.pointer (some a2)] w37 fun v27 w38 ↦
                                                ∃ p12 l25 l26,
                                                  v27 = Value.slice p12 l25 l26 ∧
                                                    Cs P f_code_Writer_Byte #[Value.pointer (some a6), Value.slice p12 l25 l26] w38 fun v28 w39 ↦
                                                      v28 = Value.tuple #[] ∧
                                                        DoL P (Instr.sliceAt t_arr32_uint8 (Value.pointer (some a5)) none none none) w39 fun p13 l27 l28 w40 ↦
                                                          Cs P f_code_Writer_Byte #[Value.pointer (some a6), Value.slice p13 l27 l28] w40 fun v29 w41 ↦
                                                            v29 = Value.tuple #[] ∧
                                                              Dr w41 fun w42 ↦
                                                                RdL P (Instr.sliceAt t_arr32_uint8 (Value.pointer (some a0)) none none none) w42 fun p14 l29 l30 ↦
                                                                  Cs P f_code_Writer_Bytes #[Value.pointer (some a6)] w42 fun v30 w43 ↦
                                                                    ∃ p15 l31 l32,
                                                                      v30 = Value.slice p15 l31 l32 ∧
                                                                        (Still P (Instr.sliceAt t_arr32_uint8 (Value.pointer (some a0)) none none none) (Value.slice p14 l29 l30) w43 ∧ True) ∧
                                                                          Cs P f_code_Writer_Bytes #[Value.pointer (some a6)] w43 fun v31 w44 ↦
                                                                            ∃ p16 l33 l34,
                                                                              v31 = Value.slice p16 l33 l34 ∧
                                                                                (Still P (Instr.sliceAt t_arr32_uint8 (Value.pointer (some a0)) none none none) (Value.slice p14 l29 l30) w44 ∧ True) ∧
                                                                                  DoL P (Instr.buildSlice t_sl_sl_uint8 2 #[(0, Value.slice p14 l29 l30), (1, Value.slice p16 l33 l34)]) w44 fun p17 l35 l36 w45 ↦
                                                                                    Cs P f_vault_Vault_Hash #[Value.pointer x0, Value.slice p17 l35 l36] w45 fun v32 w46 ↦
                                                                                      ∃ v33, v32 = v33 ∧ DoU P (storeVar t_arr32_uint8 a1 v33) w46 fun w47 ↦ LdV P t_arr32_uint8 a1 w47 fun v34 ↦ R (Value.tuple #[Value.slice p15 l31 l32, v34, Value.int IntKind.i64 0]) w47))
theorem ok_seg_Pack {w : World} {R : Value → World → Prop} (x0 : Option Addr) (x1 : Int) (x2 : Int) (x3 : Value) (x4 : Option Addr) (x4l : Nat) (x4c : Nat) (h : vc_seg_Pack x0 x1 x2 x3 x4 x4l x4c w R) : Cs P f_seg_Pack #[Value.pointer x0, Value.int IntKind.i64 x1, Value.int IntKind.i64 x2, x3, Value.slice x4 x4l x4c] w R := wpF_ok follows Tryd.func46 (Eq.mpr (by kernel_rfl) h)

/-- (*coffret/chain.Area).Add -/
def vc_chain_Area_Add (x0 : Option Addr) (x1 : Option Addr) (x1l : Nat) (x1c : Nat) (w : World) (R : Value → World → Prop) : Prop :=
  DoA P (Instr.box t_p_chain_Area (Value.pointer x0)) w fun a0 w0 ↦
    DoA P (Instr.alloc t_api_Errno true (Value.tuple #[])) w0 fun a1 w1 ↦
      LdP P t_p_chain_Area a0 w1 fun p0 ↦
        Br (Option.isNone p0) (DoU P (storeVar t_api_Errno a1 (Value.int IntKind.i64 2)) w1 fun w2 ↦ LdI IntKind.i64 P t_api_Errno a1 w2 fun n0 ↦ R (Value.int IntKind.i64 n0) w2)
          (Nz 256 ∧
            Jn (fun K0 ↦ Br (eqI (Nat.cast x1l) 0) (K0 [Value.bool true] w1) (Cs P f_seg_Length #[Value.slice x1 x1l x1c] w1 fun v0 w3 ↦ ∃ n1, v0 = Value.int IntKind.i64 n1 ∧ K0 [Value.bool (neI n1 (Nat.cast x1l))] w3)) fun K1 ↦
              ∀ (b0 : Bool) (w4 : World),
                K1 [Value.bool b0] w4 →
                  Br b0 (DoU P (storeVar t_api_Errno a1 (Value.int IntKind.i64 1)) w4 fun w5 ↦ LdI IntKind.i64 P t_api_Errno a1 w5 fun n2 ↦ R (Value.int IntKind.i64 n2) w5)
                    (LdP P t_p_chain_Area a0 w4 fun p1 ↦
                      NN p1 fun a2 ↦
                        LdP P t_p_disk_Disk (Addr.add a2 0) w4 fun p2 ↦
                          Cs P f_disk_Disk_Down #[Value.pointer p2] w4 fun v1 w6 ↦
                            ∃ b1,
                              v1 = Value.bool b1 ∧
                                Br b1 (DoU P (storeVar t_api_Errno a1 (Value.int IntKind.i64 8)) w6 fun w7 ↦ LdI IntKind.i64 P t_api_Errno a1 w7 fun n3 ↦ R (Value.int IntKind.i64 n3) w7)
                                  (LdP P t_p_chain_Area a0 w6 fun p3 ↦
                                    Cs P f_chain_Area_Left #[Value.pointer p3] w6 fun v2 w8 ↦
                                      ∃ n4,
                                        v2 = Value.int IntKind.i64 n4 ∧
                                          Br (gtI (IntKind.wrap IntKind.i64 (Int.tdiv (IntKind.wrap IntKind.i64 (IntKind.wrap IntKind.i64 (Nat.cast x1l + 256) - 1)) 256)) n4)
                                            (DoU P (storeVar t_api_Errno a1 (Value.int IntKind.i64 7)) w8 fun w9 ↦ LdI IntKind.i64 P t_api_Errno a1 w9 fun n5 ↦ R (Value.int IntKind.i64 n5) w9)
                                            (LdP P t_p_chain_Area a0 w8 fun p4 ↦
                                              NN p4 fun a3 ↦
                                                LdI IntKind.i64 P t_int (Addr.add a3 3) w8 fun n6 ↦
                                                  DoA P (Instr.alloc t_int true (Value.tuple #[])) w8 fun a4 w10 ↦ DoU P (storeVar t_int a4 (Value.int IntKind.i64 n6)) w10 fun w11 ↦ Cs P f_slices_Chunk_byte_byte #[Value.slice x1 x1l x1c, Value.int IntKind.i64 256] w11 fun v3 w12 ↦ ∃ v4, v3 = v4 ∧ False))))
theorem ok_chain_Area_Add {w : World} {R : Value → World → Prop} (x0 : Option Addr) (x1 : Option Addr) (x1l : Nat) (x1c : Nat) (h : vc_chain_Area_Add x0 x1 x1l x1c w R) : Cs P f_chain_Area_Add #[Value.pointer x0, Value.slice x1 x1l x1c] w R := wpF_ok follows Tryd.func47 (Eq.mpr (by kernel_rfl) h)

/-- (*coffret/commit.Log).sealT -/
def vc_commit_Log_seal (x0 : Option Addr) (x1 : Int) (x2 : Value) (w : World) (R : Value → World → Prop) : Prop :=
  DoA P (Instr.box t_arr32_uint8 x2) w fun a0 w0 ↦
    NN x0 fun a1 ↦
      LdP P t_p_disk_Disk (Addr.add a1 1) w0 fun p0 ↦
        Cs P f_disk_Disk_Sync #[Value.pointer p0] w0 fun v0 w1 ↦
          ∃ n0,
            v0 = Value.int IntKind.i64 n0 ∧
              Br (neI n0 0) (R (Value.int IntKind.i64 n0) w1)
                (Dr w1 fun w2 ↦ NN x0 fun a2 ↦ LdP P t_p_meter_Meter (Addr.add a2 2) w2 fun p1 ↦ LdV P t_arr32_uint8 a0 w2 fun v1 ↦ Cs P f_meter_Meter_Next #[Value.pointer p1, Value.int IntKind.i64 x1, v1] w2 fun v2 w3 ↦ ∃ n1, v2 = Value.int IntKind.i64 n1 ∧ R (Value.int IntKind.i64 n1) w3)
theorem ok_commit_Log_seal {w : World} {R : Value → World → Prop} (x0 : Option Addr) (x1 : Int) (x2 : Value) (h : vc_commit_Log_seal x0 x1 x2 w R) : Cs P f_commit_Log_seal #[Value.pointer x0, Value.int IntKind.i64 x1, x2] w R := wpF_ok follows Tryd.func48 (Eq.mpr (by kernel_rfl) h)

/-- coffret/coffretref17.good -/
def vc_coffretref17_good (x0 : Option Addr) (x0l : Nat) (x0c : Nat) (w : World) (R : Value → World → Prop) : Prop :=
  Jn (fun K0 ↦ Br (gtI (Nat.cast x0l) 0) (Cs P f_coffretref13_All #[Value.slice x0 x0l x0c] w fun v0 w0 ↦ ∃ b0, v0 = Value.bool b0 ∧ K0 [Value.bool b0] w0) (K0 [Value.bool false] w)) fun K1 ↦ ∀ (b1 : Bool) (w1 : World), K1 [Value.bool b1] w1 → R (Value.bool b1) w1
theorem ok_coffretref17_good {w : World} {R : Value → World → Prop} (x0 : Option Addr) (x0l : Nat) (x0c : Nat) (h : vc_coffretref17_good x0 x0l x0c w R) : Cs P f_coffretref17_good #[Value.slice x0 x0l x0c] w R := wpF_ok follows Tryd.func49 (Eq.mpr (by kernel_rfl) h)

/-- (*coffret/coffretref17.Log).Commit -/
def vc_coffretref17_Log_Commit (x0 : Option Addr) (x1 : Option Addr) (x1l : Nat) (x1c : Nat) (w : World) (R : Value → World → Prop) : Prop :=
  Jn (fun K0 ↦ Cs P f_coffretref17_good #[Value.slice x1 x1l x1c] w fun v0 w0 ↦ ∃ b0, v0 = Value.bool b0 ∧ Br (!b0) (K0 [Value.bool true] w0) (NN x0 fun a0 ↦ LdB P t_bool (Addr.add a0 5) w0 fun b1 ↦ K0 [Value.bool !b1] w0)) fun K1 ↦
    ∀ (b2 : Bool) (w1 : World),
      K1 [Value.bool b2] w1 →
        Br b2 (R (Value.int IntKind.i64 1) w1)
          (Cs P f_coffretref15_Size #[Value.slice x1 x1l x1c] w1 fun v1 w2 ↦
            ∃ n0,
              v1 = Value.int IntKind.i64 n0 ∧
                Br (gtI n0 16384) (R (Value.int IntKind.i64 3) w2)
                  (Jn
                    (fun K2 ↦
                      Dr w2 fun w3 ↦
                        NN x0 fun a1 ↦
                          LdI IntKind.i64 P t_int (Addr.add a1 3) w3 fun n1 ↦
                            NN x0 fun a2 ↦
                              LdI IntKind.i64 P t_int (Addr.add a2 2) w3 fun n2 ↦
                                Br (geI n1 n2) (K2 [Value.bool true] w3) (NN x0 fun a3 ↦ LdI IntKind.i64 P t_int (Addr.add a3 7) w3 fun n3 ↦ NN x0 fun a4 ↦ LdI IntKind.i64 P t_int (Addr.add a4 1) w3 fun n4 ↦ K2 [Value.bool (gtI (IntKind.wrap IntKind.i64 (n3 + Nat.cast x1l)) n4)] w3))
                    fun K3 ↦
                    ∀ (b3 : Bool) (w4 : World),
                      K3 [Value.bool b3] w4 →
                        Br b3 (R (Value.int IntKind.i64 10) w4)
                          (Cs P f_coffretref15_Sectors #[Value.slice x1 x1l x1c] w4 fun v2 w5 ↦
                            ∃ n5,
                              v2 = Value.int IntKind.i64 n5 ∧
                                Dr w5 fun w6 ↦
                                  NN x0 fun a5 ↦
                                    LdI IntKind.i64 P t_int (Addr.add a5 6) w6 fun n6 ↦
                                      NN x0 fun a6 ↦
                                        LdI IntKind.i64 P t_int (Addr.add a6 0) w6 fun n7 ↦
                                          Br (gtI (IntKind.wrap IntKind.i64 (n6 + n5)) n7) (R (Value.int IntKind.i64 7) w6)
                                            (NN x0 fun a7 ↦
                                              LdI IntKind.i64 P t_int (Addr.add a7 3) w6 fun n8 ↦
                                                NN x0 fun a8 ↦
                                                  DoU P (storeVar t_int (Addr.add a8 3) (Value.int IntKind.i64 (IntKind.wrap IntKind.i64 (n8 + 1)))) w6 fun w7 ↦
                                                    NN x0 fun a9 ↦
                                                      LdI IntKind.i64 P t_int (Addr.add a9 6) w7 fun n9 ↦
                                                        NN x0 fun a10 ↦
                                                          DoU P (storeVar t_int (Addr.add a10 6) (Value.int IntKind.i64 (IntKind.wrap IntKind.i64 (n9 + n5)))) w7 fun w8 ↦
                                                            NN x0 fun a11 ↦
                                                              LdI IntKind.i64 P t_int (Addr.add a11 7) w8 fun n10 ↦
                                                                NN x0 fun a12 ↦
                                                                  DoU P (storeVar t_int (Addr.add a12 7) (Value.int IntKind.i64 (IntKind.wrap IntKind.i64 (n10 + Nat.cast x1l)))) w8 fun w9 ↦
                                                                    DoL P (Instr.buildSlice t_sl_api_Record 0 #[]) w9 fun p0 l0 l1 w10 ↦
                                                                      NN x0 fun a13 ↦
                                                                        LdL P t_sl_api_Record (Addr.add a13 8) w10 fun p1 l2 l3 ↦
                                                                          DoL P (Builtin.append_ #[t_sl_api_Record, t_sl_api_Record] t_sl_api_Record #[Value.slice p0 l0 l1, Value.slice p1 l2 l3]) w10 fun p2 l4 l5 w11 ↦
                                                                            DoL P (Builtin.append_ #[t_sl_api_Record, t_sl_api_Record] t_sl_api_Record #[Value.slice p2 l4 l5, Value.slice x1 x1l x1c]) w11 fun p3 l6 l7 w12 ↦
                                                                              NN x0 fun a14 ↦ DoU P (storeVar t_sl_api_Record (Addr.add a14 8) (Value.slice p3 l6 l7)) w12 fun w13 ↦ R (Value.int IntKind.i64 0) w13))))
theorem ok_coffretref17_Log_Commit {w : World} {R : Value → World → Prop} (x0 : Option Addr) (x1 : Option Addr) (x1l : Nat) (x1c : Nat) (h : vc_coffretref17_Log_Commit x0 x1 x1l x1c w R) : Cs P f_coffretref17_Log_Commit #[Value.pointer x0, Value.slice x1 x1l x1c] w R := wpF_ok follows Tryd.func50 (Eq.mpr (by kernel_rfl) h)

/-- (*coffret/commit.Log).Commit -/
def vc_commit_Log_Commit (x0 : Option Addr) (x1 : Option Addr) (x1l : Nat) (x1c : Nat) (w : World) (R : Value → World → Prop) : Prop :=
  Cs P f_commit_Log_good #[Value.pointer x0, Value.slice x1 x1l x1c] w fun v0 w0 ↦
    ∃ n0,
      v0 = Value.int IntKind.i64 n0 ∧
        Br (neI n0 0) (R (Value.int IntKind.i64 n0) w0)
          (NN x0 fun a0 ↦
            LdB P t_bool (Addr.add a0 38) w0 fun b0 ↦
              Br (!b0) (R (Value.int IntKind.i64 1) w0)
                (Cs P f_seg_Size #[Value.slice x1 x1l x1c] w0 fun v1 w1 ↦
                  ∃ n1,
                    v1 = Value.int IntKind.i64 n1 ∧
                      Br (gtI n1 16384) (R (Value.int IntKind.i64 3) w1)
                        (Jn
                          (fun K0 ↦
                            Dr w1 fun w2 ↦
                              NN x0 fun a1 ↦
                                LdP P t_p_meter_Meter (Addr.add a1 2) w2 fun p0 ↦
                                  Cs P f_meter_Meter_Left #[Value.pointer p0] w2 fun v2 w3 ↦
                                    ∃ n2,
                                      v2 = Value.int IntKind.i64 n2 ∧
                                        Br (eqI n2 0) (K0 [Value.bool true] w3)
                                          (NN x0 fun a2 ↦
                                            LdP P t_p_vault_Vault (Addr.add a2 0) w3 fun p1 ↦
                                              NN x0 fun a3 ↦
                                                LdI IntKind.i64 P t_int (Addr.add a3 5) w3 fun n3 ↦
                                                  Cs P f_vault_Vault_Limit #[Value.pointer p1] w3 fun v3 w4 ↦ ∃ n4, v3 = Value.int IntKind.i64 n4 ∧ (Still P (loadVar t_int (Addr.add a3 5)) (Value.int IntKind.i64 n3) w4 ∧ True) ∧ K0 [Value.bool (gtI (Nat.cast x1l) (IntKind.wrap IntKind.i64 (n4 - n3)))] w4))
                          fun K1 ↦
                          ∀ (b1 : Bool) (w5 : World),
                            K1 [Value.bool b1] w5 →
                              Br b1 (R (Value.int IntKind.i64 10) w5)
                                (Dr w5 fun w6 ↦
                                  NN x0 fun a4 ↦
                                    LdP P t_p_chain_Area (Addr.add a4 3) w6 fun p2 ↦
                                      Cs P f_seg_Sectors #[Value.slice x1 x1l x1c] w6 fun v4 w7 ↦
                                        ∃ n5,
                                          v4 = Value.int IntKind.i64 n5 ∧
                                            (Still P (loadVar t_p_chain_Area (Addr.add a4 3)) (Value.pointer p2) w7 ∧ True) ∧
                                              Cs P f_chain_Area_Left #[Value.pointer p2] w7 fun v5 w8 ↦
                                                ∃ n6,
                                                  v5 = Value.int IntKind.i64 n6 ∧
                                                    Br (gtI n5 n6) (R (Value.int IntKind.i64 7) w8)
                                                      (Jn
                                                        (fun K2 ↦
                                                          Dr w8 fun w9 ↦
                                                            NN x0 fun a5 ↦
                                                              LdP P t_p_vault_Vault (Addr.add a5 0) w9 fun p3 ↦
                                                                NN x0 fun a6 ↦
                                                                  LdI IntKind.i64 P t_int (Addr.add a6 4) w9 fun n7 ↦
                                                                    NN x0 fun a7 ↦
                                                                      LdI IntKind.i64 P t_int (Addr.add a7 5) w9 fun n8 ↦
                                                                        NN x0 fun a8 ↦
                                                                          LdV P t_arr32_uint8 (Addr.add a8 6) w9 fun v6 ↦
                                                                            (Cs P f_seg_Pack #[Value.pointer p3, Value.int IntKind.i64 n7, Value.int IntKind.i64 n8, v6, Value.slice x1 x1l x1c] w9 fun v7 w10 ↦
                                                                                ∃ p4 l0 l1 v8 n9,
                                                                                  v7 = Value.tuple #[Value.slice p4 l0 l1, v8, Value.int IntKind.i64 n9] ∧
                                                                                    DoA P (Instr.alloc t_arr32_uint8 true (Value.tuple #[])) w10 fun a9 w11 ↦ DoU P (storeVar t_arr32_uint8 a9 v8) w11 fun w12 ↦ K2 [Value.slice p4 l0 l1, Value.pointer (some a9), Value.int IntKind.i64 n9] w12) ∧
                                                                              DoA P (Instr.alloc t_arr32_uint8 true (Value.tuple #[])) w9 fun a10 w13 ↦
                                                                                (Still P (loadVar t_arr32_uint8 (Addr.add a8 6)) v6 w13 ∧
                                                                                    Still P (loadVar t_int (Addr.add a7 5)) (Value.int IntKind.i64 n8) w13 ∧
                                                                                      Still P (loadVar t_int (Addr.add a6 4)) (Value.int IntKind.i64 n7) w13 ∧ Still P (loadVar t_p_vault_Vault (Addr.add a5 0)) (Value.pointer p3) w13 ∧ True) ∧
                                                                                  Cs P f_seg_Pack #[Value.pointer p3, Value.int IntKind.i64 n7, Value.int IntKind.i64 n8, v6, Value.slice x1 x1l x1c] w13 fun v9 w14 ↦
                                                                                    ∃ p5 l2 l3 v10 n10, v9 = Value.tuple #[Value.slice p5 l2 l3, v10, Value.int IntKind.i64 n10] ∧ DoU P (storeVar t_arr32_uint8 a10 v10) w14 fun w15 ↦ K2 [Value.slice p5 l2 l3, Value.pointer (some a10), Value.int IntKind.i64 n10] w15)
                                                        fun K3 ↦
                                                        ∀ (p6 : Option Addr) (l4 l5 : Nat) (a11 : Addr) (n11 : Int) (w16 : World),
                                                          K3 [Value.slice p6 l4 l5, Value.pointer (some a11), Value.int IntKind.i64 n11] w16 →
                                                            Jn
                                                              (fun K4 ↦
                                                                Br (eqI n11 0) (NN x0 fun a12 ↦ LdP P t_p_chain_Area (Addr.add a12 3) w16 fun p7 ↦ Cs P f_chain_Area_Add #[Value.pointer p7, Value.slice p6 l4 l5] w16 fun v11 w17 ↦ ∃ n12, v11 = Value.int IntKind.i64 n12 ∧ K4 [Value.int IntKind.i64 n12] w17)
                                                                  (K4 [Value.int IntKind.i64 n11] w16))
                                                              fun K5 ↦
                                                              ∀ (n13 : Int) (w18 : World),
                                                                K5 [Value.int IntKind.i64 n13] w18 →
                                                                  Jn
                                                                    (fun K6 ↦
                                                                      Br (eqI n13 0)
                                                                        (Dr w18 fun w19 ↦
                                                                          NN x0 fun a13 ↦
                                                                            LdI IntKind.i64 P t_int (Addr.add a13 4) w19 fun n14 ↦
                                                                              LdV P t_arr32_uint8 a11 w19 fun v12 ↦ Cs P f_commit_Log_seal #[Value.pointer x0, Value.int IntKind.i64 n14, v12] w19 fun v13 w20 ↦ ∃ n15, v13 = Value.int IntKind.i64 n15 ∧ K6 [Value.int IntKind.i64 n15] w20)
                                                                        (K6 [Value.int IntKind.i64 n13] w18))
                                                                    fun K7 ↦
                                                                    ∀ (n16 : Int) (w21 : World),
                                                                      K7 [Value.int IntKind.i64 n16] w21 →
                                                                        Br (neI n16 0) (R (Value.int IntKind.i64 n16) w21)
                                                                          (Dr w21 fun w22 ↦
                                                                            NN x0 fun a14 ↦
                                                                              LdI IntKind.i64 P t_int (Addr.add a14 5) w22 fun n17 ↦
                                                                                LdV P t_arr32_uint8 a11 w22 fun v14 ↦
                                                                                  NN x0 fun a15 ↦
                                                                                    DoU P (storeVar t_int (Addr.add a15 5) (Value.int IntKind.i64 (IntKind.wrap IntKind.i64 (n17 + Nat.cast x1l)))) w22 fun w23 ↦
                                                                                      (Still P (loadVar t_arr32_uint8 a11) v14 w23 ∧ True) ∧ NN x0 fun a16 ↦ DoU P (storeVar t_arr32_uint8 (Addr.add a16 6) v14) w23 fun w24 ↦ R (Value.int IntKind.i64 0) w24))))))
theorem ok_commit_Log_Commit {w : World} {R : Value → World → Prop} (x0 : Option Addr) (x1 : Option Addr) (x1l : Nat) (x1c : Nat) (h : vc_commit_Log_Commit x0 x1 x1l x1c w R) : Cs P f_commit_Log_Commit #[Value.pointer x0, Value.slice x1 x1l x1c] w R := wpF_ok follows Tryd.func51 (Eq.mpr (by kernel_rfl) h)

/-- coffret/commit.Open -/
def vc_commit_Open (x0 : Option Addr) (x1 : Option Addr) (x2 : Option Addr) (w : World) (R : Value → World → Prop) : Prop :=
  Jn (fun K0 ↦ Br (Option.isNone x0) (K0 [Value.bool true] w) (Br (Option.isNone x1) (K0 [Value.bool true] w) (K0 [Value.bool (Option.isNone x2)] w))) fun K1 ↦
    ∀ (b0 : Bool) (w0 : World),
      K1 [Value.bool b0] w0 →
        Br b0 (R (Value.tuple #[Value.pointer none, Value.slice none 0 0, Value.int IntKind.i64 2]) w0)
          (Cs P f_meter_Meter_Get #[Value.pointer x2] w0 fun v0 w1 ↦
            ∃ v1 n0,
              v0 = Value.tuple #[v1, Value.int IntKind.i64 n0] ∧
                DoA P (Instr.alloc t_meter_Value true (Value.tuple #[])) w1 fun a0 w2 ↦
                  DoU P (storeVar t_meter_Value a0 v1) w2 fun w3 ↦
                    Br (neI n0 0) (R (Value.tuple #[Value.pointer none, Value.slice none 0 0, Value.int IntKind.i64 n0]) w3)
                      (Dr w3 fun w4 ↦
                        LdI IntKind.i64 P t_int (Addr.add a0 1) w4 fun n1 ↦
                          LdI IntKind.i64 P t_int (Addr.add a0 1) w4 fun n2 ↦
                            LdI IntKind.i64 P t_int (Addr.add a0 1) w4 fun n3 ↦
                              Cs P f_chain_Half #[Value.pointer x1, Value.int IntKind.i64 n1] w4 fun v2 w5 ↦
                                ∃ p0,
                                  v2 = Value.pointer p0 ∧
                                    (Still P (loadVar t_int (Addr.add a0 1)) (Value.int IntKind.i64 n3) w5 ∧ Still P (loadVar t_int (Addr.add a0 1)) (Value.int IntKind.i64 n2) w5 ∧ True) ∧
                                      Cs P f_seg_Start #[Value.pointer x0, Value.int IntKind.i64 n3] w5 fun v3 w6 ↦
                                        ∃ v4,
                                          v3 = v4 ∧
                                            (Still P (loadVar t_int (Addr.add a0 1)) (Value.int IntKind.i64 n2) w6 ∧ True) ∧
                                              RdV P (Instr.build t_commit_Log #[(0, Value.pointer x0), (1, Value.pointer x1), (2, Value.pointer x2), (3, Value.pointer p0), (4, Value.int IntKind.i64 n2), (6, v4)]) w6 fun v5 ↦
                                                DoA P (Instr.box t_commit_Log v5) w6 fun a1 w7 ↦
                                                  (Still P (loadVar t_int (Addr.add a0 1)) (Value.int IntKind.i64 n2) w7 ∧ True) ∧
                                                    Lp [Value.slice none 0 0] w7 fun K2 ↦
                                                      ∀ (p1 : Option Addr) (l0 l1 l2 : Nat) (w8 : World),
                                                        K2 l2 [Value.slice p1 l0 l1] w8 →
                                                          Jn
                                                            (fun K3 ↦
                                                              Dr w8 fun w9 ↦
                                                                LdI IntKind.i64 P t_int (Addr.add a0 0) w9 fun n4 ↦
                                                                  Br (gtI n4 0)
                                                                    (NN (some a1) fun a2 ↦
                                                                      LdV P t_arr32_uint8 (Addr.add a2 6) w9 fun v6 ↦ LdV P t_arr32_uint8 (Addr.add a0 2) w9 fun v7 ↦ RdB P (binS BinOp.neq t_arr32_uint8 (Operand.tmp 57) (Operand.tmp 59) v6 v7) w9 fun b1 ↦ K3 [Value.bool b1] w9)
                                                                    (K3 [Value.bool false] w9))
                                                            fun K4 ↦
                                                            ∀ (b2 : Bool) (w10 : World),
                                                              K4 [Value.bool b2] w10 →
                                                                Br b2
                                                                  (NN (some a1) fun a3 ↦
                                                                    LdP P t_p_chain_Area (Addr.add a3 3) w10 fun p2 ↦
                                                                      Cs P f_chain_Area_Next #[Value.pointer p2] w10 fun v8 w11 ↦
                                                                        ∃ p3 l3 l4 n5,
                                                                          v8 = Value.tuple #[Value.slice p3 l3 l4, Value.int IntKind.i64 n5] ∧
                                                                            Br (neI n5 0) (R (Value.tuple #[Value.pointer none, Value.slice none 0 0, Value.int IntKind.i64 n5]) w11)
                                                                              (Jn
                                                                                (fun K5 ↦
                                                                                  Dr w11 fun w12 ↦
                                                                                    NN (some a1) fun a4 ↦
                                                                                      LdI IntKind.i64 P t_int (Addr.add a4 4) w12 fun n6 ↦
                                                                                        NN (some a1) fun a5 ↦
                                                                                          LdI IntKind.i64 P t_int (Addr.add a5 5) w12 fun n7 ↦
                                                                                            NN (some a1) fun a6 ↦
                                                                                              LdV P t_arr32_uint8 (Addr.add a6 6) w12 fun v9 ↦
                                                                                                (Cs P f_seg_Unpack #[Value.pointer x0, Value.int IntKind.i64 n6, Value.int IntKind.i64 n7, v9, Value.slice p3 l3 l4] w12 fun v10 w13 ↦
                                                                                                    ∃ p4 l5 l6 v11 n8,
                                                                                                      v10 = Value.tuple #[Value.slice p4 l5 l6, v11, Value.int IntKind.i64 n8] ∧
                                                                                                        DoA P (Instr.alloc t_arr32_uint8 true (Value.tuple #[])) w13 fun a7 w14 ↦ DoU P (storeVar t_arr32_uint8 a7 v11) w14 fun w15 ↦ K5 [Value.int IntKind.i64 n8, Value.slice p4 l5 l6, Value.pointer (some a7)] w15) ∧
                                                                                                  DoA P (Instr.alloc t_arr32_uint8 true (Value.tuple #[])) w12 fun a8 w16 ↦
                                                                                                    (Still P (loadVar t_arr32_uint8 (Addr.add a6 6)) v9 w16 ∧
                                                                                                        Still P (loadVar t_int (Addr.add a5 5)) (Value.int IntKind.i64 n7) w16 ∧ Still P (loadVar t_int (Addr.add a4 4)) (Value.int IntKind.i64 n6) w16 ∧ True) ∧
                                                                                                      Cs P f_seg_Unpack #[Value.pointer x0, Value.int IntKind.i64 n6, Value.int IntKind.i64 n7, v9, Value.slice p3 l3 l4] w16 fun v12 w17 ↦
                                                                                                        ∃ p5 l7 l8 v13 n9, v12 = Value.tuple #[Value.slice p5 l7 l8, v13, Value.int IntKind.i64 n9] ∧ DoU P (storeVar t_arr32_uint8 a8 v13) w17 fun w18 ↦ K5 [Value.int IntKind.i64 n9, Value.slice p5 l7 l8, Value.pointer (some a8)] w18)
                                                                                fun K6 ↦
                                                                                ∀ (n10 : Int) (p6 : Option Addr) (l9 l10 : Nat) (a9 : Addr) (w19 : World),
                                                                                  K6 [Value.int IntKind.i64 n10, Value.slice p6 l9 l10, Value.pointer (some a9)] w19 →
                                                                                    Br (neI n10 0) (R (Value.tuple #[Value.pointer none, Value.slice none 0 0, Value.int IntKind.i64 11]) w19)
                                                                                      (Dr w19 fun w20 ↦
                                                                                        LdV P t_arr32_uint8 a9 w20 fun v14 ↦
                                                                                          NN (some a1) fun a10 ↦
                                                                                            LdI IntKind.i64 P t_int (Addr.add a10 5) w20 fun n11 ↦
                                                                                              DoL P (Builtin.append_ #[t_sl_api_Record, t_sl_api_Record] t_sl_api_Record #[Value.slice p1 l0 l1, Value.slice p6 l9 l10]) w20 fun p7 l11 l12 w21 ↦
                                                                                                (Still P (loadVar t_int (Addr.add a10 5)) (Value.int IntKind.i64 n11) w21 ∧ Still P (loadVar t_arr32_uint8 a9) v14 w21 ∧ True) ∧
                                                                                                  NN (some a1) fun a11 ↦
                                                                                                    DoU P (storeVar t_arr32_uint8 (Addr.add a11 6) v14) w21 fun w22 ↦
                                                                                                      NN (some a1) fun a12 ↦ DoU P (storeVar t_int (Addr.add a12 5) (Value.int IntKind.i64 (IntKind.wrap IntKind.i64 (n11 + Nat.cast l9)))) w22 fun w23 ↦ Nx K2 l2 [Value.slice p7 l11 l12] w23)))
                                                                  (R (Value.tuple #[Value.pointer (some a1), Value.slice p1 l0 l1, Value.int IntKind.i64 0]) w10)))
theorem ok_commit_Open {w : World} {R : Value → World → Prop} (x0 : Option Addr) (x1 : Option Addr) (x2 : Option Addr) (h : vc_commit_Open x0 x1 x2 w R) : Cs P f_commit_Open #[Value.pointer x0, Value.pointer x1, Value.pointer x2] w R := wpF_ok follows Tryd.func52 (Eq.mpr (by kernel_rfl) h)

/-- coffret/coffretref13.in -/
def vc_coffretref13_in (x0 : Int) (x1 : Int) (x2 : Int) (w : World) (R : Value → World → Prop) : Prop :=
  Jn (fun K0 ↦ Br (geI x0 x1) (K0 [Value.bool (leI x0 x2)] w) (K0 [Value.bool false] w)) fun K1 ↦ ∀ (b0 : Bool) (w0 : World), K1 [Value.bool b0] w0 → R (Value.bool b0) w0
theorem ok_coffretref13_in {w : World} {R : Value → World → Prop} (x0 : Int) (x1 : Int) (x2 : Int) (h : vc_coffretref13_in x0 x1 x2 w R) : Cs P f_coffretref13_in #[Value.int IntKind.i64 x0, Value.int IntKind.i64 x1, Value.int IntKind.i64 x2] w R := wpF_ok follows Tryd.func53 (Eq.mpr (by kernel_rfl) h)

/-- (*coffret/disk.Disk).Down -/
def vc_disk_Disk_Down (x0 : Option Addr) (w : World) (R : Value → World → Prop) : Prop :=
  Jn (fun K0 ↦ Br (!Option.isNone x0) (NN x0 fun a0 ↦ LdB P t_bool (Addr.add a0 3) w fun b0 ↦ K0 [Value.bool b0] w) (K0 [Value.bool false] w)) fun K1 ↦ ∀ (b1 : Bool) (w0 : World), K1 [Value.bool b1] w0 → R (Value.bool b1) w0
theorem ok_disk_Disk_Down {w : World} {R : Value → World → Prop} (x0 : Option Addr) (h : vc_disk_Disk_Down x0 w R) : Cs P f_disk_Disk_Down #[Value.pointer x0] w R := wpF_ok follows Tryd.func54 (Eq.mpr (by kernel_rfl) h)

/-- coffret/record.Good -/
def vc_record_Good (x0 : Value) (w : World) (R : Value → World → Prop) : Prop :=
  DoA P (Instr.box t_api_Record x0) w fun a0 w0 ↦
    LdI IntKind.i64 P t_int (Addr.add a0 0) w0 fun n0 ↦
      Cs P f_record_of #[Value.int IntKind.i64 n0] w0 fun v0 w1 ↦
        ∃ v1 b0,
          v0 = Value.tuple #[v1, Value.bool b0] ∧
            DoA P (Instr.alloc t_record_form true (Value.tuple #[])) w1 fun a1 w2 ↦
              DoU P (storeVar t_record_form a1 v1) w2 fun w3 ↦
                Jn
                  (fun K0 ↦
                    Br b0
                      (LdV P t_record_span (Addr.add a1 0) w3 fun v2 ↦
                        LdI IntKind.i64 P t_int (Addr.add a0 1) w3 fun n1 ↦
                          Cs P f_record_span_in #[v2, Value.int IntKind.i64 n1] w3 fun v3 w4 ↦
                            ∃ b1,
                              v3 = Value.bool b1 ∧
                                Br b1
                                  (LdV P t_record_span (Addr.add a1 2) w4 fun v4 ↦
                                    LdI IntKind.i64 P t_int (Addr.add a0 2) w4 fun n2 ↦
                                      Cs P f_record_span_in #[v4, Value.int IntKind.i64 n2] w4 fun v5 w5 ↦
                                        ∃ b2,
                                          v5 = Value.bool b2 ∧
                                            Br b2
                                              (LdV P t_record_span (Addr.add a1 4) w5 fun v6 ↦
                                                LdI IntKind.i64 P t_int (Addr.add a0 3) w5 fun n3 ↦
                                                  Cs P f_record_span_in #[v6, Value.int IntKind.i64 n3] w5 fun v7 w6 ↦
                                                    ∃ b3,
                                                      v7 = Value.bool b3 ∧
                                                        Br b3
                                                          (LdV P t_record_span (Addr.add a1 6) w6 fun v8 ↦
                                                            LdI IntKind.i64 P t_int (Addr.add a0 4) w6 fun n4 ↦
                                                              Cs P f_record_span_in #[v8, Value.int IntKind.i64 n4] w6 fun v9 w7 ↦
                                                                ∃ b4,
                                                                  v9 = Value.bool b4 ∧
                                                                    Br b4
                                                                      (LdS P t_string (Addr.add a0 5) w7 fun s0 ↦
                                                                        Br (leI (Nat.cast (ByteArray.size s0)) 512) (LdB P t_bool (Addr.add a1 8) w7 fun b5 ↦ Br b5 (K0 [Value.bool true] w7) (LdS P t_string (Addr.add a0 5) w7 fun s1 ↦ K0 [Value.bool (eqS s1 (ByteArray.mk #[]))] w7))
                                                                          (K0 [Value.bool false] w7))
                                                                      (K0 [Value.bool false] w7))
                                                          (K0 [Value.bool false] w6))
                                              (K0 [Value.bool false] w5))
                                  (K0 [Value.bool false] w4))
                      (K0 [Value.bool false] w3))
                  fun K1 ↦ ∀ (b6 : Bool) (w8 : World), K1 [Value.bool b6] w8 → R (Value.bool b6) w8
theorem ok_record_Good {w : World} {R : Value → World → Prop} (x0 : Value) (h : vc_record_Good x0 w R) : Cs P f_record_Good #[x0] w R := wpF_ok follows Tryd.func55 (Eq.mpr (by kernel_rfl) h)

/-- coffret/record.Size -/
def vc_record_Size (x0 : Option Addr) (x0l : Nat) (x0c : Nat) (w : World) (R : Value → World → Prop) : Prop :=
  Lp [Value.int IntKind.i64 0, Value.int IntKind.i64 0] w fun K0 ↦
    ∀ (n0 n1 : Int) (l0 : Nat) (w0 : World),
      K0 l0 [Value.int IntKind.i64 n0, Value.int IntKind.i64 n1] w0 →
        Br (ltI n1 (Nat.cast x0l))
          (Ix x0 x0l n1 6 fun a0 ↦
            LdV P t_api_Record a0 w0 fun v0 ↦
              DoA P (Instr.alloc t_api_Record true (Value.tuple #[])) w0 fun a1 w1 ↦
                DoU P (storeVar t_api_Record a1 v0) w1 fun w2 ↦ LdS P t_string (Addr.add a1 5) w2 fun s0 ↦ Nx K0 l0 [Value.int IntKind.i64 (IntKind.wrap IntKind.i64 (n0 + IntKind.wrap IntKind.i64 (36 + Nat.cast (ByteArray.size s0)))), Value.int IntKind.i64 (IntKind.wrap IntKind.i64 (n1 + 1))] w2)
          (R (Value.int IntKind.i64 n0) w0)
theorem ok_record_Size {w : World} {R : Value → World → Prop} (x0 : Option Addr) (x0l : Nat) (x0c : Nat) (h : vc_record_Size x0 x0l x0c w R) : Cs P f_record_Size #[Value.slice x0 x0l x0c] w R := wpF_ok follows Tryd.func56 (Eq.mpr (by kernel_rfl) h)

/-- coffret/seg.Size -/
def vc_seg_Size (x0 : Option Addr) (x0l : Nat) (x0c : Nat) (w : World) (R : Value → World → Prop) : Prop :=
  Cs P f_record_Size #[Value.slice x0 x0l x0c] w fun v0 w0 ↦ ∃ n0, v0 = Value.int IntKind.i64 n0 ∧ R (Value.int IntKind.i64 (IntKind.wrap IntKind.i64 (IntKind.wrap IntKind.i64 (48 + n0) + IntKind.wrap IntKind.i64 (27 * Nat.cast x0l)))) w0
theorem ok_seg_Size {w : World} {R : Value → World → Prop} (x0 : Option Addr) (x0l : Nat) (x0c : Nat) (h : vc_seg_Size x0 x0l x0c w R) : Cs P f_seg_Size #[Value.slice x0 x0l x0c] w R := wpF_ok follows Tryd.func57 (Eq.mpr (by kernel_rfl) h)

/-- (*coffret/disk.Disk).Size -/
def vc_disk_Disk_Size (x0 : Option Addr) (w : World) (R : Value → World → Prop) : Prop :=
  Br (Option.isNone x0) (R (Value.int IntKind.i64 0) w) (NN x0 fun a0 ↦ LdL P t_sl_disk_sector (Addr.add a0 0) w fun p0 l0 l1 ↦ R (Value.int IntKind.i64 (Nat.cast l0)) w)
theorem ok_disk_Disk_Size {w : World} {R : Value → World → Prop} (x0 : Option Addr) (h : vc_disk_Disk_Size x0 w R) : Cs P f_disk_Disk_Size #[Value.pointer x0] w R := wpF_ok follows Tryd.func58 (Eq.mpr (by kernel_rfl) h)

/-- (*coffret/code.Writer).Text -/
def vc_code_Writer_Text (x0 : Option Addr) (x1 : Option Addr) (x1l : Nat) (x1c : Nat) (w : World) (R : Value → World → Prop) : Prop :=
  Lp [Value.int IntKind.i64 0] w fun K0 ↦
    ∀ (n0 : Int) (l0 : Nat) (w0 : World),
      K0 l0 [Value.int IntKind.i64 n0] w0 →
        Br (ltI n0 (Nat.cast x1l))
          (Ix x1 x1l n0 1 fun a0 ↦
            LdS P t_string a0 w0 fun s0 ↦
              Jn
                (fun K1 ↦
                  Br (ltI (Nat.cast (ByteArray.size s0)) 16777216)
                    (Nn 8 ∧
                      Nn 16 ∧
                        DoL P
                          (Instr.buildSlice t_sl_uint8 3
                            #[(0, Value.int IntKind.u8 (IntKind.wrap IntKind.u8 (Nat.cast (ByteArray.size s0)))), (1, Value.int IntKind.u8 (IntKind.wrap IntKind.u8 (Int.fdiv (Nat.cast (ByteArray.size s0)) (2 ^ 8)))),
                              (2, Value.int IntKind.u8 (IntKind.wrap IntKind.u8 (Int.fdiv (Nat.cast (ByteArray.size s0)) (2 ^ 16))))])
                          w0 fun p0 l1 l2 w1 ↦ Cs P f_code_Writer_Byte #[Value.pointer x0, Value.slice p0 l1 l2] w1 fun v0 w2 ↦ v0 = Value.tuple #[] ∧ DoL P (convert t_string t_sl_uint8 (Value.string s0)) w2 fun p1 l3 l4 w3 ↦ Cs P f_code_Writer_Byte #[Value.pointer x0, Value.slice p1 l3 l4] w3 fun v1 w4 ↦ v1 = Value.tuple #[] ∧ K1 [] w4)
                    (K1 [] w0))
                fun K2 ↦ ∀ (w5 : World), K2 [] w5 → Nx K0 l0 [Value.int IntKind.i64 (IntKind.wrap IntKind.i64 (n0 + 1))] w5)
          (R (Value.tuple #[]) w0)
theorem ok_code_Writer_Text {w : World} {R : Value → World → Prop} (x0 : Option Addr) (x1 : Option Addr) (x1l : Nat) (x1c : Nat) (h : vc_code_Writer_Text x0 x1 x1l x1c w R) : Cs P f_code_Writer_Text #[Value.pointer x0, Value.slice x1 x1l x1c] w R := wpF_ok follows Tryd.func59 (Eq.mpr (by kernel_rfl) h)

/-- (*coffret/code.Writer).Num -/
def vc_code_Writer_Num (x0 : Option Addr) (x1 : Option Addr) (x1l : Nat) (x1c : Nat) (w : World) (R : Value → World → Prop) : Prop :=
  Lp [Value.int IntKind.i64 0] w fun K0 ↦
    ∀ (n0 : Int) (l0 : Nat) (w0 : World),
      K0 l0 [Value.int IntKind.i64 n0] w0 →
        Br (ltI n0 (Nat.cast x1l))
          (Ix x1 x1l n0 1 fun a0 ↦
            LdI IntKind.i64 P t_int a0 w0 fun n1 ↦
              Lp [Value.int IntKind.i64 0] w0 fun K1 ↦
                ∀ (n2 : Int) (l1 : Nat) (w1 : World),
                  K1 l1 [Value.int IntKind.i64 n2] w1 →
                    Br (ltI n2 8)
                      (Nn (IntKind.wrap IntKind.i64 (8 * n2)) ∧
                        DoL P (Instr.buildSlice t_sl_uint8 1 #[(0, Value.int IntKind.u8 (IntKind.wrap IntKind.u8 (Int.fdiv (IntKind.wrap IntKind.u64 n1) (2 ^ min (Int.toNat (IntKind.wrap IntKind.i64 (8 * n2))) 64))))]) w1 fun p0 l2 l3 w2 ↦
                          Cs P f_code_Writer_Byte #[Value.pointer x0, Value.slice p0 l2 l3] w2 fun v0 w3 ↦ v0 = Value.tuple #[] ∧ Nx K1 l1 [Value.int IntKind.i64 (IntKind.wrap IntKind.i64 (n2 + 1))] w3)
                      (Nx K0 l0 [Value.int IntKind.i64 (IntKind.wrap IntKind.i64 (n0 + 1))] w1))
          (R (Value.tuple #[]) w0)
theorem ok_code_Writer_Num {w : World} {R : Value → World → Prop} (x0 : Option Addr) (x1 : Option Addr) (x1l : Nat) (x1c : Nat) (h : vc_code_Writer_Num x0 x1 x1l x1c w R) : Cs P f_code_Writer_Num #[Value.pointer x0, Value.slice x1 x1l x1c] w R := wpF_ok follows Tryd.func60 (Eq.mpr (by kernel_rfl) h)

end Go.Dv

set_option maxRecDepth 100000
namespace Go.Dv
open Go Go.Sh Go.Proofs

/-- (*coffret/vault.Vault).Hash -/
def vc_vault_Vault_Hash (x0 : Option Addr) (x1 : Option Addr) (x1l : Nat) (x1c : Nat) (w : World) (R : Value → World → Prop) : Prop :=
  DoA P (Instr.alloc t_arr32_uint8 true (Value.tuple #[])) w fun a0 w0 ↦
    Br (Option.isNone x0) (DoV P (Instr.build t_arr32_uint8 #[]) w0 fun v0 w1 ↦ DoU P (storeVar t_arr32_uint8 a0 v0) w1 fun w2 ↦ LdV P t_arr32_uint8 a0 w2 fun v1 ↦ R v1 w2)
      (NN x0 fun a1 ↦
        LdF P t_vault_backend (Addr.add a1 0) w0 fun h0 v2 ↦
          ∃ h1 c0, Sem.run P (callMethod (Value.iface h0 v2) "Hash" #[Value.slice x1 x1l x1c]) w0 = Result.ok (Next.enter h1 c0) w0 ∧ Cs P h1 c0 w0 fun v3 w3 ↦ ∃ v4, v3 = v4 ∧ DoU P (storeVar t_arr32_uint8 a0 v4) w3 fun w4 ↦ LdV P t_arr32_uint8 a0 w4 fun v5 ↦ R v5 w4)
theorem ok_vault_Vault_Hash {w : World} {R : Value → World → Prop} (x0 : Option Addr) (x1 : Option Addr) (x1l : Nat) (x1c : Nat) (h : vc_vault_Vault_Hash x0 x1 x1l x1c w R) : Cs P f_vault_Vault_Hash #[Value.pointer x0, Value.slice x1 x1l x1c] w R := wpF_ok follows Tryd.func61 (Eq.mpr (by kernel_rfl) h)

/-- (*coffret/code.Writer).Bytes -/
def vc_code_Writer_Bytes (x0 : Option Addr) (w : World) (R : Value → World → Prop) : Prop :=
  Br (Option.isNone x0) (R (Value.slice none 0 0) w)
    (NN x0 fun a0 ↦ LdL P t_sl_uint8 (Addr.add a0 0) w fun p0 l0 l1 ↦ DoL P (Builtin.append_ #[t_sl_uint8, t_sl_uint8] t_sl_uint8 #[Value.slice none 0 0, Value.slice p0 l0 l1]) w fun p1 l2 l3 w0 ↦ R (Value.slice p1 l2 l3) w0)
theorem ok_code_Writer_Bytes {w : World} {R : Value → World → Prop} (x0 : Option Addr) (h : vc_code_Writer_Bytes x0 w R) : Cs P f_code_Writer_Bytes #[Value.pointer x0] w R := wpF_ok follows Tryd.func62 (Eq.mpr (by kernel_rfl) h)

/-- coffret/record.Put -/
def vc_record_Put (x0 : Value) (w : World) (R : Value → World → Prop) : Prop :=
  DoA P (Instr.box t_api_Record x0) w fun a0 w0 ↦
    LdV P t_api_Record a0 w0 fun v0 ↦
      Cs P f_record_Good #[v0] w0 fun v1 w1 ↦
        ∃ b0,
          v1 = Value.bool b0 ∧
            Br (!b0) (R (Value.tuple #[Value.slice none 0 0, Value.int IntKind.i64 1]) w1)
              (DoV P (Instr.build t_code_Writer #[]) w1 fun v2 w2 ↦
                DoA P (Instr.box t_code_Writer v2) w2 fun a1 w3 ↦
                  LdI IntKind.i64 P t_int (Addr.add a0 0) w3 fun n0 ↦
                    DoL P (Instr.buildSlice t_sl_uint8 1 #[(0, Value.int IntKind.u8 (IntKind.wrap IntKind.u8 n0))]) w3 fun p0 l0 l1 w4 ↦
                      Cs P f_code_Writer_Byte #[Value.pointer (some a1), Value.slice p0 l0 l1] w4 fun v3 w5 ↦
                        v3 = Value.tuple #[] ∧
                          LdI IntKind.i64 P t_int (Addr.add a0 1) w5 fun n1 ↦
                            LdI IntKind.i64 P t_int (Addr.add a0 2) w5 fun n2 ↦
                              LdI IntKind.i64 P t_int (Addr.add a0 3) w5 fun n3 ↦
                                LdI IntKind.i64 P t_int (Addr.add a0 4) w5 fun n4 ↦
                                  DoL P (Instr.buildSlice t_sl_int 4 #[(0, Value.int IntKind.i64 n1), (1, Value.int IntKind.i64 n2), (2, Value.int IntKind.i64 n3), (3, Value.int IntKind.i64 n4)]) w5 fun p1 l2 l3 w6 ↦
                                    Cs P f_code_Writer_Num #[Value.pointer (some a1), Value.slice p1 l2 l3] w6 fun v4 w7 ↦
                                      v4 = Value.tuple #[] ∧
                                        LdS P t_string (Addr.add a0 5) w7 fun s0 ↦
                                          DoL P (Instr.buildSlice t_sl_string 1 #[(0, Value.string s0)]) w7 fun p2 l4 l5 w8 ↦
                                            Cs P f_code_Writer_Text #[Value.pointer (some a1), Value.slice p2 l4 l5] w8 fun v5 w9 ↦ v5 = Value.tuple #[] ∧ Cs P f_code_Writer_Bytes #[Value.pointer (some a1)] w9 fun v6 w10 ↦ ∃ p3 l6 l7, v6 = Value.slice p3 l6 l7 ∧ R (Value.tuple #[Value.slice p3 l6 l7, Value.int IntKind.i64 0]) w10)
theorem ok_record_Put {w : World} {R : Value → World → Prop} (x0 : Value) (h : vc_record_Put x0 w R) : Cs P f_record_Put #[x0] w R := wpF_ok follows Tryd.func63 (Eq.mpr (by kernel_rfl) h)

/-- (*coffret/vault.Vault).Seal -/
def vc_vault_Vault_Seal (x0 : Option Addr) (x1 : Value) (x2 : Int) (x3 : Int) (x4 : Option Addr) (x4l : Nat) (x4c : Nat) (x5 : Option Addr) (x5l : Nat) (x5c : Nat) (w : World) (R : Value → World → Prop) : Prop :=
  DoA P (Instr.box t_vault_Key x1) w fun a0 w0 ↦
    Cs P f_vault_Vault_may #[Value.pointer x0, Value.int IntKind.i64 x2, Value.int IntKind.i64 x3] w0 fun v0 w1 ↦
      ∃ n0,
        v0 = Value.int IntKind.i64 n0 ∧
          Br (neI n0 0) (R (Value.tuple #[Value.slice none 0 0, Value.int IntKind.i64 n0]) w1)
            (Cs P f_vault_nonce #[Value.int IntKind.i64 x2, Value.int IntKind.i64 x3] w1 fun v1 w2 ↦
              ∃ v2,
                v1 = v2 ∧
                  DoA P (Instr.alloc t_arr12_uint8 true (Value.tuple #[])) w2 fun a1 w3 ↦
                    DoU P (storeVar t_arr12_uint8 a1 v2) w3 fun w4 ↦
                      Dr w4 fun w5 ↦
                        NN x0 fun a2 ↦
                          LdF P t_vault_backend (Addr.add a2 0) w5 fun h0 v3 ↦
                            RdL P (Instr.sliceAt t_vault_Key (Value.pointer (some a0)) none none none) w5 fun p0 l0 l1 ↦
                              RdL P (Instr.sliceAt t_arr12_uint8 (Value.pointer (some a1)) none none none) w5 fun p1 l2 l3 ↦
                                ∃ h1 c0,
                                  Sem.run P (callMethod (Value.iface h0 v3) "Seal" #[Value.slice p0 l0 l1, Value.slice p1 l2 l3, Value.slice x4 x4l x4c, Value.slice x5 x5l x5c]) w5 = Result.ok (Next.enter h1 c0) w5 ∧
                                    Cs P h1 c0 w5 fun v4 w6 ↦
                                      ∃ p2 l4 l5 n1,
                                        v4 = Value.tuple #[Value.slice p2 l4 l5, Value.int IntKind.i64 n1] ∧
                                          (Still P (loadVar t_vault_backend (Addr.add a2 0)) (Value.iface h0 v3) w6 ∧ True) ∧
                                            Br (neI n1 0) (R (Value.tuple #[Value.slice none 0 0, Value.int IntKind.i64 n1]) w6)
                                              (DoS P (convert t_sl_uint8 t_string (Value.slice x4 x4l x4c)) w6 fun s0 w7 ↦
                                                Dr w7 fun w8 ↦
                                                  NN x0 fun a3 ↦
                                                    LdM P t_map_vault_place_string (Addr.add a3 34) w8 fun p3 ↦
                                                      LdV P t_vault_Key a0 w8 fun v5 ↦
                                                        LdV P t_arr12_uint8 a1 w8 fun v6 ↦
                                                          RdV P (Instr.build t_vault_place #[(0, v5), (1, v6)]) w8 fun v7 ↦
                                                            ∃ s1 b0,
                                                              Sem.run P (Instr.lookup t_map_vault_place_string (Value.map p3) v7 true) w8 = Result.ok (Value.tuple #[Value.string s1, Value.bool b0]) w8 ∧
                                                                Jn (fun K0 ↦ Br b0 (K0 [Value.bool !eqS s1 s0] w8) (K0 [Value.bool false] w8)) fun K1 ↦
                                                                  ∀ (b1 : Bool) (w9 : World),
                                                                    K1 [Value.bool b1] w9 →
                                                                      Jn
                                                                        (fun K2 ↦
                                                                          Br b1 (NN x0 fun a4 ↦ LdI IntKind.i64 P t_int (Addr.add a4 35) w9 fun n2 ↦ NN x0 fun a5 ↦ DoU P (storeVar t_int (Addr.add a5 35) (Value.int IntKind.i64 (IntKind.wrap IntKind.i64 (n2 + 1)))) w9 fun w10 ↦ K2 [] w10)
                                                                            (K2 [] w9))
                                                                        fun K3 ↦
                                                                        ∀ (w11 : World),
                                                                          K3 [] w11 →
                                                                            Dr w11 fun w12 ↦
                                                                              NN x0 fun a6 ↦
                                                                                LdM P t_map_vault_place_string (Addr.add a6 34) w12 fun p4 ↦
                                                                                  LdV P t_vault_Key a0 w12 fun v8 ↦
                                                                                    LdV P t_arr12_uint8 a1 w12 fun v9 ↦
                                                                                      RdV P (Instr.build t_vault_place #[(0, v8), (1, v9)]) w12 fun v10 ↦ DoU P (Instr.mapUpdate t_map_vault_place_string (Value.map p4) v10 (Value.string s0)) w12 fun w13 ↦ R (Value.tuple #[Value.slice p2 l4 l5, Value.int IntKind.i64 0]) w13))
theorem ok_vault_Vault_Seal {w : World} {R : Value → World → Prop} (x0 : Option Addr) (x1 : Value) (x2 : Int) (x3 : Int) (x4 : Option Addr) (x4l : Nat) (x4c : Nat) (x5 : Option Addr) (x5l : Nat) (x5c : Nat) (h : vc_vault_Vault_Seal x0 x1 x2 x3 x4 x4l x4c x5 x5l x5c w R) : Cs P f_vault_Vault_Seal #[Value.pointer x0, x1, Value.int IntKind.i64 x2, Value.int IntKind.i64 x3, Value.slice x4 x4l x4c, Value.slice x5 x5l x5c] w R := wpF_ok follows Tryd.func64 (Eq.mpr (by kernel_rfl) h)

/-- coffret/seg.Key -/
def vc_seg_Key (x0 : Option Addr) (x1 : Int) (w : World) (R : Value → World → Prop) : Prop :=
  DoA P (Instr.alloc t_vault_Key true (Value.tuple #[])) w fun a0 w0 ↦
    DoL P (Instr.buildSlice t_sl_int 1 #[(0, Value.int IntKind.i64 x1)]) w0 fun p0 l0 l1 w1 ↦
      Cs P f_vault_Vault_Key #[Value.pointer x0, Value.string (ByteArray.mk #[113, 117, 101, 117, 101]), Value.slice p0 l0 l1] w1 fun v0 w2 ↦ ∃ v1, v0 = v1 ∧ DoU P (storeVar t_vault_Key a0 v1) w2 fun w3 ↦ LdV P t_vault_Key a0 w3 fun v2 ↦ R v2 w3
theorem ok_seg_Key {w : World} {R : Value → World → Prop} (x0 : Option Addr) (x1 : Int) (h : vc_seg_Key x0 x1 w R) : Cs P f_seg_Key #[Value.pointer x0, Value.int IntKind.i64 x1] w R := wpF_ok follows Tryd.func65 (Eq.mpr (by kernel_rfl) h)

/-- coffret/seg.place -/
def vc_seg_place (x0 : Value) (x1 : Int) (x2 : Int) (w : World) (R : Value → World → Prop) : Prop :=
  DoA P (Instr.box t_arr32_uint8 x0) w fun a0 w0 ↦
    DoV P (Instr.build t_code_Writer #[]) w0 fun v0 w1 ↦
      DoA P (Instr.box t_code_Writer v0) w1 fun a1 w2 ↦
        DoL P (Instr.sliceAt t_arr32_uint8 (Value.pointer (some a0)) none none none) w2 fun p0 l0 l1 w3 ↦
          Cs P f_code_Writer_Byte #[Value.pointer (some a1), Value.slice p0 l0 l1] w3 fun v1 w4 ↦
            v1 = Value.tuple #[] ∧
              DoL P (Instr.buildSlice t_sl_int 2 #[(0, Value.int IntKind.i64 x1), (1, Value.int IntKind.i64 x2)]) w4 fun p1 l2 l3 w5 ↦
                Cs P f_code_Writer_Num #[Value.pointer (some a1), Value.slice p1 l2 l3] w5 fun v2 w6 ↦ v2 = Value.tuple #[] ∧ Cs P f_code_Writer_Bytes #[Value.pointer (some a1)] w6 fun v3 w7 ↦ ∃ p2 l4 l5, v3 = Value.slice p2 l4 l5 ∧ R (Value.slice p2 l4 l5) w7
theorem ok_seg_place {w : World} {R : Value → World → Prop} (x0 : Value) (x1 : Int) (x2 : Int) (h : vc_seg_place x0 x1 x2 w R) : Cs P f_seg_place #[x0, Value.int IntKind.i64 x1, Value.int IntKind.i64 x2] w R := wpF_ok follows Tryd.func66 (Eq.mpr (by kernel_rfl) h)

/-- coffret/merkle.Leaf -/
def vc_merkle_Leaf (x0 : Option Addr) (x1 : Option Addr) (x1l : Nat) (x1c : Nat) (w : World) (R : Value → World → Prop) : Prop :=
  DoA P (Instr.alloc t_arr32_uint8 true (Value.tuple #[])) w fun a0 w0 ↦
    DoL P (Instr.buildSlice t_sl_uint8 1 #[(0, Value.int IntKind.u8 49)]) w0 fun p0 l0 l1 w1 ↦
      DoL P (Instr.buildSlice t_sl_sl_uint8 2 #[(0, Value.slice p0 l0 l1), (1, Value.slice x1 x1l x1c)]) w1 fun p1 l2 l3 w2 ↦
        Cs P f_vault_Vault_Hash #[Value.pointer x0, Value.slice p1 l2 l3] w2 fun v0 w3 ↦ ∃ v1, v0 = v1 ∧ DoU P (storeVar t_arr32_uint8 a0 v1) w3 fun w4 ↦ LdV P t_arr32_uint8 a0 w4 fun v2 ↦ R v2 w4
theorem ok_merkle_Leaf {w : World} {R : Value → World → Prop} (x0 : Option Addr) (x1 : Option Addr) (x1l : Nat) (x1c : Nat) (h : vc_merkle_Leaf x0 x1 x1l x1c w R) : Cs P f_merkle_Leaf #[Value.pointer x0, Value.slice x1 x1l x1c] w R := wpF_ok follows Tryd.func67 (Eq.mpr (by kernel_rfl) h)

/-- coffret/merkle.Root -/
def vc_merkle_Root (x0 : Option Addr) (x1 : Option Addr) (x1l : Nat) (x1c : Nat) (w : World) (R : Value → World → Prop) : Prop :=
  DoA P (Instr.alloc t_arr32_uint8 true (Value.tuple #[])) w fun a0 w0 ↦
    Br (eqI (Nat.cast x1l) 0)
      (DoL P (Instr.buildSlice t_sl_uint8 1 #[(0, Value.int IntKind.u8 48)]) w0 fun p0 l0 l1 w1 ↦
        DoL P (Instr.buildSlice t_sl_sl_uint8 1 #[(0, Value.slice p0 l0 l1)]) w1 fun p1 l2 l3 w2 ↦ Cs P f_vault_Vault_Hash #[Value.pointer x0, Value.slice p1 l2 l3] w2 fun v0 w3 ↦ ∃ v1, v0 = v1 ∧ DoU P (storeVar t_arr32_uint8 a0 v1) w3 fun w4 ↦ LdV P t_arr32_uint8 a0 w4 fun v2 ↦ R v2 w4)
      (Br (eqI (Nat.cast x1l) 1) (Ix x1 x1l 0 32 fun a1 ↦ LdV P t_arr32_uint8 a1 w0 fun v3 ↦ DoU P (storeVar t_arr32_uint8 a0 v3) w0 fun w5 ↦ LdV P t_arr32_uint8 a0 w5 fun v4 ↦ R v4 w5)
        (Cs P f_merkle_half #[Value.int IntKind.i64 (Nat.cast x1l)] w0 fun v5 w6 ↦
          ∃ n0,
            v5 = Value.int IntKind.i64 n0 ∧
              Dr w6 fun w7 ↦
                RdL P (Instr.sliceAt t_sl_arr32_uint8 (Value.slice x1 x1l x1c) none (some (Value.int IntKind.i64 n0)) none) w7 fun p2 l4 l5 ↦
                  RdL P (Instr.sliceAt t_sl_arr32_uint8 (Value.slice x1 x1l x1c) (some (Value.int IntKind.i64 n0)) none none) w7 fun p3 l6 l7 ↦
                    Cs P f_merkle_Root #[Value.pointer x0, Value.slice p2 l4 l5] w7 fun v6 w8 ↦
                      ∃ v7,
                        v6 = v7 ∧
                          (Still P (Instr.sliceAt t_sl_arr32_uint8 (Value.slice x1 x1l x1c) (some (Value.int IntKind.i64 n0)) none none) (Value.slice p3 l6 l7) w8 ∧ True) ∧
                            Cs P f_merkle_Root #[Value.pointer x0, Value.slice p3 l6 l7] w8 fun v8 w9 ↦ ∃ v9, v8 = v9 ∧ Cs P f_merkle_pair #[Value.pointer x0, v7, v9] w9 fun v10 w10 ↦ ∃ v11, v10 = v11 ∧ DoU P (storeVar t_arr32_uint8 a0 v11) w10 fun w11 ↦ LdV P t_arr32_uint8 a0 w11 fun v12 ↦ R v12 w11))
theorem ok_merkle_Root {w : World} {R : Value → World → Prop} (x0 : Option Addr) (x1 : Option Addr) (x1l : Nat) (x1c : Nat) (h : vc_merkle_Root x0 x1 x1l x1c w R) : Cs P f_merkle_Root #[Value.pointer x0, Value.slice x1 x1l x1c] w R := wpF_ok follows Tryd.func68 (Eq.mpr (by kernel_rfl) h)

/-- (*coffret/code.Writer).Byte -/
def vc_code_Writer_Byte (x0 : Option Addr) (x1 : Option Addr) (x1l : Nat) (x1c : Nat) (w : World) (R : Value → World → Prop) : Prop :=
  Jn
    (fun K0 ↦
      Br (!Option.isNone x0)
        (NN x0 fun a0 ↦
          LdL P t_sl_uint8 (Addr.add a0 0) w fun p0 l0 l1 ↦
            DoL P (Builtin.append_ #[t_sl_uint8, t_sl_uint8] t_sl_uint8 #[Value.slice p0 l0 l1, Value.slice x1 x1l x1c]) w fun p1 l2 l3 w0 ↦ NN x0 fun a1 ↦ DoU P (storeVar t_sl_uint8 (Addr.add a1 0) (Value.slice p1 l2 l3)) w0 fun w1 ↦ K0 [] w1)
        (K0 [] w))
    fun K1 ↦ ∀ (w2 : World), K1 [] w2 → R (Value.tuple #[]) w2
theorem ok_code_Writer_Byte {w : World} {R : Value → World → Prop} (x0 : Option Addr) (x1 : Option Addr) (x1l : Nat) (x1c : Nat) (h : vc_code_Writer_Byte x0 x1 x1l x1c w R) : Cs P f_code_Writer_Byte #[Value.pointer x0, Value.slice x1 x1l x1c] w R := wpF_ok follows Tryd.func69 (Eq.mpr (by kernel_rfl) h)

/-- coffret/seg.Length -/
def vc_seg_Length (x0 : Option Addr) (x0l : Nat) (x0c : Nat) (w : World) (R : Value → World → Prop) : Prop :=
  Cs P f_code_Read #[Value.slice x0 x0l x0c] w fun v0 w0 ↦
    ∃ p0, v0 = Value.pointer p0 ∧ Cs P f_code_Reader_In #[Value.pointer p0, Value.int IntKind.i64 48, Value.int IntKind.i64 16384] w0 fun v1 w1 ↦ ∃ n0, v1 = Value.int IntKind.i64 n0 ∧ Br (gtI n0 (Nat.cast x0l)) (R (Value.int IntKind.i64 0) w1) (R (Value.int IntKind.i64 n0) w1)
theorem ok_seg_Length {w : World} {R : Value → World → Prop} (x0 : Option Addr) (x0l : Nat) (x0c : Nat) (h : vc_seg_Length x0 x0l x0c w R) : Cs P f_seg_Length #[Value.slice x0 x0l x0c] w R := wpF_ok follows Tryd.func70 (Eq.mpr (by kernel_rfl) h)

/-- (*coffret/disk.Disk).Write -/
def vc_disk_Disk_Write (x0 : Option Addr) (x1 : Int) (x2 : Option Addr) (x2l : Nat) (x2c : Nat) (w : World) (R : Value → World → Prop) : Prop :=
  Cs P f_disk_Disk_ready #[Value.pointer x0, Value.int IntKind.i64 x1] w fun v0 w0 ↦
    ∃ n0,
      v0 = Value.int IntKind.i64 n0 ∧
        Br (neI n0 0) (R (Value.int IntKind.i64 n0) w0)
          (Br (gtI (Nat.cast x2l) 256) (R (Value.int IntKind.i64 3) w0)
            (Cs P f_disk_Disk_Act #[Value.pointer x0] w0 fun v1 w1 ↦
              ∃ b0 n1,
                v1 = Value.tuple #[Value.bool b0, Value.int IntKind.u64 n1] ∧
                  DoV P (Instr.build t_disk_write #[(0, Value.int IntKind.i64 x1)]) w1 fun v2 w2 ↦
                    DoA P (Instr.alloc t_disk_write true (Value.tuple #[])) w2 fun a0 w3 ↦
                      DoU P (storeVar t_disk_write a0 v2) w3 fun w4 ↦
                        DoL P (Instr.sliceAt t_disk_sector (Value.pointer (some (Addr.add a0 1))) none none none) w4 fun p0 l0 l1 w5 ↦
                          DoI IntKind.i64 P (Builtin.copy_ #[t_sl_uint8, t_sl_uint8] t_int #[Value.slice p0 l0 l1, Value.slice x2 x2l x2c]) w5 fun n2 w6 ↦
                            Dr w6 fun w7 ↦
                              NN x0 fun a1 ↦
                                LdL P t_sl_disk_sector (Addr.add a1 0) w7 fun p1 l2 l3 ↦
                                  LdV P t_disk_sector (Addr.add a0 1) w7 fun v3 ↦
                                    Ix p1 l2 x1 256 fun a2 ↦
                                      DoU P (storeVar t_disk_sector a2 v3) w7 fun w8 ↦
                                        Dr w8 fun w9 ↦
                                          NN x0 fun a3 ↦
                                            LdL P t_sl_disk_write (Addr.add a3 2) w9 fun p2 l4 l5 ↦
                                              LdV P t_disk_write a0 w9 fun v4 ↦
                                                DoL P (Instr.buildSlice t_sl_disk_write 1 #[(0, v4)]) w9 fun p3 l6 l7 w10 ↦
                                                  (Still P (loadVar t_sl_disk_write (Addr.add a3 2)) (Value.slice p2 l4 l5) w10 ∧ True) ∧
                                                    DoL P (Builtin.append_ #[t_sl_disk_write, t_sl_disk_write] t_sl_disk_write #[Value.slice p2 l4 l5, Value.slice p3 l6 l7]) w10 fun p4 l8 l9 w11 ↦
                                                      NN x0 fun a4 ↦
                                                        DoU P (storeVar t_sl_disk_write (Addr.add a4 2) (Value.slice p4 l8 l9)) w11 fun w12 ↦
                                                          Br b0 (Cs P f_disk_Disk_Off #[Value.pointer x0, Value.int IntKind.u64 n1] w12 fun v5 w13 ↦ v5 = Value.tuple #[] ∧ R (Value.int IntKind.i64 8) w13) (R (Value.int IntKind.i64 0) w12)))
theorem ok_disk_Disk_Write {w : World} {R : Value → World → Prop} (x0 : Option Addr) (x1 : Int) (x2 : Option Addr) (x2l : Nat) (x2c : Nat) (h : vc_disk_Disk_Write x0 x1 x2 x2l x2c w R) : Cs P f_disk_Disk_Write #[Value.pointer x0, Value.int IntKind.i64 x1, Value.slice x2 x2l x2c] w R := wpF_ok follows Tryd.func72 (Eq.mpr (by kernel_rfl) h)

/-- (*coffret/disk.Disk).Sync -/
def vc_disk_Disk_Sync (x0 : Option Addr) (w : World) (R : Value → World → Prop) : Prop :=
  Br (Option.isNone x0) (R (Value.int IntKind.i64 2) w)
    (NN x0 fun a0 ↦
      LdB P t_bool (Addr.add a0 3) w fun b0 ↦
        Br b0 (R (Value.int IntKind.i64 8) w)
          (Cs P f_disk_Disk_Act #[Value.pointer x0] w fun v0 w0 ↦
            ∃ b1 n0,
              v0 = Value.tuple #[Value.bool b1, Value.int IntKind.u64 n0] ∧
                Br b1 (Cs P f_disk_Disk_Off #[Value.pointer x0, Value.int IntKind.u64 n0] w0 fun v1 w1 ↦ v1 = Value.tuple #[] ∧ R (Value.int IntKind.i64 8) w1)
                  (Dr w0 fun w2 ↦
                    NN x0 fun a1 ↦
                      LdL P t_sl_disk_sector (Addr.add a1 1) w2 fun p0 l0 l1 ↦
                        NN x0 fun a2 ↦
                          LdL P t_sl_disk_sector (Addr.add a2 0) w2 fun p1 l2 l3 ↦
                            DoI IntKind.i64 P (Builtin.copy_ #[t_sl_disk_sector, t_sl_disk_sector] t_int #[Value.slice p0 l0 l1, Value.slice p1 l2 l3]) w2 fun n1 w3 ↦
                              NN x0 fun a3 ↦ DoU P (storeVar t_sl_disk_write (Addr.add a3 2) (Value.slice none 0 0)) w3 fun w4 ↦ R (Value.int IntKind.i64 0) w4)))
theorem ok_disk_Disk_Sync {w : World} {R : Value → World → Prop} (x0 : Option Addr) (h : vc_disk_Disk_Sync x0 w R) : Cs P f_disk_Disk_Sync #[Value.pointer x0] w R := wpF_ok follows Tryd.func73 (Eq.mpr (by kernel_rfl) h)

/-- (*coffret/meter.Meter).Next -/
def vc_meter_Meter_Next (x0 : Option Addr) (x1 : Int) (x2 : Value) (w : World) (R : Value → World → Prop) : Prop :=
  DoA P (Instr.box t_arr32_uint8 x2) w fun a0 w0 ↦
    Br (Option.isNone x0) (R (Value.int IntKind.i64 2) w0)
      (NN x0 fun a1 ↦
        LdP P t_p_disk_Disk (Addr.add a1 35) w0 fun p0 ↦
          Cs P f_disk_Disk_Down #[Value.pointer p0] w0 fun v0 w1 ↦
            ∃ b0,
              v0 = Value.bool b0 ∧
                Br b0 (R (Value.int IntKind.i64 8) w1)
                  (NN x0 fun a2 ↦
                    LdI IntKind.i64 P t_int (Addr.add (Addr.add a2 0) 1) w1 fun n0 ↦
                      Br (ltI x1 n0) (R (Value.int IntKind.i64 1) w1)
                        (Cs P f_meter_Meter_Left #[Value.pointer x0] w1 fun v1 w2 ↦
                          ∃ n1,
                            v1 = Value.int IntKind.i64 n1 ∧
                              Br (eqI n1 0) (R (Value.int IntKind.i64 10) w2)
                                (NN x0 fun a3 ↦
                                  LdP P t_p_disk_Disk (Addr.add a3 35) w2 fun p1 ↦
                                    Cs P f_disk_Disk_Act #[Value.pointer p1] w2 fun v2 w3 ↦
                                      ∃ b1 n2,
                                        v2 = Value.tuple #[Value.bool b1, Value.int IntKind.u64 n2] ∧
                                          Jn (fun K0 ↦ Br (!b1) (K0 [Value.bool true] w3) (Nn 63 ∧ K0 [Value.bool (eqI (Int.fdiv n2 (2 ^ 63)) 1)] w3)) fun K1 ↦
                                            ∀ (b2 : Bool) (w4 : World),
                                              K1 [Value.bool b2] w4 →
                                                Jn
                                                  (fun K2 ↦
                                                    Br b2
                                                      (Dr w4 fun w5 ↦
                                                        NN x0 fun a4 ↦
                                                          LdI IntKind.i64 P t_int (Addr.add (Addr.add a4 0) 0) w5 fun n3 ↦
                                                            LdV P t_arr32_uint8 a0 w5 fun v3 ↦
                                                              RdV P (Instr.build t_meter_Value #[(0, Value.int IntKind.i64 (IntKind.wrap IntKind.i64 (n3 + 1))), (1, Value.int IntKind.i64 x1), (2, v3)]) w5 fun v4 ↦
                                                                NN x0 fun a5 ↦ DoU P (storeVar t_meter_Value (Addr.add a5 0) v4) w5 fun w6 ↦ K2 [] w6)
                                                      (K2 [] w4))
                                                  fun K3 ↦
                                                  ∀ (w7 : World),
                                                    K3 [] w7 → Br b1 (NN x0 fun a6 ↦ LdP P t_p_disk_Disk (Addr.add a6 35) w7 fun p2 ↦ Cs P f_disk_Disk_Off #[Value.pointer p2, Value.int IntKind.u64 n2] w7 fun v5 w8 ↦ v5 = Value.tuple #[] ∧ R (Value.int IntKind.i64 8) w8) (R (Value.int IntKind.i64 0) w7)))))
theorem ok_meter_Meter_Next {w : World} {R : Value → World → Prop} (x0 : Option Addr) (x1 : Int) (x2 : Value) (h : vc_meter_Meter_Next x0 x1 x2 w R) : Cs P f_meter_Meter_Next #[Value.pointer x0, Value.int IntKind.i64 x1, x2] w R := wpF_ok follows Tryd.func74 (Eq.mpr (by kernel_rfl) h)

/-- (*coffret/meter.Meter).Get -/
def vc_meter_Meter_Get (x0 : Option Addr) (w : World) (R : Value → World → Prop) : Prop :=
  DoA P (Instr.alloc t_meter_Value true (Value.tuple #[])) w fun a0 w0 ↦
    Br (Option.isNone x0) (DoV P (Instr.build t_meter_Value #[]) w0 fun v0 w1 ↦ DoU P (storeVar t_meter_Value a0 v0) w1 fun w2 ↦ LdV P t_meter_Value a0 w2 fun v1 ↦ R (Value.tuple #[v1, Value.int IntKind.i64 2]) w2)
      (NN x0 fun a1 ↦
        LdP P t_p_disk_Disk (Addr.add a1 35) w0 fun p0 ↦
          Cs P f_disk_Disk_Down #[Value.pointer p0] w0 fun v2 w3 ↦
            ∃ b0,
              v2 = Value.bool b0 ∧
                Br b0 (DoV P (Instr.build t_meter_Value #[]) w3 fun v3 w4 ↦ DoU P (storeVar t_meter_Value a0 v3) w4 fun w5 ↦ LdV P t_meter_Value a0 w5 fun v4 ↦ R (Value.tuple #[v4, Value.int IntKind.i64 8]) w5)
                  (NN x0 fun a2 ↦ LdV P t_meter_Value (Addr.add a2 0) w3 fun v5 ↦ DoU P (storeVar t_meter_Value a0 v5) w3 fun w6 ↦ LdV P t_meter_Value a0 w6 fun v6 ↦ R (Value.tuple #[v6, Value.int IntKind.i64 0]) w6))
theorem ok_meter_Meter_Get {w : World} {R : Value → World → Prop} (x0 : Option Addr) (h : vc_meter_Meter_Get x0 w R) : Cs P f_meter_Meter_Get #[Value.pointer x0] w R := wpF_ok follows Tryd.func75 (Eq.mpr (by kernel_rfl) h)

/-- (*coffret/chain.Area).Next -/
def vc_chain_Area_Next (x0 : Option Addr) (w : World) (R : Value → World → Prop) : Prop :=
  Br (Option.isNone x0) (R (Value.tuple #[Value.slice none 0 0, Value.int IntKind.i64 2]) w)
    (NN x0 fun a0 ↦
      LdP P t_p_disk_Disk (Addr.add a0 0) w fun p0 ↦
        Cs P f_disk_Disk_Down #[Value.pointer p0] w fun v0 w0 ↦
          ∃ b0,
            v0 = Value.bool b0 ∧
              Br b0 (R (Value.tuple #[Value.slice none 0 0, Value.int IntKind.i64 8]) w0)
                (NN x0 fun a1 ↦
                  LdI IntKind.i64 P t_int (Addr.add a1 3) w0 fun n0 ↦
                    Lp [Value.slice none 0 0, Value.int IntKind.i64 n0] w0 fun K0 ↦
                      ∀ (p1 : Option Addr) (l0 l1 : Nat) (n1 : Int) (l2 : Nat) (w1 : World),
                        K0 l2 [Value.slice p1 l0 l1, Value.int IntKind.i64 n1] w1 →
                          Jn (fun K1 ↦ NN x0 fun a2 ↦ LdI IntKind.i64 P t_int (Addr.add a2 2) w1 fun n2 ↦ Br (ltI n1 n2) (NN x0 fun a3 ↦ LdI IntKind.i64 P t_int (Addr.add a3 3) w1 fun n3 ↦ K1 [Value.bool (ltI (IntKind.wrap IntKind.i64 (n1 - n3)) 64)] w1) (K1 [Value.bool false] w1))
                            fun K2 ↦
                            ∀ (b1 : Bool) (w2 : World),
                              K2 [Value.bool b1] w2 →
                                Br b1
                                  (NN x0 fun a4 ↦
                                    LdP P t_p_disk_Disk (Addr.add a4 0) w2 fun p2 ↦
                                      Cs P f_disk_Disk_Read #[Value.pointer p2, Value.int IntKind.i64 n1] w2 fun v1 w3 ↦
                                        ∃ p3 l3 l4 n4,
                                          v1 = Value.tuple #[Value.slice p3 l3 l4, Value.int IntKind.i64 n4] ∧
                                            Br (neI n4 0) (R (Value.tuple #[Value.slice none 0 0, Value.int IntKind.i64 n4]) w3)
                                              (DoL P (Builtin.append_ #[t_sl_uint8, t_sl_uint8] t_sl_uint8 #[Value.slice p1 l0 l1, Value.slice p3 l3 l4]) w3 fun p4 l5 l6 w4 ↦
                                                Cs P f_seg_Length #[Value.slice p4 l5 l6] w4 fun v2 w5 ↦
                                                  ∃ n5,
                                                    v2 = Value.int IntKind.i64 n5 ∧
                                                      Br (gtI n5 0)
                                                        (NN x0 fun a5 ↦
                                                          DoU P (storeVar t_int (Addr.add a5 3) (Value.int IntKind.i64 (IntKind.wrap IntKind.i64 (n1 + 1)))) w5 fun w6 ↦
                                                            DoL P (Instr.sliceAt t_sl_uint8 (Value.slice p4 l5 l6) none (some (Value.int IntKind.i64 n5)) (some (Value.int IntKind.i64 n5))) w6 fun p5 l7 l8 w7 ↦ R (Value.tuple #[Value.slice p5 l7 l8, Value.int IntKind.i64 0]) w7)
                                                        (Nx K0 l2 [Value.slice p4 l5 l6, Value.int IntKind.i64 (IntKind.wrap IntKind.i64 (n1 + 1))] w5)))
                                  (R (Value.tuple #[Value.slice none 0 0, Value.int IntKind.i64 0]) w2)))
theorem ok_chain_Area_Next {w : World} {R : Value → World → Prop} (x0 : Option Addr) (h : vc_chain_Area_Next x0 w R) : Cs P f_chain_Area_Next #[Value.pointer x0] w R := wpF_ok follows Tryd.func76 (Eq.mpr (by kernel_rfl) h)

/-- coffret/seg.Unpack -/
def vc_seg_Unpack (x0 : Option Addr) (x1 : Int) (x2 : Int) (x3 : Value) (x4 : Option Addr) (x4l : Nat) (x4c : Nat) (w : World) (R : Value → World → Prop) : Prop :=
  DoA P (Instr.box t_arr32_uint8 x3) w fun a0 w0 ↦
    DoA P (Instr.alloc t_arr32_uint8 true (Value.tuple #[])) w0 fun a1 w1 ↦
      Jn (fun K0 ↦ Br (eqI (Nat.cast x4l) 0) (K0 [Value.bool true] w1) (Cs P f_seg_Length #[Value.slice x4 x4l x4c] w1 fun v0 w2 ↦ ∃ n0, v0 = Value.int IntKind.i64 n0 ∧ K0 [Value.bool (neI n0 (Nat.cast x4l))] w2)) fun K1 ↦
        ∀ (b0 : Bool) (w3 : World),
          K1 [Value.bool b0] w3 →
            Br b0 (DoV P (Instr.build t_arr32_uint8 #[]) w3 fun v1 w4 ↦ DoU P (storeVar t_arr32_uint8 a1 v1) w4 fun w5 ↦ LdV P t_arr32_uint8 a1 w5 fun v2 ↦ R (Value.tuple #[Value.slice none 0 0, v2, Value.int IntKind.i64 4]) w5)
              (Cs P f_code_Read #[Value.slice x4 x4l x4c] w3 fun v3 w6 ↦
                ∃ p0,
                  v3 = Value.pointer p0 ∧
                    Cs P f_code_Reader_Num #[Value.pointer p0] w6 fun v4 w7 ↦
                      ∃ n1,
                        v4 = Value.int IntKind.i64 n1 ∧
                          Cs P f_code_Reader_In #[Value.pointer p0, Value.int IntKind.i64 1, Value.int IntKind.i64 260] w7 fun v5 w8 ↦
                            ∃ n2,
                              v5 = Value.int IntKind.i64 n2 ∧
                                Jn
                                  (fun K2 ↦
                                    Lp [Value.slice none 0 0, Value.slice none 0 0, Value.int IntKind.i64 0] w8 fun K3 ↦
                                      ∀ (p1 : Option Addr) (l0 l1 : Nat) (p2 : Option Addr) (l2 l3 : Nat) (n3 : Int) (l4 : Nat) (w9 : World),
                                        K3 l4 [Value.slice p1 l0 l1, Value.slice p2 l2 l3, Value.int IntKind.i64 n3] w9 →
                                          Jn (fun K4 ↦ Br (ltI n3 n2) (Cs P f_code_Reader_Good #[Value.pointer p0] w9 fun v6 w10 ↦ ∃ b1, v6 = Value.bool b1 ∧ K4 [Value.bool b1] w10) (K4 [Value.bool false] w9)) fun K5 ↦
                                            ∀ (b2 : Bool) (w11 : World),
                                              K5 [Value.bool b2] w11 →
                                                Br b2
                                                  (Cs P f_code_Reader_In #[Value.pointer p0, Value.int IntKind.i64 0, Value.int IntKind.i64 16] w11 fun v7 w12 ↦
                                                    ∃ n4,
                                                      v7 = Value.int IntKind.i64 n4 ∧
                                                        Cs P f_code_Reader_Text #[Value.pointer p0, Value.int IntKind.i64 16384] w12 fun v8 w13 ↦
                                                          ∃ s0,
                                                            v8 = Value.string s0 ∧
                                                              DoL P (convert t_string t_sl_uint8 (Value.string s0)) w13 fun p3 l5 l6 w14 ↦
                                                                Cs P f_code_Reader_Good #[Value.pointer p0] w14 fun v9 w15 ↦
                                                                  ∃ b3,
                                                                    v9 = Value.bool b3 ∧
                                                                      Br (!b3) (K2 [Value.slice p1 l0 l1, Value.slice p2 l2 l3] w15)
                                                                        (Dr w15 fun w16 ↦
                                                                          LdV P t_arr32_uint8 a0 w16 fun v10 ↦
                                                                            Cs P f_seg_Key #[Value.pointer x0, Value.int IntKind.i64 n4] w16 fun v11 w17 ↦
                                                                              ∃ v12,
                                                                                v11 = v12 ∧
                                                                                  (Still P (loadVar t_arr32_uint8 a0) v10 w17 ∧ True) ∧
                                                                                    Cs P f_seg_place #[v10, Value.int IntKind.i64 n3, Value.int IntKind.i64 n2] w17 fun v13 w18 ↦
                                                                                      ∃ p4 l7 l8,
                                                                                        v13 = Value.slice p4 l7 l8 ∧
                                                                                          DoL P (Instr.buildSlice t_sl_sl_uint8 1 #[(0, Value.slice p4 l7 l8)]) w18 fun p5 l9 l10 w19 ↦
                                                                                            Cs P f_vault_Vault_Open #[Value.pointer x0, v12, Value.int IntKind.i64 x1, Value.int IntKind.i64 (IntKind.wrap IntKind.i64 (x2 + n3)), Value.slice p3 l5 l6, Value.slice p5 l9 l10] w19 fun v14 w20 ↦
                                                                                              ∃ p6 l11 l12 n5,
                                                                                                v14 = Value.tuple #[Value.slice p6 l11 l12, Value.int IntKind.i64 n5] ∧
                                                                                                  Br (neI n5 0)
                                                                                                    (DoV P (Instr.build t_arr32_uint8 #[]) w20 fun v15 w21 ↦
                                                                                                      DoU P (storeVar t_arr32_uint8 a1 v15) w21 fun w22 ↦ LdV P t_arr32_uint8 a1 w22 fun v16 ↦ R (Value.tuple #[Value.slice none 0 0, v16, Value.int IntKind.i64 n5]) w22)
                                                                                                    (Cs P f_record_Get #[Value.slice p6 l11 l12] w20 fun v17 w23 ↦
                                                                                                      ∃ v18 n6,
                                                                                                        v17 = Value.tuple #[v18, Value.int IntKind.i64 n6] ∧
                                                                                                          DoA P (Instr.alloc t_api_Record true (Value.tuple #[])) w23 fun a2 w24 ↦
                                                                                                            DoU P (storeVar t_api_Record a2 v18) w24 fun w25 ↦
                                                                                                              Jn (fun K6 ↦ Br (neI n6 0) (K6 [Value.bool true] w25) (LdI IntKind.i64 P t_int (Addr.add a2 1) w25 fun n7 ↦ K6 [Value.bool (neI n7 n4)] w25)) fun K7 ↦
                                                                                                                ∀ (b4 : Bool) (w26 : World),
                                                                                                                  K7 [Value.bool b4] w26 →
                                                                                                                    Br b4
                                                                                                                      (DoV P (Instr.build t_arr32_uint8 #[]) w26 fun v19 w27 ↦
                                                                                                                        DoU P (storeVar t_arr32_uint8 a1 v19) w27 fun w28 ↦ LdV P t_arr32_uint8 a1 w28 fun v20 ↦ R (Value.tuple #[Value.slice none 0 0, v20, Value.int IntKind.i64 4]) w28)
                                                                                                                      (LdV P t_api_Record a2 w26 fun v21 ↦
                                                                                                                        DoL P (Instr.buildSlice t_sl_api_Record 1 #[(0, v21)]) w26 fun p7 l13 l14 w29 ↦
                                                                                                                          DoL P (Builtin.append_ #[t_sl_api_Record, t_sl_api_Record] t_sl_api_Record #[Value.slice p1 l0 l1, Value.slice p7 l13 l14]) w29 fun p8 l15 l16 w30 ↦
                                                                                                                            Cs P f_merkle_Leaf #[Value.pointer x0, Value.slice p3 l5 l6] w30 fun v22 w31 ↦
                                                                                                                              ∃ v23,
                                                                                                                                v22 = v23 ∧
                                                                                                                                  DoL P (Instr.buildSlice t_sl_arr32_uint8 1 #[(0, v23)]) w31 fun p9 l17 l18 w32 ↦
                                                                                                                                    DoL P (Builtin.append_ #[t_sl_arr32_uint8, t_sl_arr32_uint8] t_sl_arr32_uint8 #[Value.slice p2 l2 l3, Value.slice p9 l17 l18]) w32 fun p10 l19 l20 w33 ↦
                                                                                                                                      Nx K3 l4 [Value.slice p8 l15 l16, Value.slice p10 l19 l20, Value.int IntKind.i64 (IntKind.wrap IntKind.i64 (n3 + 1))] w33))))
                                                  (K2 [Value.slice p1 l0 l1, Value.slice p2 l2 l3] w11))
                                  fun K8 ↦
                                  ∀ (p11 : Option Addr) (l21 l22 : Nat) (p12 : Option Addr) (l23 l24 : Nat) (w34 : World),
                                    K8 [Value.slice p11 l21 l22, Value.slice p12 l23 l24] w34 →
                                      Cs P f_code_Reader_Take #[Value.pointer p0, Value.int IntKind.i64 32] w34 fun v24 w35 ↦
                                        ∃ p13 l25 l26 b5,
                                          v24 = Value.tuple #[Value.slice p13 l25 l26, Value.bool b5] ∧
                                            Cs P f_merkle_Root #[Value.pointer x0, Value.slice p12 l23 l24] w35 fun v25 w36 ↦
                                              ∃ v26,
                                                v25 = v26 ∧
                                                  DoA P (Instr.alloc t_arr32_uint8 true (Value.tuple #[])) w36 fun a3 w37 ↦
                                                    DoU P (storeVar t_arr32_uint8 a3 v26) w37 fun w38 ↦
                                                      Jn
                                                        (fun K9 ↦
                                                          Dr w38 fun w39 ↦
                                                            Cs P f_code_Reader_End #[Value.pointer p0] w39 fun v27 w40 ↦
                                                              ∃ b6,
                                                                v27 = Value.bool b6 ∧
                                                                  Br (!b6) (K9 [Value.bool true] w40)
                                                                    (RdS P (convert t_sl_uint8 t_string (Value.slice p13 l25 l26)) w40 fun s1 ↦
                                                                      RdL P (Instr.sliceAt t_arr32_uint8 (Value.pointer (some a3)) none none none) w40 fun p14 l27 l28 ↦ RdS P (convert t_sl_uint8 t_string (Value.slice p14 l27 l28)) w40 fun s2 ↦ K9 [Value.bool !eqS s1 s2] w40))
                                                        fun K10 ↦
                                                        ∀ (b7 : Bool) (w41 : World),
                                                          K10 [Value.bool b7] w41 →
                                                            Br b7 (DoV P (Instr.build t_arr32_uint8 #[]) w41 fun v28 w42 ↦ DoU P (storeVar t_arr32_uint8 a1 v28) w42 fun w43 ↦ LdV P t_arr32_uint8 a1 w43 fun v29 ↦ R (Value.tuple #[Value.slice none 0 0, v29, Value.int IntKind.i64 4]) w43)
                                                              (DoL P (Instr.sliceAt t_arr32_uint8 (Value.pointer (some a0)) none none none) w41 fun p15 l29 l30 w44 ↦
                                                                DoL P (Instr.buildSlice t_sl_sl_uint8 2 #[(0, Value.slice p15 l29 l30), (1, Value.slice x4 x4l x4c)]) w44 fun p16 l31 l32 w45 ↦
                                                                  Cs P f_vault_Vault_Hash #[Value.pointer x0, Value.slice p16 l31 l32] w45 fun v30 w46 ↦
                                                                    ∃ v31, v30 = v31 ∧ DoU P (storeVar t_arr32_uint8 a1 v31) w46 fun w47 ↦ LdV P t_arr32_uint8 a1 w47 fun v32 ↦ R (Value.tuple #[Value.slice p11 l21 l22, v32, Value.int IntKind.i64 0]) w47))
theorem ok_seg_Unpack {w : World} {R : Value → World → Prop} (x0 : Option Addr) (x1 : Int) (x2 : Int) (x3 : Value) (x4 : Option Addr) (x4l : Nat) (x4c : Nat) (h : vc_seg_Unpack x0 x1 x2 x3 x4 x4l x4c w R) : Cs P f_seg_Unpack #[Value.pointer x0, Value.int IntKind.i64 x1, Value.int IntKind.i64 x2, x3, Value.slice x4 x4l x4c] w R := wpF_ok follows Tryd.func77 (Eq.mpr (by kernel_rfl) h)

/-- coffret/record.of -/
def vc_record_of (x0 : Int) (w : World) (R : Value → World → Prop) : Prop :=
  DoA P (Instr.alloc t_record_form true (Value.tuple #[])) w fun a0 w0 ↦
    Br (eqI x0 1)
      (LdV P t_record_span (Addr.mk g_record_queue 0 none) w0 fun v0 ↦
        LdV P t_record_span (Addr.mk g_record_limit 0 none) w0 fun v1 ↦
          DoV P (Instr.build t_record_span #[(0, Value.int IntKind.i64 1), (1, Value.int IntKind.i64 64)]) w0 fun v2 w1 ↦
            DoV P (Instr.build t_record_span #[(0, Value.int IntKind.i64 1), (1, Value.int IntKind.i64 1048576)]) w1 fun v3 w2 ↦
              DoV P (Instr.build t_record_form #[(0, v0), (1, v1), (2, v2), (3, v3), (4, Value.bool false)]) w2 fun v4 w3 ↦ DoU P (storeVar t_record_form a0 v4) w3 fun w4 ↦ LdV P t_record_form a0 w4 fun v5 ↦ R (Value.tuple #[v5, Value.bool true]) w4)
      (Br (eqI x0 2)
        (LdV P t_record_span (Addr.mk g_record_queue 0 none) w0 fun v6 ↦
          LdV P t_record_span (Addr.mk g_record_none 0 none) w0 fun v7 ↦
            LdV P t_record_span (Addr.mk g_record_none 0 none) w0 fun v8 ↦
              LdV P t_record_span (Addr.mk g_record_none 0 none) w0 fun v9 ↦
                DoV P (Instr.build t_record_form #[(0, v6), (1, v7), (2, v8), (3, v9), (4, Value.bool false)]) w0 fun v10 w5 ↦ DoU P (storeVar t_record_form a0 v10) w5 fun w6 ↦ LdV P t_record_form a0 w6 fun v11 ↦ R (Value.tuple #[v11, Value.bool true]) w6)
        (Br (eqI x0 3)
          (LdV P t_record_span (Addr.mk g_record_queue 0 none) w0 fun v12 ↦
            LdV P t_record_span (Addr.mk g_record_id 0 none) w0 fun v13 ↦
              LdV P t_record_span (Addr.mk g_record_none 0 none) w0 fun v14 ↦
                LdV P t_record_span (Addr.mk g_record_none 0 none) w0 fun v15 ↦
                  DoV P (Instr.build t_record_form #[(0, v12), (1, v13), (2, v14), (3, v15), (4, Value.bool true)]) w0 fun v16 w7 ↦ DoU P (storeVar t_record_form a0 v16) w7 fun w8 ↦ LdV P t_record_form a0 w8 fun v17 ↦ R (Value.tuple #[v17, Value.bool true]) w8)
          (Br (eqI x0 4)
            (LdV P t_record_span (Addr.mk g_record_queue 0 none) w0 fun v18 ↦
              LdV P t_record_span (Addr.mk g_record_id 0 none) w0 fun v19 ↦
                LdV P t_record_span (Addr.mk g_record_late 0 none) w0 fun v20 ↦
                  LdV P t_record_span (Addr.mk g_record_none 0 none) w0 fun v21 ↦
                    DoV P (Instr.build t_record_form #[(0, v18), (1, v19), (2, v20), (3, v21), (4, Value.bool false)]) w0 fun v22 w9 ↦ DoU P (storeVar t_record_form a0 v22) w9 fun w10 ↦ LdV P t_record_form a0 w10 fun v23 ↦ R (Value.tuple #[v23, Value.bool true]) w10)
            (Jn (fun K0 ↦ Br (eqI x0 5) (K0 [Value.bool (eqI x0 5)] w0) (Jn (fun K1 ↦ Br (eqI x0 6) (K1 [Value.bool (eqI x0 6)] w0) (K1 [Value.bool (eqI x0 10)] w0)) fun K2 ↦ ∀ (b0 : Bool) (w11 : World), K2 [Value.bool b0] w11 → K0 [Value.bool b0] w11)) fun K3 ↦
              ∀ (b1 : Bool) (w12 : World),
                K3 [Value.bool b1] w12 →
                  Br b1
                    (LdV P t_record_span (Addr.mk g_record_queue 0 none) w12 fun v24 ↦
                      LdV P t_record_span (Addr.mk g_record_id 0 none) w12 fun v25 ↦
                        LdV P t_record_span (Addr.mk g_record_none 0 none) w12 fun v26 ↦
                          LdV P t_record_span (Addr.mk g_record_none 0 none) w12 fun v27 ↦
                            DoV P (Instr.build t_record_form #[(0, v24), (1, v25), (2, v26), (3, v27), (4, Value.bool false)]) w12 fun v28 w13 ↦
                              DoU P (storeVar t_record_form a0 v28) w13 fun w14 ↦ LdV P t_record_form a0 w14 fun v29 ↦ R (Value.tuple #[v29, Value.bool true]) w14)
                    (Br (eqI x0 13)
                      (LdV P t_record_span (Addr.mk g_record_queue 0 none) w12 fun v30 ↦
                        DoV P (Instr.build t_record_span #[(0, Value.int IntKind.i64 1), (1, Value.int IntKind.i64 1099511627777)]) w12 fun v31 w15 ↦
                          LdV P t_record_span (Addr.mk g_record_none 0 none) w15 fun v32 ↦
                            LdV P t_record_span (Addr.mk g_record_none 0 none) w15 fun v33 ↦
                              DoV P (Instr.build t_record_form #[(0, v30), (1, v31), (2, v32), (3, v33), (4, Value.bool false)]) w15 fun v34 w16 ↦
                                DoU P (storeVar t_record_form a0 v34) w16 fun w17 ↦ LdV P t_record_form a0 w17 fun v35 ↦ R (Value.tuple #[v35, Value.bool true]) w17)
                      (Br (eqI x0 7)
                        (LdV P t_record_span (Addr.mk g_record_none 0 none) w12 fun v36 ↦
                          LdV P t_record_span (Addr.mk g_record_none 0 none) w12 fun v37 ↦
                            LdV P t_record_span (Addr.mk g_record_when 0 none) w12 fun v38 ↦
                              LdV P t_record_span (Addr.mk g_record_none 0 none) w12 fun v39 ↦
                                DoV P (Instr.build t_record_form #[(0, v36), (1, v37), (2, v38), (3, v39), (4, Value.bool false)]) w12 fun v40 w18 ↦
                                  DoU P (storeVar t_record_form a0 v40) w18 fun w19 ↦ LdV P t_record_form a0 w19 fun v41 ↦ R (Value.tuple #[v41, Value.bool true]) w19)
                        (Jn (fun K4 ↦ Br (eqI x0 8) (K4 [Value.bool (eqI x0 8)] w12) (K4 [Value.bool (eqI x0 9)] w12)) fun K5 ↦
                          ∀ (b2 : Bool) (w20 : World),
                            K5 [Value.bool b2] w20 →
                              Br b2
                                (LdV P t_record_span (Addr.mk g_record_none 0 none) w20 fun v42 ↦
                                  LdV P t_record_span (Addr.mk g_record_id 0 none) w20 fun v43 ↦
                                    LdV P t_record_span (Addr.mk g_record_none 0 none) w20 fun v44 ↦
                                      LdV P t_record_span (Addr.mk g_record_none 0 none) w20 fun v45 ↦
                                        DoV P (Instr.build t_record_form #[(0, v42), (1, v43), (2, v44), (3, v45), (4, Value.bool false)]) w20 fun v46 w21 ↦
                                          DoU P (storeVar t_record_form a0 v46) w21 fun w22 ↦ LdV P t_record_form a0 w22 fun v47 ↦ R (Value.tuple #[v47, Value.bool true]) w22)
                                (Br (eqI x0 11)
                                  (LdV P t_record_span (Addr.mk g_record_queue 0 none) w20 fun v48 ↦
                                    LdV P t_record_span (Addr.mk g_record_id 0 none) w20 fun v49 ↦
                                      LdI IntKind.i64 P t_int (Addr.add (Addr.mk g_record_late 0 none) 1) w20 fun n0 ↦
                                        DoV P (Instr.build t_record_span #[(0, Value.int IntKind.i64 0), (1, Value.int IntKind.i64 n0)]) w20 fun v50 w23 ↦
                                          LdV P t_record_span (Addr.mk g_record_many 0 none) w23 fun v51 ↦
                                            DoV P (Instr.build t_record_form #[(0, v48), (1, v49), (2, v50), (3, v51), (4, Value.bool true)]) w23 fun v52 w24 ↦
                                              DoU P (storeVar t_record_form a0 v52) w24 fun w25 ↦ LdV P t_record_form a0 w25 fun v53 ↦ R (Value.tuple #[v53, Value.bool true]) w25)
                                  (Br (eqI x0 12)
                                    (LdV P t_record_span (Addr.mk g_record_queue 0 none) w20 fun v54 ↦
                                      LdV P t_record_span (Addr.mk g_record_id 0 none) w20 fun v55 ↦
                                        LdV P t_record_span (Addr.mk g_record_none 0 none) w20 fun v56 ↦
                                          LdV P t_record_span (Addr.mk g_record_many 0 none) w20 fun v57 ↦
                                            DoV P (Instr.build t_record_form #[(0, v54), (1, v55), (2, v56), (3, v57), (4, Value.bool true)]) w20 fun v58 w26 ↦
                                              DoU P (storeVar t_record_form a0 v58) w26 fun w27 ↦ LdV P t_record_form a0 w27 fun v59 ↦ R (Value.tuple #[v59, Value.bool true]) w27)
                                    (DoV P (Instr.build t_record_form #[]) w20 fun v60 w28 ↦ DoU P (storeVar t_record_form a0 v60) w28 fun w29 ↦ LdV P t_record_form a0 w29 fun v61 ↦ R (Value.tuple #[v61, Value.bool false]) w29))))))))))
theorem ok_record_of {w : World} {R : Value → World → Prop} (x0 : Int) (h : vc_record_of x0 w R) : Cs P f_record_of #[Value.int IntKind.i64 x0] w R := wpF_ok follows Tryd.func78 (Eq.mpr (by kernel_rfl) h)

/-- (coffret/record.span).in -/
def vc_record_span_in (x0 : Value) (x1 : Int) (w : World) (R : Value → World → Prop) : Prop :=
  DoA P (Instr.box t_record_span x0) w fun a0 w0 ↦
    Jn (fun K0 ↦ LdI IntKind.i64 P t_int (Addr.add a0 0) w0 fun n0 ↦ Br (geI x1 n0) (LdI IntKind.i64 P t_int (Addr.add a0 1) w0 fun n1 ↦ K0 [Value.bool (leI x1 n1)] w0) (K0 [Value.bool false] w0)) fun K1 ↦ ∀ (b0 : Bool) (w1 : World), K1 [Value.bool b0] w1 → R (Value.bool b0) w1
theorem ok_record_span_in {w : World} {R : Value → World → Prop} (x0 : Value) (x1 : Int) (h : vc_record_span_in x0 x1 w R) : Cs P f_record_span_in #[x0, Value.int IntKind.i64 x1] w R := wpF_ok follows Tryd.func79 (Eq.mpr (by kernel_rfl) h)

/-- (*coffret/vault.Vault).may -/
def vc_vault_Vault_may (x0 : Option Addr) (x1 : Int) (x2 : Int) (w : World) (R : Value → World → Prop) : Prop :=
  Br (Option.isNone x0) (R (Value.int IntKind.i64 2) w)
    (Jn (fun K0 ↦ Br (ltI x1 0) (K0 [Value.bool true] w) (K0 [Value.bool (ltI x2 0)] w)) fun K1 ↦
      ∀ (b0 : Bool) (w0 : World),
        K1 [Value.bool b0] w0 →
          Br b0 (R (Value.int IntKind.i64 1) w0)
            (Jn (fun K2 ↦ Br (geI x1 4294967296) (K2 [Value.bool true] w0) (NN x0 fun a0 ↦ LdI IntKind.i64 P t_int (Addr.add a0 33) w0 fun n0 ↦ K2 [Value.bool (geI x2 n0)] w0)) fun K3 ↦
              ∀ (b1 : Bool) (w1 : World), K3 [Value.bool b1] w1 → Br b1 (R (Value.int IntKind.i64 10) w1) (R (Value.int IntKind.i64 0) w1)))
theorem ok_vault_Vault_may {w : World} {R : Value → World → Prop} (x0 : Option Addr) (x1 : Int) (x2 : Int) (h : vc_vault_Vault_may x0 x1 x2 w R) : Cs P f_vault_Vault_may #[Value.pointer x0, Value.int IntKind.i64 x1, Value.int IntKind.i64 x2] w R := wpF_ok follows Tryd.func80 (Eq.mpr (by kernel_rfl) h)

/-- coffret/vault.nonce -/
def vc_vault_nonce (x0 : Int) (x1 : Int) (w : World) (R : Value → World → Prop) : Prop :=
  DoA P (Instr.alloc t_arr12_uint8 true (Value.tuple #[])) w fun a0 w0 ↦
    DoA P (Instr.alloc t_arr12_uint8 true (Value.tuple #[])) w0 fun a1 w1 ↦
      Lp [Value.int IntKind.i64 0] w1 fun K0 ↦
        ∀ (n0 : Int) (l0 : Nat) (w2 : World),
          K0 l0 [Value.int IntKind.i64 n0] w2 →
            Br (ltI n0 4)
              (Nn (IntKind.wrap IntKind.i64 (8 * n0)) ∧
                Ix (some a1) 12 n0 1 fun a2 ↦ DoU P (storeVar t_uint8 a2 (Value.int IntKind.u8 (IntKind.wrap IntKind.u8 (Int.fdiv x0 (2 ^ min (Int.toNat (IntKind.wrap IntKind.i64 (8 * n0))) 64))))) w2 fun w3 ↦ Nx K0 l0 [Value.int IntKind.i64 (IntKind.wrap IntKind.i64 (n0 + 1))] w3)
              (Lp [Value.int IntKind.i64 0] w2 fun K1 ↦
                ∀ (n1 : Int) (l1 : Nat) (w4 : World),
                  K1 l1 [Value.int IntKind.i64 n1] w4 →
                    Br (ltI n1 8)
                      (Nn (IntKind.wrap IntKind.i64 (8 * n1)) ∧
                        Ix (some a1) 12 (IntKind.wrap IntKind.i64 (4 + n1)) 1 fun a3 ↦
                          DoU P (storeVar t_uint8 a3 (Value.int IntKind.u8 (IntKind.wrap IntKind.u8 (Int.fdiv (IntKind.wrap IntKind.u64 x1) (2 ^ min (Int.toNat (IntKind.wrap IntKind.i64 (8 * n1))) 64))))) w4 fun w5 ↦ Nx K1 l1 [Value.int IntKind.i64 (IntKind.wrap IntKind.i64 (n1 + 1))] w5)
                      (LdV P t_arr12_uint8 a1 w4 fun v0 ↦ DoU P (storeVar t_arr12_uint8 a0 v0) w4 fun w6 ↦ LdV P t_arr12_uint8 a0 w6 fun v1 ↦ R v1 w6))
theorem ok_vault_nonce {w : World} {R : Value → World → Prop} (x0 : Int) (x1 : Int) (h : vc_vault_nonce x0 x1 w R) : Cs P f_vault_nonce #[Value.int IntKind.i64 x0, Value.int IntKind.i64 x1] w R := wpF_ok follows Tryd.func81 (Eq.mpr (by kernel_rfl) h)

/-- (*coffret/vault.Vault).Key -/
def vc_vault_Vault_Key (x0 : Option Addr) (x1 : ByteArray) (x2 : Option Addr) (x2l : Nat) (x2c : Nat) (w : World) (R : Value → World → Prop) : Prop :=
  DoA P (Instr.alloc t_vault_Key true (Value.tuple #[])) w fun a0 w0 ↦
    Br (Option.isNone x0) (DoV P (Instr.build t_vault_Key #[]) w0 fun v0 w1 ↦ DoU P (storeVar t_vault_Key a0 v0) w1 fun w2 ↦ LdV P t_vault_Key a0 w2 fun v1 ↦ R v1 w2)
      (DoV P (Instr.build t_code_Writer #[]) w0 fun v2 w3 ↦
        DoA P (Instr.box t_code_Writer v2) w3 fun a1 w4 ↦
          DoL P (Instr.buildSlice t_sl_string 1 #[(0, Value.string x1)]) w4 fun p0 l0 l1 w5 ↦
            Cs P f_code_Writer_Text #[Value.pointer (some a1), Value.slice p0 l0 l1] w5 fun v3 w6 ↦
              v3 = Value.tuple #[] ∧
                Cs P f_code_Writer_Num #[Value.pointer (some a1), Value.slice x2 x2l x2c] w6 fun v4 w7 ↦
                  v4 = Value.tuple #[] ∧
                    Dr w7 fun w8 ↦
                      NN x0 fun a2 ↦
                        LdF P t_vault_backend (Addr.add a2 0) w8 fun h0 v5 ↦
                          NN x0 fun a3 ↦
                            RdL P (Instr.sliceAt t_vault_Key (Value.pointer (some (Addr.add a3 1))) none none none) w8 fun p1 l2 l3 ↦
                              Cs P f_code_Writer_Bytes #[Value.pointer (some a1)] w8 fun v6 w9 ↦
                                ∃ p2 l4 l5,
                                  v6 = Value.slice p2 l4 l5 ∧
                                    (Still P (Instr.sliceAt t_vault_Key (Value.pointer (some (Addr.add a3 1))) none none none) (Value.slice p1 l2 l3) w9 ∧ Still P (loadVar t_vault_backend (Addr.add a2 0)) (Value.iface h0 v5) w9 ∧ True) ∧
                                      DoL P (Instr.buildSlice t_sl_sl_uint8 1 #[(0, Value.slice p2 l4 l5)]) w9 fun p3 l6 l7 w10 ↦
                                        (Still P (Instr.sliceAt t_vault_Key (Value.pointer (some (Addr.add a3 1))) none none none) (Value.slice p1 l2 l3) w10 ∧ Still P (loadVar t_vault_backend (Addr.add a2 0)) (Value.iface h0 v5) w10 ∧ True) ∧
                                          ∃ h1 c0,
                                            Sem.run P (callMethod (Value.iface h0 v5) "Derive" #[Value.slice p1 l2 l3, Value.slice p3 l6 l7]) w10 = Result.ok (Next.enter h1 c0) w10 ∧
                                              Cs P h1 c0 w10 fun v7 w11 ↦ ∃ v8, v7 = v8 ∧ (Still P (loadVar t_vault_backend (Addr.add a2 0)) (Value.iface h0 v5) w11 ∧ True) ∧ DoU P (storeVar t_vault_Key a0 v8) w11 fun w12 ↦ LdV P t_vault_Key a0 w12 fun v9 ↦ R v9 w12)
theorem ok_vault_Vault_Key {w : World} {R : Value → World → Prop} (x0 : Option Addr) (x1 : ByteArray) (x2 : Option Addr) (x2l : Nat) (x2c : Nat) (h : vc_vault_Vault_Key x0 x1 x2 x2l x2c w R) : Cs P f_vault_Vault_Key #[Value.pointer x0, Value.string x1, Value.slice x2 x2l x2c] w R := wpF_ok follows Tryd.func82 (Eq.mpr (by kernel_rfl) h)

/-- coffret/merkle.half -/
def vc_merkle_half (x0 : Int) (w : World) (R : Value → World → Prop) : Prop :=
  Lp [Value.int IntKind.i64 1] w fun K0 ↦ ∀ (n0 : Int) (l0 : Nat) (w0 : World), K0 l0 [Value.int IntKind.i64 n0] w0 → Br (ltI (IntKind.wrap IntKind.i64 (2 * n0)) x0) (Nx K0 l0 [Value.int IntKind.i64 (IntKind.wrap IntKind.i64 (n0 * 2))] w0) (R (Value.int IntKind.i64 n0) w0)
theorem ok_merkle_half {w : World} {R : Value → World → Prop} (x0 : Int) (h : vc_merkle_half x0 w R) : Cs P f_merkle_half #[Value.int IntKind.i64 x0] w R := wpF_ok follows Tryd.func83 (Eq.mpr (by kernel_rfl) h)

/-- coffret/merkle.pair -/
def vc_merkle_pair (x0 : Option Addr) (x1 : Value) (x2 : Value) (w : World) (R : Value → World → Prop) : Prop :=
  DoA P (Instr.box t_arr32_uint8 x1) w fun a0 w0 ↦
    DoA P (Instr.box t_arr32_uint8 x2) w0 fun a1 w1 ↦
      DoA P (Instr.alloc t_arr32_uint8 true (Value.tuple #[])) w1 fun a2 w2 ↦
        Dr w2 fun w3 ↦
          RdL P (Instr.sliceAt t_arr32_uint8 (Value.pointer (some a0)) none none none) w3 fun p0 l0 l1 ↦
            RdL P (Instr.sliceAt t_arr32_uint8 (Value.pointer (some a1)) none none none) w3 fun p1 l2 l3 ↦
              DoL P (Instr.buildSlice t_sl_uint8 1 #[(0, Value.int IntKind.u8 50)]) w3 fun p2 l4 l5 w4 ↦
                (Still P (Instr.sliceAt t_arr32_uint8 (Value.pointer (some a1)) none none none) (Value.slice p1 l2 l3) w4 ∧ Still P (Instr.sliceAt t_arr32_uint8 (Value.pointer (some a0)) none none none) (Value.slice p0 l0 l1) w4 ∧ True) ∧
                  DoL P (Instr.buildSlice t_sl_sl_uint8 3 #[(0, Value.slice p2 l4 l5), (1, Value.slice p0 l0 l1), (2, Value.slice p1 l2 l3)]) w4 fun p3 l6 l7 w5 ↦
                    Cs P f_vault_Vault_Hash #[Value.pointer x0, Value.slice p3 l6 l7] w5 fun v0 w6 ↦ ∃ v1, v0 = v1 ∧ DoU P (storeVar t_arr32_uint8 a2 v1) w6 fun w7 ↦ LdV P t_arr32_uint8 a2 w7 fun v2 ↦ R v2 w7
theorem ok_merkle_pair {w : World} {R : Value → World → Prop} (x0 : Option Addr) (x1 : Value) (x2 : Value) (h : vc_merkle_pair x0 x1 x2 w R) : Cs P f_merkle_pair #[Value.pointer x0, x1, x2] w R := wpF_ok follows Tryd.func84 (Eq.mpr (by kernel_rfl) h)

/-- coffret/code.Read -/
def vc_code_Read (x0 : Option Addr) (x0l : Nat) (x0c : Nat) (w : World) (R : Value → World → Prop) : Prop :=
  DoL P (Builtin.append_ #[t_sl_uint8, t_sl_uint8] t_sl_uint8 #[Value.slice none 0 0, Value.slice x0 x0l x0c]) w fun p0 l0 l1 w0 ↦
    DoV P (Instr.build t_code_Reader #[(0, Value.slice p0 l0 l1)]) w0 fun v0 w1 ↦ DoA P (Instr.box t_code_Reader v0) w1 fun a0 w2 ↦ R (Value.pointer (some a0)) w2
theorem ok_code_Read {w : World} {R : Value → World → Prop} (x0 : Option Addr) (x0l : Nat) (x0c : Nat) (h : vc_code_Read x0 x0l x0c w R) : Cs P f_code_Read #[Value.slice x0 x0l x0c] w R := wpF_ok follows Tryd.func85 (Eq.mpr (by kernel_rfl) h)

end Go.Dv

set_option maxRecDepth 100000
namespace Go.Dv
open Go Go.Sh Go.Proofs

/-- (*coffret/code.Reader).In -/
def vc_code_Reader_In (x0 : Option Addr) (x1 : Int) (x2 : Int) (w : World) (R : Value → World → Prop) : Prop :=
  Cs P f_code_Reader_Num #[Value.pointer x0] w fun v0 w0 ↦
    ∃ n0,
      v0 = Value.int IntKind.i64 n0 ∧
        Jn (fun K0 ↦ Br (ltI n0 x1) (K0 [Value.bool true] w0) (K0 [Value.bool (gtI n0 x2)] w0)) fun K1 ↦
          ∀ (b0 : Bool) (w1 : World),
            K1 [Value.bool b0] w1 →
              Jn (fun K2 ↦ Br b0 (Cs P f_code_Reader_Take #[Value.pointer x0, Value.int IntKind.i64 (-1)] w1 fun v1 w2 ↦ ∃ p0 l0 l1 b1, v1 = Value.tuple #[Value.slice p0 l0 l1, Value.bool b1] ∧ K2 [] w2) (K2 [] w1)) fun K3 ↦
                ∀ (w3 : World), K3 [] w3 → Cs P f_code_Reader_Good #[Value.pointer x0] w3 fun v2 w4 ↦ ∃ b2, v2 = Value.bool b2 ∧ Br (!b2) (R (Value.int IntKind.i64 0) w4) (R (Value.int IntKind.i64 n0) w4)
theorem ok_code_Reader_In {w : World} {R : Value → World → Prop} (x0 : Option Addr) (x1 : Int) (x2 : Int) (h : vc_code_Reader_In x0 x1 x2 w R) : Cs P f_code_Reader_In #[Value.pointer x0, Value.int IntKind.i64 x1, Value.int IntKind.i64 x2] w R := wpF_ok follows Tryd.func86 (Eq.mpr (by kernel_rfl) h)

/-- (*coffret/disk.Disk).ready -/
def vc_disk_Disk_ready (x0 : Option Addr) (x1 : Int) (w : World) (R : Value → World → Prop) : Prop :=
  Br (Option.isNone x0) (R (Value.int IntKind.i64 2) w)
    (NN x0 fun a0 ↦
      LdB P t_bool (Addr.add a0 3) w fun b0 ↦
        Br b0 (R (Value.int IntKind.i64 8) w)
          (Jn (fun K0 ↦ Br (ltI x1 0) (K0 [Value.bool true] w) (NN x0 fun a1 ↦ LdL P t_sl_disk_sector (Addr.add a1 0) w fun p0 l0 l1 ↦ K0 [Value.bool (geI x1 (Nat.cast l0))] w)) fun K1 ↦
            ∀ (b1 : Bool) (w0 : World), K1 [Value.bool b1] w0 → Br b1 (R (Value.int IntKind.i64 1) w0) (R (Value.int IntKind.i64 0) w0)))
theorem ok_disk_Disk_ready {w : World} {R : Value → World → Prop} (x0 : Option Addr) (x1 : Int) (h : vc_disk_Disk_ready x0 x1 w R) : Cs P f_disk_Disk_ready #[Value.pointer x0, Value.int IntKind.i64 x1] w R := wpF_ok follows Tryd.func88 (Eq.mpr (by kernel_rfl) h)

/-- (*coffret/disk.Disk).Act -/
def vc_disk_Disk_Act (x0 : Option Addr) (w : World) (R : Value → World → Prop) : Prop :=
  Jn (fun K0 ↦ Br (Option.isNone x0) (K0 [Value.bool true] w) (NN x0 fun a0 ↦ LdB P t_bool (Addr.add a0 3) w fun b0 ↦ K0 [Value.bool b0] w)) fun K1 ↦
    ∀ (b1 : Bool) (w0 : World),
      K1 [Value.bool b1] w0 →
        Br b1 (R (Value.tuple #[Value.bool false, Value.int IntKind.u64 0]) w0)
          (NN x0 fun a1 ↦
            LdI IntKind.i64 P t_int (Addr.add a1 4) w0 fun n0 ↦
              NN x0 fun a2 ↦
                DoU P (storeVar t_int (Addr.add a2 4) (Value.int IntKind.i64 (IntKind.wrap IntKind.i64 (n0 + 1)))) w0 fun w1 ↦
                  NN x0 fun a3 ↦
                    LdI IntKind.i64 P t_int (Addr.add a3 5) w1 fun n1 ↦
                      Br (eqI n1 0) (R (Value.tuple #[Value.bool false, Value.int IntKind.u64 0]) w1)
                        (NN x0 fun a4 ↦
                          LdI IntKind.i64 P t_int (Addr.add a4 5) w1 fun n2 ↦
                            NN x0 fun a5 ↦
                              DoU P (storeVar t_int (Addr.add a5 5) (Value.int IntKind.i64 (IntKind.wrap IntKind.i64 (n2 - 1)))) w1 fun w2 ↦
                                NN x0 fun a6 ↦
                                  LdI IntKind.i64 P t_int (Addr.add a6 5) w2 fun n3 ↦
                                    Br (gtI n3 0) (R (Value.tuple #[Value.bool false, Value.int IntKind.u64 0]) w2) (Dr w2 fun w3 ↦ NN x0 fun a7 ↦ LdI IntKind.u64 P t_uint64 (Addr.add a7 6) w3 fun n4 ↦ R (Value.tuple #[Value.bool true, Value.int IntKind.u64 n4]) w3)))
theorem ok_disk_Disk_Act {w : World} {R : Value → World → Prop} (x0 : Option Addr) (h : vc_disk_Disk_Act x0 w R) : Cs P f_disk_Disk_Act #[Value.pointer x0] w R := wpF_ok follows Tryd.func89 (Eq.mpr (by kernel_rfl) h)

/-- (*coffret/disk.Disk).Read -/
def vc_disk_Disk_Read (x0 : Option Addr) (x1 : Int) (w : World) (R : Value → World → Prop) : Prop :=
  Cs P f_disk_Disk_ready #[Value.pointer x0, Value.int IntKind.i64 x1] w fun v0 w0 ↦
    ∃ n0,
      v0 = Value.int IntKind.i64 n0 ∧
        Br (neI n0 0) (R (Value.tuple #[Value.slice none 0 0, Value.int IntKind.i64 n0]) w0)
          (NN x0 fun a0 ↦
            LdL P t_sl_disk_sector (Addr.add a0 0) w0 fun p0 l0 l1 ↦
              Ix p0 l0 x1 256 fun a1 ↦
                LdV P t_disk_sector a1 w0 fun v1 ↦
                  DoA P (Instr.alloc t_disk_sector true (Value.tuple #[])) w0 fun a2 w1 ↦ DoU P (storeVar t_disk_sector a2 v1) w1 fun w2 ↦ DoL P (Instr.sliceAt t_disk_sector (Value.pointer (some a2)) none none none) w2 fun p1 l2 l3 w3 ↦ R (Value.tuple #[Value.slice p1 l2 l3, Value.int IntKind.i64 0]) w3)
theorem ok_disk_Disk_Read {w : World} {R : Value → World → Prop} (x0 : Option Addr) (x1 : Int) (h : vc_disk_Disk_Read x0 x1 w R) : Cs P f_disk_Disk_Read #[Value.pointer x0, Value.int IntKind.i64 x1] w R := wpF_ok follows Tryd.func90 (Eq.mpr (by kernel_rfl) h)

/-- (*coffret/code.Reader).Num -/
def vc_code_Reader_Num (x0 : Option Addr) (w : World) (R : Value → World → Prop) : Prop :=
  Cs P f_code_Reader_Take #[Value.pointer x0, Value.int IntKind.i64 8] w fun v0 w0 ↦
    ∃ p0 l0 l1 b0,
      v0 = Value.tuple #[Value.slice p0 l0 l1, Value.bool b0] ∧
        Br (!b0) (R (Value.int IntKind.i64 0) w0)
          (Lp [Value.int IntKind.u64 0, Value.int IntKind.i64 0] w0 fun K0 ↦
            ∀ (n0 n1 : Int) (l2 : Nat) (w1 : World),
              K0 l2 [Value.int IntKind.u64 n0, Value.int IntKind.i64 n1] w1 →
                Br (ltI n1 (Nat.cast l0))
                  (Ix p0 l0 n1 1 fun a0 ↦
                    LdI IntKind.u8 P t_uint8 a0 w1 fun n2 ↦
                      Nn (IntKind.wrap IntKind.i64 (8 * n1)) ∧ Nx K0 l2 [Value.int IntKind.u64 (bitsOf BinOp.or IntKind.u64 n0 (IntKind.wrap IntKind.u64 (IntKind.wrap IntKind.u64 n2 * 2 ^ min (Int.toNat (IntKind.wrap IntKind.i64 (8 * n1))) 64))), Value.int IntKind.i64 (IntKind.wrap IntKind.i64 (n1 + 1))] w1)
                  (R (Value.int IntKind.i64 (IntKind.wrap IntKind.i64 n0)) w1))
theorem ok_code_Reader_Num {w : World} {R : Value → World → Prop} (x0 : Option Addr) (h : vc_code_Reader_Num x0 w R) : Cs P f_code_Reader_Num #[Value.pointer x0] w R := wpF_ok follows Tryd.func91 (Eq.mpr (by kernel_rfl) h)

/-- (*coffret/code.Reader).Good -/
def vc_code_Reader_Good (x0 : Option Addr) (w : World) (R : Value → World → Prop) : Prop :=
  Jn (fun K0 ↦ Br (!Option.isNone x0) (NN x0 fun a0 ↦ LdB P t_bool (Addr.add a0 1) w fun b0 ↦ K0 [Value.bool !b0] w) (K0 [Value.bool false] w)) fun K1 ↦ ∀ (b1 : Bool) (w0 : World), K1 [Value.bool b1] w0 → R (Value.bool b1) w0
theorem ok_code_Reader_Good {w : World} {R : Value → World → Prop} (x0 : Option Addr) (h : vc_code_Reader_Good x0 w R) : Cs P f_code_Reader_Good #[Value.pointer x0] w R := wpF_ok follows Tryd.func92 (Eq.mpr (by kernel_rfl) h)

/-- (*coffret/code.Reader).Text -/
def vc_code_Reader_Text (x0 : Option Addr) (x1 : Int) (w : World) (R : Value → World → Prop) : Prop :=
  Cs P f_code_Reader_Take #[Value.pointer x0, Value.int IntKind.i64 3] w fun v0 w0 ↦
    ∃ p0 l0 l1 b0,
      v0 = Value.tuple #[Value.slice p0 l0 l1, Value.bool b0] ∧
        Br (!b0) (R (Value.string (ByteArray.mk #[])) w0)
          (Dr w0 fun w1 ↦
            Ix p0 l0 0 1 fun a0 ↦
              LdI IntKind.u8 P t_uint8 a0 w1 fun n0 ↦
                Ix p0 l0 1 1 fun a1 ↦
                  LdI IntKind.u8 P t_uint8 a1 w1 fun n1 ↦
                    Nn 8 ∧
                      Ix p0 l0 2 1 fun a2 ↦
                        LdI IntKind.u8 P t_uint8 a2 w1 fun n2 ↦
                          Nn 16 ∧
                            Br (gtI (bitsOf BinOp.or IntKind.i64 (bitsOf BinOp.or IntKind.i64 (IntKind.wrap IntKind.i64 n0) (IntKind.wrap IntKind.i64 (IntKind.wrap IntKind.i64 n1 * 2 ^ 8))) (IntKind.wrap IntKind.i64 (IntKind.wrap IntKind.i64 n2 * 2 ^ 16))) (mnI x1 65536))
                              (Cs P f_code_Reader_Take #[Value.pointer x0, Value.int IntKind.i64 (-1)] w1 fun v1 w2 ↦ ∃ p1 l2 l3 b1, v1 = Value.tuple #[Value.slice p1 l2 l3, Value.bool b1] ∧ R (Value.string (ByteArray.mk #[])) w2)
                              (Cs P f_code_Reader_Take #[Value.pointer x0, Value.int IntKind.i64 (bitsOf BinOp.or IntKind.i64 (bitsOf BinOp.or IntKind.i64 (IntKind.wrap IntKind.i64 n0) (IntKind.wrap IntKind.i64 (IntKind.wrap IntKind.i64 n1 * 2 ^ 8))) (IntKind.wrap IntKind.i64 (IntKind.wrap IntKind.i64 n2 * 2 ^ 16)))] w1
                                fun v2 w3 ↦ ∃ p2 l4 l5 b2, v2 = Value.tuple #[Value.slice p2 l4 l5, Value.bool b2] ∧ DoS P (convert t_sl_uint8 t_string (Value.slice p2 l4 l5)) w3 fun s0 w4 ↦ R (Value.string s0) w4))
theorem ok_code_Reader_Text {w : World} {R : Value → World → Prop} (x0 : Option Addr) (x1 : Int) (h : vc_code_Reader_Text x0 x1 w R) : Cs P f_code_Reader_Text #[Value.pointer x0, Value.int IntKind.i64 x1] w R := wpF_ok follows Tryd.func93 (Eq.mpr (by kernel_rfl) h)

/-- (*coffret/vault.Vault).Open -/
def vc_vault_Vault_Open (x0 : Option Addr) (x1 : Value) (x2 : Int) (x3 : Int) (x4 : Option Addr) (x4l : Nat) (x4c : Nat) (x5 : Option Addr) (x5l : Nat) (x5c : Nat) (w : World) (R : Value → World → Prop) : Prop :=
  DoA P (Instr.box t_vault_Key x1) w fun a0 w0 ↦
    Cs P f_vault_Vault_may #[Value.pointer x0, Value.int IntKind.i64 x2, Value.int IntKind.i64 x3] w0 fun v0 w1 ↦
      ∃ n0,
        v0 = Value.int IntKind.i64 n0 ∧
          Br (neI n0 0) (R (Value.tuple #[Value.slice none 0 0, Value.int IntKind.i64 n0]) w1)
            (Cs P f_vault_nonce #[Value.int IntKind.i64 x2, Value.int IntKind.i64 x3] w1 fun v1 w2 ↦
              ∃ v2,
                v1 = v2 ∧
                  DoA P (Instr.alloc t_arr12_uint8 true (Value.tuple #[])) w2 fun a1 w3 ↦
                    DoU P (storeVar t_arr12_uint8 a1 v2) w3 fun w4 ↦
                      Dr w4 fun w5 ↦
                        NN x0 fun a2 ↦
                          LdF P t_vault_backend (Addr.add a2 0) w5 fun h0 v3 ↦
                            RdL P (Instr.sliceAt t_vault_Key (Value.pointer (some a0)) none none none) w5 fun p0 l0 l1 ↦
                              RdL P (Instr.sliceAt t_arr12_uint8 (Value.pointer (some a1)) none none none) w5 fun p1 l2 l3 ↦
                                ∃ h1 c0,
                                  Sem.run P (callMethod (Value.iface h0 v3) "Open" #[Value.slice p0 l0 l1, Value.slice p1 l2 l3, Value.slice x4 x4l x4c, Value.slice x5 x5l x5c]) w5 = Result.ok (Next.enter h1 c0) w5 ∧
                                    Cs P h1 c0 w5 fun v4 w6 ↦
                                      ∃ p2 l4 l5 n1,
                                        v4 = Value.tuple #[Value.slice p2 l4 l5, Value.int IntKind.i64 n1] ∧
                                          (Still P (loadVar t_vault_backend (Addr.add a2 0)) (Value.iface h0 v3) w6 ∧ True) ∧ Br (neI n1 0) (R (Value.tuple #[Value.slice none 0 0, Value.int IntKind.i64 9]) w6) (R (Value.tuple #[Value.slice p2 l4 l5, Value.int IntKind.i64 0]) w6))
theorem ok_vault_Vault_Open {w : World} {R : Value → World → Prop} (x0 : Option Addr) (x1 : Value) (x2 : Int) (x3 : Int) (x4 : Option Addr) (x4l : Nat) (x4c : Nat) (x5 : Option Addr) (x5l : Nat) (x5c : Nat) (h : vc_vault_Vault_Open x0 x1 x2 x3 x4 x4l x4c x5 x5l x5c w R) : Cs P f_vault_Vault_Open #[Value.pointer x0, x1, Value.int IntKind.i64 x2, Value.int IntKind.i64 x3, Value.slice x4 x4l x4c, Value.slice x5 x5l x5c] w R := wpF_ok follows Tryd.func94 (Eq.mpr (by kernel_rfl) h)

/-- coffret/record.Get -/
def vc_record_Get (x0 : Option Addr) (x0l : Nat) (x0c : Nat) (w : World) (R : Value → World → Prop) : Prop :=
  DoA P (Instr.alloc t_api_Record true (Value.tuple #[])) w fun a0 w0 ↦
    Cs P f_code_Read #[Value.slice x0 x0l x0c] w0 fun v0 w1 ↦
      ∃ p0,
        v0 = Value.pointer p0 ∧
          Cs P f_code_Reader_Take #[Value.pointer p0, Value.int IntKind.i64 1] w1 fun v1 w2 ↦
            ∃ p1 l0 l1 b0,
              v1 = Value.tuple #[Value.slice p1 l0 l1, Value.bool b0] ∧
                Br (!b0) (DoV P (Instr.build t_api_Record #[]) w2 fun v2 w3 ↦ DoU P (storeVar t_api_Record a0 v2) w3 fun w4 ↦ LdV P t_api_Record a0 w4 fun v3 ↦ R (Value.tuple #[v3, Value.int IntKind.i64 4]) w4)
                  (Jn
                    (fun K0 ↦
                      Dr w2 fun w5 ↦
                        Ix p1 l0 0 1 fun a1 ↦
                          LdI IntKind.u8 P t_uint8 a1 w5 fun n0 ↦
                            (Cs P f_code_Reader_Num #[Value.pointer p0] w5 fun v4 w6 ↦
                                ∃ n1,
                                  v4 = Value.int IntKind.i64 n1 ∧
                                    (Still P (loadVar t_uint8 a1) (Value.int IntKind.u8 n0) w6 ∧ True) ∧
                                      (Cs P f_code_Reader_Num #[Value.pointer p0] w6 fun v5 w7 ↦
                                          ∃ n2,
                                            v5 = Value.int IntKind.i64 n2 ∧
                                              (Still P (loadVar t_uint8 a1) (Value.int IntKind.u8 n0) w7 ∧ True) ∧
                                                (Cs P f_code_Reader_Num #[Value.pointer p0] w7 fun v6 w8 ↦
                                                    ∃ n3,
                                                      v6 = Value.int IntKind.i64 n3 ∧
                                                        (Still P (loadVar t_uint8 a1) (Value.int IntKind.u8 n0) w8 ∧ True) ∧
                                                          (Cs P f_code_Reader_Num #[Value.pointer p0] w8 fun v7 w9 ↦
                                                              ∃ n4,
                                                                v7 = Value.int IntKind.i64 n4 ∧
                                                                  (Still P (loadVar t_uint8 a1) (Value.int IntKind.u8 n0) w9 ∧ True) ∧
                                                                    RdV P (Instr.build t_api_Record #[(0, Value.int IntKind.i64 (IntKind.wrap IntKind.i64 n0)), (1, Value.int IntKind.i64 n1), (2, Value.int IntKind.i64 n2), (3, Value.int IntKind.i64 n3), (4, Value.int IntKind.i64 n4)]) w9 fun v8 ↦
                                                                      DoA P (Instr.alloc t_api_Record true (Value.tuple #[])) w9 fun a2 w10 ↦
                                                                        (Still P (Instr.build t_api_Record #[(0, Value.int IntKind.i64 (IntKind.wrap IntKind.i64 n0)), (1, Value.int IntKind.i64 n1), (2, Value.int IntKind.i64 n2), (3, Value.int IntKind.i64 n3), (4, Value.int IntKind.i64 n4)]) v8 w10 ∧
                                                                            Still P (loadVar t_uint8 a1) (Value.int IntKind.u8 n0) w10 ∧ True) ∧
                                                                          DoU P (storeVar t_api_Record a2 v8) w10 fun w11 ↦ K0 [Value.pointer (some a2)] w11) ∧
                                                            DoA P (Instr.alloc t_api_Record true (Value.tuple #[])) w8 fun a3 w12 ↦
                                                              (Still P (loadVar t_uint8 a1) (Value.int IntKind.u8 n0) w12 ∧ True) ∧
                                                                Cs P f_code_Reader_Num #[Value.pointer p0] w12 fun v9 w13 ↦
                                                                  ∃ n5,
                                                                    v9 = Value.int IntKind.i64 n5 ∧
                                                                      (Still P (loadVar t_uint8 a1) (Value.int IntKind.u8 n0) w13 ∧ True) ∧
                                                                        RdV P (Instr.build t_api_Record #[(0, Value.int IntKind.i64 (IntKind.wrap IntKind.i64 n0)), (1, Value.int IntKind.i64 n1), (2, Value.int IntKind.i64 n2), (3, Value.int IntKind.i64 n3), (4, Value.int IntKind.i64 n5)]) w13 fun v10 ↦
                                                                          DoU P (storeVar t_api_Record a3 v10) w13 fun w14 ↦ K0 [Value.pointer (some a3)] w14) ∧
                                                  DoA P (Instr.alloc t_api_Record true (Value.tuple #[])) w7 fun a4 w15 ↦
                                                    (Still P (loadVar t_uint8 a1) (Value.int IntKind.u8 n0) w15 ∧ True) ∧
                                                      Cs P f_code_Reader_Num #[Value.pointer p0] w15 fun v11 w16 ↦
                                                        ∃ n6,
                                                          v11 = Value.int IntKind.i64 n6 ∧
                                                            (Still P (loadVar t_uint8 a1) (Value.int IntKind.u8 n0) w16 ∧ True) ∧
                                                              Cs P f_code_Reader_Num #[Value.pointer p0] w16 fun v12 w17 ↦
                                                                ∃ n7,
                                                                  v12 = Value.int IntKind.i64 n7 ∧
                                                                    (Still P (loadVar t_uint8 a1) (Value.int IntKind.u8 n0) w17 ∧ True) ∧
                                                                      RdV P (Instr.build t_api_Record #[(0, Value.int IntKind.i64 (IntKind.wrap IntKind.i64 n0)), (1, Value.int IntKind.i64 n1), (2, Value.int IntKind.i64 n2), (3, Value.int IntKind.i64 n6), (4, Value.int IntKind.i64 n7)]) w17 fun v13 ↦
                                                                        DoU P (storeVar t_api_Record a4 v13) w17 fun w18 ↦ K0 [Value.pointer (some a4)] w18) ∧
                                        DoA P (Instr.alloc t_api_Record true (Value.tuple #[])) w6 fun a5 w19 ↦
                                          (Still P (loadVar t_uint8 a1) (Value.int IntKind.u8 n0) w19 ∧ True) ∧
                                            Cs P f_code_Reader_Num #[Value.pointer p0] w19 fun v14 w20 ↦
                                              ∃ n8,
                                                v14 = Value.int IntKind.i64 n8 ∧
                                                  (Still P (loadVar t_uint8 a1) (Value.int IntKind.u8 n0) w20 ∧ True) ∧
                                                    Cs P f_code_Reader_Num #[Value.pointer p0] w20 fun v15 w21 ↦
                                                      ∃ n9,
                                                        v15 = Value.int IntKind.i64 n9 ∧
                                                          (Still P (loadVar t_uint8 a1) (Value.int IntKind.u8 n0) w21 ∧ True) ∧
                                                            Cs P f_code_Reader_Num #[Value.pointer p0] w21 fun v16 w22 ↦
                                                              ∃ n10,
                                                                v16 = Value.int IntKind.i64 n10 ∧
                                                                  (Still P (loadVar t_uint8 a1) (Value.int IntKind.u8 n0) w22 ∧ True) ∧
                                                                    RdV P (Instr.build t_api_Record #[(0, Value.int IntKind.i64 (IntKind.wrap IntKind.i64 n0)), (1, Value.int IntKind.i64 n1), (2, Value.int IntKind.i64 n8), (3, Value.int IntKind.i64 n9), (4, Value.int IntKind.i64 n10)]) w22 fun v17 ↦
                                                                      DoU P (storeVar t_api_Record a5 v17) w22 fun w23 ↦ K0 [Value.pointer (some a5)] w23) ∧
                              DoA P (Instr.alloc t_api_Record true (Value.tuple #[])) w5 fun a6 w24 ↦
                                (Still P (loadVar t_uint8 a1) (Value.int IntKind.u8 n0) w24 ∧ True) ∧
                                  Cs P f_code_Reader_Num #[Value.pointer p0] w24 fun v18 w25 ↦
                                    ∃ n11,
                                      v18 = Value.int IntKind.i64 n11 ∧
                                        (Still P (loadVar t_uint8 a1) (Value.int IntKind.u8 n0) w25 ∧ True) ∧
                                          Cs P f_code_Reader_Num #[Value.pointer p0] w25 fun v19 w26 ↦
                                            ∃ n12,
                                              v19 = Value.int IntKind.i64 n12 ∧
                                                (Still P (loadVar t_uint8 a1) (Value.int IntKind.u8 n0) w26 ∧ True) ∧
                                                  Cs P f_code_Reader_Num #[Value.pointer p0] w26 fun v20 w27 ↦
                                                    ∃ n13,
                                                      v20 = Value.int IntKind.i64 n13 ∧
                                                        (Still P (loadVar t_uint8 a1) (Value.int IntKind.u8 n0) w27 ∧ True) ∧
                                                          Cs P f_code_Reader_Num #[Value.pointer p0] w27 fun v21 w28 ↦
                                                            ∃ n14,
                                                              v21 = Value.int IntKind.i64 n14 ∧
                                                                (Still P (loadVar t_uint8 a1) (Value.int IntKind.u8 n0) w28 ∧ True) ∧
                                                                  RdV P (Instr.build t_api_Record #[(0, Value.int IntKind.i64 (IntKind.wrap IntKind.i64 n0)), (1, Value.int IntKind.i64 n11), (2, Value.int IntKind.i64 n12), (3, Value.int IntKind.i64 n13), (4, Value.int IntKind.i64 n14)]) w28 fun v22 ↦
                                                                    DoU P (storeVar t_api_Record a6 v22) w28 fun w29 ↦ K0 [Value.pointer (some a6)] w29)
                    fun K1 ↦
                    ∀ (a7 : Addr) (w30 : World),
                      K1 [Value.pointer (some a7)] w30 →
                        Cs P f_code_Reader_Text #[Value.pointer p0, Value.int IntKind.i64 512] w30 fun v23 w31 ↦
                          ∃ s0,
                            v23 = Value.string s0 ∧
                              DoU P (storeVar t_string (Addr.add a7 5) (Value.string s0)) w31 fun w32 ↦
                                Jn (fun K2 ↦ Cs P f_code_Reader_End #[Value.pointer p0] w32 fun v24 w33 ↦ ∃ b1, v24 = Value.bool b1 ∧ Br (!b1) (K2 [Value.bool true] w33) (LdV P t_api_Record a7 w33 fun v25 ↦ Cs P f_record_Good #[v25] w33 fun v26 w34 ↦ ∃ b2, v26 = Value.bool b2 ∧ K2 [Value.bool !b2] w34)) fun K3 ↦
                                  ∀ (b3 : Bool) (w35 : World),
                                    K3 [Value.bool b3] w35 →
                                      Br b3 (DoV P (Instr.build t_api_Record #[]) w35 fun v27 w36 ↦ DoU P (storeVar t_api_Record a0 v27) w36 fun w37 ↦ LdV P t_api_Record a0 w37 fun v28 ↦ R (Value.tuple #[v28, Value.int IntKind.i64 4]) w37)
                                        (LdV P t_api_Record a7 w35 fun v29 ↦ DoU P (storeVar t_api_Record a0 v29) w35 fun w38 ↦ LdV P t_api_Record a0 w38 fun v30 ↦ R (Value.tuple #[v30, Value.int IntKind.i64 0]) w38))
theorem ok_record_Get {w : World} {R : Value → World → Prop} (x0 : Option Addr) (x0l : Nat) (x0c : Nat) (h : vc_record_Get x0 x0l x0c w R) : Cs P f_record_Get #[Value.slice x0 x0l x0c] w R := wpF_ok follows Tryd.func95 (Eq.mpr (by kernel_rfl) h)

/-- (*coffret/code.Reader).Take -/
def vc_code_Reader_Take (x0 : Option Addr) (x1 : Int) (w : World) (R : Value → World → Prop) : Prop :=
  Jn
    (fun K0 ↦
      Br (Option.isNone x0) (K0 [Value.bool true] w)
        (NN x0 fun a0 ↦ LdB P t_bool (Addr.add a0 1) w fun b0 ↦ Br b0 (K0 [Value.bool true] w) (Br (ltI x1 0) (K0 [Value.bool true] w) (NN x0 fun a1 ↦ LdL P t_sl_uint8 (Addr.add a1 0) w fun p0 l0 l1 ↦ K0 [Value.bool (gtI x1 (Nat.cast l0))] w))))
    fun K1 ↦
    ∀ (b1 : Bool) (w0 : World),
      K1 [Value.bool b1] w0 →
        Br b1
          (Jn (fun K2 ↦ Br (!Option.isNone x0) (NN x0 fun a2 ↦ DoU P (storeVar t_bool (Addr.add a2 1) (Value.bool true)) w0 fun w1 ↦ NN x0 fun a3 ↦ DoU P (storeVar t_sl_uint8 (Addr.add a3 0) (Value.slice none 0 0)) w1 fun w2 ↦ K2 [] w2) (K2 [] w0)) fun K3 ↦
            ∀ (w3 : World), K3 [] w3 → R (Value.tuple #[Value.slice none 0 0, Value.bool false]) w3)
          (NN x0 fun a4 ↦
            LdL P t_sl_uint8 (Addr.add a4 0) w0 fun p1 l2 l3 ↦
              DoL P (Instr.sliceAt t_sl_uint8 (Value.slice p1 l2 l3) none (some (Value.int IntKind.i64 x1)) (some (Value.int IntKind.i64 x1))) w0 fun p2 l4 l5 w4 ↦
                NN x0 fun a5 ↦
                  LdL P t_sl_uint8 (Addr.add a5 0) w4 fun p3 l6 l7 ↦
                    DoL P (Instr.sliceAt t_sl_uint8 (Value.slice p3 l6 l7) (some (Value.int IntKind.i64 x1)) none none) w4 fun p4 l8 l9 w5 ↦ NN x0 fun a6 ↦ DoU P (storeVar t_sl_uint8 (Addr.add a6 0) (Value.slice p4 l8 l9)) w5 fun w6 ↦ R (Value.tuple #[Value.slice p2 l4 l5, Value.bool true]) w6)
theorem ok_code_Reader_Take {w : World} {R : Value → World → Prop} (x0 : Option Addr) (x1 : Int) (h : vc_code_Reader_Take x0 x1 w R) : Cs P f_code_Reader_Take #[Value.pointer x0, Value.int IntKind.i64 x1] w R := wpF_ok follows Tryd.func96 (Eq.mpr (by kernel_rfl) h)

/-- (*coffret/code.Reader).End -/
def vc_code_Reader_End (x0 : Option Addr) (w : World) (R : Value → World → Prop) : Prop :=
  Jn (fun K0 ↦ Cs P f_code_Reader_Good #[Value.pointer x0] w fun v0 w0 ↦ ∃ b0, v0 = Value.bool b0 ∧ Br b0 (NN x0 fun a0 ↦ LdL P t_sl_uint8 (Addr.add a0 0) w0 fun p0 l0 l1 ↦ K0 [Value.bool (eqI (Nat.cast l0) 0)] w0) (K0 [Value.bool false] w0)) fun K1 ↦
    ∀ (b1 : Bool) (w1 : World), K1 [Value.bool b1] w1 → R (Value.bool b1) w1
theorem ok_code_Reader_End {w : World} {R : Value → World → Prop} (x0 : Option Addr) (h : vc_code_Reader_End x0 w R) : Cs P f_code_Reader_End #[Value.pointer x0] w R := wpF_ok follows Tryd.func97 (Eq.mpr (by kernel_rfl) h)

/-- (*coffret/ideal.World).Derive -/
def vc_ideal_World_Derive (x0 : Option Addr) (x1 : Option Addr) (x1l : Nat) (x1c : Nat) (x2 : Option Addr) (x2l : Nat) (x2c : Nat) (w : World) (R : Value → World → Prop) : Prop :=
  DoA P (Instr.alloc t_arr32_uint8 true (Value.tuple #[])) w fun a0 w0 ↦
    Br (Option.isNone x0) (DoV P (Instr.build t_arr32_uint8 #[]) w0 fun v0 w1 ↦ DoU P (storeVar t_arr32_uint8 a0 v0) w1 fun w2 ↦ LdV P t_arr32_uint8 a0 w2 fun v1 ↦ R v1 w2)
      (Cs P f_ideal_joined #[Value.slice x2 x2l x2c] w0 fun v2 w3 ↦
        ∃ p0 l0 l1,
          v2 = Value.slice p0 l0 l1 ∧
            DoL P (Instr.buildSlice t_sl_sl_uint8 2 #[(0, Value.slice x1 x1l x1c), (1, Value.slice p0 l0 l1)]) w3 fun p1 l2 l3 w4 ↦
              Cs P f_ideal_World_make #[Value.pointer x0, Value.int IntKind.u8 68, Value.int IntKind.i64 32, Value.slice p1 l2 l3] w4 fun v3 w5 ↦
                ∃ p2 l4 l5, v3 = Value.slice p2 l4 l5 ∧ DoA P (Instr.arrayAt t_arr32_uint8 (Value.slice p2 l4 l5)) w5 fun a1 w6 ↦ LdV P t_arr32_uint8 a1 w6 fun v4 ↦ DoU P (storeVar t_arr32_uint8 a0 v4) w6 fun w7 ↦ LdV P t_arr32_uint8 a0 w7 fun v5 ↦ R v5 w7)
theorem ok_ideal_World_Derive {w : World} {R : Value → World → Prop} (x0 : Option Addr) (x1 : Option Addr) (x1l : Nat) (x1c : Nat) (x2 : Option Addr) (x2l : Nat) (x2c : Nat) (h : vc_ideal_World_Derive x0 x1 x1l x1c x2 x2l x2c w R) : Cs P f_ideal_World_Derive #[Value.pointer x0, Value.slice x1 x1l x1c, Value.slice x2 x2l x2c] w R := wpF_ok follows Tryd.func113 (Eq.mpr (by kernel_rfl) h)

/-- (*coffret/ideal.World).Hash -/
def vc_ideal_World_Hash (x0 : Option Addr) (x1 : Option Addr) (x1l : Nat) (x1c : Nat) (w : World) (R : Value → World → Prop) : Prop :=
  DoA P (Instr.alloc t_arr32_uint8 true (Value.tuple #[])) w fun a0 w0 ↦
    Br (Option.isNone x0) (DoV P (Instr.build t_arr32_uint8 #[]) w0 fun v0 w1 ↦ DoU P (storeVar t_arr32_uint8 a0 v0) w1 fun w2 ↦ LdV P t_arr32_uint8 a0 w2 fun v1 ↦ R v1 w2)
      (Cs P f_ideal_joined #[Value.slice x1 x1l x1c] w0 fun v2 w3 ↦
        ∃ p0 l0 l1,
          v2 = Value.slice p0 l0 l1 ∧
            DoL P (Instr.buildSlice t_sl_sl_uint8 1 #[(0, Value.slice p0 l0 l1)]) w3 fun p1 l2 l3 w4 ↦
              Cs P f_ideal_World_make #[Value.pointer x0, Value.int IntKind.u8 72, Value.int IntKind.i64 32, Value.slice p1 l2 l3] w4 fun v3 w5 ↦
                ∃ p2 l4 l5, v3 = Value.slice p2 l4 l5 ∧ DoA P (Instr.arrayAt t_arr32_uint8 (Value.slice p2 l4 l5)) w5 fun a1 w6 ↦ LdV P t_arr32_uint8 a1 w6 fun v4 ↦ DoU P (storeVar t_arr32_uint8 a0 v4) w6 fun w7 ↦ LdV P t_arr32_uint8 a0 w7 fun v5 ↦ R v5 w7)
theorem ok_ideal_World_Hash {w : World} {R : Value → World → Prop} (x0 : Option Addr) (x1 : Option Addr) (x1l : Nat) (x1c : Nat) (h : vc_ideal_World_Hash x0 x1 x1l x1c w R) : Cs P f_ideal_World_Hash #[Value.pointer x0, Value.slice x1 x1l x1c] w R := wpF_ok follows Tryd.func114 (Eq.mpr (by kernel_rfl) h)

/-- (*coffret/ideal.World).Open -/
def vc_ideal_World_Open (x0 : Option Addr) (x1 : Option Addr) (x1l : Nat) (x1c : Nat) (x2 : Option Addr) (x2l : Nat) (x2c : Nat) (x3 : Option Addr) (x3l : Nat) (x3c : Nat) (x4 : Option Addr) (x4l : Nat) (x4c : Nat) (w : World) (R : Value → World → Prop) : Prop :=
  Br (Option.isNone x0) (R (Value.tuple #[Value.slice none 0 0, Value.int IntKind.i64 2]) w)
    (Dr w fun w0 ↦
      NN x0 fun a0 ↦
        LdM P t_map_string_string (Addr.add a0 1) w0 fun p0 ↦
          Cs P f_ideal_joined #[Value.slice x4 x4l x4c] w0 fun v0 w1 ↦
            ∃ p1 l0 l1,
              v0 = Value.slice p1 l0 l1 ∧
                (Still P (loadVar t_map_string_string (Addr.add a0 1)) (Value.map p0) w1 ∧ True) ∧
                  DoL P (Instr.buildSlice t_sl_sl_uint8 4 #[(0, Value.slice x1 x1l x1c), (1, Value.slice x2 x2l x2c), (2, Value.slice p1 l0 l1), (3, Value.slice x3 x3l x3c)]) w1 fun p2 l2 l3 w2 ↦
                    (Still P (loadVar t_map_string_string (Addr.add a0 1)) (Value.map p0) w2 ∧ True) ∧
                      Cs P f_ideal_name #[Value.int IntKind.u8 83, Value.slice p2 l2 l3] w2 fun v1 w3 ↦
                        ∃ s0,
                          v1 = Value.string s0 ∧
                            (Still P (loadVar t_map_string_string (Addr.add a0 1)) (Value.map p0) w3 ∧ True) ∧
                              ∃ s1 b0,
                                Sem.run P (Instr.lookup t_map_string_string (Value.map p0) (Value.string s0) true) w3 = Result.ok (Value.tuple #[Value.string s1, Value.bool b0]) w3 ∧
                                  Br (!b0) (R (Value.tuple #[Value.slice none 0 0, Value.int IntKind.i64 9]) w3) (DoL P (convert t_string t_sl_uint8 (Value.string s1)) w3 fun p3 l4 l5 w4 ↦ R (Value.tuple #[Value.slice p3 l4 l5, Value.int IntKind.i64 0]) w4))
theorem ok_ideal_World_Open {w : World} {R : Value → World → Prop} (x0 : Option Addr) (x1 : Option Addr) (x1l : Nat) (x1c : Nat) (x2 : Option Addr) (x2l : Nat) (x2c : Nat) (x3 : Option Addr) (x3l : Nat) (x3c : Nat) (x4 : Option Addr) (x4l : Nat) (x4c : Nat) (h : vc_ideal_World_Open x0 x1 x1l x1c x2 x2l x2c x3 x3l x3c x4 x4l x4c w R) : Cs P f_ideal_World_Open #[Value.pointer x0, Value.slice x1 x1l x1c, Value.slice x2 x2l x2c, Value.slice x3 x3l x3c, Value.slice x4 x4l x4c] w R := wpF_ok follows Tryd.func115 (Eq.mpr (by kernel_rfl) h)

/-- (*coffret/ideal.World).Seal -/
def vc_ideal_World_Seal (x0 : Option Addr) (x1 : Option Addr) (x1l : Nat) (x1c : Nat) (x2 : Option Addr) (x2l : Nat) (x2c : Nat) (x3 : Option Addr) (x3l : Nat) (x3c : Nat) (x4 : Option Addr) (x4l : Nat) (x4c : Nat) (w : World) (R : Value → World → Prop) : Prop :=
  Br (Option.isNone x0) (R (Value.tuple #[Value.slice none 0 0, Value.int IntKind.i64 2]) w)
    (Cs P f_ideal_joined #[Value.slice x4 x4l x4c] w fun v0 w0 ↦
      ∃ p0 l0 l1,
        v0 = Value.slice p0 l0 l1 ∧
          Jn (fun K0 ↦ Br (gtI (Nat.cast x3l) 1048576) (K0 [Value.bool true] w0) (K0 [Value.bool (gtI (Nat.cast l0) 1048576)] w0)) fun K1 ↦
            ∀ (b0 : Bool) (w1 : World),
              K1 [Value.bool b0] w1 →
                Br b0 (R (Value.tuple #[Value.slice none 0 0, Value.int IntKind.i64 3]) w1)
                  (DoL P (Instr.buildSlice t_sl_sl_uint8 4 #[(0, Value.slice x1 x1l x1c), (1, Value.slice x2 x2l x2c), (2, Value.slice p0 l0 l1), (3, Value.slice x3 x3l x3c)]) w1 fun p1 l2 l3 w2 ↦
                    Cs P f_ideal_World_make #[Value.pointer x0, Value.int IntKind.u8 83, Value.int IntKind.i64 (IntKind.wrap IntKind.i64 (Nat.cast x3l + 16)), Value.slice p1 l2 l3] w2 fun v1 w3 ↦
                      ∃ p2 l4 l5,
                        v1 = Value.slice p2 l4 l5 ∧
                          Dr w3 fun w4 ↦
                            NN x0 fun a0 ↦
                              LdM P t_map_string_string (Addr.add a0 1) w4 fun p3 ↦
                                RdS P (convert t_sl_uint8 t_string (Value.slice x3 x3l x3c)) w4 fun s0 ↦
                                  DoL P (Instr.buildSlice t_sl_sl_uint8 4 #[(0, Value.slice x1 x1l x1c), (1, Value.slice x2 x2l x2c), (2, Value.slice p0 l0 l1), (3, Value.slice p2 l4 l5)]) w4 fun p4 l6 l7 w5 ↦
                                    (Still P (convert t_sl_uint8 t_string (Value.slice x3 x3l x3c)) (Value.string s0) w5 ∧ Still P (loadVar t_map_string_string (Addr.add a0 1)) (Value.map p3) w5 ∧ True) ∧
                                      Cs P f_ideal_name #[Value.int IntKind.u8 83, Value.slice p4 l6 l7] w5 fun v2 w6 ↦
                                        ∃ s1,
                                          v2 = Value.string s1 ∧
                                            (Still P (convert t_sl_uint8 t_string (Value.slice x3 x3l x3c)) (Value.string s0) w6 ∧ Still P (loadVar t_map_string_string (Addr.add a0 1)) (Value.map p3) w6 ∧ True) ∧
                                              DoU P (Instr.mapUpdate t_map_string_string (Value.map p3) (Value.string s1) (Value.string s0)) w6 fun w7 ↦ R (Value.tuple #[Value.slice p2 l4 l5, Value.int IntKind.i64 0]) w7))
theorem ok_ideal_World_Seal {w : World} {R : Value → World → Prop} (x0 : Option Addr) (x1 : Option Addr) (x1l : Nat) (x1c : Nat) (x2 : Option Addr) (x2l : Nat) (x2c : Nat) (x3 : Option Addr) (x3l : Nat) (x3c : Nat) (x4 : Option Addr) (x4l : Nat) (x4c : Nat) (h : vc_ideal_World_Seal x0 x1 x1l x1c x2 x2l x2c x3 x3l x3c x4 x4l x4c w R) : Cs P f_ideal_World_Seal #[Value.pointer x0, Value.slice x1 x1l x1c, Value.slice x2 x2l x2c, Value.slice x3 x3l x3c, Value.slice x4 x4l x4c] w R := wpF_ok follows Tryd.func116 (Eq.mpr (by kernel_rfl) h)

/-- (*coffret/ideal.World).make -/
def vc_ideal_World_make (x0 : Option Addr) (x1 : Int) (x2 : Int) (x3 : Option Addr) (x3l : Nat) (x3c : Nat) (w : World) (R : Value → World → Prop) : Prop :=
  Cs P f_ideal_name #[Value.int IntKind.u8 x1, Value.slice x3 x3l x3c] w fun v0 w0 ↦
    ∃ s0,
      v0 = Value.string s0 ∧
        NN x0 fun a0 ↦
          LdM P t_map_string_int (Addr.add a0 0) w0 fun p0 ↦
            ∃ n0 b0 w1,
              Sem.run P (Instr.lookup t_map_string_int (Value.map p0) (Value.string s0) true) w0 = Result.ok (Value.tuple #[Value.int IntKind.i64 n0, Value.bool b0]) w1 ∧
                Jn
                  (fun K0 ↦
                    Br (!b0)
                      (NN x0 fun a1 ↦
                        LdM P t_map_string_int (Addr.add a1 0) w1 fun p1 ↦
                          DoI IntKind.i64 P (Builtin.len_ #[t_map_string_int] t_int #[Value.map p1]) w1 fun n1 w2 ↦
                            NN x0 fun a2 ↦ LdM P t_map_string_int (Addr.add a2 0) w2 fun p2 ↦ DoU P (Instr.mapUpdate t_map_string_int (Value.map p2) (Value.string s0) (Value.int IntKind.i64 (IntKind.wrap IntKind.i64 (n1 + 1)))) w2 fun w3 ↦ K0 [Value.int IntKind.i64 (IntKind.wrap IntKind.i64 (n1 + 1))] w3)
                      (K0 [Value.int IntKind.i64 n0] w1))
                  fun K1 ↦
                  ∀ (n2 : Int) (w4 : World),
                    K1 [Value.int IntKind.i64 n2] w4 →
                      DoL P (Instr.makeSlice t_sl_uint8 (Value.int IntKind.i64 (mxI x2 9)) (Value.int IntKind.i64 (mxI x2 9))) w4 fun p3 l0 l1 w5 ↦
                        Lp [Value.int IntKind.i64 0] w5 fun K2 ↦
                          ∀ (n3 : Int) (l2 : Nat) (w6 : World),
                            K2 l2 [Value.int IntKind.i64 n3] w6 →
                              Br (ltI n3 (Nat.cast l0)) (Ix p3 l0 n3 1 fun a3 ↦ DoU P (storeVar t_uint8 a3 (Value.int IntKind.u8 238)) w6 fun w7 ↦ Nx K2 l2 [Value.int IntKind.i64 (IntKind.wrap IntKind.i64 (n3 + 1))] w7)
                                (Lp [Value.int IntKind.i64 0] w6 fun K3 ↦
                                  ∀ (n4 : Int) (l3 : Nat) (w8 : World),
                                    K3 l3 [Value.int IntKind.i64 n4] w8 →
                                      Br (ltI n4 8)
                                        (Nn (IntKind.wrap IntKind.i64 (8 * n4)) ∧
                                          Ix p3 l0 n4 1 fun a4 ↦
                                            DoU P (storeVar t_uint8 a4 (Value.int IntKind.u8 (IntKind.wrap IntKind.u8 (Int.fdiv (IntKind.wrap IntKind.u64 n2) (2 ^ min (Int.toNat (IntKind.wrap IntKind.i64 (8 * n4))) 64))))) w8 fun w9 ↦ Nx K3 l3 [Value.int IntKind.i64 (IntKind.wrap IntKind.i64 (n4 + 1))] w9)
                                        (Ix p3 l0 8 1 fun a5 ↦ DoU P (storeVar t_uint8 a5 (Value.int IntKind.u8 x1)) w8 fun w10 ↦ DoL P (Instr.sliceAt t_sl_uint8 (Value.slice p3 l0 l1) none (some (Value.int IntKind.i64 x2)) none) w10 fun p4 l4 l5 w11 ↦ R (Value.slice p4 l4 l5) w11))
theorem ok_ideal_World_make {w : World} {R : Value → World → Prop} (x0 : Option Addr) (x1 : Int) (x2 : Int) (x3 : Option Addr) (x3l : Nat) (x3c : Nat) (h : vc_ideal_World_make x0 x1 x2 x3 x3l x3c w R) : Cs P f_ideal_World_make #[Value.pointer x0, Value.int IntKind.u8 x1, Value.int IntKind.i64 x2, Value.slice x3 x3l x3c] w R := wpF_ok follows Tryd.func118 (Eq.mpr (by kernel_rfl) h)

/-- coffret/ideal.joined -/
def vc_ideal_joined (x0 : Option Addr) (x0l : Nat) (x0c : Nat) (w : World) (R : Value → World → Prop) : Prop :=
  Lp [Value.slice none 0 0, Value.int IntKind.i64 0] w fun K0 ↦
    ∀ (p0 : Option Addr) (l0 l1 : Nat) (n0 : Int) (l2 : Nat) (w0 : World),
      K0 l2 [Value.slice p0 l0 l1, Value.int IntKind.i64 n0] w0 →
        Br (ltI n0 (Nat.cast x0l))
          (Ix x0 x0l n0 1 fun a0 ↦ LdL P t_sl_uint8 a0 w0 fun p1 l3 l4 ↦ DoL P (Builtin.append_ #[t_sl_uint8, t_sl_uint8] t_sl_uint8 #[Value.slice p0 l0 l1, Value.slice p1 l3 l4]) w0 fun p2 l5 l6 w1 ↦ Nx K0 l2 [Value.slice p2 l5 l6, Value.int IntKind.i64 (IntKind.wrap IntKind.i64 (n0 + 1))] w1)
          (R (Value.slice p0 l0 l1) w0)
theorem ok_ideal_joined {w : World} {R : Value → World → Prop} (x0 : Option Addr) (x0l : Nat) (x0c : Nat) (h : vc_ideal_joined x0 x0l x0c w R) : Cs P f_ideal_joined #[Value.slice x0 x0l x0c] w R := wpF_ok follows Tryd.func119 (Eq.mpr (by kernel_rfl) h)

/-- coffret/ideal.name -/
def vc_ideal_name (x0 : Int) (x1 : Option Addr) (x1l : Nat) (x1c : Nat) (w : World) (R : Value → World → Prop) : Prop :=
  DoV P (Instr.build t_code_Writer #[]) w fun v0 w0 ↦
    DoA P (Instr.box t_code_Writer v0) w0 fun a0 w1 ↦
      DoL P (Instr.buildSlice t_sl_uint8 1 #[(0, Value.int IntKind.u8 x0)]) w1 fun p0 l0 l1 w2 ↦
        Cs P f_code_Writer_Byte #[Value.pointer (some a0), Value.slice p0 l0 l1] w2 fun v1 w3 ↦
          v1 = Value.tuple #[] ∧
            Lp [Value.int IntKind.i64 0] w3 fun K0 ↦
              ∀ (n0 : Int) (l2 : Nat) (w4 : World),
                K0 l2 [Value.int IntKind.i64 n0] w4 →
                  Br (ltI n0 (Nat.cast x1l))
                    (Ix x1 x1l n0 1 fun a1 ↦
                      LdL P t_sl_uint8 a1 w4 fun p1 l3 l4 ↦
                        DoL P (Instr.buildSlice t_sl_int 1 #[(0, Value.int IntKind.i64 (Nat.cast l3))]) w4 fun p2 l5 l6 w5 ↦
                          Cs P f_code_Writer_Num #[Value.pointer (some a0), Value.slice p2 l5 l6] w5 fun v2 w6 ↦ v2 = Value.tuple #[] ∧ Cs P f_code_Writer_Byte #[Value.pointer (some a0), Value.slice p1 l3 l4] w6 fun v3 w7 ↦ v3 = Value.tuple #[] ∧ Nx K0 l2 [Value.int IntKind.i64 (IntKind.wrap IntKind.i64 (n0 + 1))] w7)
                    (Cs P f_code_Writer_Bytes #[Value.pointer (some a0)] w4 fun v4 w8 ↦ ∃ p3 l7 l8, v4 = Value.slice p3 l7 l8 ∧ DoS P (convert t_sl_uint8 t_string (Value.slice p3 l7 l8)) w8 fun s0 w9 ↦ R (Value.string s0) w9)
theorem ok_ideal_name {w : World} {R : Value → World → Prop} (x0 : Int) (x1 : Option Addr) (x1l : Nat) (x1c : Nat) (h : vc_ideal_name x0 x1 x1l x1c w R) : Cs P f_ideal_name #[Value.int IntKind.u8 x0, Value.slice x1 x1l x1c] w R := wpF_ok follows Tryd.func120 (Eq.mpr (by kernel_rfl) h)

end Go.Dv
