/- The plain texts of the functions, and that each implies its calls. -/
import Derived.Test.YtnmkbnfidjoljaaDoorGa
import Derived.Test.YtnmkbnfidjoljaaDoorTie

set_option maxRecDepth 100000
namespace Go.Dv
open Go Go.Sh Go.Proofs
/-- The program. -/
noncomputable abbrev P : Program := Proofs.Tryd.prog
theorem follows : P.follows .mixedOrders = true := by kernel_rfl

abbrev t_int : Nat := 3 -- int i64
abbrev t_bool : Nat := 4 -- bool
abbrev t_uint8 : Nat := 5 -- int u8
abbrev t_string : Nat := 9 -- string
abbrev t_sl_api_Record : Nat := 29 -- slice T44
abbrev t_api_Errno : Nat := 30 -- named coffret/api.Errno = T3
abbrev t_p_vault_Vault : Nat := 33 -- ptr T102
abbrev t_p_disk_Disk : Nat := 34 -- ptr T106
abbrev t_p_meter_Meter : Nat := 35 -- ptr T60
abbrev t_p_snap_Keeper : Nat := 36 -- ptr T42
abbrev t_coffretlaw18_Place : Nat := 38 -- named coffret/coffretlaw18.Place = T37
abbrev t_p_commit_Log : Nat := 40 -- ptr T85
abbrev t_snap_Keeper : Nat := 42 -- named coffret/snap.Keeper = T41
abbrev t_api_Record : Nat := 44 -- named coffret/api.Record = T43
abbrev t_uint64 : Nat := 47 -- int u64
abbrev t_coffretlaw18_Step : Nat := 49 -- named coffret/coffretlaw18.Step = T48
abbrev t_coffretref17_Log : Nat := 55 -- named coffret/coffretref17.Log = T54
abbrev t_arr32_uint8 : Nat := 56 -- array 32 T5
abbrev t_meter_Value : Nat := 58 -- named coffret/meter.Value = T57
abbrev t_meter_Meter : Nat := 60 -- named coffret/meter.Meter = T59
abbrev t_sl_sl_api_Record : Nat := 71 -- slice T29
abbrev t_p_ideal_World : Nat := 79 -- ptr T114
abbrev t_vault_Key : Nat := 81 -- named coffret/vault.Key = T56
abbrev t_p_chain_Area : Nat := 83 -- ptr T116
abbrev t_commit_Log : Nat := 85 -- named coffret/commit.Log = T84
abbrev t_sl_uint8 : Nat := 90 -- slice T5
abbrev t_vault_backend : Nat := 99 -- named coffret/vault.backend = T98
abbrev t_map_vault_place_string : Nat := 100 -- map T161 T9
abbrev t_vault_Vault : Nat := 102 -- named coffret/vault.Vault = T101
abbrev t_sl_disk_sector : Nat := 103 -- slice T108
abbrev t_sl_disk_write : Nat := 104 -- slice T110
abbrev t_disk_Disk : Nat := 106 -- named coffret/disk.Disk = T105
abbrev t_disk_sector : Nat := 108 -- named coffret/disk.sector = T107
abbrev t_disk_write : Nat := 110 -- named coffret/disk.write = T109
abbrev t_map_string_int : Nat := 111 -- map T9 T3
abbrev t_map_string_string : Nat := 112 -- map T9 T9
abbrev t_ideal_World : Nat := 114 -- named coffret/ideal.World = T113
abbrev t_chain_Area : Nat := 116 -- named coffret/chain.Area = T115
abbrev t_code_Writer : Nat := 119 -- named coffret/code.Writer = T118
abbrev t_sl_arr32_uint8 : Nat := 124 -- slice T56
abbrev t_record_span : Nat := 145 -- named coffret/record.span = T144
abbrev t_record_form : Nat := 147 -- named coffret/record.form = T146
abbrev t_sl_string : Nat := 151 -- slice T9
abbrev t_sl_int : Nat := 153 -- slice T3
abbrev t_sl_sl_uint8 : Nat := 154 -- slice T90
abbrev t_arr12_uint8 : Nat := 156 -- array 12 T5
abbrev t_vault_place : Nat := 161 -- named coffret/vault.place = T160
abbrev t_code_Reader : Nat := 180 -- named coffret/code.Reader = T179
abbrev g_record_queue : Nat := 0
abbrev g_record_limit : Nat := 1
abbrev g_record_none : Nat := 2
abbrev g_record_id : Nat := 3
abbrev g_record_late : Nat := 4
abbrev g_record_when : Nat := 5
abbrev g_record_many : Nat := 6
abbrev f_coffretlaw18_SnapDoes : Nat := 3
abbrev f_coffretlaw18_SnapState : Nat := 4
abbrev f_coffretlaw18_SnapRefuses : Nat := 5
abbrev f_coffretlaw18_SnapGoes : Nat := 6
abbrev f_coffretlaw18_SnapLoses : Nat := 7
abbrev f_coffretlaw18_alive : Nat := 8
abbrev f_coffretlaw18_great : Nat := 9
abbrev f_coffretlaw18_place : Nat := 10
abbrev f_coffretref17_New : Nat := 11
abbrev f_coffretlaw18_Place_open : Nat := 12
abbrev f_commit_Log_Turn : Nat := 13
abbrev f_coffretlaw18_tick : Nat := 14
abbrev f_coffretref17_Log_Turn : Nat := 15
abbrev f_coffretref18_Save : Nat := 16
abbrev f_snap_Keeper_Save : Nat := 17
abbrev f_commit_Log_Epoch : Nat := 18
abbrev f_commit_Log_Left : Nat := 19
abbrev f_coffretref13_Same : Nat := 20
abbrev f_coffretref17_Log_Again : Nat := 21
abbrev f_snap_Open : Nat := 22
abbrev f_coffretref13_Great : Nat := 23
abbrev f_coffretref13_All : Nat := 24
abbrev f_coffretref13_Good : Nat := 25
abbrev f_coffretref15_Sectors : Nat := 26
abbrev f_coffretref15_Split : Nat := 27
abbrev f_coffretref15_Size : Nat := 28
abbrev f_vault_Vault_Clashes : Nat := 29
abbrev f_coffretref17_Log_Copy : Nat := 30
abbrev f_disk_Disk_Arm : Nat := 31
abbrev f_disk_Disk_Off : Nat := 32
abbrev f_disk_Disk_On : Nat := 33
abbrev f_disk_New : Nat := 34
abbrev f_vault_Ideal : Nat := 35
abbrev f_ideal_New : Nat := 36
abbrev f_meter_New : Nat := 37
abbrev f_commit_Log_good : Nat := 38
abbrev f_seg_Split : Nat := 39
abbrev f_seg_Sectors : Nat := 40
abbrev f_chain_Half : Nat := 41
abbrev f_meter_Meter_Left : Nat := 42
abbrev f_vault_Vault_Limit : Nat := 43
abbrev f_chain_Area_Left : Nat := 44
abbrev f_seg_Start : Nat := 45
abbrev f_seg_Pack : Nat := 46
abbrev f_chain_Area_Add : Nat := 47
abbrev f_commit_Log_seal : Nat := 48
abbrev f_coffretref17_good : Nat := 49
abbrev f_coffretref17_Log_Commit : Nat := 50
abbrev f_commit_Log_Commit : Nat := 51
abbrev f_commit_Open : Nat := 52
abbrev f_coffretref13_in : Nat := 53
abbrev f_disk_Disk_Down : Nat := 54
abbrev f_record_Good : Nat := 55
abbrev f_record_Size : Nat := 56
abbrev f_seg_Size : Nat := 57
abbrev f_disk_Disk_Size : Nat := 58
abbrev f_code_Writer_Text : Nat := 59
abbrev f_code_Writer_Num : Nat := 60
abbrev f_vault_Vault_Hash : Nat := 61
abbrev f_code_Writer_Bytes : Nat := 62
abbrev f_record_Put : Nat := 63
abbrev f_vault_Vault_Seal : Nat := 64
abbrev f_seg_Key : Nat := 65
abbrev f_seg_place : Nat := 66
abbrev f_merkle_Leaf : Nat := 67
abbrev f_merkle_Root : Nat := 68
abbrev f_code_Writer_Byte : Nat := 69
abbrev f_seg_Length : Nat := 70
abbrev f_slices_Chunk_byte_byte : Nat := 71
abbrev f_disk_Disk_Write : Nat := 72
abbrev f_disk_Disk_Sync : Nat := 73
abbrev f_meter_Meter_Next : Nat := 74
abbrev f_meter_Meter_Get : Nat := 75
abbrev f_chain_Area_Next : Nat := 76
abbrev f_seg_Unpack : Nat := 77
abbrev f_record_of : Nat := 78
abbrev f_record_span_in : Nat := 79
abbrev f_vault_Vault_may : Nat := 80
abbrev f_vault_nonce : Nat := 81
abbrev f_vault_Vault_Key : Nat := 82
abbrev f_merkle_half : Nat := 83
abbrev f_merkle_pair : Nat := 84
abbrev f_code_Read : Nat := 85
abbrev f_code_Reader_In : Nat := 86
abbrev f_disk_Disk_ready : Nat := 88
abbrev f_disk_Disk_Act : Nat := 89
abbrev f_disk_Disk_Read : Nat := 90
abbrev f_code_Reader_Num : Nat := 91
abbrev f_code_Reader_Good : Nat := 92
abbrev f_code_Reader_Text : Nat := 93
abbrev f_vault_Vault_Open : Nat := 94
abbrev f_record_Get : Nat := 95
abbrev f_code_Reader_Take : Nat := 96
abbrev f_code_Reader_End : Nat := 97
abbrev f_ideal_World_Derive : Nat := 113
abbrev f_ideal_World_Hash : Nat := 114
abbrev f_ideal_World_Open : Nat := 115
abbrev f_ideal_World_Seal : Nat := 116
abbrev f_ideal_World_make : Nat := 118
abbrev f_ideal_joined : Nat := 119
abbrev f_ideal_name : Nat := 120
end Go.Dv

set_option maxRecDepth 100000
namespace Go.Dv
open Go Go.Sh Go.Proofs

/-- coffret/coffretlaw18.SnapDoes -/
def vc_coffretlaw18_SnapDoes (x0 : Int) (x1 : Int) (x2 : Int) (x3 : Option Addr) (x3l : Nat) (x3c : Nat) (w : World) (R : Value → World → Prop) : Prop :=
  Cs P f_coffretlaw18_alive #[] w fun v0 w0 ↦
    ∃ b0,
      v0 = Value.bool b0 ∧
        Br (!b0) (R (Value.bool false) w0)
          (Jn (fun K0 ↦ Cs P f_coffretlaw18_great #[Value.slice x3 x3l x3c] w0 fun v1 w1 ↦ ∃ b1, v1 = Value.bool b1 ∧ Br b1 (K0 [Value.bool true] w1) (Br (ltI x0 0) (K0 [Value.bool true] w1) (K0 [Value.bool (gtI x0 100)] w1))) fun K1 ↦
            ∀ (b2 : Bool) (w2 : World),
              K1 [Value.bool b2] w2 →
                Br b2 (R (Value.bool true) w2)
                  (Cs P f_coffretlaw18_place #[Value.int IntKind.i64 x0, Value.int IntKind.i64 x1, Value.int IntKind.i64 x2] w2 fun v2 w3 ↦
                    ∃ p0,
                      v2 = Value.pointer p0 ∧
                        Cs P f_coffretref17_New #[Value.int IntKind.i64 x0, Value.int IntKind.i64 x1, Value.int IntKind.i64 x2] w3 fun v3 w4 ↦
                          ∃ p1,
                            v3 = Value.pointer p1 ∧
                              Cs P f_coffretlaw18_Place_open #[Value.pointer p0] w4 fun v4 w5 ↦
                                ∃ p2 l0 l1 n0,
                                  v4 = Value.tuple #[Value.slice p2 l0 l1, Value.int IntKind.i64 n0] ∧
                                    Br (neI n0 0) (R (Value.bool false) w5)
                                      (Dr w5 fun w6 ↦
                                        NN p0 fun a0 ↦
                                          LdP P t_p_snap_Keeper (Addr.add a0 3) w6 fun p3 ↦
                                            NN p3 fun a1 ↦
                                              LdP P t_p_commit_Log (Addr.add a1 0) w6 fun p4 ↦
                                                Cs P f_coffretlaw18_tick #[Value.int IntKind.i64 0] w6 fun v5 w7 ↦
                                                  ∃ v6,
                                                    v5 = v6 ∧
                                                      (Still P (loadVar t_p_commit_Log (Addr.add a1 0)) (Value.pointer p4) w7 ∧ Still P (loadVar t_p_snap_Keeper (Addr.add a0 3)) (Value.pointer p3) w7 ∧ True) ∧
                                                        DoL P (Instr.buildSlice t_sl_api_Record 1 #[(0, v6)]) w7 fun p5 l2 l3 w8 ↦
                                                          (Still P (loadVar t_p_commit_Log (Addr.add a1 0)) (Value.pointer p4) w8 ∧ Still P (loadVar t_p_snap_Keeper (Addr.add a0 3)) (Value.pointer p3) w8 ∧ True) ∧
                                                            Cs P f_commit_Log_Turn #[Value.pointer p4, Value.slice p5 l2 l3] w8 fun v7 w9 ↦
                                                              ∃ n1,
                                                                v7 = Value.int IntKind.i64 n1 ∧
                                                                  (Still P (loadVar t_p_snap_Keeper (Addr.add a0 3)) (Value.pointer p3) w9 ∧ True) ∧
                                                                    Cs P f_coffretlaw18_tick #[Value.int IntKind.i64 0] w9 fun v8 w10 ↦
                                                                      ∃ v9,
                                                                        v8 = v9 ∧
                                                                          (Still P (loadVar t_p_snap_Keeper (Addr.add a0 3)) (Value.pointer p3) w10 ∧ True) ∧
                                                                            DoL P (Instr.buildSlice t_sl_api_Record 1 #[(0, v9)]) w10 fun p6 l4 l5 w11 ↦
                                                                              (Still P (loadVar t_p_snap_Keeper (Addr.add a0 3)) (Value.pointer p3) w11 ∧ True) ∧
                                                                                Cs P f_coffretref17_Log_Turn #[Value.pointer p1, Value.slice p6 l4 l5] w11 fun v10 w12 ↦
                                                                                  ∃ n2,
                                                                                    v10 = Value.int IntKind.i64 n2 ∧
                                                                                      (Still P (loadVar t_p_snap_Keeper (Addr.add a0 3)) (Value.pointer p3) w12 ∧ True) ∧
                                                                                        Br (neI n1 n2) (R (Value.bool false) w12)
                                                                                          (Lp [Value.int IntKind.i64 0] w12 fun K2 ↦
                                                                                            ∀ (n3 : Int) (l6 : Nat) (w13 : World),
                                                                                              K2 l6 [Value.int IntKind.i64 n3] w13 →
                                                                                                Br (ltI n3 (Nat.cast x3l))
                                                                                                  (Ix x3 x3l n3 5 fun a2 ↦
                                                                                                    LdV P t_coffretlaw18_Step a2 w13 fun v11 ↦
                                                                                                      DoA P (Instr.alloc t_coffretlaw18_Step true (Value.tuple #[])) w13 fun a3 w14 ↦
                                                                                                        DoU P (storeVar t_coffretlaw18_Step a3 v11) w14 fun w15 ↦
                                                                                                          LdL P t_sl_api_Record (Addr.add a3 0) w15 fun p7 l7 l8 ↦
                                                                                                            LdL P t_sl_api_Record (Addr.add a3 1) w15 fun p8 l9 l10 ↦
                                                                                                              Cs P f_coffretref18_Save #[Value.pointer p1, Value.slice p7 l7 l8, Value.slice p8 l9 l10] w15 fun v12 w16 ↦
                                                                                                                ∃ n4 p9,
                                                                                                                  v12 = Value.tuple #[Value.int IntKind.i64 n4, Value.pointer p9] ∧
                                                                                                                    Jn
                                                                                                                      (fun K3 ↦
                                                                                                                        Dr w16 fun w17 ↦
                                                                                                                          NN p0 fun a4 ↦
                                                                                                                            LdP P t_p_snap_Keeper (Addr.add a4 3) w17 fun p10 ↦
                                                                                                                              LdL P t_sl_api_Record (Addr.add a3 0) w17 fun p11 l11 l12 ↦
                                                                                                                                LdL P t_sl_api_Record (Addr.add a3 1) w17 fun p12 l13 l14 ↦
                                                                                                                                  Cs P f_snap_Keeper_Save #[Value.pointer p10, Value.slice p11 l11 l12, Value.slice p12 l13 l14] w17 fun v13 w18 ↦
                                                                                                                                    ∃ n5,
                                                                                                                                      v13 = Value.int IntKind.i64 n5 ∧
                                                                                                                                        Br (neI n5 n4) (K3 [Value.bool true] w18)
                                                                                                                                          (NN p0 fun a5 ↦
                                                                                                                                            LdP P t_p_snap_Keeper (Addr.add a5 3) w18 fun p13 ↦
                                                                                                                                              NN p13 fun a6 ↦
                                                                                                                                                LdP P t_p_commit_Log (Addr.add a6 0) w18 fun p14 ↦
                                                                                                                                                  NN p1 fun a7 ↦
                                                                                                                                                    LdI IntKind.i64 P t_int (Addr.add a7 4) w18 fun n6 ↦
                                                                                                                                                      Cs P f_commit_Log_Epoch #[Value.pointer p14] w18 fun v14 w19 ↦
                                                                                                                                                        ∃ n7,
                                                                                                                                                          v14 = Value.int IntKind.i64 n7 ∧
                                                                                                                                                            (Still P (loadVar t_int (Addr.add a7 4)) (Value.int IntKind.i64 n6) w19 ∧ Still P (loadVar t_p_snap_Keeper (Addr.add a5 3)) (Value.pointer p13) w19 ∧ True) ∧
                                                                                                                                                              Br (neI n7 n6) (K3 [Value.bool true] w19)
                                                                                                                                                                (NN p1 fun a8 ↦
                                                                                                                                                                  LdB P t_bool (Addr.add a8 5) w19 fun b3 ↦
                                                                                                                                                                    Br b3
                                                                                                                                                                      (NN p0 fun a9 ↦
                                                                                                                                                                        LdP P t_p_snap_Keeper (Addr.add a9 3) w19 fun p15 ↦
                                                                                                                                                                          NN p15 fun a10 ↦
                                                                                                                                                                            LdP P t_p_commit_Log (Addr.add a10 0) w19 fun p16 ↦
                                                                                                                                                                              NN p1 fun a11 ↦
                                                                                                                                                                                LdI IntKind.i64 P t_int (Addr.add a11 0) w19 fun n8 ↦
                                                                                                                                                                                  NN p1 fun a12 ↦
                                                                                                                                                                                    LdI IntKind.i64 P t_int (Addr.add a12 6) w19 fun n9 ↦
                                                                                                                                                                                      Cs P f_commit_Log_Left #[Value.pointer p16] w19 fun v15 w20 ↦
                                                                                                                                                                                        ∃ n10,
                                                                                                                                                                                          v15 = Value.int IntKind.i64 n10 ∧
                                                                                                                                                                                            (Still P (loadVar t_int (Addr.add a12 6)) (Value.int IntKind.i64 n9) w20 ∧
                                                                                                                                                                                                Still P (loadVar t_int (Addr.add a11 0)) (Value.int IntKind.i64 n8) w20 ∧
                                                                                                                                                                                                  Still P (loadVar t_p_snap_Keeper (Addr.add a9 3)) (Value.pointer p15) w20 ∧
                                                                                                                                                                                                    Still P (loadVar t_bool (Addr.add a8 5)) (Value.bool b3) w20 ∧
                                                                                                                                                                                                      Still P (loadVar t_int (Addr.add a7 4)) (Value.int IntKind.i64 n6) w20 ∧
                                                                                                                                                                                                        Still P (loadVar t_p_snap_Keeper (Addr.add a5 3)) (Value.pointer p13) w20 ∧ True) ∧
                                                                                                                                                                                              Br (neI n10 (IntKind.wrap IntKind.i64 (n8 - n9))) (K3 [Value.bool true] w20)
                                                                                                                                                                                                (NN p0 fun a13 ↦
                                                                                                                                                                                                  LdP P t_p_meter_Meter (Addr.add a13 2) w20 fun p17 ↦
                                                                                                                                                                                                    NN p17 fun a14 ↦
                                                                                                                                                                                                      LdI IntKind.i64 P t_int (Addr.add (Addr.add a14 0) 0) w20 fun n11 ↦
                                                                                                                                                                                                        NN p1 fun a15 ↦ LdI IntKind.i64 P t_int (Addr.add a15 3) w20 fun n12 ↦ K3 [Value.bool (neI n11 n12)] w20))
                                                                                                                                                                      (NN p0 fun a16 ↦
                                                                                                                                                                        LdP P t_p_meter_Meter (Addr.add a16 2) w19 fun p18 ↦
                                                                                                                                                                          NN p18 fun a17 ↦
                                                                                                                                                                            LdI IntKind.i64 P t_int (Addr.add (Addr.add a17 0) 0) w19 fun n13 ↦
                                                                                                                                                                              NN p1 fun a18 ↦ LdI IntKind.i64 P t_int (Addr.add a18 3) w19 fun n14 ↦ K3 [Value.bool (neI n13 n14)] w19))))
                                                                                                                      fun K4 ↦
                                                                                                                      ∀ (b4 : Bool) (w21 : World),
                                                                                                                        K4 [Value.bool b4] w21 →
                                                                                                                          Br b4 (R (Value.bool false) w21)
                                                                                                                            (LdB P t_bool (Addr.add a3 4) w21 fun b5 ↦
                                                                                                                              Jn
                                                                                                                                (fun K5 ↦
                                                                                                                                  Br b5
                                                                                                                                    (Cs P f_coffretlaw18_Place_open #[Value.pointer p0] w21 fun v16 w22 ↦
                                                                                                                                      ∃ p19 l15 l16 n15,
                                                                                                                                        v16 = Value.tuple #[Value.slice p19 l15 l16, Value.int IntKind.i64 n15] ∧
                                                                                                                                          Jn
                                                                                                                                            (fun K6 ↦
                                                                                                                                              Br (neI n15 0) (K6 [Value.bool true] w22)
                                                                                                                                                (NN p1 fun a19 ↦
                                                                                                                                                  LdL P t_sl_api_Record (Addr.add a19 8) w22 fun p20 l17 l18 ↦
                                                                                                                                                    Cs P f_coffretref13_Same #[Value.slice p19 l15 l16, Value.slice p20 l17 l18] w22 fun v17 w23 ↦ ∃ b6, v17 = Value.bool b6 ∧ K6 [Value.bool !b6] w23))
                                                                                                                                            fun K7 ↦
                                                                                                                                            ∀ (b7 : Bool) (w24 : World),
                                                                                                                                              K7 [Value.bool b7] w24 →
                                                                                                                                                Br b7 (R (Value.bool false) w24)
                                                                                                                                                  (Cs P f_coffretref17_Log_Again #[Value.pointer p1] w24 fun v18 w25 ↦
                                                                                                                                                    v18 = Value.tuple #[] ∧
                                                                                                                                                      DoL P (Instr.buildSlice t_sl_api_Record 0 #[]) w25 fun p21 l19 l20 w26 ↦
                                                                                                                                                        DoL P (Builtin.append_ #[t_sl_api_Record, t_sl_api_Record] t_sl_api_Record #[Value.slice p21 l19 l20, Value.slice p19 l15 l16]) w26 fun p22 l21 l22 w27 ↦
                                                                                                                                                          Cs P f_coffretlaw18_tick #[Value.int IntKind.i64 0] w27 fun v19 w28 ↦
                                                                                                                                                            ∃ v20,
                                                                                                                                                              v19 = v20 ∧
                                                                                                                                                                DoL P (Instr.buildSlice t_sl_api_Record 1 #[(0, v20)]) w28 fun p23 l23 l24 w29 ↦
                                                                                                                                                                  DoL P (Builtin.append_ #[t_sl_api_Record, t_sl_api_Record] t_sl_api_Record #[Value.slice p22 l21 l22, Value.slice p23 l23 l24]) w29 fun p24 l25 l26 w30 ↦
                                                                                                                                                                    NN p0 fun a20 ↦
                                                                                                                                                                      LdP P t_p_snap_Keeper (Addr.add a20 3) w30 fun p25 ↦
                                                                                                                                                                        NN p25 fun a21 ↦
                                                                                                                                                                          LdP P t_p_commit_Log (Addr.add a21 0) w30 fun p26 ↦
                                                                                                                                                                            Cs P f_commit_Log_Turn #[Value.pointer p26, Value.slice p24 l25 l26] w30 fun v21 w31 ↦
                                                                                                                                                                              ∃ n16,
                                                                                                                                                                                v21 = Value.int IntKind.i64 n16 ∧
                                                                                                                                                                                  Cs P f_coffretref17_Log_Turn #[Value.pointer p1, Value.slice p24 l25 l26] w31 fun v22 w32 ↦ ∃ n17, v22 = Value.int IntKind.i64 n17 ∧ Br (neI n16 n17) (R (Value.bool false) w32) (K5 [] w32)))
                                                                                                                                    (K5 [] w21))
                                                                                                                                fun K8 ↦ ∀ (w33 : World), K8 [] w33 → Nx K2 l6 [Value.int IntKind.i64 (IntKind.wrap IntKind.i64 (n3 + 1))] w33))
                                                                                                  (Cs P f_coffretlaw18_Place_open #[Value.pointer p0] w13 fun v23 w34 ↦
                                                                                                    ∃ p27 l27 l28 n18,
                                                                                                      v23 = Value.tuple #[Value.slice p27 l27 l28, Value.int IntKind.i64 n18] ∧
                                                                                                        Dr w34 fun w35 ↦
                                                                                                          NN p0 fun a22 ↦
                                                                                                            LdP P t_p_disk_Disk (Addr.add a22 1) w35 fun p28 ↦
                                                                                                              NN p0 fun a23 ↦
                                                                                                                LdP P t_p_meter_Meter (Addr.add a23 2) w35 fun p29 ↦
                                                                                                                  Cs P f_snap_Open #[Value.pointer none, Value.pointer p28, Value.pointer p29] w35 fun v24 w36 ↦
                                                                                                                    ∃ p30 p31 l29 l30 n19,
                                                                                                                      v24 = Value.tuple #[Value.pointer p30, Value.slice p31 l29 l30, Value.int IntKind.i64 n19] ∧
                                                                                                                        Jn
                                                                                                                          (fun K9 ↦
                                                                                                                            Br (eqI n18 0)
                                                                                                                              (NN p1 fun a24 ↦
                                                                                                                                LdL P t_sl_api_Record (Addr.add a24 8) w36 fun p32 l31 l32 ↦
                                                                                                                                  Cs P f_coffretref13_Same #[Value.slice p27 l27 l28, Value.slice p32 l31 l32] w36 fun v25 w37 ↦
                                                                                                                                    ∃ b8,
                                                                                                                                      v25 = Value.bool b8 ∧
                                                                                                                                        Br b8
                                                                                                                                          (Cs P f_snap_Keeper_Save #[Value.pointer none, Value.slice none 0 0, Value.slice none 0 0] w37 fun v26 w38 ↦
                                                                                                                                            ∃ n20, v26 = Value.int IntKind.i64 n20 ∧ Br (eqI n20 2) (K9 [Value.bool (eqI n19 2)] w38) (K9 [Value.bool false] w38))
                                                                                                                                          (K9 [Value.bool false] w37))
                                                                                                                              (K9 [Value.bool false] w36))
                                                                                                                          fun K10 ↦ ∀ (b9 : Bool) (w39 : World), K10 [Value.bool b9] w39 → R (Value.bool b9) w39)))))
theorem ok_coffretlaw18_SnapDoes {w : World} {R : Value → World → Prop} (x0 : Int) (x1 : Int) (x2 : Int) (x3 : Option Addr) (x3l : Nat) (x3c : Nat) (h : vc_coffretlaw18_SnapDoes x0 x1 x2 x3 x3l x3c w R) : Cs P f_coffretlaw18_SnapDoes #[Value.int IntKind.i64 x0, Value.int IntKind.i64 x1, Value.int IntKind.i64 x2, Value.slice x3 x3l x3c] w R := wpF_ok follows Tryd.func3 (Eq.mpr (by kernel_rfl) h)

/-- coffret/coffretlaw18.SnapState -/
def vc_coffretlaw18_SnapState (x0 : Int) (x1 : Option Addr) (x1l : Nat) (x1c : Nat) (x2 : Option Addr) (x2l : Nat) (x2c : Nat) (x3 : Int) (w : World) (R : Value → World → Prop) : Prop :=
  Cs P f_coffretlaw18_alive #[] w fun v0 w0 ↦
    ∃ b0,
      v0 = Value.bool b0 ∧
        Br (!b0) (R (Value.bool false) w0)
          (Jn
            (fun K0 ↦
              Br (ltI x0 2) (K0 [Value.bool true] w0)
                (Br (gtI x0 100) (K0 [Value.bool true] w0)
                  (Br (ltI x3 1) (K0 [Value.bool true] w0)
                    (Br (gtI x3 60) (K0 [Value.bool true] w0)
                      (Cs P f_coffretref13_Great #[Value.slice x1 x1l x1c, Value.int IntKind.i64 10] w0 fun v1 w1 ↦
                        ∃ b1,
                          v1 = Value.bool b1 ∧
                            Br b1 (K0 [Value.bool true] w1)
                              (Cs P f_coffretref13_Great #[Value.slice x2 x2l x2c, Value.int IntKind.i64 10] w1 fun v2 w2 ↦
                                ∃ b2,
                                  v2 = Value.bool b2 ∧
                                    Br b2 (K0 [Value.bool true] w2)
                                      (Br (eqI (Nat.cast x1l) 0) (K0 [Value.bool true] w2)
                                        (Br (eqI (Nat.cast x2l) 0) (K0 [Value.bool true] w2) (Cs P f_coffretref13_All #[Value.slice x1 x1l x1c] w2 fun v3 w3 ↦ ∃ b3, v3 = Value.bool b3 ∧ Br (!b3) (K0 [Value.bool true] w3) (Cs P f_coffretref13_All #[Value.slice x2 x2l x2c] w3 fun v4 w4 ↦ ∃ b4, v4 = Value.bool b4 ∧ K0 [Value.bool !b4] w4))))))))))
            fun K1 ↦
            ∀ (b5 : Bool) (w5 : World),
              K1 [Value.bool b5] w5 →
                Br b5 (R (Value.bool true) w5)
                  (Cs P f_coffretlaw18_place #[Value.int IntKind.i64 x0, Value.int IntKind.i64 1099511627776, Value.int IntKind.i64 1099511627776] w5 fun v5 w6 ↦
                    ∃ p0,
                      v5 = Value.pointer p0 ∧
                        Cs P f_coffretlaw18_Place_open #[Value.pointer p0] w6 fun v6 w7 ↦
                          ∃ p1 l0 l1 n0,
                            v6 = Value.tuple #[Value.slice p1 l0 l1, Value.int IntKind.i64 n0] ∧
                              Jn
                                (fun K2 ↦
                                  Br (neI n0 0) (K2 [Value.bool true] w7)
                                    (NN p0 fun a0 ↦
                                      LdP P t_p_snap_Keeper (Addr.add a0 3) w7 fun p2 ↦
                                        NN p2 fun a1 ↦ LdP P t_p_commit_Log (Addr.add a1 0) w7 fun p3 ↦ Cs P f_commit_Log_Turn #[Value.pointer p3, Value.slice x1 x1l x1c] w7 fun v7 w8 ↦ ∃ n1, v7 = Value.int IntKind.i64 n1 ∧ K2 [Value.bool (neI n1 0)] w8))
                                fun K3 ↦
                                ∀ (b6 : Bool) (w9 : World),
                                  K3 [Value.bool b6] w9 →
                                    Br b6 (R (Value.bool true) w9)
                                      (Lp [Value.int IntKind.i64 0] w9 fun K4 ↦
                                        ∀ (n2 : Int) (l2 : Nat) (w10 : World),
                                          K4 l2 [Value.int IntKind.i64 n2] w10 →
                                            Br (ltI n2 x3)
                                              (NN p0 fun a2 ↦
                                                LdP P t_p_snap_Keeper (Addr.add a2 3) w10 fun p4 ↦
                                                  NN p4 fun a3 ↦
                                                    LdP P t_p_commit_Log (Addr.add a3 0) w10 fun p5 ↦
                                                      Cs P f_commit_Log_Epoch #[Value.pointer p5] w10 fun v8 w11 ↦
                                                        ∃ n3,
                                                          v8 = Value.int IntKind.i64 n3 ∧
                                                            NN p0 fun a4 ↦
                                                              LdP P t_p_snap_Keeper (Addr.add a4 3) w11 fun p6 ↦
                                                                Cs P f_snap_Keeper_Save #[Value.pointer p6, Value.slice x1 x1l x1c, Value.slice x2 x2l x2c] w11 fun v9 w12 ↦
                                                                  ∃ n4,
                                                                    v9 = Value.int IntKind.i64 n4 ∧
                                                                      Br (neI n4 0) (R (Value.bool true) w12)
                                                                        (NN p0 fun a5 ↦
                                                                          LdP P t_p_snap_Keeper (Addr.add a5 3) w12 fun p7 ↦
                                                                            NN p7 fun a6 ↦
                                                                              LdP P t_p_commit_Log (Addr.add a6 0) w12 fun p8 ↦
                                                                                Cs P f_commit_Log_Epoch #[Value.pointer p8] w12 fun v10 w13 ↦
                                                                                  ∃ n5,
                                                                                    v10 = Value.int IntKind.i64 n5 ∧
                                                                                      Br (eqI n5 n3) (Nx K4 l2 [Value.int IntKind.i64 (IntKind.wrap IntKind.i64 (n2 + 1))] w13)
                                                                                        (Cs P f_coffretlaw18_Place_open #[Value.pointer p0] w13 fun v11 w14 ↦
                                                                                          ∃ p9 l3 l4 n6,
                                                                                            v11 = Value.tuple #[Value.slice p9 l3 l4, Value.int IntKind.i64 n6] ∧
                                                                                              Jn
                                                                                                (fun K5 ↦
                                                                                                  Br (eqI n6 0)
                                                                                                    (DoL P (Instr.buildSlice t_sl_api_Record 0 #[]) w14 fun p10 l5 l6 w15 ↦
                                                                                                      DoL P (Builtin.append_ #[t_sl_api_Record, t_sl_api_Record] t_sl_api_Record #[Value.slice p10 l5 l6, Value.slice x1 x1l x1c]) w15 fun p11 l7 l8 w16 ↦
                                                                                                        DoL P (Builtin.append_ #[t_sl_api_Record, t_sl_api_Record] t_sl_api_Record #[Value.slice p11 l7 l8, Value.slice x2 x2l x2c]) w16 fun p12 l9 l10 w17 ↦
                                                                                                          Cs P f_coffretref13_Same #[Value.slice p9 l3 l4, Value.slice p12 l9 l10] w17 fun v12 w18 ↦ ∃ b7, v12 = Value.bool b7 ∧ K5 [Value.bool b7] w18)
                                                                                                    (K5 [Value.bool false] w14))
                                                                                                fun K6 ↦ ∀ (b8 : Bool) (w19 : World), K6 [Value.bool b8] w19 → R (Value.bool b8) w19)))
                                              (R (Value.bool true) w10))))
theorem ok_coffretlaw18_SnapState {w : World} {R : Value → World → Prop} (x0 : Int) (x1 : Option Addr) (x1l : Nat) (x1c : Nat) (x2 : Option Addr) (x2l : Nat) (x2c : Nat) (x3 : Int) (h : vc_coffretlaw18_SnapState x0 x1 x1l x1c x2 x2l x2c x3 w R) : Cs P f_coffretlaw18_SnapState #[Value.int IntKind.i64 x0, Value.slice x1 x1l x1c, Value.slice x2 x2l x2c, Value.int IntKind.i64 x3] w R := wpF_ok follows Tryd.func4 (Eq.mpr (by kernel_rfl) h)

/-- coffret/coffretlaw18.SnapRefuses -/
def vc_coffretlaw18_SnapRefuses (x0 : Option Addr) (x0l : Nat) (x0c : Nat) (x1 : Option Addr) (x1l : Nat) (x1c : Nat) (x2 : Value) (w : World) (R : Value → World → Prop) : Prop :=
  DoA P (Instr.box t_api_Record x2) w fun a0 w0 ↦
    Cs P f_coffretlaw18_alive #[] w0 fun v0 w1 ↦
      ∃ b0,
        v0 = Value.bool b0 ∧
          Br (!b0) (R (Value.bool false) w1)
            (Jn
              (fun K0 ↦
                Cs P f_coffretref13_Great #[Value.slice x0 x0l x0c, Value.int IntKind.i64 10] w1 fun v1 w2 ↦
                  ∃ b1,
                    v1 = Value.bool b1 ∧
                      Br b1 (K0 [Value.bool true] w2)
                        (Cs P f_coffretref13_Great #[Value.slice x1 x1l x1c, Value.int IntKind.i64 10] w2 fun v2 w3 ↦
                          ∃ b2,
                            v2 = Value.bool b2 ∧
                              Br b2 (K0 [Value.bool true] w3)
                                (LdV P t_api_Record a0 w3 fun v3 ↦
                                  DoL P (Instr.buildSlice t_sl_api_Record 1 #[(0, v3)]) w3 fun p0 l0 l1 w4 ↦
                                    Cs P f_coffretref13_Great #[Value.slice p0 l0 l1, Value.int IntKind.i64 1] w4 fun v4 w5 ↦
                                      ∃ b3,
                                        v4 = Value.bool b3 ∧
                                          Br b3 (K0 [Value.bool true] w5)
                                            (Br (eqI (Nat.cast x0l) 0) (K0 [Value.bool true] w5)
                                              (Cs P f_coffretref13_All #[Value.slice x0 x0l x0c] w5 fun v5 w6 ↦ ∃ b4, v5 = Value.bool b4 ∧ Br (!b4) (K0 [Value.bool true] w6) (LdV P t_api_Record a0 w6 fun v6 ↦ Cs P f_coffretref13_Good #[v6] w6 fun v7 w7 ↦ ∃ b5, v7 = Value.bool b5 ∧ K0 [Value.bool b5] w7))))))
              fun K1 ↦
              ∀ (b6 : Bool) (w8 : World),
                K1 [Value.bool b6] w8 →
                  Br b6 (R (Value.bool true) w8)
                    (Cs P f_coffretlaw18_place #[Value.int IntKind.i64 100, Value.int IntKind.i64 1099511627776, Value.int IntKind.i64 1099511627776] w8 fun v8 w9 ↦
                      ∃ p1,
                        v8 = Value.pointer p1 ∧
                          Cs P f_coffretlaw18_Place_open #[Value.pointer p1] w9 fun v9 w10 ↦
                            ∃ p2 l2 l3 n0,
                              v9 = Value.tuple #[Value.slice p2 l2 l3, Value.int IntKind.i64 n0] ∧
                                Jn
                                  (fun K2 ↦
                                    Br (neI n0 0) (K2 [Value.bool true] w10)
                                      (NN p1 fun a1 ↦
                                        LdP P t_p_snap_Keeper (Addr.add a1 3) w10 fun p3 ↦
                                          NN p3 fun a2 ↦ LdP P t_p_commit_Log (Addr.add a2 0) w10 fun p4 ↦ Cs P f_commit_Log_Turn #[Value.pointer p4, Value.slice x0 x0l x0c] w10 fun v10 w11 ↦ ∃ n1, v10 = Value.int IntKind.i64 n1 ∧ K2 [Value.bool (neI n1 0)] w11))
                                  fun K3 ↦
                                  ∀ (b7 : Bool) (w12 : World),
                                    K3 [Value.bool b7] w12 →
                                      Br b7 (R (Value.bool true) w12)
                                        (NN p1 fun a3 ↦
                                          LdP P t_p_meter_Meter (Addr.add a3 2) w12 fun p5 ↦
                                            NN p5 fun a4 ↦
                                              LdI IntKind.i64 P t_int (Addr.add (Addr.add a4 0) 0) w12 fun n2 ↦
                                                Jn
                                                  (fun K4 ↦
                                                    Dr w12 fun w13 ↦
                                                      NN p1 fun a5 ↦
                                                        LdP P t_p_snap_Keeper (Addr.add a5 3) w13 fun p6 ↦
                                                          Cs P f_snap_Keeper_Save #[Value.pointer p6, Value.slice x0 x0l x0c, Value.slice none 0 0] w13 fun v11 w14 ↦
                                                            ∃ n3,
                                                              v11 = Value.int IntKind.i64 n3 ∧
                                                                Br (neI n3 1) ((K4 [Value.bool true] w14 ∧ K4 [Value.bool true] w14) ∧ K4 [Value.bool true] w14)
                                                                  (NN p1 fun a6 ↦
                                                                    LdP P t_p_snap_Keeper (Addr.add a6 3) w14 fun p7 ↦
                                                                      LdV P t_api_Record a0 w14 fun v12 ↦
                                                                        (DoL P (Instr.buildSlice t_sl_api_Record 0 #[]) w14 fun p8 l4 l5 w15 ↦
                                                                            (Still P (loadVar t_api_Record a0) v12 w15 ∧ Still P (loadVar t_p_snap_Keeper (Addr.add a6 3)) (Value.pointer p7) w15 ∧ True) ∧
                                                                              (DoL P (Builtin.append_ #[t_sl_api_Record, t_sl_api_Record] t_sl_api_Record #[Value.slice p8 l4 l5, Value.slice x1 x1l x1c]) w15 fun p9 l6 l7 w16 ↦
                                                                                  (Still P (loadVar t_api_Record a0) v12 w16 ∧ Still P (loadVar t_p_snap_Keeper (Addr.add a6 3)) (Value.pointer p7) w16 ∧ True) ∧
                                                                                    DoL P (Instr.buildSlice t_sl_api_Record 1 #[(0, v12)]) w16 fun p10 l8 l9 w17 ↦
                                                                                      (Still P (loadVar t_p_snap_Keeper (Addr.add a6 3)) (Value.pointer p7) w17 ∧ True) ∧
                                                                                        DoL P (Builtin.append_ #[t_sl_api_Record, t_sl_api_Record] t_sl_api_Record #[Value.slice p9 l6 l7, Value.slice p10 l8 l9]) w17 fun p11 l10 l11 w18 ↦
                                                                                          (Still P (loadVar t_p_snap_Keeper (Addr.add a6 3)) (Value.pointer p7) w18 ∧ True) ∧
                                                                                            Cs P f_snap_Keeper_Save #[Value.pointer p7, Value.slice x0 x0l x0c, Value.slice p11 l10 l11] w18 fun v13 w19 ↦
                                                                                              ∃ n4,
                                                                                                v13 = Value.int IntKind.i64 n4 ∧
                                                                                                  Br (neI n4 1) (K4 [Value.bool true] w19)
                                                                                                    (NN p1 fun a7 ↦ LdP P t_p_meter_Meter (Addr.add a7 2) w19 fun p12 ↦ NN p12 fun a8 ↦ LdI IntKind.i64 P t_int (Addr.add (Addr.add a8 0) 0) w19 fun n5 ↦ K4 [Value.bool (neI n5 n2)] w19)) ∧
                                                                                DoL P (Instr.buildSlice t_sl_api_Record 1 #[(0, v12)]) w15 fun p13 l12 l13 w20 ↦
                                                                                  (Still P (loadVar t_p_snap_Keeper (Addr.add a6 3)) (Value.pointer p7) w20 ∧ True) ∧
                                                                                    DoL P (Builtin.append_ #[t_sl_api_Record, t_sl_api_Record] t_sl_api_Record #[Value.slice p8 l4 l5, Value.slice x1 x1l x1c]) w20 fun p14 l14 l15 w21 ↦
                                                                                      (Still P (loadVar t_p_snap_Keeper (Addr.add a6 3)) (Value.pointer p7) w21 ∧ True) ∧
                                                                                        DoL P (Builtin.append_ #[t_sl_api_Record, t_sl_api_Record] t_sl_api_Record #[Value.slice p14 l14 l15, Value.slice p13 l12 l13]) w21 fun p15 l16 l17 w22 ↦
                                                                                          (Still P (loadVar t_p_snap_Keeper (Addr.add a6 3)) (Value.pointer p7) w22 ∧ True) ∧
                                                                                            Cs P f_snap_Keeper_Save #[Value.pointer p7, Value.slice x0 x0l x0c, Value.slice p15 l16 l17] w22 fun v14 w23 ↦
                                                                                              ∃ n6,
                                                                                                v14 = Value.int IntKind.i64 n6 ∧
                                                                                                  Br (neI n6 1) (K4 [Value.bool true] w23)
                                                                                                    (NN p1 fun a9 ↦ LdP P t_p_meter_Meter (Addr.add a9 2) w23 fun p16 ↦ NN p16 fun a10 ↦ LdI IntKind.i64 P t_int (Addr.add (Addr.add a10 0) 0) w23 fun n7 ↦ K4 [Value.bool (neI n7 n2)] w23)) ∧
                                                                          DoL P (Instr.buildSlice t_sl_api_Record 1 #[(0, v12)]) w14 fun p17 l18 l19 w24 ↦
                                                                            (Still P (loadVar t_p_snap_Keeper (Addr.add a6 3)) (Value.pointer p7) w24 ∧ True) ∧
                                                                              DoL P (Instr.buildSlice t_sl_api_Record 0 #[]) w24 fun p18 l20 l21 w25 ↦
                                                                                (Still P (loadVar t_p_snap_Keeper (Addr.add a6 3)) (Value.pointer p7) w25 ∧ True) ∧
                                                                                  DoL P (Builtin.append_ #[t_sl_api_Record, t_sl_api_Record] t_sl_api_Record #[Value.slice p18 l20 l21, Value.slice x1 x1l x1c]) w25 fun p19 l22 l23 w26 ↦
                                                                                    (Still P (loadVar t_p_snap_Keeper (Addr.add a6 3)) (Value.pointer p7) w26 ∧ True) ∧
                                                                                      DoL P (Builtin.append_ #[t_sl_api_Record, t_sl_api_Record] t_sl_api_Record #[Value.slice p19 l22 l23, Value.slice p17 l18 l19]) w26 fun p20 l24 l25 w27 ↦
                                                                                        (Still P (loadVar t_p_snap_Keeper (Addr.add a6 3)) (Value.pointer p7) w27 ∧ True) ∧
                                                                                          Cs P f_snap_Keeper_Save #[Value.pointer p7, Value.slice x0 x0l x0c, Value.slice p20 l24 l25] w27 fun v15 w28 ↦
                                                                                            ∃ n8,
                                                                                              v15 = Value.int IntKind.i64 n8 ∧
                                                                                                Br (neI n8 1) (K4 [Value.bool true] w28)
                                                                                                  (NN p1 fun a11 ↦ LdP P t_p_meter_Meter (Addr.add a11 2) w28 fun p21 ↦ NN p21 fun a12 ↦ LdI IntKind.i64 P t_int (Addr.add (Addr.add a12 0) 0) w28 fun n9 ↦ K4 [Value.bool (neI n9 n2)] w28)))
                                                  fun K5 ↦
                                                  ∀ (b8 : Bool) (w29 : World),
                                                    K5 [Value.bool b8] w29 →
                                                      Br b8 (R (Value.bool false) w29)
                                                        (Cs P f_coffretlaw18_Place_open #[Value.pointer p1] w29 fun v16 w30 ↦
                                                          ∃ p22 l26 l27 n10,
                                                            v16 = Value.tuple #[Value.slice p22 l26 l27, Value.int IntKind.i64 n10] ∧
                                                              Jn (fun K6 ↦ Br (eqI n10 0) (Cs P f_coffretref13_Same #[Value.slice p22 l26 l27, Value.slice x0 x0l x0c] w30 fun v17 w31 ↦ ∃ b9, v17 = Value.bool b9 ∧ K6 [Value.bool b9] w31) (K6 [Value.bool false] w30)) fun K7 ↦ ∀ (b10 : Bool) (w32 : World), K7 [Value.bool b10] w32 → R (Value.bool b10) w32))))
theorem ok_coffretlaw18_SnapRefuses {w : World} {R : Value → World → Prop} (x0 : Option Addr) (x0l : Nat) (x0c : Nat) (x1 : Option Addr) (x1l : Nat) (x1c : Nat) (x2 : Value) (h : vc_coffretlaw18_SnapRefuses x0 x0l x0c x1 x1l x1c x2 w R) : Cs P f_coffretlaw18_SnapRefuses #[Value.slice x0 x0l x0c, Value.slice x1 x1l x1c, x2] w R := wpF_ok follows Tryd.func5 (Eq.mpr (by kernel_rfl) h)

end Go.Dv

set_option maxRecDepth 100000
namespace Go.Dv
open Go Go.Sh Go.Proofs

/-- coffret/coffretlaw18.SnapGoes -/
def vc_coffretlaw18_SnapGoes (x0 : Int) (x1 : Option Addr) (x1l : Nat) (x1c : Nat) (x2 : Option Addr) (x2l : Nat) (x2c : Nat) (x3 : Int) (w : World) (R : Value → World → Prop) : Prop :=
  Cs P f_coffretlaw18_alive #[] w fun v0 w0 ↦
    ∃ b0,
      v0 = Value.bool b0 ∧
        Br (!b0) (R (Value.bool false) w0)
          (Jn
            (fun K0 ↦
              Br (ltI x0 2) (K0 [Value.bool true] w0)
                (Br (gtI x0 100) (K0 [Value.bool true] w0)
                  (Br (ltI x3 1) (K0 [Value.bool true] w0)
                    (Br (gtI x3 60) (K0 [Value.bool true] w0)
                      (Cs P f_coffretref13_Great #[Value.slice x1 x1l x1c, Value.int IntKind.i64 20] w0 fun v1 w1 ↦
                        ∃ b1,
                          v1 = Value.bool b1 ∧
                            Br b1 (K0 [Value.bool true] w1)
                              (Cs P f_coffretref13_Great #[Value.slice x2 x2l x2c, Value.int IntKind.i64 20] w1 fun v2 w2 ↦
                                ∃ b2,
                                  v2 = Value.bool b2 ∧
                                    Br b2 (K0 [Value.bool true] w2)
                                      (Br (eqI (Nat.cast x1l) 0) (K0 [Value.bool true] w2)
                                        (Br (eqI (Nat.cast x2l) 0) (K0 [Value.bool true] w2) (Cs P f_coffretref13_All #[Value.slice x1 x1l x1c] w2 fun v3 w3 ↦ ∃ b3, v3 = Value.bool b3 ∧ Br (!b3) (K0 [Value.bool true] w3) (Cs P f_coffretref13_All #[Value.slice x2 x2l x2c] w3 fun v4 w4 ↦ ∃ b4, v4 = Value.bool b4 ∧ K0 [Value.bool !b4] w4))))))))))
            fun K1 ↦
            ∀ (b5 : Bool) (w5 : World),
              K1 [Value.bool b5] w5 →
                Br b5 (R (Value.bool true) w5)
                  (Cs P f_coffretref15_Sectors #[Value.slice x2 x2l x2c] w5 fun v5 w6 ↦
                    ∃ n0,
                      v5 = Value.int IntKind.i64 n0 ∧
                        Cs P f_coffretref15_Split #[Value.slice x1 x1l x1c] w6 fun v6 w7 ↦
                          ∃ p0 l0 l1,
                            v6 = Value.slice p0 l0 l1 ∧
                              Lp [Value.int IntKind.i64 n0, Value.int IntKind.i64 0] w7 fun K2 ↦
                                ∀ (n1 n2 : Int) (l2 : Nat) (w8 : World),
                                  K2 l2 [Value.int IntKind.i64 n1, Value.int IntKind.i64 n2] w8 →
                                    Br (ltI n2 (Nat.cast l0))
                                      (Ix p0 l0 n2 1 fun a0 ↦
                                        LdL P t_sl_api_Record a0 w8 fun p1 l3 l4 ↦ Cs P f_coffretref15_Sectors #[Value.slice p1 l3 l4] w8 fun v7 w9 ↦ ∃ n3, v7 = Value.int IntKind.i64 n3 ∧ Nx K2 l2 [Value.int IntKind.i64 (IntKind.wrap IntKind.i64 (n1 + n3)), Value.int IntKind.i64 (IntKind.wrap IntKind.i64 (n2 + 1))] w9)
                                      (Jn (fun K3 ↦ Nz 2 ∧ Br (gtI n1 (IntKind.wrap IntKind.i64 (Int.tdiv x0 2))) (K3 [Value.bool true] w8) (Cs P f_coffretref15_Size #[Value.slice x2 x2l x2c] w8 fun v8 w10 ↦ ∃ n4, v8 = Value.int IntKind.i64 n4 ∧ K3 [Value.bool (gtI n4 16384)] w10)) fun K4 ↦
                                        ∀ (b6 : Bool) (w11 : World),
                                          K4 [Value.bool b6] w11 →
                                            Br b6 (R (Value.bool true) w11)
                                              (Cs P f_coffretlaw18_place #[Value.int IntKind.i64 x0, Value.int IntKind.i64 1099511627776, Value.int IntKind.i64 1099511627776] w11 fun v9 w12 ↦
                                                ∃ p2,
                                                  v9 = Value.pointer p2 ∧
                                                    Cs P f_coffretlaw18_Place_open #[Value.pointer p2] w12 fun v10 w13 ↦
                                                      ∃ p3 l5 l6 n5,
                                                        v10 = Value.tuple #[Value.slice p3 l5 l6, Value.int IntKind.i64 n5] ∧
                                                          Jn
                                                            (fun K5 ↦
                                                              Br (neI n5 0) (K5 [Value.bool true] w13)
                                                                (NN p2 fun a1 ↦
                                                                  LdP P t_p_snap_Keeper (Addr.add a1 3) w13 fun p4 ↦
                                                                    NN p4 fun a2 ↦ LdP P t_p_commit_Log (Addr.add a2 0) w13 fun p5 ↦ Cs P f_commit_Log_Turn #[Value.pointer p5, Value.slice x1 x1l x1c] w13 fun v11 w14 ↦ ∃ n6, v11 = Value.int IntKind.i64 n6 ∧ K5 [Value.bool (neI n6 0)] w14))
                                                            fun K6 ↦
                                                            ∀ (b7 : Bool) (w15 : World),
                                                              K6 [Value.bool b7] w15 →
                                                                Br b7 (R (Value.bool false) w15)
                                                                  (Lp [Value.int IntKind.i64 0] w15 fun K7 ↦
                                                                    ∀ (n7 : Int) (l7 : Nat) (w16 : World),
                                                                      K7 l7 [Value.int IntKind.i64 n7] w16 →
                                                                        Br (ltI n7 x3)
                                                                          (NN p2 fun a3 ↦
                                                                            LdP P t_p_snap_Keeper (Addr.add a3 3) w16 fun p6 ↦
                                                                              Cs P f_snap_Keeper_Save #[Value.pointer p6, Value.slice x1 x1l x1c, Value.slice x2 x2l x2c] w16 fun v12 w17 ↦ ∃ n8, v12 = Value.int IntKind.i64 n8 ∧ Br (neI n8 0) (R (Value.bool false) w17) (Nx K7 l7 [Value.int IntKind.i64 (IntKind.wrap IntKind.i64 (n7 + 1))] w17))
                                                                          (Cs P f_coffretlaw18_Place_open #[Value.pointer p2] w16 fun v13 w18 ↦
                                                                            ∃ p7 l8 l9 n9,
                                                                              v13 = Value.tuple #[Value.slice p7 l8 l9, Value.int IntKind.i64 n9] ∧
                                                                                Jn
                                                                                  (fun K8 ↦
                                                                                    Br (eqI n9 0)
                                                                                      (Br (geI (Nat.cast l8) (IntKind.wrap IntKind.i64 (Nat.cast x1l + Nat.cast x2l)))
                                                                                        (DoL P (Instr.sliceAt t_sl_api_Record (Value.slice p7 l8 l9) none (some (Value.int IntKind.i64 (Nat.cast x1l))) none) w18 fun p8 l10 l11 w19 ↦
                                                                                          Cs P f_coffretref13_Same #[Value.slice p8 l10 l11, Value.slice x1 x1l x1c] w19 fun v14 w20 ↦
                                                                                            ∃ b8,
                                                                                              v14 = Value.bool b8 ∧
                                                                                                Br b8
                                                                                                  (DoL P (Instr.sliceAt t_sl_api_Record (Value.slice p7 l8 l9) (some (Value.int IntKind.i64 (IntKind.wrap IntKind.i64 (Nat.cast l8 - Nat.cast x2l)))) none none) w20 fun p9 l12 l13 w21 ↦
                                                                                                    Cs P f_coffretref13_Same #[Value.slice p9 l12 l13, Value.slice x2 x2l x2c] w21 fun v15 w22 ↦
                                                                                                      ∃ b9,
                                                                                                        v15 = Value.bool b9 ∧
                                                                                                          Br b9 (NN p2 fun a4 ↦ LdP P t_p_vault_Vault (Addr.add a4 0) w22 fun p10 ↦ Cs P f_vault_Vault_Clashes #[Value.pointer p10] w22 fun v16 w23 ↦ ∃ n10, v16 = Value.int IntKind.i64 n10 ∧ K8 [Value.bool (eqI n10 0)] w23)
                                                                                                            (K8 [Value.bool false] w22))
                                                                                                  (K8 [Value.bool false] w20))
                                                                                        (K8 [Value.bool false] w18))
                                                                                      (K8 [Value.bool false] w18))
                                                                                  fun K9 ↦ ∀ (b10 : Bool) (w24 : World), K9 [Value.bool b10] w24 → R (Value.bool b10) w24))))))
theorem ok_coffretlaw18_SnapGoes {w : World} {R : Value → World → Prop} (x0 : Int) (x1 : Option Addr) (x1l : Nat) (x1c : Nat) (x2 : Option Addr) (x2l : Nat) (x2c : Nat) (x3 : Int) (h : vc_coffretlaw18_SnapGoes x0 x1 x1l x1c x2 x2l x2c x3 w R) : Cs P f_coffretlaw18_SnapGoes #[Value.int IntKind.i64 x0, Value.slice x1 x1l x1c, Value.slice x2 x2l x2c, Value.int IntKind.i64 x3] w R := wpF_ok follows Tryd.func6 (Eq.mpr (by kernel_rfl) h)

/-- coffret/coffretlaw18.SnapLoses -/
def vc_coffretlaw18_SnapLoses (x0 : Int) (x1 : Option Addr) (x1l : Nat) (x1c : Nat) (w : World) (R : Value → World → Prop) : Prop :=
  Cs P f_coffretlaw18_alive #[] w fun v0 w0 ↦
    ∃ b0,
      v0 = Value.bool b0 ∧
        Br (!b0) (R (Value.bool false) w0)
          (Jn (fun K0 ↦ Cs P f_coffretlaw18_great #[Value.slice x1 x1l x1c] w0 fun v1 w1 ↦ ∃ b1, v1 = Value.bool b1 ∧ Br b1 (K0 [Value.bool true] w1) (Br (ltI x0 2) (K0 [Value.bool true] w1) (K0 [Value.bool (gtI x0 100)] w1))) fun K1 ↦
            ∀ (b2 : Bool) (w2 : World),
              K1 [Value.bool b2] w2 →
                Br b2 (R (Value.bool true) w2)
                  (Cs P f_coffretlaw18_place #[Value.int IntKind.i64 x0, Value.int IntKind.i64 1099511627776, Value.int IntKind.i64 1099511627776] w2 fun v2 w3 ↦
                    ∃ p0,
                      v2 = Value.pointer p0 ∧
                        Cs P f_coffretref17_New #[Value.int IntKind.i64 x0, Value.int IntKind.i64 1099511627776, Value.int IntKind.i64 1099511627776] w3 fun v3 w4 ↦
                          ∃ p1,
                            v3 = Value.pointer p1 ∧
                              Cs P f_coffretlaw18_Place_open #[Value.pointer p0] w4 fun v4 w5 ↦
                                ∃ p2 l0 l1 n0,
                                  v4 = Value.tuple #[Value.slice p2 l0 l1, Value.int IntKind.i64 n0] ∧
                                    Jn
                                      (fun K2 ↦
                                        Dr w5 fun w6 ↦
                                          Br (neI n0 0) (K2 [Value.bool true] w6)
                                            (NN p0 fun a0 ↦
                                              LdP P t_p_snap_Keeper (Addr.add a0 3) w6 fun p3 ↦
                                                NN p3 fun a1 ↦
                                                  LdP P t_p_commit_Log (Addr.add a1 0) w6 fun p4 ↦
                                                    Cs P f_coffretlaw18_tick #[Value.int IntKind.i64 0] w6 fun v5 w7 ↦
                                                      ∃ v6,
                                                        v5 = v6 ∧
                                                          (Still P (loadVar t_p_commit_Log (Addr.add a1 0)) (Value.pointer p4) w7 ∧ Still P (loadVar t_p_snap_Keeper (Addr.add a0 3)) (Value.pointer p3) w7 ∧ True) ∧
                                                            DoL P (Instr.buildSlice t_sl_api_Record 1 #[(0, v6)]) w7 fun p5 l2 l3 w8 ↦
                                                              (Still P (loadVar t_p_commit_Log (Addr.add a1 0)) (Value.pointer p4) w8 ∧ Still P (loadVar t_p_snap_Keeper (Addr.add a0 3)) (Value.pointer p3) w8 ∧ True) ∧
                                                                Cs P f_commit_Log_Turn #[Value.pointer p4, Value.slice p5 l2 l3] w8 fun v7 w9 ↦
                                                                  ∃ n1,
                                                                    v7 = Value.int IntKind.i64 n1 ∧
                                                                      (Still P (loadVar t_p_snap_Keeper (Addr.add a0 3)) (Value.pointer p3) w9 ∧ True) ∧
                                                                        Br (neI n1 0) (K2 [Value.bool true] w9)
                                                                          (Cs P f_coffretlaw18_tick #[Value.int IntKind.i64 0] w9 fun v8 w10 ↦
                                                                            ∃ v9,
                                                                              v8 = v9 ∧
                                                                                (Still P (loadVar t_p_snap_Keeper (Addr.add a0 3)) (Value.pointer p3) w10 ∧ True) ∧
                                                                                  DoL P (Instr.buildSlice t_sl_api_Record 1 #[(0, v9)]) w10 fun p6 l4 l5 w11 ↦
                                                                                    (Still P (loadVar t_p_snap_Keeper (Addr.add a0 3)) (Value.pointer p3) w11 ∧ True) ∧
                                                                                      Cs P f_coffretref17_Log_Turn #[Value.pointer p1, Value.slice p6 l4 l5] w11 fun v10 w12 ↦ ∃ n2, v10 = Value.int IntKind.i64 n2 ∧ (Still P (loadVar t_p_snap_Keeper (Addr.add a0 3)) (Value.pointer p3) w12 ∧ True) ∧ K2 [Value.bool (neI n2 0)] w12)))
                                      fun K3 ↦
                                      ∀ (b3 : Bool) (w13 : World),
                                        K3 [Value.bool b3] w13 →
                                          Br b3 (R (Value.bool false) w13)
                                            (Lp [Value.pointer p1, Value.int IntKind.i64 0] w13 fun K4 ↦
                                              ∀ (p7 : Option Addr) (n3 : Int) (l6 : Nat) (w14 : World),
                                                K4 l6 [Value.pointer p7, Value.int IntKind.i64 n3] w14 →
                                                  Br (ltI n3 (Nat.cast x1l))
                                                    (Jn
                                                      (fun K5 ↦
                                                        Ix x1 x1l n3 5 fun a2 ↦
                                                          LdV P t_coffretlaw18_Step a2 w14 fun v11 ↦
                                                            DoA P (Instr.alloc t_coffretlaw18_Step true (Value.tuple #[])) w14 fun a3 w15 ↦
                                                              DoU P (storeVar t_coffretlaw18_Step a3 v11) w15 fun w16 ↦
                                                                Cs P f_coffretref17_Log_Copy #[Value.pointer p7] w16 fun v12 w17 ↦
                                                                  ∃ p8,
                                                                    v12 = Value.pointer p8 ∧
                                                                      LdL P t_sl_api_Record (Addr.add a3 0) w17 fun p9 l7 l8 ↦
                                                                        LdL P t_sl_api_Record (Addr.add a3 1) w17 fun p10 l9 l10 ↦
                                                                          Cs P f_coffretref18_Save #[Value.pointer p8, Value.slice p9 l7 l8, Value.slice p10 l9 l10] w17 fun v13 w18 ↦
                                                                            ∃ n4 p11,
                                                                              v13 = Value.tuple #[Value.int IntKind.i64 n4, Value.pointer p11] ∧
                                                                                Dr w18 fun w19 ↦
                                                                                  NN p0 fun a4 ↦
                                                                                    LdP P t_p_disk_Disk (Addr.add a4 1) w19 fun p12 ↦
                                                                                      LdI IntKind.i64 P t_int (Addr.add a3 2) w19 fun n5 ↦
                                                                                        LdI IntKind.u64 P t_uint64 (Addr.add a3 3) w19 fun n6 ↦
                                                                                          Cs P f_disk_Disk_Arm #[Value.pointer p12, Value.int IntKind.i64 n5, Value.int IntKind.u64 n6] w19 fun v14 w20 ↦
                                                                                            v14 = Value.tuple #[] ∧
                                                                                              Dr w20 fun w21 ↦
                                                                                                NN p0 fun a5 ↦
                                                                                                  LdP P t_p_snap_Keeper (Addr.add a5 3) w21 fun p13 ↦
                                                                                                    LdL P t_sl_api_Record (Addr.add a3 0) w21 fun p14 l11 l12 ↦
                                                                                                      LdL P t_sl_api_Record (Addr.add a3 1) w21 fun p15 l13 l14 ↦
                                                                                                        Cs P f_snap_Keeper_Save #[Value.pointer p13, Value.slice p14 l11 l12, Value.slice p15 l13 l14] w21 fun v15 w22 ↦
                                                                                                          ∃ n7,
                                                                                                            v15 = Value.int IntKind.i64 n7 ∧
                                                                                                              NN p0 fun a6 ↦
                                                                                                                LdP P t_p_disk_Disk (Addr.add a6 1) w22 fun p16 ↦
                                                                                                                  Cs P f_disk_Disk_Arm #[Value.pointer p16, Value.int IntKind.i64 0, Value.int IntKind.u64 0] w22 fun v16 w23 ↦
                                                                                                                    v16 = Value.tuple #[] ∧
                                                                                                                      Jn (fun K6 ↦ Br (neI n7 8) (Br (neI n7 n4) (R (Value.bool false) w23) (LdB P t_bool (Addr.add a3 4) w23 fun b4 ↦ Br (!b4) (K5 [Value.pointer p8] w23) (K6 [Value.pointer p8] w23))) (K6 [Value.pointer p7] w23))
                                                                                                                        fun K7 ↦
                                                                                                                        ∀ (p17 : Option Addr) (w24 : World),
                                                                                                                          K7 [Value.pointer p17] w24 →
                                                                                                                            Dr w24 fun w25 ↦
                                                                                                                              NN p0 fun a7 ↦
                                                                                                                                LdP P t_p_disk_Disk (Addr.add a7 1) w25 fun p18 ↦
                                                                                                                                  LdI IntKind.u64 P t_uint64 (Addr.add a3 3) w25 fun n8 ↦
                                                                                                                                    Cs P f_disk_Disk_Off #[Value.pointer p18, Value.int IntKind.u64 n8] w25 fun v17 w26 ↦
                                                                                                                                      v17 = Value.tuple #[] ∧
                                                                                                                                        NN p0 fun a8 ↦
                                                                                                                                          LdP P t_p_disk_Disk (Addr.add a8 1) w26 fun p19 ↦
                                                                                                                                            Cs P f_disk_Disk_On #[Value.pointer p19] w26 fun v18 w27 ↦
                                                                                                                                              v18 = Value.tuple #[] ∧
                                                                                                                                                Cs P f_coffretlaw18_Place_open #[Value.pointer p0] w27 fun v19 w28 ↦
                                                                                                                                                  ∃ p20 l15 l16 n9,
                                                                                                                                                    v19 = Value.tuple #[Value.slice p20 l15 l16, Value.int IntKind.i64 n9] ∧
                                                                                                                                                      Br (neI n9 0) (R (Value.bool false) w28)
                                                                                                                                                        (Jn
                                                                                                                                                          (fun K8 ↦
                                                                                                                                                            Br (eqI n7 8)
                                                                                                                                                              (Dr w28 fun w29 ↦
                                                                                                                                                                NN p0 fun a9 ↦
                                                                                                                                                                  LdP P t_p_meter_Meter (Addr.add a9 2) w29 fun p21 ↦
                                                                                                                                                                    NN p21 fun a10 ↦
                                                                                                                                                                      LdI IntKind.i64 P t_int (Addr.add (Addr.add a10 0) 0) w29 fun n10 ↦
                                                                                                                                                                        NN p8 fun a11 ↦
                                                                                                                                                                          LdI IntKind.i64 P t_int (Addr.add a11 3) w29 fun n11 ↦
                                                                                                                                                                            Jn
                                                                                                                                                                              (fun K9 ↦
                                                                                                                                                                                Br (eqI n10 n11) (K9 [Value.pointer p8] w29)
                                                                                                                                                                                  (Jn
                                                                                                                                                                                    (fun K10 ↦
                                                                                                                                                                                      Dr w29 fun w30 ↦
                                                                                                                                                                                        Br (!Option.isNone p11)
                                                                                                                                                                                          (NN p0 fun a12 ↦
                                                                                                                                                                                            LdP P t_p_meter_Meter (Addr.add a12 2) w30 fun p22 ↦
                                                                                                                                                                                              NN p22 fun a13 ↦
                                                                                                                                                                                                LdI IntKind.i64 P t_int (Addr.add (Addr.add a13 0) 0) w30 fun n12 ↦
                                                                                                                                                                                                  NN p11 fun a14 ↦ LdI IntKind.i64 P t_int (Addr.add a14 3) w30 fun n13 ↦ K10 [Value.bool (eqI n12 n13)] w30)
                                                                                                                                                                                          (K10 [Value.bool false] w30))
                                                                                                                                                                                    fun K11 ↦
                                                                                                                                                                                    ∀ (b5 : Bool) (w31 : World),
                                                                                                                                                                                      K11 [Value.bool b5] w31 → Jn (fun K12 ↦ Br b5 (K12 [Value.pointer p11] w31) (K12 [Value.pointer p17] w31)) fun K13 ↦ ∀ (p23 : Option Addr) (w32 : World), K13 [Value.pointer p23] w32 → K9 [Value.pointer p23] w32))
                                                                                                                                                                              fun K14 ↦ ∀ (p24 : Option Addr) (w33 : World), K14 [Value.pointer p24] w33 → K8 [Value.pointer p24] w33)
                                                                                                                                                              (K8 [Value.pointer p17] w28))
                                                                                                                                                          fun K15 ↦
                                                                                                                                                          ∀ (p25 : Option Addr) (w34 : World),
                                                                                                                                                            K15 [Value.pointer p25] w34 →
                                                                                                                                                              Jn
                                                                                                                                                                (fun K16 ↦
                                                                                                                                                                  Dr w34 fun w35 ↦
                                                                                                                                                                    NN p0 fun a15 ↦
                                                                                                                                                                      LdP P t_p_meter_Meter (Addr.add a15 2) w35 fun p26 ↦
                                                                                                                                                                        NN p26 fun a16 ↦
                                                                                                                                                                          LdI IntKind.i64 P t_int (Addr.add (Addr.add a16 0) 0) w35 fun n14 ↦
                                                                                                                                                                            NN p25 fun a17 ↦
                                                                                                                                                                              LdI IntKind.i64 P t_int (Addr.add a17 3) w35 fun n15 ↦
                                                                                                                                                                                Br (neI n14 n15) (K16 [Value.bool true] w35)
                                                                                                                                                                                  (NN p25 fun a18 ↦
                                                                                                                                                                                    LdL P t_sl_api_Record (Addr.add a18 8) w35 fun p27 l17 l18 ↦
                                                                                                                                                                                      Cs P f_coffretref13_Same #[Value.slice p20 l15 l16, Value.slice p27 l17 l18] w35 fun v20 w36 ↦
                                                                                                                                                                                        ∃ b6,
                                                                                                                                                                                          v20 = Value.bool b6 ∧
                                                                                                                                                                                            (Still P (loadVar t_int (Addr.add a17 3)) (Value.int IntKind.i64 n15) w36 ∧
                                                                                                                                                                                                Still P (loadVar t_int (Addr.add (Addr.add a16 0) 0)) (Value.int IntKind.i64 n14) w36 ∧
                                                                                                                                                                                                  Still P (loadVar t_p_meter_Meter (Addr.add a15 2)) (Value.pointer p26) w36 ∧ True) ∧
                                                                                                                                                                                              K16 [Value.bool !b6] w36))
                                                                                                                                                                fun K17 ↦
                                                                                                                                                                ∀ (b7 : Bool) (w37 : World),
                                                                                                                                                                  K17 [Value.bool b7] w37 →
                                                                                                                                                                    Br b7 (R (Value.bool false) w37)
                                                                                                                                                                      (Cs P f_coffretref17_Log_Again #[Value.pointer p25] w37 fun v21 w38 ↦
                                                                                                                                                                        v21 = Value.tuple #[] ∧
                                                                                                                                                                          DoL P (Instr.buildSlice t_sl_api_Record 0 #[]) w38 fun p28 l19 l20 w39 ↦
                                                                                                                                                                            DoL P (Builtin.append_ #[t_sl_api_Record, t_sl_api_Record] t_sl_api_Record #[Value.slice p28 l19 l20, Value.slice p20 l15 l16]) w39 fun p29 l21 l22 w40 ↦
                                                                                                                                                                              Cs P f_coffretlaw18_tick #[Value.int IntKind.i64 0] w40 fun v22 w41 ↦
                                                                                                                                                                                ∃ v23,
                                                                                                                                                                                  v22 = v23 ∧
                                                                                                                                                                                    DoL P (Instr.buildSlice t_sl_api_Record 1 #[(0, v23)]) w41 fun p30 l23 l24 w42 ↦
                                                                                                                                                                                      DoL P (Builtin.append_ #[t_sl_api_Record, t_sl_api_Record] t_sl_api_Record #[Value.slice p29 l21 l22, Value.slice p30 l23 l24]) w42 fun p31 l25 l26 w43 ↦
                                                                                                                                                                                        NN p0 fun a19 ↦
                                                                                                                                                                                          LdP P t_p_snap_Keeper (Addr.add a19 3) w43 fun p32 ↦
                                                                                                                                                                                            NN p32 fun a20 ↦
                                                                                                                                                                                              LdP P t_p_commit_Log (Addr.add a20 0) w43 fun p33 ↦
                                                                                                                                                                                                Cs P f_commit_Log_Turn #[Value.pointer p33, Value.slice p31 l25 l26] w43 fun v24 w44 ↦
                                                                                                                                                                                                  ∃ n16,
                                                                                                                                                                                                    v24 = Value.int IntKind.i64 n16 ∧
                                                                                                                                                                                                      Cs P f_coffretref17_Log_Turn #[Value.pointer p25, Value.slice p31 l25 l26] w44 fun v25 w45 ↦
                                                                                                                                                                                                        ∃ n17,
                                                                                                                                                                                                          v25 = Value.int IntKind.i64 n17 ∧
                                                                                                                                                                                                            Jn (fun K18 ↦ Br (neI n16 n17) (K18 [Value.bool true] w45) (Br (neI n16 0) (K18 [Value.bool (neI n16 7)] w45) (K18 [Value.bool false] w45))) fun K19 ↦
                                                                                                                                                                                                              ∀ (b8 : Bool) (w46 : World), K19 [Value.bool b8] w46 → Br b8 (R (Value.bool false) w46) (Br (neI n16 0) (R (Value.bool true) w46) (K5 [Value.pointer p25] w46)))))
                                                      fun K20 ↦ ∀ (p34 : Option Addr) (w47 : World), K20 [Value.pointer p34] w47 → Nx K4 l6 [Value.pointer p34, Value.int IntKind.i64 (IntKind.wrap IntKind.i64 (n3 + 1))] w47)
                                                    (R (Value.bool true) w14))))
theorem ok_coffretlaw18_SnapLoses {w : World} {R : Value → World → Prop} (x0 : Int) (x1 : Option Addr) (x1l : Nat) (x1c : Nat) (h : vc_coffretlaw18_SnapLoses x0 x1 x1l x1c w R) : Cs P f_coffretlaw18_SnapLoses #[Value.int IntKind.i64 x0, Value.slice x1 x1l x1c] w R := wpF_ok follows Tryd.func7 (Eq.mpr (by kernel_rfl) h)

/-- coffret/coffretlaw18.alive -/
def vc_coffretlaw18_alive  (w : World) (R : Value → World → Prop) : Prop :=
  Cs P f_coffretlaw18_place #[Value.int IntKind.i64 8, Value.int IntKind.i64 100, Value.int IntKind.i64 100] w fun v0 w0 ↦
    ∃ p0,
      v0 = Value.pointer p0 ∧
        Jn
          (fun K0 ↦
            NN p0 fun a0 ↦
              LdP P t_p_vault_Vault (Addr.add a0 0) w0 fun p1 ↦
                Br (Option.isNone p1) (K0 [Value.bool true] w0) (NN p0 fun a1 ↦ LdP P t_p_disk_Disk (Addr.add a1 1) w0 fun p2 ↦ Br (Option.isNone p2) (K0 [Value.bool true] w0) (NN p0 fun a2 ↦ LdP P t_p_meter_Meter (Addr.add a2 2) w0 fun p3 ↦ K0 [Value.bool (Option.isNone p3)] w0)))
          fun K1 ↦
          ∀ (b0 : Bool) (w1 : World),
            K1 [Value.bool b0] w1 →
              Br b0 (R (Value.bool false) w1)
                (Cs P f_coffretlaw18_Place_open #[Value.pointer p0] w1 fun v1 w2 ↦
                  ∃ p4 l0 l1 n0,
                    v1 = Value.tuple #[Value.slice p4 l0 l1, Value.int IntKind.i64 n0] ∧
                      Jn
                        (fun K2 ↦
                          Dr w2 fun w3 ↦
                            Br (neI n0 0) (K2 [Value.bool true] w3)
                              (NN p0 fun a3 ↦
                                LdP P t_p_snap_Keeper (Addr.add a3 3) w3 fun p5 ↦
                                  Br (Option.isNone p5) (K2 [Value.bool true] w3)
                                    (NN p0 fun a4 ↦
                                      LdP P t_p_snap_Keeper (Addr.add a4 3) w3 fun p6 ↦
                                        NN p6 fun a5 ↦
                                          LdP P t_p_commit_Log (Addr.add a5 0) w3 fun p7 ↦
                                            Cs P f_coffretlaw18_tick #[Value.int IntKind.i64 0] w3 fun v2 w4 ↦
                                              ∃ v3,
                                                v2 = v3 ∧
                                                  (Still P (loadVar t_p_commit_Log (Addr.add a5 0)) (Value.pointer p7) w4 ∧ Still P (loadVar t_p_snap_Keeper (Addr.add a4 3)) (Value.pointer p6) w4 ∧ Still P (loadVar t_p_snap_Keeper (Addr.add a3 3)) (Value.pointer p5) w4 ∧ True) ∧
                                                    DoL P (Instr.buildSlice t_sl_api_Record 1 #[(0, v3)]) w4 fun p8 l2 l3 w5 ↦
                                                      (Still P (loadVar t_p_commit_Log (Addr.add a5 0)) (Value.pointer p7) w5 ∧ Still P (loadVar t_p_snap_Keeper (Addr.add a4 3)) (Value.pointer p6) w5 ∧ Still P (loadVar t_p_snap_Keeper (Addr.add a3 3)) (Value.pointer p5) w5 ∧ True) ∧
                                                        Cs P f_commit_Log_Turn #[Value.pointer p7, Value.slice p8 l2 l3] w5 fun v4 w6 ↦
                                                          ∃ n1, v4 = Value.int IntKind.i64 n1 ∧ (Still P (loadVar t_p_snap_Keeper (Addr.add a4 3)) (Value.pointer p6) w6 ∧ Still P (loadVar t_p_snap_Keeper (Addr.add a3 3)) (Value.pointer p5) w6 ∧ True) ∧ K2 [Value.bool (neI n1 0)] w6)))
                        fun K3 ↦
                        ∀ (b1 : Bool) (w7 : World),
                          K3 [Value.bool b1] w7 →
                            Br b1 (R (Value.bool false) w7)
                              (Lp [Value.int IntKind.i64 1] w7 fun K4 ↦
                                ∀ (n2 : Int) (l4 : Nat) (w8 : World),
                                  K4 l4 [Value.int IntKind.i64 n2] w8 →
                                    Br (leI n2 4)
                                      (Jn
                                        (fun K5 ↦
                                          Dr w8 fun w9 ↦
                                            NN p0 fun a6 ↦
                                              LdP P t_p_snap_Keeper (Addr.add a6 3) w9 fun p9 ↦
                                                Cs P f_coffretlaw18_tick #[Value.int IntKind.i64 (IntKind.wrap IntKind.i64 (n2 - 1))] w9 fun v5 w10 ↦
                                                  ∃ v6,
                                                    v5 = v6 ∧
                                                      (Still P (loadVar t_p_snap_Keeper (Addr.add a6 3)) (Value.pointer p9) w10 ∧ True) ∧
                                                        (DoL P (Instr.buildSlice t_sl_api_Record 1 #[(0, v6)]) w10 fun p10 l5 l6 w11 ↦
                                                            (Still P (loadVar t_p_snap_Keeper (Addr.add a6 3)) (Value.pointer p9) w11 ∧ True) ∧
                                                              Cs P f_coffretlaw18_tick #[Value.int IntKind.i64 n2] w11 fun v7 w12 ↦
                                                                ∃ v8,
                                                                  v7 = v8 ∧
                                                                    (Still P (loadVar t_p_snap_Keeper (Addr.add a6 3)) (Value.pointer p9) w12 ∧ True) ∧
                                                                      DoL P (Instr.buildSlice t_sl_api_Record 1 #[(0, v8)]) w12 fun p11 l7 l8 w13 ↦
                                                                        (Still P (loadVar t_p_snap_Keeper (Addr.add a6 3)) (Value.pointer p9) w13 ∧ True) ∧ Cs P f_snap_Keeper_Save #[Value.pointer p9, Value.slice p10 l5 l6, Value.slice p11 l7 l8] w13 fun v9 w14 ↦ ∃ n3, v9 = Value.int IntKind.i64 n3 ∧ K5 [Value.bool (neI n3 0)] w14) ∧
                                                          Cs P f_coffretlaw18_tick #[Value.int IntKind.i64 n2] w10 fun v10 w15 ↦
                                                            ∃ v11,
                                                              v10 = v11 ∧
                                                                (Still P (loadVar t_p_snap_Keeper (Addr.add a6 3)) (Value.pointer p9) w15 ∧ True) ∧
                                                                  (DoL P (Instr.buildSlice t_sl_api_Record 1 #[(0, v6)]) w15 fun p12 l9 l10 w16 ↦
                                                                      (Still P (loadVar t_p_snap_Keeper (Addr.add a6 3)) (Value.pointer p9) w16 ∧ True) ∧
                                                                        DoL P (Instr.buildSlice t_sl_api_Record 1 #[(0, v11)]) w16 fun p13 l11 l12 w17 ↦
                                                                          (Still P (loadVar t_p_snap_Keeper (Addr.add a6 3)) (Value.pointer p9) w17 ∧ True) ∧
                                                                            Cs P f_snap_Keeper_Save #[Value.pointer p9, Value.slice p12 l9 l10, Value.slice p13 l11 l12] w17 fun v12 w18 ↦ ∃ n4, v12 = Value.int IntKind.i64 n4 ∧ K5 [Value.bool (neI n4 0)] w18) ∧
                                                                    DoL P (Instr.buildSlice t_sl_api_Record 1 #[(0, v11)]) w15 fun p14 l13 l14 w19 ↦
                                                                      (Still P (loadVar t_p_snap_Keeper (Addr.add a6 3)) (Value.pointer p9) w19 ∧ True) ∧
                                                                        DoL P (Instr.buildSlice t_sl_api_Record 1 #[(0, v6)]) w19 fun p15 l15 l16 w20 ↦
                                                                          (Still P (loadVar t_p_snap_Keeper (Addr.add a6 3)) (Value.pointer p9) w20 ∧ True) ∧
                                                                            Cs P f_snap_Keeper_Save #[Value.pointer p9, Value.slice p15 l15 l16, Value.slice p14 l13 l14] w20 fun v13 w21 ↦ ∃ n5, v13 = Value.int IntKind.i64 n5 ∧ K5 [Value.bool (neI n5 0)] w21)
                                        fun K6 ↦ ∀ (b2 : Bool) (w22 : World), K6 [Value.bool b2] w22 → Br b2 (R (Value.bool false) w22) (Nx K4 l4 [Value.int IntKind.i64 (IntKind.wrap IntKind.i64 (n2 + 1))] w22))
                                      (Jn
                                        (fun K7 ↦
                                          NN p0 fun a7 ↦
                                            LdP P t_p_snap_Keeper (Addr.add a7 3) w8 fun p16 ↦
                                              NN p16 fun a8 ↦
                                                LdP P t_p_commit_Log (Addr.add a8 0) w8 fun p17 ↦
                                                  Cs P f_commit_Log_Epoch #[Value.pointer p17] w8 fun v14 w23 ↦
                                                    ∃ n6,
                                                      v14 = Value.int IntKind.i64 n6 ∧
                                                        Br (eqI n6 2)
                                                          (NN p0 fun a9 ↦
                                                            LdP P t_p_snap_Keeper (Addr.add a9 3) w23 fun p18 ↦
                                                              NN p18 fun a10 ↦ LdP P t_p_commit_Log (Addr.add a10 0) w23 fun p19 ↦ Cs P f_commit_Log_Left #[Value.pointer p19] w23 fun v15 w24 ↦ ∃ n7, v15 = Value.int IntKind.i64 n7 ∧ K7 [Value.bool (eqI n7 2)] w24)
                                                          (K7 [Value.bool false] w23))
                                        fun K8 ↦ ∀ (b3 : Bool) (w25 : World), K8 [Value.bool b3] w25 → R (Value.bool b3) w25)))
theorem ok_coffretlaw18_alive {w : World} {R : Value → World → Prop}  (h : vc_coffretlaw18_alive  w R) : Cs P f_coffretlaw18_alive #[] w R := wpF_ok follows Tryd.func8 (Eq.mpr (by kernel_rfl) h)

/-- coffret/coffretlaw18.great -/
def vc_coffretlaw18_great (x0 : Option Addr) (x0l : Nat) (x0c : Nat) (w : World) (R : Value → World → Prop) : Prop :=
  Lp [Value.int IntKind.i64 0, Value.int IntKind.i64 0] w fun K0 ↦
    ∀ (n0 n1 : Int) (l0 : Nat) (w0 : World),
      K0 l0 [Value.int IntKind.i64 n0, Value.int IntKind.i64 n1] w0 →
        Br (ltI n1 (Nat.cast x0l))
          (Ix x0 x0l n1 5 fun a0 ↦
            LdV P t_coffretlaw18_Step a0 w0 fun v0 ↦
              DoA P (Instr.alloc t_coffretlaw18_Step true (Value.tuple #[])) w0 fun a1 w1 ↦
                DoU P (storeVar t_coffretlaw18_Step a1 v0) w1 fun w2 ↦
                  LdL P t_sl_api_Record (Addr.add a1 1) w2 fun p0 l1 l2 ↦
                    LdL P t_sl_api_Record (Addr.add a1 0) w2 fun p1 l3 l4 ↦
                      Jn
                        (fun K1 ↦
                          Br (gtI (IntKind.wrap IntKind.i64 (n0 + IntKind.wrap IntKind.i64 (Nat.cast l1 + Nat.cast l3))) 150) (K1 [Value.bool true] w2)
                            (LdL P t_sl_api_Record (Addr.add a1 1) w2 fun p2 l5 l6 ↦
                              Cs P f_coffretref13_Great #[Value.slice p2 l5 l6, Value.int IntKind.i64 150] w2 fun v1 w3 ↦
                                ∃ b0, v1 = Value.bool b0 ∧ Br b0 (K1 [Value.bool true] w3) (LdL P t_sl_api_Record (Addr.add a1 0) w3 fun p3 l7 l8 ↦ Cs P f_coffretref13_Great #[Value.slice p3 l7 l8, Value.int IntKind.i64 150] w3 fun v2 w4 ↦ ∃ b1, v2 = Value.bool b1 ∧ K1 [Value.bool b1] w4)))
                        fun K2 ↦ ∀ (b2 : Bool) (w5 : World), K2 [Value.bool b2] w5 → Br b2 (R (Value.bool true) w5) (Nx K0 l0 [Value.int IntKind.i64 (IntKind.wrap IntKind.i64 (n0 + IntKind.wrap IntKind.i64 (Nat.cast l1 + Nat.cast l3))), Value.int IntKind.i64 (IntKind.wrap IntKind.i64 (n1 + 1))] w5))
          (R (Value.bool (gtI (Nat.cast x0l) 30)) w0)
theorem ok_coffretlaw18_great {w : World} {R : Value → World → Prop} (x0 : Option Addr) (x0l : Nat) (x0c : Nat) (h : vc_coffretlaw18_great x0 x0l x0c w R) : Cs P f_coffretlaw18_great #[Value.slice x0 x0l x0c] w R := wpF_ok follows Tryd.func9 (Eq.mpr (by kernel_rfl) h)

/-- coffret/coffretlaw18.place -/
def vc_coffretlaw18_place (x0 : Int) (x1 : Int) (x2 : Int) (w : World) (R : Value → World → Prop) : Prop :=
  Cs P f_disk_New #[Value.int IntKind.i64 x0] w fun v0 w0 ↦
    ∃ p0,
      v0 = Value.pointer p0 ∧
        Cs P f_ideal_New #[] w0 fun v1 w1 ↦
          ∃ p1,
            v1 = Value.pointer p1 ∧
              DoV P (Instr.build t_vault_Key #[(0, Value.int IntKind.u8 2)]) w1 fun v2 w2 ↦
                Cs P f_vault_Ideal #[Value.pointer p1, v2, Value.int IntKind.i64 x1] w2 fun v3 w3 ↦
                  ∃ p2,
                    v3 = Value.pointer p2 ∧
                      Cs P f_meter_New #[Value.int IntKind.i64 x2, Value.pointer p0] w3 fun v4 w4 ↦
                        ∃ p3, v4 = Value.pointer p3 ∧ DoV P (Instr.build t_coffretlaw18_Place #[(0, Value.pointer p2), (1, Value.pointer p0), (2, Value.pointer p3)]) w4 fun v5 w5 ↦ DoA P (Instr.box t_coffretlaw18_Place v5) w5 fun a0 w6 ↦ R (Value.pointer (some a0)) w6
theorem ok_coffretlaw18_place {w : World} {R : Value → World → Prop} (x0 : Int) (x1 : Int) (x2 : Int) (h : vc_coffretlaw18_place x0 x1 x2 w R) : Cs P f_coffretlaw18_place #[Value.int IntKind.i64 x0, Value.int IntKind.i64 x1, Value.int IntKind.i64 x2] w R := wpF_ok follows Tryd.func10 (Eq.mpr (by kernel_rfl) h)

/-- coffret/coffretref17.New -/
def vc_coffretref17_New (x0 : Int) (x1 : Int) (x2 : Int) (w : World) (R : Value → World → Prop) : Prop :=
  Nz 2 ∧
    DoV P (Instr.build t_coffretref17_Log #[(0, Value.int IntKind.i64 (IntKind.wrap IntKind.i64 (Int.tdiv x0 2))), (1, Value.int IntKind.i64 (mxI x1 0)), (2, Value.int IntKind.i64 (mxI x2 0))]) w fun v0 w0 ↦
      DoA P (Instr.box t_coffretref17_Log v0) w0 fun a0 w1 ↦ R (Value.pointer (some a0)) w1
theorem ok_coffretref17_New {w : World} {R : Value → World → Prop} (x0 : Int) (x1 : Int) (x2 : Int) (h : vc_coffretref17_New x0 x1 x2 w R) : Cs P f_coffretref17_New #[Value.int IntKind.i64 x0, Value.int IntKind.i64 x1, Value.int IntKind.i64 x2] w R := wpF_ok follows Tryd.func11 (Eq.mpr (by kernel_rfl) h)

/-- (*coffret/coffretlaw18.Place).open -/
def vc_coffretlaw18_Place_open (x0 : Option Addr) (w : World) (R : Value → World → Prop) : Prop :=
  Dr w fun w0 ↦
    NN x0 fun a0 ↦
      LdP P t_p_vault_Vault (Addr.add a0 0) w0 fun p0 ↦
        NN x0 fun a1 ↦
          LdP P t_p_disk_Disk (Addr.add a1 1) w0 fun p1 ↦
            NN x0 fun a2 ↦
              LdP P t_p_meter_Meter (Addr.add a2 2) w0 fun p2 ↦
                Cs P f_snap_Open #[Value.pointer p0, Value.pointer p1, Value.pointer p2] w0 fun v0 w1 ↦
                  ∃ p3 p4 l0 l1 n0, v0 = Value.tuple #[Value.pointer p3, Value.slice p4 l0 l1, Value.int IntKind.i64 n0] ∧ NN x0 fun a3 ↦ DoU P (storeVar t_p_snap_Keeper (Addr.add a3 3) (Value.pointer p3)) w1 fun w2 ↦ R (Value.tuple #[Value.slice p4 l0 l1, Value.int IntKind.i64 n0]) w2
theorem ok_coffretlaw18_Place_open {w : World} {R : Value → World → Prop} (x0 : Option Addr) (h : vc_coffretlaw18_Place_open x0 w R) : Cs P f_coffretlaw18_Place_open #[Value.pointer x0] w R := wpF_ok follows Tryd.func12 (Eq.mpr (by kernel_rfl) h)

end Go.Dv

set_option maxRecDepth 100000
namespace Go.Dv
open Go Go.Sh Go.Proofs

/-- (*coffret/commit.Log).Turn -/
def vc_commit_Log_Turn (x0 : Option Addr) (x1 : Option Addr) (x1l : Nat) (x1c : Nat) (w : World) (R : Value → World → Prop) : Prop :=
  Cs P f_commit_Log_good #[Value.pointer x0, Value.slice x1 x1l x1c] w fun v0 w0 ↦
    ∃ n0,
      v0 = Value.int IntKind.i64 n0 ∧
        Br (neI n0 0) (R (Value.int IntKind.i64 n0) w0)
          (NN x0 fun a0 ↦
            LdI IntKind.i64 P t_int (Addr.add a0 4) w0 fun n1 ↦
              Cs P f_seg_Split #[Value.slice x1 x1l x1c] w0 fun v1 w1 ↦
                ∃ p0 l0 l1,
                  v1 = Value.slice p0 l0 l1 ∧
                    Lp [Value.int IntKind.i64 0, Value.int IntKind.i64 0] w1 fun K0 ↦
                      ∀ (n2 n3 : Int) (l2 : Nat) (w2 : World),
                        K0 l2 [Value.int IntKind.i64 n2, Value.int IntKind.i64 n3] w2 →
                          Br (ltI n3 (Nat.cast l0))
                            (Ix p0 l0 n3 1 fun a1 ↦ LdL P t_sl_api_Record a1 w2 fun p1 l3 l4 ↦ Cs P f_seg_Sectors #[Value.slice p1 l3 l4] w2 fun v2 w3 ↦ ∃ n4, v2 = Value.int IntKind.i64 n4 ∧ Nx K0 l2 [Value.int IntKind.i64 (IntKind.wrap IntKind.i64 (n2 + n4)), Value.int IntKind.i64 (IntKind.wrap IntKind.i64 (n3 + 1))] w3)
                            (NN x0 fun a2 ↦
                              LdP P t_p_disk_Disk (Addr.add a2 1) w2 fun p2 ↦
                                Cs P f_chain_Half #[Value.pointer p2, Value.int IntKind.i64 (IntKind.wrap IntKind.i64 (n1 + 1))] w2 fun v3 w4 ↦
                                  ∃ p3,
                                    v3 = Value.pointer p3 ∧
                                      Jn
                                        (fun K1 ↦
                                          NN x0 fun a3 ↦
                                            LdP P t_p_meter_Meter (Addr.add a3 2) w4 fun p4 ↦
                                              Cs P f_meter_Meter_Left #[Value.pointer p4] w4 fun v4 w5 ↦
                                                ∃ n5,
                                                  v4 = Value.int IntKind.i64 n5 ∧
                                                    Br (eqI n5 0) (K1 [Value.bool true] w5)
                                                      (Br (geI (IntKind.wrap IntKind.i64 (n1 + 1)) 4294967296) (K1 [Value.bool true] w5)
                                                        (NN x0 fun a4 ↦ LdP P t_p_vault_Vault (Addr.add a4 0) w5 fun p5 ↦ Cs P f_vault_Vault_Limit #[Value.pointer p5] w5 fun v5 w6 ↦ ∃ n6, v5 = Value.int IntKind.i64 n6 ∧ K1 [Value.bool (gtI (Nat.cast x1l) n6)] w6)))
                                        fun K2 ↦
                                        ∀ (b0 : Bool) (w7 : World),
                                          K2 [Value.bool b0] w7 →
                                            Br b0 (R (Value.int IntKind.i64 10) w7)
                                              (Cs P f_chain_Area_Left #[Value.pointer p3] w7 fun v6 w8 ↦
                                                ∃ n7,
                                                  v6 = Value.int IntKind.i64 n7 ∧
                                                    Br (gtI n2 n7) (R (Value.int IntKind.i64 7) w8)
                                                      (NN x0 fun a5 ↦
                                                        LdP P t_p_vault_Vault (Addr.add a5 0) w8 fun p6 ↦
                                                          Cs P f_seg_Start #[Value.pointer p6, Value.int IntKind.i64 (IntKind.wrap IntKind.i64 (n1 + 1))] w8 fun v7 w9 ↦
                                                            ∃ v8,
                                                              v7 = v8 ∧
                                                                DoA P (Instr.alloc t_arr32_uint8 true (Value.tuple #[])) w9 fun a6 w10 ↦
                                                                  DoU P (storeVar t_arr32_uint8 a6 v8) w10 fun w11 ↦
                                                                    Lp [Value.int IntKind.i64 0, Value.int IntKind.i64 0] w11 fun K3 ↦
                                                                      ∀ (n8 n9 : Int) (l5 : Nat) (w12 : World),
                                                                        K3 l5 [Value.int IntKind.i64 n8, Value.int IntKind.i64 n9] w12 →
                                                                          Br (ltI n9 (Nat.cast l0))
                                                                            (Ix p0 l0 n9 1 fun a7 ↦
                                                                              LdL P t_sl_api_Record a7 w12 fun p7 l6 l7 ↦
                                                                                Jn
                                                                                  (fun K4 ↦
                                                                                    Dr w12 fun w13 ↦
                                                                                      NN x0 fun a8 ↦
                                                                                        LdP P t_p_vault_Vault (Addr.add a8 0) w13 fun p8 ↦
                                                                                          LdV P t_arr32_uint8 a6 w13 fun v9 ↦
                                                                                            (Cs P f_seg_Pack #[Value.pointer p8, Value.int IntKind.i64 (IntKind.wrap IntKind.i64 (n1 + 1)), Value.int IntKind.i64 n8, v9, Value.slice p7 l6 l7] w13 fun v10 w14 ↦
                                                                                                ∃ p9 l8 l9 v11 n10,
                                                                                                  v10 = Value.tuple #[Value.slice p9 l8 l9, v11, Value.int IntKind.i64 n10] ∧
                                                                                                    DoA P (Instr.alloc t_arr32_uint8 true (Value.tuple #[])) w14 fun a9 w15 ↦ DoU P (storeVar t_arr32_uint8 a9 v11) w15 fun w16 ↦ K4 [Value.slice p9 l8 l9, Value.pointer (some a9), Value.int IntKind.i64 n10] w16) ∧
                                                                                              DoA P (Instr.alloc t_arr32_uint8 true (Value.tuple #[])) w13 fun a10 w17 ↦
                                                                                                (Still P (loadVar t_arr32_uint8 a6) v9 w17 ∧ Still P (loadVar t_p_vault_Vault (Addr.add a8 0)) (Value.pointer p8) w17 ∧ True) ∧
                                                                                                  Cs P f_seg_Pack #[Value.pointer p8, Value.int IntKind.i64 (IntKind.wrap IntKind.i64 (n1 + 1)), Value.int IntKind.i64 n8, v9, Value.slice p7 l6 l7] w17 fun v12 w18 ↦
                                                                                                    ∃ p10 l10 l11 v13 n11, v12 = Value.tuple #[Value.slice p10 l10 l11, v13, Value.int IntKind.i64 n11] ∧ DoU P (storeVar t_arr32_uint8 a10 v13) w18 fun w19 ↦ K4 [Value.slice p10 l10 l11, Value.pointer (some a10), Value.int IntKind.i64 n11] w19)
                                                                                  fun K5 ↦
                                                                                  ∀ (p11 : Option Addr) (l12 l13 : Nat) (a11 : Addr) (n12 : Int) (w20 : World),
                                                                                    K5 [Value.slice p11 l12 l13, Value.pointer (some a11), Value.int IntKind.i64 n12] w20 →
                                                                                      Jn (fun K6 ↦ Br (eqI n12 0) (Cs P f_chain_Area_Add #[Value.pointer p3, Value.slice p11 l12 l13] w20 fun v14 w21 ↦ ∃ n13, v14 = Value.int IntKind.i64 n13 ∧ K6 [Value.int IntKind.i64 n13] w21) (K6 [Value.int IntKind.i64 n12] w20)) fun K7 ↦
                                                                                        ∀ (n14 : Int) (w22 : World),
                                                                                          K7 [Value.int IntKind.i64 n14] w22 →
                                                                                            Br (neI n14 0) (R (Value.int IntKind.i64 n14) w22)
                                                                                              (LdV P t_arr32_uint8 a11 w22 fun v15 ↦ DoU P (storeVar t_arr32_uint8 a6 v15) w22 fun w23 ↦ Nx K3 l5 [Value.int IntKind.i64 (IntKind.wrap IntKind.i64 (n8 + Nat.cast l6)), Value.int IntKind.i64 (IntKind.wrap IntKind.i64 (n9 + 1))] w23))
                                                                            (LdV P t_arr32_uint8 a6 w12 fun v16 ↦
                                                                              Cs P f_commit_Log_seal #[Value.pointer x0, Value.int IntKind.i64 (IntKind.wrap IntKind.i64 (n1 + 1)), v16] w12 fun v17 w24 ↦
                                                                                ∃ n15,
                                                                                  v17 = Value.int IntKind.i64 n15 ∧
                                                                                    Br (neI n15 0) (R (Value.int IntKind.i64 n15) w24)
                                                                                      (Dr w24 fun w25 ↦
                                                                                        LdV P t_arr32_uint8 a6 w25 fun v18 ↦
                                                                                          NN x0 fun a12 ↦
                                                                                            DoU P (storeVar t_p_chain_Area (Addr.add a12 3) (Value.pointer p3)) w25 fun w26 ↦
                                                                                              (Still P (loadVar t_arr32_uint8 a6) v18 w26 ∧ True) ∧
                                                                                                NN x0 fun a13 ↦
                                                                                                  DoU P (storeVar t_int (Addr.add a13 4) (Value.int IntKind.i64 (IntKind.wrap IntKind.i64 (n1 + 1)))) w26 fun w27 ↦
                                                                                                    (Still P (loadVar t_arr32_uint8 a6) v18 w27 ∧ True) ∧
                                                                                                      NN x0 fun a14 ↦
                                                                                                        DoU P (storeVar t_int (Addr.add a14 5) (Value.int IntKind.i64 n8)) w27 fun w28 ↦
                                                                                                          (Still P (loadVar t_arr32_uint8 a6) v18 w28 ∧ True) ∧
                                                                                                            NN x0 fun a15 ↦
                                                                                                              DoU P (storeVar t_arr32_uint8 (Addr.add a15 6) v18) w28 fun w29 ↦ NN x0 fun a16 ↦ DoU P (storeVar t_bool (Addr.add a16 38) (Value.bool true)) w29 fun w30 ↦ R (Value.int IntKind.i64 0) w30))))))
theorem ok_commit_Log_Turn {w : World} {R : Value → World → Prop} (x0 : Option Addr) (x1 : Option Addr) (x1l : Nat) (x1c : Nat) (h : vc_commit_Log_Turn x0 x1 x1l x1c w R) : Cs P f_commit_Log_Turn #[Value.pointer x0, Value.slice x1 x1l x1c] w R := wpF_ok follows Tryd.func13 (Eq.mpr (by kernel_rfl) h)

/-- coffret/coffretlaw18.tick -/
def vc_coffretlaw18_tick (x0 : Int) (w : World) (R : Value → World → Prop) : Prop :=
  DoA P (Instr.alloc t_api_Record true (Value.tuple #[])) w fun a0 w0 ↦ DoV P (Instr.build t_api_Record #[(0, Value.int IntKind.i64 7), (3, Value.int IntKind.i64 x0)]) w0 fun v0 w1 ↦ DoU P (storeVar t_api_Record a0 v0) w1 fun w2 ↦ LdV P t_api_Record a0 w2 fun v1 ↦ R v1 w2
theorem ok_coffretlaw18_tick {w : World} {R : Value → World → Prop} (x0 : Int) (h : vc_coffretlaw18_tick x0 w R) : Cs P f_coffretlaw18_tick #[Value.int IntKind.i64 x0] w R := wpF_ok follows Tryd.func14 (Eq.mpr (by kernel_rfl) h)

/-- (*coffret/coffretref17.Log).Turn -/
def vc_coffretref17_Log_Turn (x0 : Option Addr) (x1 : Option Addr) (x1l : Nat) (x1c : Nat) (w : World) (R : Value → World → Prop) : Prop :=
  Cs P f_coffretref17_good #[Value.slice x1 x1l x1c] w fun v0 w0 ↦
    ∃ b0,
      v0 = Value.bool b0 ∧
        Br (!b0) (R (Value.int IntKind.i64 1) w0)
          (Jn
            (fun K0 ↦
              Dr w0 fun w1 ↦
                NN x0 fun a0 ↦
                  LdI IntKind.i64 P t_int (Addr.add a0 3) w1 fun n0 ↦
                    NN x0 fun a1 ↦
                      LdI IntKind.i64 P t_int (Addr.add a1 2) w1 fun n1 ↦
                        Br (geI n0 n1) (K0 [Value.bool true] w1)
                          (NN x0 fun a2 ↦
                            LdI IntKind.i64 P t_int (Addr.add a2 4) w1 fun n2 ↦ Br (geI (IntKind.wrap IntKind.i64 (n2 + 1)) 4294967296) (K0 [Value.bool true] w1) (NN x0 fun a3 ↦ LdI IntKind.i64 P t_int (Addr.add a3 1) w1 fun n3 ↦ K0 [Value.bool (gtI (Nat.cast x1l) n3)] w1)))
            fun K1 ↦
            ∀ (b1 : Bool) (w2 : World),
              K1 [Value.bool b1] w2 →
                Br b1 (R (Value.int IntKind.i64 10) w2)
                  (Cs P f_coffretref15_Split #[Value.slice x1 x1l x1c] w2 fun v1 w3 ↦
                    ∃ p0 l0 l1,
                      v1 = Value.slice p0 l0 l1 ∧
                        Lp [Value.int IntKind.i64 0, Value.int IntKind.i64 0] w3 fun K2 ↦
                          ∀ (n4 n5 : Int) (l2 : Nat) (w4 : World),
                            K2 l2 [Value.int IntKind.i64 n4, Value.int IntKind.i64 n5] w4 →
                              Br (ltI n5 (Nat.cast l0))
                                (Ix p0 l0 n5 1 fun a4 ↦ LdL P t_sl_api_Record a4 w4 fun p1 l3 l4 ↦ Cs P f_coffretref15_Sectors #[Value.slice p1 l3 l4] w4 fun v2 w5 ↦ ∃ n6, v2 = Value.int IntKind.i64 n6 ∧ Nx K2 l2 [Value.int IntKind.i64 (IntKind.wrap IntKind.i64 (n4 + n6)), Value.int IntKind.i64 (IntKind.wrap IntKind.i64 (n5 + 1))] w5)
                                (NN x0 fun a5 ↦
                                  LdI IntKind.i64 P t_int (Addr.add a5 0) w4 fun n7 ↦
                                    Br (gtI n4 n7) (R (Value.int IntKind.i64 7) w4)
                                      (NN x0 fun a6 ↦
                                        LdI IntKind.i64 P t_int (Addr.add a6 3) w4 fun n8 ↦
                                          NN x0 fun a7 ↦
                                            DoU P (storeVar t_int (Addr.add a7 3) (Value.int IntKind.i64 (IntKind.wrap IntKind.i64 (n8 + 1)))) w4 fun w6 ↦
                                              NN x0 fun a8 ↦
                                                LdI IntKind.i64 P t_int (Addr.add a8 4) w6 fun n9 ↦
                                                  NN x0 fun a9 ↦
                                                    DoU P (storeVar t_int (Addr.add a9 4) (Value.int IntKind.i64 (IntKind.wrap IntKind.i64 (n9 + 1)))) w6 fun w7 ↦
                                                      NN x0 fun a10 ↦
                                                        DoU P (storeVar t_bool (Addr.add a10 5) (Value.bool true)) w7 fun w8 ↦
                                                          NN x0 fun a11 ↦
                                                            DoU P (storeVar t_int (Addr.add a11 6) (Value.int IntKind.i64 n4)) w8 fun w9 ↦
                                                              NN x0 fun a12 ↦
                                                                DoU P (storeVar t_int (Addr.add a12 7) (Value.int IntKind.i64 (Nat.cast x1l))) w9 fun w10 ↦
                                                                  DoL P (Instr.buildSlice t_sl_api_Record 0 #[]) w10 fun p2 l5 l6 w11 ↦
                                                                    DoL P (Builtin.append_ #[t_sl_api_Record, t_sl_api_Record] t_sl_api_Record #[Value.slice p2 l5 l6, Value.slice x1 x1l x1c]) w11 fun p3 l7 l8 w12 ↦
                                                                      NN x0 fun a13 ↦ DoU P (storeVar t_sl_api_Record (Addr.add a13 8) (Value.slice p3 l7 l8)) w12 fun w13 ↦ R (Value.int IntKind.i64 0) w13))))
theorem ok_coffretref17_Log_Turn {w : World} {R : Value → World → Prop} (x0 : Option Addr) (x1 : Option Addr) (x1l : Nat) (x1c : Nat) (h : vc_coffretref17_Log_Turn x0 x1 x1l x1c w R) : Cs P f_coffretref17_Log_Turn #[Value.pointer x0, Value.slice x1 x1l x1c] w R := wpF_ok follows Tryd.func15 (Eq.mpr (by kernel_rfl) h)

/-- coffret/coffretref18.Save -/
def vc_coffretref18_Save (x0 : Option Addr) (x1 : Option Addr) (x1l : Nat) (x1c : Nat) (x2 : Option Addr) (x2l : Nat) (x2c : Nat) (w : World) (R : Value → World → Prop) : Prop :=
  Cs P f_coffretref17_Log_Commit #[Value.pointer x0, Value.slice x2 x2l x2c] w fun v0 w0 ↦
    ∃ n0,
      v0 = Value.int IntKind.i64 n0 ∧
        Jn (fun K0 ↦ Br (neI n0 7) (K0 [Value.bool (neI n0 10)] w0) (K0 [Value.bool false] w0)) fun K1 ↦
          ∀ (b0 : Bool) (w1 : World),
            K1 [Value.bool b0] w1 →
              Br b0 (R (Value.tuple #[Value.int IntKind.i64 n0, Value.pointer none]) w1)
                (Dr w1 fun w2 ↦
                  NN x0 fun a0 ↦
                    LdI IntKind.i64 P t_int (Addr.add a0 2) w2 fun n1 ↦
                      NN x0 fun a1 ↦
                        LdI IntKind.i64 P t_int (Addr.add a1 3) w2 fun n2 ↦
                          Br (ltI (IntKind.wrap IntKind.i64 (n1 - n2)) 2) (R (Value.tuple #[Value.int IntKind.i64 10, Value.pointer none]) w2)
                            (Cs P f_coffretref17_Log_Turn #[Value.pointer x0, Value.slice x1 x1l x1c] w2 fun v1 w3 ↦
                              ∃ n3,
                                v1 = Value.int IntKind.i64 n3 ∧
                                  Br (neI n3 0) (R (Value.tuple #[Value.int IntKind.i64 n3, Value.pointer none]) w3)
                                    (Cs P f_coffretref17_Log_Copy #[Value.pointer x0] w3 fun v2 w4 ↦ ∃ p0, v2 = Value.pointer p0 ∧ Cs P f_coffretref17_Log_Commit #[Value.pointer x0, Value.slice x2 x2l x2c] w4 fun v3 w5 ↦ ∃ n4, v3 = Value.int IntKind.i64 n4 ∧ R (Value.tuple #[Value.int IntKind.i64 n4, Value.pointer p0]) w5)))
theorem ok_coffretref18_Save {w : World} {R : Value → World → Prop} (x0 : Option Addr) (x1 : Option Addr) (x1l : Nat) (x1c : Nat) (x2 : Option Addr) (x2l : Nat) (x2c : Nat) (h : vc_coffretref18_Save x0 x1 x1l x1c x2 x2l x2c w R) : Cs P f_coffretref18_Save #[Value.pointer x0, Value.slice x1 x1l x1c, Value.slice x2 x2l x2c] w R := wpF_ok follows Tryd.func16 (Eq.mpr (by kernel_rfl) h)

/-- (*coffret/snap.Keeper).Save -/
def vc_snap_Keeper_Save (x0 : Option Addr) (x1 : Option Addr) (x1l : Nat) (x1c : Nat) (x2 : Option Addr) (x2l : Nat) (x2c : Nat) (w : World) (R : Value → World → Prop) : Prop :=
  Br (Option.isNone x0) (R (Value.int IntKind.i64 2) w)
    (NN x0 fun a0 ↦
      LdP P t_p_commit_Log (Addr.add a0 0) w fun p0 ↦
        Cs P f_commit_Log_Commit #[Value.pointer p0, Value.slice x2 x2l x2c] w fun v0 w0 ↦
          ∃ n0,
            v0 = Value.int IntKind.i64 n0 ∧
              Jn (fun K0 ↦ Br (neI n0 7) (K0 [Value.bool (neI n0 10)] w0) (K0 [Value.bool false] w0)) fun K1 ↦
                ∀ (b0 : Bool) (w1 : World),
                  K1 [Value.bool b0] w1 →
                    Br b0 (R (Value.int IntKind.i64 n0) w1)
                      (NN x0 fun a1 ↦
                        LdP P t_p_meter_Meter (Addr.add a1 1) w1 fun p1 ↦
                          Cs P f_meter_Meter_Left #[Value.pointer p1] w1 fun v1 w2 ↦
                            ∃ n1,
                              v1 = Value.int IntKind.i64 n1 ∧
                                Br (ltI n1 2) (R (Value.int IntKind.i64 10) w2)
                                  (NN x0 fun a2 ↦
                                    LdP P t_p_commit_Log (Addr.add a2 0) w2 fun p2 ↦
                                      Cs P f_commit_Log_Turn #[Value.pointer p2, Value.slice x1 x1l x1c] w2 fun v2 w3 ↦
                                        ∃ n2,
                                          v2 = Value.int IntKind.i64 n2 ∧
                                            Br (neI n2 0) (R (Value.int IntKind.i64 n2) w3) (NN x0 fun a3 ↦ LdP P t_p_commit_Log (Addr.add a3 0) w3 fun p3 ↦ Cs P f_commit_Log_Commit #[Value.pointer p3, Value.slice x2 x2l x2c] w3 fun v3 w4 ↦ ∃ n3, v3 = Value.int IntKind.i64 n3 ∧ R (Value.int IntKind.i64 n3) w4))))
theorem ok_snap_Keeper_Save {w : World} {R : Value → World → Prop} (x0 : Option Addr) (x1 : Option Addr) (x1l : Nat) (x1c : Nat) (x2 : Option Addr) (x2l : Nat) (x2c : Nat) (h : vc_snap_Keeper_Save x0 x1 x1l x1c x2 x2l x2c w R) : Cs P f_snap_Keeper_Save #[Value.pointer x0, Value.slice x1 x1l x1c, Value.slice x2 x2l x2c] w R := wpF_ok follows Tryd.func17 (Eq.mpr (by kernel_rfl) h)

/-- (*coffret/commit.Log).Epoch -/
def vc_commit_Log_Epoch (x0 : Option Addr) (w : World) (R : Value → World → Prop) : Prop :=
  Br (Option.isNone x0) (R (Value.int IntKind.i64 0) w) (NN x0 fun a0 ↦ LdI IntKind.i64 P t_int (Addr.add a0 4) w fun n0 ↦ R (Value.int IntKind.i64 n0) w)
theorem ok_commit_Log_Epoch {w : World} {R : Value → World → Prop} (x0 : Option Addr) (h : vc_commit_Log_Epoch x0 w R) : Cs P f_commit_Log_Epoch #[Value.pointer x0] w R := wpF_ok follows Tryd.func18 (Eq.mpr (by kernel_rfl) h)

/-- (*coffret/commit.Log).Left -/
def vc_commit_Log_Left (x0 : Option Addr) (w : World) (R : Value → World → Prop) : Prop :=
  Br (Option.isNone x0) (R (Value.int IntKind.i64 0) w) (NN x0 fun a0 ↦ LdP P t_p_chain_Area (Addr.add a0 3) w fun p0 ↦ Cs P f_chain_Area_Left #[Value.pointer p0] w fun v0 w0 ↦ ∃ n0, v0 = Value.int IntKind.i64 n0 ∧ R (Value.int IntKind.i64 n0) w0)
theorem ok_commit_Log_Left {w : World} {R : Value → World → Prop} (x0 : Option Addr) (h : vc_commit_Log_Left x0 w R) : Cs P f_commit_Log_Left #[Value.pointer x0] w R := wpF_ok follows Tryd.func19 (Eq.mpr (by kernel_rfl) h)

/-- coffret/coffretref13.Same -/
def vc_coffretref13_Same (x0 : Option Addr) (x0l : Nat) (x0c : Nat) (x1 : Option Addr) (x1l : Nat) (x1c : Nat) (w : World) (R : Value → World → Prop) : Prop :=
  Br (neI (Nat.cast x0l) (Nat.cast x1l)) (R (Value.bool false) w)
    (Lp [Value.int IntKind.i64 0] w fun K0 ↦
      ∀ (n0 : Int) (l0 : Nat) (w0 : World),
        K0 l0 [Value.int IntKind.i64 n0] w0 →
          Br (ltI n0 (Nat.cast x0l))
            (Dr w0 fun w1 ↦
              Ix x0 x0l n0 6 fun a0 ↦
                LdV P t_api_Record a0 w1 fun v0 ↦
                  Ix x1 x1l n0 6 fun a1 ↦ LdV P t_api_Record a1 w1 fun v1 ↦ RdB P (binS BinOp.neq t_api_Record (Operand.tmp 19) (Operand.tmp 23) v0 v1) w1 fun b0 ↦ Br b0 (R (Value.bool false) w1) (Nx K0 l0 [Value.int IntKind.i64 (IntKind.wrap IntKind.i64 (n0 + 1))] w1))
            (R (Value.bool true) w0))
theorem ok_coffretref13_Same {w : World} {R : Value → World → Prop} (x0 : Option Addr) (x0l : Nat) (x0c : Nat) (x1 : Option Addr) (x1l : Nat) (x1c : Nat) (h : vc_coffretref13_Same x0 x0l x0c x1 x1l x1c w R) : Cs P f_coffretref13_Same #[Value.slice x0 x0l x0c, Value.slice x1 x1l x1c] w R := wpF_ok follows Tryd.func20 (Eq.mpr (by kernel_rfl) h)

/-- (*coffret/coffretref17.Log).Again -/
def vc_coffretref17_Log_Again (x0 : Option Addr) (w : World) (R : Value → World → Prop) : Prop :=
  NN x0 fun a0 ↦ DoU P (storeVar t_bool (Addr.add a0 5) (Value.bool false)) w fun w0 ↦ R (Value.tuple #[]) w0
theorem ok_coffretref17_Log_Again {w : World} {R : Value → World → Prop} (x0 : Option Addr) (h : vc_coffretref17_Log_Again x0 w R) : Cs P f_coffretref17_Log_Again #[Value.pointer x0] w R := wpF_ok follows Tryd.func21 (Eq.mpr (by kernel_rfl) h)

/-- coffret/snap.Open -/
def vc_snap_Open (x0 : Option Addr) (x1 : Option Addr) (x2 : Option Addr) (w : World) (R : Value → World → Prop) : Prop :=
  Cs P f_commit_Open #[Value.pointer x0, Value.pointer x1, Value.pointer x2] w fun v0 w0 ↦
    ∃ p0 p1 l0 l1 n0,
      v0 = Value.tuple #[Value.pointer p0, Value.slice p1 l0 l1, Value.int IntKind.i64 n0] ∧
        Br (neI n0 0) (R (Value.tuple #[Value.pointer none, Value.slice none 0 0, Value.int IntKind.i64 n0]) w0)
          (DoV P (Instr.build t_snap_Keeper #[(0, Value.pointer p0), (1, Value.pointer x2)]) w0 fun v1 w1 ↦ DoA P (Instr.box t_snap_Keeper v1) w1 fun a0 w2 ↦ R (Value.tuple #[Value.pointer (some a0), Value.slice p1 l0 l1, Value.int IntKind.i64 0]) w2)
theorem ok_snap_Open {w : World} {R : Value → World → Prop} (x0 : Option Addr) (x1 : Option Addr) (x2 : Option Addr) (h : vc_snap_Open x0 x1 x2 w R) : Cs P f_snap_Open #[Value.pointer x0, Value.pointer x1, Value.pointer x2] w R := wpF_ok follows Tryd.func22 (Eq.mpr (by kernel_rfl) h)

/-- coffret/coffretref13.Great -/
def vc_coffretref13_Great (x0 : Option Addr) (x0l : Nat) (x0c : Nat) (x1 : Int) (w : World) (R : Value → World → Prop) : Prop :=
  Lp [Value.int IntKind.i64 0] w fun K0 ↦
    ∀ (n0 : Int) (l0 : Nat) (w0 : World),
      K0 l0 [Value.int IntKind.i64 n0] w0 →
        Br (ltI n0 (Nat.cast x0l))
          (Ix x0 x0l n0 6 fun a0 ↦
            LdV P t_api_Record a0 w0 fun v0 ↦
              DoA P (Instr.alloc t_api_Record true (Value.tuple #[])) w0 fun a1 w1 ↦
                DoU P (storeVar t_api_Record a1 v0) w1 fun w2 ↦ LdS P t_string (Addr.add a1 5) w2 fun s0 ↦ Br (gtI (Nat.cast (ByteArray.size s0)) 4096) (R (Value.bool true) w2) (Nx K0 l0 [Value.int IntKind.i64 (IntKind.wrap IntKind.i64 (n0 + 1))] w2))
          (R (Value.bool (gtI (Nat.cast x0l) x1)) w0)
theorem ok_coffretref13_Great {w : World} {R : Value → World → Prop} (x0 : Option Addr) (x0l : Nat) (x0c : Nat) (x1 : Int) (h : vc_coffretref13_Great x0 x0l x0c x1 w R) : Cs P f_coffretref13_Great #[Value.slice x0 x0l x0c, Value.int IntKind.i64 x1] w R := wpF_ok follows Tryd.func23 (Eq.mpr (by kernel_rfl) h)

/-- coffret/coffretref13.All -/
def vc_coffretref13_All (x0 : Option Addr) (x0l : Nat) (x0c : Nat) (w : World) (R : Value → World → Prop) : Prop :=
  Lp [Value.int IntKind.i64 0] w fun K0 ↦
    ∀ (n0 : Int) (l0 : Nat) (w0 : World),
      K0 l0 [Value.int IntKind.i64 n0] w0 →
        Br (ltI n0 (Nat.cast x0l))
          (Ix x0 x0l n0 6 fun a0 ↦
            LdV P t_api_Record a0 w0 fun v0 ↦
              DoA P (Instr.alloc t_api_Record true (Value.tuple #[])) w0 fun a1 w1 ↦
                DoU P (storeVar t_api_Record a1 v0) w1 fun w2 ↦ LdV P t_api_Record a1 w2 fun v1 ↦ Cs P f_coffretref13_Good #[v1] w2 fun v2 w3 ↦ ∃ b0, v2 = Value.bool b0 ∧ Br (!b0) (R (Value.bool false) w3) (Nx K0 l0 [Value.int IntKind.i64 (IntKind.wrap IntKind.i64 (n0 + 1))] w3))
          (R (Value.bool true) w0)
theorem ok_coffretref13_All {w : World} {R : Value → World → Prop} (x0 : Option Addr) (x0l : Nat) (x0c : Nat) (h : vc_coffretref13_All x0 x0l x0c w R) : Cs P f_coffretref13_All #[Value.slice x0 x0l x0c] w R := wpF_ok follows Tryd.func24 (Eq.mpr (by kernel_rfl) h)

/-- coffret/coffretref13.Good -/
def vc_coffretref13_Good (x0 : Value) (w : World) (R : Value → World → Prop) : Prop :=
  DoA P (Instr.box t_api_Record x0) w fun a0 w0 ↦
    LdI IntKind.i64 P t_int (Addr.add a0 1) w0 fun n0 ↦
      Cs P f_coffretref13_in #[Value.int IntKind.i64 n0, Value.int IntKind.i64 1, Value.int IntKind.i64 16] w0 fun v0 w1 ↦
        ∃ b0,
          v0 = Value.bool b0 ∧
            LdI IntKind.i64 P t_int (Addr.add a0 2) w1 fun n1 ↦
              Cs P f_coffretref13_in #[Value.int IntKind.i64 n1, Value.int IntKind.i64 1, Value.int IntKind.i64 1099511627776] w1 fun v1 w2 ↦
                ∃ b1,
                  v1 = Value.bool b1 ∧
                    LdS P t_string (Addr.add a0 5) w2 fun s0 ↦
                      LdS P t_string (Addr.add a0 5) w2 fun s1 ↦
                        LdI IntKind.i64 P t_int (Addr.add a0 0) w2 fun n2 ↦
                          Br (eqI n2 1)
                            (Jn
                              (fun K0 ↦
                                Br b0
                                  (LdI IntKind.i64 P t_int (Addr.add a0 2) w2 fun n3 ↦
                                    Cs P f_coffretref13_in #[Value.int IntKind.i64 n3, Value.int IntKind.i64 1, Value.int IntKind.i64 16] w2 fun v2 w3 ↦
                                      ∃ b2,
                                        v2 = Value.bool b2 ∧
                                          Br b2
                                            (LdI IntKind.i64 P t_int (Addr.add a0 3) w3 fun n4 ↦
                                              Cs P f_coffretref13_in #[Value.int IntKind.i64 n4, Value.int IntKind.i64 1, Value.int IntKind.i64 64] w3 fun v3 w4 ↦
                                                ∃ b3,
                                                  v3 = Value.bool b3 ∧
                                                    Br b3
                                                      (LdI IntKind.i64 P t_int (Addr.add a0 4) w4 fun n5 ↦
                                                        Cs P f_coffretref13_in #[Value.int IntKind.i64 n5, Value.int IntKind.i64 1, Value.int IntKind.i64 1048576] w4 fun v4 w5 ↦ ∃ b4, v4 = Value.bool b4 ∧ Br b4 (K0 [Value.bool (eqS s1 (ByteArray.mk #[]))] w5) (K0 [Value.bool false] w5))
                                                      (K0 [Value.bool false] w4))
                                            (K0 [Value.bool false] w3))
                                  (K0 [Value.bool false] w2))
                              fun K1 ↦ ∀ (b5 : Bool) (w6 : World), K1 [Value.bool b5] w6 → R (Value.bool b5) w6)
                            (Br (eqI n2 2)
                              (Jn
                                (fun K2 ↦
                                  Br b0
                                    (LdI IntKind.i64 P t_int (Addr.add a0 2) w2 fun n6 ↦
                                      Br (eqI n6 0)
                                        (LdI IntKind.i64 P t_int (Addr.add a0 3) w2 fun n7 ↦
                                          Br (eqI n7 0) (LdI IntKind.i64 P t_int (Addr.add a0 4) w2 fun n8 ↦ Br (eqI n8 0) (K2 [Value.bool (eqS s1 (ByteArray.mk #[]))] w2) (K2 [Value.bool false] w2)) (K2 [Value.bool false] w2))
                                        (K2 [Value.bool false] w2))
                                    (K2 [Value.bool false] w2))
                                fun K3 ↦ ∀ (b6 : Bool) (w7 : World), K3 [Value.bool b6] w7 → R (Value.bool b6) w7)
                              (Br (eqI n2 3)
                                (Jn
                                  (fun K4 ↦
                                    Br b0
                                      (Br b1
                                        (LdI IntKind.i64 P t_int (Addr.add a0 3) w2 fun n9 ↦
                                          Br (eqI n9 0) (LdI IntKind.i64 P t_int (Addr.add a0 4) w2 fun n10 ↦ Br (eqI n10 0) (K4 [Value.bool (leI (Nat.cast (ByteArray.size s0)) 512)] w2) (K4 [Value.bool false] w2)) (K4 [Value.bool false] w2))
                                        (K4 [Value.bool false] w2))
                                      (K4 [Value.bool false] w2))
                                  fun K5 ↦ ∀ (b7 : Bool) (w8 : World), K5 [Value.bool b7] w8 → R (Value.bool b7) w8)
                                (Br (eqI n2 4)
                                  (Jn
                                    (fun K6 ↦
                                      Br b0
                                        (Br b1
                                          (LdI IntKind.i64 P t_int (Addr.add a0 3) w2 fun n11 ↦
                                            Cs P f_coffretref13_in #[Value.int IntKind.i64 n11, Value.int IntKind.i64 1, Value.int IntKind.i64 1125899907891200] w2 fun v5 w9 ↦
                                              ∃ b8, v5 = Value.bool b8 ∧ Br b8 (LdI IntKind.i64 P t_int (Addr.add a0 4) w9 fun n12 ↦ Br (eqI n12 0) (K6 [Value.bool (eqS s1 (ByteArray.mk #[]))] w9) (K6 [Value.bool false] w9)) (K6 [Value.bool false] w9))
                                          (K6 [Value.bool false] w2))
                                        (K6 [Value.bool false] w2))
                                    fun K7 ↦ ∀ (b9 : Bool) (w10 : World), K7 [Value.bool b9] w10 → R (Value.bool b9) w10)
                                  (Jn (fun K8 ↦ Br (eqI n2 5) (K8 [Value.bool (eqI n2 5)] w2) (Jn (fun K9 ↦ Br (eqI n2 6) (K9 [Value.bool (eqI n2 6)] w2) (K9 [Value.bool (eqI n2 10)] w2)) fun K10 ↦ ∀ (b10 : Bool) (w11 : World), K10 [Value.bool b10] w11 → K8 [Value.bool b10] w11)) fun K11 ↦
                                    ∀ (b11 : Bool) (w12 : World),
                                      K11 [Value.bool b11] w12 →
                                        Br b11
                                          (Jn
                                            (fun K12 ↦
                                              Br b0
                                                (Br b1
                                                  (LdI IntKind.i64 P t_int (Addr.add a0 3) w12 fun n13 ↦
                                                    Br (eqI n13 0) (LdI IntKind.i64 P t_int (Addr.add a0 4) w12 fun n14 ↦ Br (eqI n14 0) (K12 [Value.bool (eqS s1 (ByteArray.mk #[]))] w12) (K12 [Value.bool false] w12)) (K12 [Value.bool false] w12))
                                                  (K12 [Value.bool false] w12))
                                                (K12 [Value.bool false] w12))
                                            fun K13 ↦ ∀ (b12 : Bool) (w13 : World), K13 [Value.bool b12] w13 → R (Value.bool b12) w13)
                                          (Br (eqI n2 13)
                                            (Jn
                                              (fun K14 ↦
                                                Br b0
                                                  (LdI IntKind.i64 P t_int (Addr.add a0 2) w12 fun n15 ↦
                                                    Cs P f_coffretref13_in #[Value.int IntKind.i64 n15, Value.int IntKind.i64 1, Value.int IntKind.i64 (IntKind.wrap IntKind.i64 (1099511627776 + 1))] w12 fun v6 w14 ↦
                                                      ∃ b13,
                                                        v6 = Value.bool b13 ∧
                                                          Br b13
                                                            (LdI IntKind.i64 P t_int (Addr.add a0 3) w14 fun n16 ↦
                                                              Br (eqI n16 0) (LdI IntKind.i64 P t_int (Addr.add a0 4) w14 fun n17 ↦ Br (eqI n17 0) (K14 [Value.bool (eqS s1 (ByteArray.mk #[]))] w14) (K14 [Value.bool false] w14)) (K14 [Value.bool false] w14))
                                                            (K14 [Value.bool false] w14))
                                                  (K14 [Value.bool false] w12))
                                              fun K15 ↦ ∀ (b14 : Bool) (w15 : World), K15 [Value.bool b14] w15 → R (Value.bool b14) w15)
                                            (Br (eqI n2 7)
                                              (Jn
                                                (fun K16 ↦
                                                  LdI IntKind.i64 P t_int (Addr.add a0 1) w12 fun n18 ↦
                                                    Br (eqI n18 0)
                                                      (LdI IntKind.i64 P t_int (Addr.add a0 2) w12 fun n19 ↦
                                                        Br (eqI n19 0)
                                                          (LdI IntKind.i64 P t_int (Addr.add a0 3) w12 fun n20 ↦
                                                            Cs P f_coffretref13_in #[Value.int IntKind.i64 n20, Value.int IntKind.i64 0, Value.int IntKind.i64 1125899906842624] w12 fun v7 w16 ↦
                                                              ∃ b15, v7 = Value.bool b15 ∧ Br b15 (LdI IntKind.i64 P t_int (Addr.add a0 4) w16 fun n21 ↦ Br (eqI n21 0) (K16 [Value.bool (eqS s1 (ByteArray.mk #[]))] w16) (K16 [Value.bool false] w16)) (K16 [Value.bool false] w16))
                                                          (K16 [Value.bool false] w12))
                                                      (K16 [Value.bool false] w12))
                                                fun K17 ↦ ∀ (b16 : Bool) (w17 : World), K17 [Value.bool b16] w17 → R (Value.bool b16) w17)
                                              (Jn (fun K18 ↦ Br (eqI n2 8) (K18 [Value.bool (eqI n2 8)] w12) (K18 [Value.bool (eqI n2 9)] w12)) fun K19 ↦
                                                ∀ (b17 : Bool) (w18 : World),
                                                  K19 [Value.bool b17] w18 →
                                                    Br b17
                                                      (Jn
                                                        (fun K20 ↦
                                                          LdI IntKind.i64 P t_int (Addr.add a0 1) w18 fun n22 ↦
                                                            Br (eqI n22 0)
                                                              (Br b1
                                                                (LdI IntKind.i64 P t_int (Addr.add a0 3) w18 fun n23 ↦
                                                                  Br (eqI n23 0) (LdI IntKind.i64 P t_int (Addr.add a0 4) w18 fun n24 ↦ Br (eqI n24 0) (K20 [Value.bool (eqS s1 (ByteArray.mk #[]))] w18) (K20 [Value.bool false] w18)) (K20 [Value.bool false] w18))
                                                                (K20 [Value.bool false] w18))
                                                              (K20 [Value.bool false] w18))
                                                        fun K21 ↦ ∀ (b18 : Bool) (w19 : World), K21 [Value.bool b18] w19 → R (Value.bool b18) w19)
                                                      (Br (eqI n2 11)
                                                        (Jn
                                                          (fun K22 ↦
                                                            Br b0
                                                              (Br b1
                                                                (LdI IntKind.i64 P t_int (Addr.add a0 3) w18 fun n25 ↦
                                                                  Cs P f_coffretref13_in #[Value.int IntKind.i64 n25, Value.int IntKind.i64 0, Value.int IntKind.i64 1125899907891200] w18 fun v8 w20 ↦
                                                                    ∃ b19,
                                                                      v8 = Value.bool b19 ∧
                                                                        Br b19
                                                                          (LdI IntKind.i64 P t_int (Addr.add a0 4) w20 fun n26 ↦
                                                                            Cs P f_coffretref13_in #[Value.int IntKind.i64 n26, Value.int IntKind.i64 0, Value.int IntKind.i64 16] w20 fun v9 w21 ↦ ∃ b20, v9 = Value.bool b20 ∧ Br b20 (K22 [Value.bool (leI (Nat.cast (ByteArray.size s0)) 512)] w21) (K22 [Value.bool false] w21))
                                                                          (K22 [Value.bool false] w20))
                                                                (K22 [Value.bool false] w18))
                                                              (K22 [Value.bool false] w18))
                                                          fun K23 ↦ ∀ (b21 : Bool) (w22 : World), K23 [Value.bool b21] w22 → R (Value.bool b21) w22)
                                                        (Br (eqI n2 12)
                                                          (Jn
                                                            (fun K24 ↦
                                                              Br b0
                                                                (Br b1
                                                                  (LdI IntKind.i64 P t_int (Addr.add a0 3) w18 fun n27 ↦
                                                                    Br (eqI n27 0)
                                                                      (LdI IntKind.i64 P t_int (Addr.add a0 4) w18 fun n28 ↦
                                                                        Cs P f_coffretref13_in #[Value.int IntKind.i64 n28, Value.int IntKind.i64 0, Value.int IntKind.i64 16] w18 fun v10 w23 ↦ ∃ b22, v10 = Value.bool b22 ∧ Br b22 (K24 [Value.bool (leI (Nat.cast (ByteArray.size s0)) 512)] w23) (K24 [Value.bool false] w23))
                                                                      (K24 [Value.bool false] w18))
                                                                  (K24 [Value.bool false] w18))
                                                                (K24 [Value.bool false] w18))
                                                            fun K25 ↦ ∀ (b23 : Bool) (w24 : World), K25 [Value.bool b23] w24 → R (Value.bool b23) w24)
                                                          (R (Value.bool false) w18))))))))))
theorem ok_coffretref13_Good {w : World} {R : Value → World → Prop} (x0 : Value) (h : vc_coffretref13_Good x0 w R) : Cs P f_coffretref13_Good #[x0] w R := wpF_ok follows Tryd.func25 (Eq.mpr (by kernel_rfl) h)

/-- coffret/coffretref15.Sectors -/
def vc_coffretref15_Sectors (x0 : Option Addr) (x0l : Nat) (x0c : Nat) (w : World) (R : Value → World → Prop) : Prop :=
  Cs P f_coffretref15_Size #[Value.slice x0 x0l x0c] w fun v0 w0 ↦
    ∃ n0,
      v0 = Value.int IntKind.i64 n0 ∧
        Nz 256 ∧
          Nz 256 ∧
            Jn (fun K0 ↦ Br (gtI (Int.tmod n0 256) 0) (K0 [Value.int IntKind.i64 (IntKind.wrap IntKind.i64 (IntKind.wrap IntKind.i64 (Int.tdiv n0 256) + 1))] w0) (K0 [Value.int IntKind.i64 (IntKind.wrap IntKind.i64 (Int.tdiv n0 256))] w0)) fun K1 ↦
              ∀ (n1 : Int) (w1 : World), K1 [Value.int IntKind.i64 n1] w1 → R (Value.int IntKind.i64 n1) w1
theorem ok_coffretref15_Sectors {w : World} {R : Value → World → Prop} (x0 : Option Addr) (x0l : Nat) (x0c : Nat) (h : vc_coffretref15_Sectors x0 x0l x0c w R) : Cs P f_coffretref15_Sectors #[Value.slice x0 x0l x0c] w R := wpF_ok follows Tryd.func26 (Eq.mpr (by kernel_rfl) h)

/-- coffret/coffretref15.Split -/
def vc_coffretref15_Split (x0 : Option Addr) (x0l : Nat) (x0c : Nat) (w : World) (R : Value → World → Prop) : Prop :=
  Lp [Value.slice none 0 0, Value.slice none 0 0, Value.int IntKind.i64 0] w fun K0 ↦
    ∀ (p0 : Option Addr) (l0 l1 : Nat) (p1 : Option Addr) (l2 l3 : Nat) (n0 : Int) (l4 : Nat) (w0 : World),
      K0 l4 [Value.slice p0 l0 l1, Value.slice p1 l2 l3, Value.int IntKind.i64 n0] w0 →
        Br (ltI n0 (Nat.cast x0l))
          (Ix x0 x0l n0 6 fun a0 ↦
            LdV P t_api_Record a0 w0 fun v0 ↦
              DoA P (Instr.alloc t_api_Record true (Value.tuple #[])) w0 fun a1 w1 ↦
                DoU P (storeVar t_api_Record a1 v0) w1 fun w2 ↦
                  Jn
                    (fun K1 ↦
                      Dr w2 fun w3 ↦
                        LdV P t_api_Record a1 w3 fun v1 ↦
                          (DoL P (Instr.buildSlice t_sl_api_Record 0 #[]) w3 fun p2 l5 l6 w4 ↦
                              (Still P (loadVar t_api_Record a1) v1 w4 ∧ True) ∧
                                (DoL P (Builtin.append_ #[t_sl_api_Record, t_sl_api_Record] t_sl_api_Record #[Value.slice p2 l5 l6, Value.slice p1 l2 l3]) w4 fun p3 l7 l8 w5 ↦
                                    (Still P (loadVar t_api_Record a1) v1 w5 ∧ True) ∧
                                      DoL P (Instr.buildSlice t_sl_api_Record 1 #[(0, v1)]) w5 fun p4 l9 l10 w6 ↦ DoL P (Builtin.append_ #[t_sl_api_Record, t_sl_api_Record] t_sl_api_Record #[Value.slice p3 l7 l8, Value.slice p4 l9 l10]) w6 fun p5 l11 l12 w7 ↦ K1 [Value.slice p5 l11 l12] w7) ∧
                                  DoL P (Instr.buildSlice t_sl_api_Record 1 #[(0, v1)]) w4 fun p6 l13 l14 w8 ↦
                                    DoL P (Builtin.append_ #[t_sl_api_Record, t_sl_api_Record] t_sl_api_Record #[Value.slice p2 l5 l6, Value.slice p1 l2 l3]) w8 fun p7 l15 l16 w9 ↦ DoL P (Builtin.append_ #[t_sl_api_Record, t_sl_api_Record] t_sl_api_Record #[Value.slice p7 l15 l16, Value.slice p6 l13 l14]) w9 fun p8 l17 l18 w10 ↦ K1 [Value.slice p8 l17 l18] w10) ∧
                            DoL P (Instr.buildSlice t_sl_api_Record 1 #[(0, v1)]) w3 fun p9 l19 l20 w11 ↦
                              DoL P (Instr.buildSlice t_sl_api_Record 0 #[]) w11 fun p10 l21 l22 w12 ↦
                                DoL P (Builtin.append_ #[t_sl_api_Record, t_sl_api_Record] t_sl_api_Record #[Value.slice p10 l21 l22, Value.slice p1 l2 l3]) w12 fun p11 l23 l24 w13 ↦
                                  DoL P (Builtin.append_ #[t_sl_api_Record, t_sl_api_Record] t_sl_api_Record #[Value.slice p11 l23 l24, Value.slice p9 l19 l20]) w13 fun p12 l25 l26 w14 ↦ K1 [Value.slice p12 l25 l26] w14)
                    fun K2 ↦
                    ∀ (p13 : Option Addr) (l27 l28 : Nat) (w15 : World),
                      K2 [Value.slice p13 l27 l28] w15 →
                        Jn (fun K3 ↦ Br (gtI (Nat.cast l2) 0) (Cs P f_coffretref15_Size #[Value.slice p13 l27 l28] w15 fun v2 w16 ↦ ∃ n1, v2 = Value.int IntKind.i64 n1 ∧ K3 [Value.bool (gtI n1 16384)] w16) (K3 [Value.bool false] w15)) fun K4 ↦
                          ∀ (b0 : Bool) (w17 : World),
                            K4 [Value.bool b0] w17 →
                              Jn
                                (fun K5 ↦
                                  Br b0
                                    (DoL P (Instr.buildSlice t_sl_sl_api_Record 1 #[(0, Value.slice p1 l2 l3)]) w17 fun p14 l29 l30 w18 ↦
                                      DoL P (Builtin.append_ #[t_sl_sl_api_Record, t_sl_sl_api_Record] t_sl_sl_api_Record #[Value.slice p0 l0 l1, Value.slice p14 l29 l30]) w18 fun p15 l31 l32 w19 ↦
                                        LdV P t_api_Record a1 w19 fun v3 ↦ DoL P (Instr.buildSlice t_sl_api_Record 1 #[(0, v3)]) w19 fun p16 l33 l34 w20 ↦ K5 [Value.slice p15 l31 l32, Value.slice p16 l33 l34] w20)
                                    (K5 [Value.slice p0 l0 l1, Value.slice p13 l27 l28] w17))
                                fun K6 ↦ ∀ (p17 : Option Addr) (l35 l36 : Nat) (p18 : Option Addr) (l37 l38 : Nat) (w21 : World), K6 [Value.slice p17 l35 l36, Value.slice p18 l37 l38] w21 → Nx K0 l4 [Value.slice p17 l35 l36, Value.slice p18 l37 l38, Value.int IntKind.i64 (IntKind.wrap IntKind.i64 (n0 + 1))] w21)
          (Jn
            (fun K7 ↦
              Br (gtI (Nat.cast l2) 0)
                (DoL P (Instr.buildSlice t_sl_sl_api_Record 1 #[(0, Value.slice p1 l2 l3)]) w0 fun p19 l39 l40 w22 ↦ DoL P (Builtin.append_ #[t_sl_sl_api_Record, t_sl_sl_api_Record] t_sl_sl_api_Record #[Value.slice p0 l0 l1, Value.slice p19 l39 l40]) w22 fun p20 l41 l42 w23 ↦ K7 [Value.slice p20 l41 l42] w23) (K7 [Value.slice p0 l0 l1] w0))
            fun K8 ↦ ∀ (p21 : Option Addr) (l43 l44 : Nat) (w24 : World), K8 [Value.slice p21 l43 l44] w24 → R (Value.slice p21 l43 l44) w24)
theorem ok_coffretref15_Split {w : World} {R : Value → World → Prop} (x0 : Option Addr) (x0l : Nat) (x0c : Nat) (h : vc_coffretref15_Split x0 x0l x0c w R) : Cs P f_coffretref15_Split #[Value.slice x0 x0l x0c] w R := wpF_ok follows Tryd.func27 (Eq.mpr (by kernel_rfl) h)

/-- coffret/coffretref15.Size -/
def vc_coffretref15_Size (x0 : Option Addr) (x0l : Nat) (x0c : Nat) (w : World) (R : Value → World → Prop) : Prop :=
  Lp [Value.int IntKind.i64 48, Value.int IntKind.i64 0] w fun K0 ↦
    ∀ (n0 n1 : Int) (l0 : Nat) (w0 : World),
      K0 l0 [Value.int IntKind.i64 n0, Value.int IntKind.i64 n1] w0 →
        Br (ltI n1 (Nat.cast x0l))
          (Ix x0 x0l n1 6 fun a0 ↦
            LdV P t_api_Record a0 w0 fun v0 ↦
              DoA P (Instr.alloc t_api_Record true (Value.tuple #[])) w0 fun a1 w1 ↦
                DoU P (storeVar t_api_Record a1 v0) w1 fun w2 ↦ LdS P t_string (Addr.add a1 5) w2 fun s0 ↦ Nx K0 l0 [Value.int IntKind.i64 (IntKind.wrap IntKind.i64 (IntKind.wrap IntKind.i64 (n0 + 63) + Nat.cast (ByteArray.size s0))), Value.int IntKind.i64 (IntKind.wrap IntKind.i64 (n1 + 1))] w2)
          (R (Value.int IntKind.i64 n0) w0)
theorem ok_coffretref15_Size {w : World} {R : Value → World → Prop} (x0 : Option Addr) (x0l : Nat) (x0c : Nat) (h : vc_coffretref15_Size x0 x0l x0c w R) : Cs P f_coffretref15_Size #[Value.slice x0 x0l x0c] w R := wpF_ok follows Tryd.func28 (Eq.mpr (by kernel_rfl) h)

/-- (*coffret/vault.Vault).Clashes -/
def vc_vault_Vault_Clashes (x0 : Option Addr) (w : World) (R : Value → World → Prop) : Prop :=
  Br (Option.isNone x0) (R (Value.int IntKind.i64 0) w) (NN x0 fun a0 ↦ LdI IntKind.i64 P t_int (Addr.add a0 35) w fun n0 ↦ R (Value.int IntKind.i64 n0) w)
theorem ok_vault_Vault_Clashes {w : World} {R : Value → World → Prop} (x0 : Option Addr) (h : vc_vault_Vault_Clashes x0 w R) : Cs P f_vault_Vault_Clashes #[Value.pointer x0] w R := wpF_ok follows Tryd.func29 (Eq.mpr (by kernel_rfl) h)

/-- (*coffret/coffretref17.Log).Copy -/
def vc_coffretref17_Log_Copy (x0 : Option Addr) (w : World) (R : Value → World → Prop) : Prop :=
  NN x0 fun a0 ↦ LdV P t_coffretref17_Log a0 w fun v0 ↦ DoA P (Instr.alloc t_coffretref17_Log true (Value.tuple #[])) w fun a1 w0 ↦ DoU P (storeVar t_coffretref17_Log a1 v0) w0 fun w1 ↦ R (Value.pointer (some a1)) w1
theorem ok_coffretref17_Log_Copy {w : World} {R : Value → World → Prop} (x0 : Option Addr) (h : vc_coffretref17_Log_Copy x0 w R) : Cs P f_coffretref17_Log_Copy #[Value.pointer x0] w R := wpF_ok follows Tryd.func30 (Eq.mpr (by kernel_rfl) h)

/-- (*coffret/disk.Disk).Arm -/
def vc_disk_Disk_Arm (x0 : Option Addr) (x1 : Int) (x2 : Int) (w : World) (R : Value → World → Prop) : Prop :=
  Jn (fun K0 ↦ Br (!Option.isNone x0) (NN x0 fun a0 ↦ DoU P (storeVar t_int (Addr.add a0 5) (Value.int IntKind.i64 (mxI x1 0))) w fun w0 ↦ NN x0 fun a1 ↦ DoU P (storeVar t_uint64 (Addr.add a1 6) (Value.int IntKind.u64 x2)) w0 fun w1 ↦ K0 [] w1) (K0 [] w)) fun K1 ↦
    ∀ (w2 : World), K1 [] w2 → R (Value.tuple #[]) w2
theorem ok_disk_Disk_Arm {w : World} {R : Value → World → Prop} (x0 : Option Addr) (x1 : Int) (x2 : Int) (h : vc_disk_Disk_Arm x0 x1 x2 w R) : Cs P f_disk_Disk_Arm #[Value.pointer x0, Value.int IntKind.i64 x1, Value.int IntKind.u64 x2] w R := wpF_ok follows Tryd.func31 (Eq.mpr (by kernel_rfl) h)

/-- (*coffret/disk.Disk).Off -/
def vc_disk_Disk_Off (x0 : Option Addr) (x1 : Int) (w : World) (R : Value → World → Prop) : Prop :=
  Jn (fun K0 ↦ Br (Option.isNone x0) (K0 [Value.bool true] w) (NN x0 fun a0 ↦ LdB P t_bool (Addr.add a0 3) w fun b0 ↦ K0 [Value.bool b0] w)) fun K1 ↦
    ∀ (b1 : Bool) (w0 : World),
      K1 [Value.bool b1] w0 →
        Br b1 (R (Value.tuple #[]) w0)
          (NN x0 fun a1 ↦
            LdL P t_sl_disk_write (Addr.add a1 2) w0 fun p0 l0 l1 ↦
              Lp [Value.int IntKind.i64 0] w0 fun K2 ↦
                ∀ (n0 : Int) (l2 : Nat) (w1 : World),
                  K2 l2 [Value.int IntKind.i64 n0] w1 →
                    Br (ltI n0 (Nat.cast l0))
                      (Ix p0 l0 n0 257 fun a2 ↦
                        LdV P t_disk_write a2 w1 fun v0 ↦
                          DoA P (Instr.alloc t_disk_write true (Value.tuple #[])) w1 fun a3 w2 ↦
                            DoU P (storeVar t_disk_write a3 v0) w2 fun w3 ↦
                              Nz 64 ∧
                                Nn (Int.tmod n0 64) ∧
                                  Jn
                                    (fun K3 ↦
                                      Br (eqI (bitsOf BinOp.and IntKind.u64 (Int.fdiv x1 (2 ^ min (Int.toNat (Int.tmod n0 64)) 64)) 1) 1)
                                        (Dr w3 fun w4 ↦
                                          NN x0 fun a4 ↦
                                            LdL P t_sl_disk_sector (Addr.add a4 1) w4 fun p1 l3 l4 ↦
                                              LdI IntKind.i64 P t_int (Addr.add a3 0) w4 fun n1 ↦ LdV P t_disk_sector (Addr.add a3 1) w4 fun v1 ↦ Ix p1 l3 n1 256 fun a5 ↦ DoU P (storeVar t_disk_sector a5 v1) w4 fun w5 ↦ K3 [] w5)
                                        (K3 [] w3))
                                    fun K4 ↦ ∀ (w6 : World), K4 [] w6 → Nx K2 l2 [Value.int IntKind.i64 (IntKind.wrap IntKind.i64 (n0 + 1))] w6)
                      (Dr w1 fun w7 ↦
                        NN x0 fun a6 ↦
                          LdL P t_sl_disk_sector (Addr.add a6 0) w7 fun p2 l5 l6 ↦
                            NN x0 fun a7 ↦
                              LdL P t_sl_disk_sector (Addr.add a7 1) w7 fun p3 l7 l8 ↦
                                DoI IntKind.i64 P (Builtin.copy_ #[t_sl_disk_sector, t_sl_disk_sector] t_int #[Value.slice p2 l5 l6, Value.slice p3 l7 l8]) w7 fun n2 w8 ↦
                                  NN x0 fun a8 ↦
                                    DoU P (storeVar t_sl_disk_write (Addr.add a8 2) (Value.slice none 0 0)) w8 fun w9 ↦
                                      NN x0 fun a9 ↦ DoU P (storeVar t_bool (Addr.add a9 3) (Value.bool true)) w9 fun w10 ↦ NN x0 fun a10 ↦ DoU P (storeVar t_int (Addr.add a10 5) (Value.int IntKind.i64 0)) w10 fun w11 ↦ R (Value.tuple #[]) w11))
theorem ok_disk_Disk_Off {w : World} {R : Value → World → Prop} (x0 : Option Addr) (x1 : Int) (h : vc_disk_Disk_Off x0 x1 w R) : Cs P f_disk_Disk_Off #[Value.pointer x0, Value.int IntKind.u64 x1] w R := wpF_ok follows Tryd.func32 (Eq.mpr (by kernel_rfl) h)

/-- (*coffret/disk.Disk).On -/
def vc_disk_Disk_On (x0 : Option Addr) (w : World) (R : Value → World → Prop) : Prop :=
  Jn (fun K0 ↦ Br (!Option.isNone x0) (NN x0 fun a0 ↦ DoU P (storeVar t_bool (Addr.add a0 3) (Value.bool false)) w fun w0 ↦ K0 [] w0) (K0 [] w)) fun K1 ↦ ∀ (w1 : World), K1 [] w1 → R (Value.tuple #[]) w1
theorem ok_disk_Disk_On {w : World} {R : Value → World → Prop} (x0 : Option Addr) (h : vc_disk_Disk_On x0 w R) : Cs P f_disk_Disk_On #[Value.pointer x0] w R := wpF_ok follows Tryd.func33 (Eq.mpr (by kernel_rfl) h)

/-- coffret/disk.New -/
def vc_disk_New (x0 : Int) (w : World) (R : Value → World → Prop) : Prop :=
  Jn
    (fun K0 ↦
      Dr w fun w0 ↦
        (DoL P (Instr.makeSlice t_sl_disk_sector (Value.int IntKind.i64 (mnI (mxI x0 0) 4096)) (Value.int IntKind.i64 (mnI (mxI x0 0) 4096))) w0 fun p0 l0 l1 w1 ↦
            DoL P (Instr.makeSlice t_sl_disk_sector (Value.int IntKind.i64 (mnI (mxI x0 0) 4096)) (Value.int IntKind.i64 (mnI (mxI x0 0) 4096))) w1 fun p1 l2 l3 w2 ↦
              RdV P (Instr.build t_disk_Disk #[(0, Value.slice p0 l0 l1), (1, Value.slice p1 l2 l3)]) w2 fun v0 ↦ DoA P (Instr.box t_disk_Disk v0) w2 fun a0 w3 ↦ K0 [Value.pointer (some a0)] w3) ∧
          DoL P (Instr.makeSlice t_sl_disk_sector (Value.int IntKind.i64 (mnI (mxI x0 0) 4096)) (Value.int IntKind.i64 (mnI (mxI x0 0) 4096))) w0 fun p2 l4 l5 w4 ↦
            DoL P (Instr.makeSlice t_sl_disk_sector (Value.int IntKind.i64 (mnI (mxI x0 0) 4096)) (Value.int IntKind.i64 (mnI (mxI x0 0) 4096))) w4 fun p3 l6 l7 w5 ↦
              RdV P (Instr.build t_disk_Disk #[(0, Value.slice p3 l6 l7), (1, Value.slice p2 l4 l5)]) w5 fun v1 ↦ DoA P (Instr.box t_disk_Disk v1) w5 fun a1 w6 ↦ K0 [Value.pointer (some a1)] w6)
    fun K1 ↦ ∀ (p4 : Option Addr) (w7 : World), K1 [Value.pointer p4] w7 → R (Value.pointer p4) w7
theorem ok_disk_New {w : World} {R : Value → World → Prop} (x0 : Int) (h : vc_disk_New x0 w R) : Cs P f_disk_New #[Value.int IntKind.i64 x0] w R := wpF_ok follows Tryd.func34 (Eq.mpr (by kernel_rfl) h)

/-- coffret/vault.Ideal -/
def vc_vault_Ideal (x0 : Option Addr) (x1 : Value) (x2 : Int) (w : World) (R : Value → World → Prop) : Prop :=
  DoA P (Instr.box t_vault_Key x1) w fun a0 w0 ↦
    LdV P t_vault_Key a0 w0 fun v0 ↦
      DoM P (Instr.makeMap t_map_vault_place_string none) w0 fun p0 w1 ↦
        DoV P (Instr.build t_vault_Vault #[(0, Value.iface t_p_ideal_World (Value.pointer x0)), (1, v0), (2, Value.int IntKind.i64 (mxI x2 0)), (3, Value.map p0), (4, Value.int IntKind.i64 0)]) w1 fun v1 w2 ↦
          DoA P (Instr.box t_vault_Vault v1) w2 fun a1 w3 ↦ R (Value.pointer (some a1)) w3
theorem ok_vault_Ideal {w : World} {R : Value → World → Prop} (x0 : Option Addr) (x1 : Value) (x2 : Int) (h : vc_vault_Ideal x0 x1 x2 w R) : Cs P f_vault_Ideal #[Value.pointer x0, x1, Value.int IntKind.i64 x2] w R := wpF_ok follows Tryd.func35 (Eq.mpr (by kernel_rfl) h)

/-- coffret/ideal.New -/
def vc_ideal_New  (w : World) (R : Value → World → Prop) : Prop :=
  DoM P (Instr.makeMap t_map_string_int none) w fun p0 w0 ↦ DoM P (Instr.makeMap t_map_string_string none) w0 fun p1 w1 ↦ DoV P (Instr.build t_ideal_World #[(0, Value.map p0), (1, Value.map p1)]) w1 fun v0 w2 ↦ DoA P (Instr.box t_ideal_World v0) w2 fun a0 w3 ↦ R (Value.pointer (some a0)) w3
theorem ok_ideal_New {w : World} {R : Value → World → Prop}  (h : vc_ideal_New  w R) : Cs P f_ideal_New #[] w R := wpF_ok follows Tryd.func36 (Eq.mpr (by kernel_rfl) h)

/-- coffret/meter.New -/
def vc_meter_New (x0 : Int) (x1 : Option Addr) (w : World) (R : Value → World → Prop) : Prop :=
  DoV P (Instr.build t_meter_Meter #[(1, Value.int IntKind.i64 (mnI (mxI x0 0) 1099511627776)), (2, Value.pointer x1)]) w fun v0 w0 ↦ DoA P (Instr.box t_meter_Meter v0) w0 fun a0 w1 ↦ R (Value.pointer (some a0)) w1
theorem ok_meter_New {w : World} {R : Value → World → Prop} (x0 : Int) (x1 : Option Addr) (h : vc_meter_New x0 x1 w R) : Cs P f_meter_New #[Value.int IntKind.i64 x0, Value.pointer x1] w R := wpF_ok follows Tryd.func37 (Eq.mpr (by kernel_rfl) h)

/-- (*coffret/commit.Log).good -/
def vc_commit_Log_good (x0 : Option Addr) (x1 : Option Addr) (x1l : Nat) (x1c : Nat) (w : World) (R : Value → World → Prop) : Prop :=
  Br (Option.isNone x0) (R (Value.int IntKind.i64 2) w)
    (NN x0 fun a0 ↦
      LdP P t_p_disk_Disk (Addr.add a0 1) w fun p0 ↦
        Cs P f_disk_Disk_Down #[Value.pointer p0] w fun v0 w0 ↦
          ∃ b0,
            v0 = Value.bool b0 ∧
              Br b0 (R (Value.int IntKind.i64 8) w0)
                (Br (eqI (Nat.cast x1l) 0) (R (Value.int IntKind.i64 1) w0)
                  (Lp [Value.int IntKind.i64 0] w0 fun K0 ↦
                    ∀ (n0 : Int) (l0 : Nat) (w1 : World),
                      K0 l0 [Value.int IntKind.i64 n0] w1 →
                        Br (ltI n0 (Nat.cast x1l))
                          (Ix x1 x1l n0 6 fun a1 ↦
                            LdV P t_api_Record a1 w1 fun v1 ↦
                              DoA P (Instr.alloc t_api_Record true (Value.tuple #[])) w1 fun a2 w2 ↦
                                DoU P (storeVar t_api_Record a2 v1) w2 fun w3 ↦ LdV P t_api_Record a2 w3 fun v2 ↦ Cs P f_record_Good #[v2] w3 fun v3 w4 ↦ ∃ b1, v3 = Value.bool b1 ∧ Br (!b1) (R (Value.int IntKind.i64 1) w4) (Nx K0 l0 [Value.int IntKind.i64 (IntKind.wrap IntKind.i64 (n0 + 1))] w4))
                          (R (Value.int IntKind.i64 0) w1))))
theorem ok_commit_Log_good {w : World} {R : Value → World → Prop} (x0 : Option Addr) (x1 : Option Addr) (x1l : Nat) (x1c : Nat) (h : vc_commit_Log_good x0 x1 x1l x1c w R) : Cs P f_commit_Log_good #[Value.pointer x0, Value.slice x1 x1l x1c] w R := wpF_ok follows Tryd.func38 (Eq.mpr (by kernel_rfl) h)

end Go.Dv
