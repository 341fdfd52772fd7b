/- A vote that is taken is the last one of all who vote, if it is later, and none is banned; a proof bans all whom it shows; each of these is told, in order: at every input. The walk. -/
import Derived.Test.YtdefmgkicdhmkaaQ14
namespace Go.Proofs.Ytdefmgkicdhmkaa
open Go Go.Sx
set_option linter.unusedVariables false
set_option maxRecDepth 100000
set_option maxHeartbeats 2000000
def sh_f3_j12 (Q : QW) (w32 : World) : Prop :=
  Q (.bool true) w32
def sh_f3_j11 (x10 : Int) (nxt1 : Int -> World -> Prop) (w31 : World) : Prop :=
  nxt1 (IntKind.i64.wrap (x10 + 1)) w31
def sh_f3_j10 (Q : QW) (x10 : Int) (nxt1 : Int -> World -> Prop) (x16 : Sl) (x45 : Int) (w30 : World) : Prop :=
  br (x45 != (x16.len : Int)) (Q (.bool false) w30) ((sh_f3_j11 x10 nxt1 w30))
def sh_f3_j9 (x29 : Int) (nxt2 : Int -> Int -> World -> Prop) (x44 : Int) (w29 : World) : Prop :=
  nxt2 x44 (IntKind.i64.wrap (x29 + 1)) w29
def sh_f3_j8 (Q : QW) (x28 : Int) (x29 : Int) (nxt2 : Int -> Int -> World -> Prop) (x43 : Bool) (w28 : World) : Prop :=
  br x43 (Q (.bool false) w28) ((sh_f3_j9 x29 nxt2 (IntKind.i64.wrap (x28 + 1)) w28))
def sh_f3_j7 (Q : QW) (x16 : Sl) (x28 : Int) (x29 : Int) (nxt2 : Int -> Int -> World -> Prop) (b7 : Nat) (x40 : Bool) (w26 : World) : Prop :=
  br (!x40) ((sh_f3_j9 x29 nxt2 x28 w26)) (dw w26 fun w27 => br (decide (x28 ≥ (x16.len : Int))) ((sh_f3_j8 Q x28 x29 nxt2 true w27)) (ixs x16 x28 fun b11 o8 => ld t_store_Change w27 b11 (o8 + (x28).toNat * 6) fun x41 => ld t_store_Change w27 b7 0 fun x42 => (sh_f3_j8 Q x28 x29 nxt2 (!eq_store_Change x41 x42) w27)))
def sh_f3_j6 (Q : QW) (b4 : Nat) (x14 : Sl) (x16 : Sl) (x28 : Int) (x29 : Int) (nxt2 : Int -> Int -> World -> Prop) (x30 : Int) (x31 : Bool) (w18 : World) : Prop :=
  br x31 (Q (.bool false) w18) (CallsR PP n_f14 #[.slice x14.a x14.len x14.cap, .int .i64 x30] (fun v7 w19 => ∃ x32 : Int, ∃ x33 : Bool, v7 = .tuple #[.int .u64 x32, .bool x33] /\ (al t_store_Change 66 w19 (⟨0, 0, 0, 0, 0, false⟩ : G_store_Change) fun b7 w20 => st t_store_Change w20 b7 0 (⟨2, 0, 0, x30, x32, x33⟩ : G_store_Change) fun w21 => ixs x14 x30 fun b8 o5 => ld tBool w21 b8 ((o5 + (x30).toNat * 4) + 3) fun x34 => ld tI64 w21 b4 0 fun x35 => br (x35 == 2) (dw w21 fun w22 => ld tU64 w22 b4 8 fun x36 => st tI64 w22 b7 0 1 fun w23 => chk tU64 w23 b4 8 x36 <| st tU64 w23 b7 1 x36 fun w24 => dw w24 fun w25 => br (!x34) (ixs x14 x30 fun b9 o6 => ld tBool w25 b9 ((o6 + (x30).toNat * 4) + 0) fun x37 => br (!x37) ((sh_f3_j7 Q x16 x28 x29 nxt2 b7 true w25)) (ixs x14 x30 fun b10 o7 => ld tI64 w25 b10 ((o7 + (x30).toNat * 4) + 1) fun x38 => ld tI64 w25 b4 11 fun x39 => (sh_f3_j7 Q x16 x28 x29 nxt2 b7 (decide (x38 < x39)) w25))) ((sh_f3_j7 Q x16 x28 x29 nxt2 b7 false w25))) ((sh_f3_j7 Q x16 x28 x29 nxt2 b7 (!x34) w21)))) w18)
def sh_f3_b5 (Q : QW) (x10 : Int) (nxt1 : Int -> World -> Prop) (b4 : Nat) (x14 : Sl) (x16 : Sl) (x27 : Sl) (x28 : Int) (x29 : Int) (w17 : World) (nxt2 : Int -> Int -> World -> Prop) : Prop :=
  br (decide (x29 < (x27.len : Int))) (ixs x27 x29 fun b6 o4 => ld tI64 w17 b6 (o4 + (x29).toNat * 1) fun x30 => br (decide (x30 < 0)) ((sh_f3_j6 Q b4 x14 x16 x28 x29 nxt2 x30 true w17)) ((sh_f3_j6 Q b4 x14 x16 x28 x29 nxt2 x30 (decide (x30 ≥ (x14.len : Int))) w17))) ((sh_f3_j10 Q x10 nxt1 x16 x28 w17))
def sh_f3_j4 (Q : QW) (x10 : Int) (nxt1 : Int -> World -> Prop) (b4 : Nat) (x14 : Sl) (x16 : Sl) (x27 : Sl) (w16 : World) : Prop :=
  (∃ I2 : Nat -> Int -> Int -> World -> Prop, (∃ m, I2 m 0 0 w16) /\ ∀ m x28 x29 w17, I2 m x28 x29 w17 -> sh_f3_b5 Q x10 nxt1 b4 x14 x16 x27 x28 x29 w17 (fun y0 y1 w => ∃ m2, m2 < m /\ I2 m2 y0 y1 w))
def sh_f3_j3 (Q : QW) (b1 : Nat) (x10 : Int) (nxt1 : Int -> World -> Prop) (b4 : Nat) (x14 : Sl) (x16 : Sl) (x20 : Bool) (w14 : World) : Prop :=
  br x20 ((sh_f3_j11 x10 nxt1 w14)) (ld t_api_Config w14 b1 0 fun x21 => ld t_api_Proof w14 b4 14 fun x22 => CallsR PP n_f13 #[t_api_Config.val x21, t_api_Proof.val x22] (fun v6 w15 => ∃ x23 : Sl, ∃ x24 : Ifc, v6 = .tuple #[.slice x23.a x23.len x23.cap, x24.v] /\ (ld tI64 w15 b4 0 fun x25 => br (x25 == 2) (ld tSl w15 b4 13 fun x26 => (sh_f3_j4 Q x10 nxt1 b4 x14 x16 x26 w15)) ((sh_f3_j4 Q x10 nxt1 b4 x14 x16 x23 w15)))) w14)
def sh_f3_b2 (Q : QW) (b1 : Nat) (x4 : Option Addr) (x9 : Sl) (x10 : Int) (w8 : World) (nxt1 : Int -> World -> Prop) : Prop :=
  br (decide (x10 < (x9.len : Int))) (ixs x9 x10 fun b3 o2 => ld t_api_Event w8 b3 (o2 + (x10).toNat * 28) fun x11 => al t_api_Event 57 w8 (⟨0, 0, (⟨0, 0, 0, nilSl, nilSl⟩ : G_api_Block), (⟨0, 0, (⟨0, 0⟩ : G_api_Point), (⟨0, 0⟩ : G_api_Point), nilSl⟩ : G_api_Vote), (⟨(⟨0, 0, (⟨0, 0⟩ : G_api_Point), (⟨0, 0⟩ : G_api_Point), nilSl⟩ : G_api_Vote), (⟨0, 0, (⟨0, 0⟩ : G_api_Point), (⟨0, 0⟩ : G_api_Point), nilSl⟩ : G_api_Vote)⟩ : G_api_Proof)⟩ : G_api_Event) fun b4 w9 => st t_api_Event w9 b4 0 x11 fun w10 => dw w10 fun w11 => nc x4 fun b5 o3 => ld tSl w11 b5 (o3 + 4) fun x12 => chkp ((0 : Int) <= 0 /\ (0 : Int) <= 0 /\ 0 <= (x12.cap : Int)) <| ld tSl w11 b5 (o3 + 4) fun x13 => app 68 4 32 w11 (x12.cut 4 0 (0 : Int).toNat (0 : Int).toNat) x13 fun x14 w12 => ld t_api_Event w12 b4 0 fun x15 => CallsR PP n_f12 #[.pointer x4, t_api_Event.val x15] (fun v5 w13 => ∃ x16 : Sl, ∃ x17 : Ifc, v5 = .tuple #[.slice x16.a x16.len x16.cap, x17.v] /\ (ld tI64 w13 b4 0 fun x18 => br (x18 != 2) (ld tI64 w13 b4 0 fun x19 => br (x19 != 3) ((sh_f3_j3 Q b1 x10 nxt1 b4 x14 x16 true w13)) ((sh_f3_j3 Q b1 x10 nxt1 b4 x14 x16 (!x17.isNil) w13))) ((sh_f3_j3 Q b1 x10 nxt1 b4 x14 x16 (!x17.isNil) w13)))) w12) ((sh_f3_j12 Q w8))
def sh_f3_j1 (a0 : Sl) (Q : QW) (b1 : Nat) (x4 : Option Addr) (x7 : Bool) (w6 : World) : Prop :=
  br x7 (Q (.bool false) w6) (ld t_api_Config w6 b1 0 fun x8 => CallsR PP n_f11 #[t_api_Config.val x8, .slice a0.a a0.len a0.cap] (fun v4 w7 => ∃ x9 : Sl, v4 = .slice x9.a x9.len x9.cap /\ ((∃ I1 : Nat -> Int -> World -> Prop, (∃ m, I1 m 0 w7) /\ ∀ m x10 w8, I1 m x10 w8 -> sh_f3_b2 Q b1 x4 x9 x10 w8 (fun y0 w => ∃ m2, m2 < m /\ I1 m2 y0 w)))) w6)
def sh_f3 (a0 : Sl) (a1 : Sl) (a2 : Int) (Q : QW) (w0 : World) : Prop :=
  CallsR PP n_f8 #[] (fun v1 w1 => ∃ x1 : Bool, v1 = .bool x1 /\ (br (!x1) (Q (.bool false) w1) (CallsR PP n_f9 #[.slice a1.a a1.len a1.cap, .int .u8 a2, .int .u8 40] (fun v2 w2 => ∃ x2 : G_api_Config, v2 = t_api_Config.val x2 /\ (al t_api_Config 26 w2 (⟨nilSl, 0, 0⟩ : G_api_Config) fun b1 w3 => st t_api_Config w3 b1 0 x2 fun w4 => ld t_api_Config w4 b1 0 fun x3 => CallsR PP n_f10 #[t_api_Config.val x3] (fun v3 w5 => ∃ x4 : Option Addr, ∃ x5 : Ifc, v3 = .tuple #[.pointer x4, x5.v] /\ (br (!x5.isNil) ((sh_f3_j1 a0 Q b1 x4 true w5)) (br x4.isNone ((sh_f3_j1 a0 Q b1 x4 true w5)) (nc x4 fun b2 o1 => ld tPtr w5 b2 (o1 + 3) fun x6 => (sh_f3_j1 a0 Q b1 x4 x6.isNone w5))))) w4)) w1))) w0
theorem so_f3 {a0 : Sl} {a1 : Sl} {a2 : Int} (Q : QW) (w0 : World) (h : sh_f3 a0 a1 a2 Q w0) : CallsR PP n_f3 #[.slice a0.a a0.len a0.cap, .slice a1.a a1.len a1.cap, .int .u8 a2] Q w0 := by
 refine callsR_of_WX (args := [.slice a0.a a0.len a0.cap, .slice a1.a a1.len a1.cap, .int .u8 a2]) Try.func3 rfl Try.ntmps3 nl ?_
 refine WX_seq (WX_region ?_)
 refine mva (vb false) rfl (ops_nil ?_)
 refine WX_seq ?_
 refine WX_seq (WX_region ?_)
 refine op_w (pw_call co_8 rfl (cm h ?_))
 rintro v1 w1 ⟨x1, rfl, h⟩
 refine op_v (pv_not rfl) (ops_nil ?_)
 refine WX_cond (b := (!x1)) rfl (fun hb1 => ?_) (fun hb1 => ?_)
 have h := h.1 hb1
 refine WX_seq (WX_region ?_)
 refine mva (vb false) rfl (ops_nil ?_)
 refine WX_ret ?_
 exact fin_of [vb false] rfl ⟨rfl, trivial⟩ h
 have h := h.2 hb1
 refine WX_skip <| WX_seq (WX_region ?_)
 refine mv (.slice a1.a a1.len a1.cap) rfl <| mv (.int .u8 a2) rfl <| op_w (pw_call co_9 rfl (CallsR.mono h ?_))
 rintro v2 w2 ⟨x2, rfl, h⟩
 refine op_w (pw_alloc ty_26 tz_26 ?_)
 intro b1 w3 hw1 hw2
 replace h := h b1 w3 hw1 hw2
 refine op_w (pw_st (x := x2) ty_26 rfl rfl h.1 ?_)
 intro w4 hw3
 replace h := h.2 w4 hw3
 refine ops_nil ?_
 refine WX_seq (WX_region ?_)
 obtain ⟨x3, hx3, h⟩ := h
 refine op_v (pv_ld ty_26 rfl hx3) <| op_w (pw_call co_10 rfl (CallsR.mono h ?_))
 rintro v3 w5 ⟨x4, x5, rfl, h⟩
 refine mv (.tuple #[.pointer x4, x5.v]) rfl <| op_v (pv_extract (vs := [.pointer x4, x5.v]) (v := .pointer x4) rfl rfl) ?_
 refine op_v (pv_extract (vs := [.pointer x4, x5.v]) (v := x5.v) rfl rfl) <| mva (.pointer x4) rfl <| mva x5.v rfl (ops_nil ?_)
 refine WX_seq ?_
 refine WX_join (fun f w6 => ∃ x7 : Bool, Agree f [(0, .slice a0.a a0.len a0.cap), (7, vp b1 0), (8, .pointer x4), (46, vb x7)] /\ sh_f3_j1 a0 Q b1 x4 x7 w6) ?_ ?_
 refine WX_region ?_
 refine mv x5.v rfl <| op_v (pv_ifnil (e := x5) (v := (!x5.isNil)) ii_30 rfl rfl) <| mv (vb (!x5.isNil)) rfl ?_
 refine ops_split 36 (b := (!x5.isNil)) rfl (fun hb2 => ?_) (fun hb2 => ?_)
 have h := h.1 hb2
 iterate 2 refine opg_no ?_
 refine op_v (pv_pick (b := true) (v := vb true) rfl rfl) <| mv (vb true) rfl ?_
 iterate 5 refine opg_no ?_
 refine op_v (pv_pick (b := true) (v := vb true) rfl rfl) (ops_nil ?_)
 exact ⟨true, ⟨rfl, rfl, rfl, rfl, trivial⟩, h⟩
 have h := h.2 hb2
 refine opg_v (pv_move (v := .pointer x4) rfl) <| opg_v (pv_ptrnil (p := x4) (v := x4.isNone) ip_28 rfl rfl) ?_
 refine op_v (pv_pick (b := false) (v := vb x4.isNone) rfl rfl) <| mv (vb x4.isNone) rfl ?_
 refine ops_split 40 (b := x4.isNone) rfl (fun hb3 => ?_) (fun hb3 => ?_)
 have h := h.1 hb3
 iterate 5 refine opg_no ?_
 refine op_v (pv_pick (b := true) (v := vb true) rfl rfl) (ops_nil ?_)
 exact ⟨true, ⟨rfl, rfl, rfl, rfl, trivial⟩, h⟩
 have h := h.2 hb3
 refine opg_v (pv_move (v := .pointer x4) rfl) ?_
 obtain ⟨b2, o1, hp1, h⟩ := h
 refine opg_v (pv_nilh rfl hp1) <| opg_v (pv_fld fo_43_1 rfl) ?_
 obtain ⟨x6, hx6, h⟩ := h
 refine opg_v (pv_ld ty_33 rfl hx6) <| opg_v (pv_ptrnil (p := x6) (v := x6.isNone) ip_33 rfl rfl) ?_
 refine op_v (pv_pick (b := false) (v := vb x6.isNone) rfl rfl) (ops_nil ?_)
 exact ⟨x6.isNone, ⟨rfl, rfl, rfl, rfl, trivial⟩, h⟩
 rintro f w6 ⟨x7, ha, h⟩
 obtain ⟨g1, rfl⟩ := canon ha
 refine WX_cond (b := x7) rfl (fun hb4 => ?_) (fun hb4 => ?_)
 have h := h.1 hb4
 refine WX_seq (WX_region ?_)
 refine mva (vb false) rfl (ops_nil ?_)
 refine WX_ret ?_
 exact fin_of [vb false] rfl ⟨rfl, trivial⟩ h
 have h := h.2 hb4
 refine WX_skip <| WX_join (fun f w32 => Agree f [] /\ sh_f3_j12 Q w32) ?_ ?_
 refine WX_seq (WX_region ?_)
 obtain ⟨x8, hx8, h⟩ := h
 refine op_v (pv_ld ty_26 rfl hx8) <| mv (.slice a0.a a0.len a0.cap) rfl <| op_w (pw_call co_11 rfl (CallsR.mono h ?_))
 rintro v4 w7 ⟨x9, rfl, h⟩
 refine op_v (pv_lenS (s := x9) is_44 rfl) <| mv (vi 0) rfl (ops_nil ?_)
 refine WX_block ?_
 obtain ⟨I1, ⟨m, h0⟩, hB2⟩ := h
 refine WX_loop (fun m f w8 => ∃ x10 : Int, Agree f [(7, vp b1 0), (8, .pointer x4), (49, .slice x9.a x9.len x9.cap), (50, vi (x9.len : Int)), (51, vi x10)] /\ I1 m x10 w8) ⟨m, 0, ⟨rfl, rfl, rfl, rfl, rfl, trivial⟩, h0⟩ ?_
 clear h0 m
 rintro m f w8 ⟨x10, ha, h⟩
 obtain ⟨g11, rfl⟩ := canon ha
 replace h := hB2 m x10 w8 h
 clear hB2
 generalize hn_nxt1 : (fun (y0 : Int) (w : World) => ∃ m2, m2 < m /\ I1 m2 y0 w) = nxt1 at h
 refine WX_seq (WX_region ?_)
 refine op_v (pv_cmp (v := decide (x10 < (x9.len : Int))) rfl rfl rfl rfl) (ops_nil ?_)
 refine WX_seq ?_
 refine WX_cond (b := decide (x10 < (x9.len : Int))) rfl (fun hb5 => ?_) (fun hb5 => ?_)
 have h := h.1 hb5
 refine WX_skip ?_
 refine WX_join (fun f w31 => Agree f [(7, vp b1 0), (8, .pointer x4), (49, .slice x9.a x9.len x9.cap), (50, vi (x9.len : Int)), (51, vi x10)] /\ sh_f3_j11 x10 nxt1 w31) ?_ ?_
 refine WX_block ?_
 refine WX_seq (WX_region ?_)
 obtain ⟨b3, o2, hi1, hi2, hi3, h⟩ := h
 refine op_v (pv_ix (s := x9) ez_44 rfl rfl hi1 hi2 hi3) ?_
 obtain ⟨x11, hx11, h⟩ := h
 refine op_v (pv_ld ty_57 rfl hx11) <| op_w (pw_alloc ty_57 tz_57 ?_)
 intro b4 w9 hw4 hw5
 replace h := h b4 w9 hw4 hw5
 refine op_w (pw_st (x := x11) ty_57 rfl rfl h.1 ?_)
 intro w10 hw6
 replace h := h.2 w10 hw6
 refine ops_nil ?_
 refine WX_seq ?_
 obtain ⟨w11, hw7, h⟩ := dwe h
 obtain ⟨b5, o3, hp2, x12, hx12, hs1, x13, hx13, h⟩ := h
 refine WX_dr [9] [0,1,2,4,5,6,7,10] [⟨[],[0,1,2,4,5,6,7],[3,8],[(9,[9,10],1)]⟩,⟨[9],[10],[],[]⟩] [.pointer x4, vp b5 o3, vp b5 (o3 + 4), .slice x12.a x12.len x12.cap, .slice (x12.cut 4 0 (0 : Int).toNat (0 : Int).toNat).a (x12.cut 4 0 (0 : Int).toNat (0 : Int).toNat).len (x12.cut 4 0 (0 : Int).toNat (0 : Int).toNat).cap, .pointer x4, vp b5 o3, vp b5 (o3 + 4), .slice x13.a x13.len x13.cap, un, un] 2 mixed (by kernel_rfl) hw7 ?_
 refine draw_go rfl (pu rfl (pv_move rfl) (pu rfl (pv_nilh rfl hp2) (pu rfl (pv_fld fo_43_2 rfl) (pu rfl (pv_sliceHiMax (s := x12) ez_35 rfl rfl rfl hs1.1 hs1.2.1 hs1.2.2) (pu rfl (pv_move rfl) (pu rfl (pv_nilh rfl hp2) (pu rfl (pv_fld fo_43_2 rfl) ap0))))))) (ro rfl (pv_ld ty_35 rfl hx12) (ro rfl (pv_ld ty_35 rfl hx13) ao0)) rfl ?_
 refine cy rfl rfl ?_
 obtain ⟨ol1, ne1, ha1, ha2, ha3, ha4, ha5, h⟩ := h
 refine pw_append (s := (x12.cut 4 0 (0 : Int).toNat (0 : Int).toNat)) (r := x13) eo_35 is_35 rfl rfl ha1 ha2 ha3 ha4 ha5 ?_
 intro x14 w12 ha6
 replace h := h x14 w12 ha6
 refine nx [.slice x14.a x14.len x14.cap] rfl nl rfl ?_
 refine draw_end rfl (pu rfl (pv_assign rfl) ap0) ao0 ?_
 refine WX_seq (WX_region ?_)
 refine mv (.pointer x4) rfl ?_
 obtain ⟨x15, hx15, h⟩ := h
 refine op_v (pv_ld ty_57 rfl hx15) <| op_w (pw_call co_12 rfl (CallsR.mono h ?_))
 rintro v5 w13 ⟨x16, x17, rfl, h⟩
 refine mv (.tuple #[.slice x16.a x16.len x16.cap, x17.v]) rfl ?_
 refine op_v (pv_extract (vs := [.slice x16.a x16.len x16.cap, x17.v]) (v := .slice x16.a x16.len x16.cap) rfl rfl) ?_
 refine op_v (pv_extract (vs := [.slice x16.a x16.len x16.cap, x17.v]) (v := x17.v) rfl rfl) <| mva (.slice x16.a x16.len x16.cap) rfl ?_
 refine mva x17.v rfl (ops_nil ?_)
 refine WX_seq ?_
 refine WX_join (fun f w14 => ∃ x20 : Bool, Agree f [(7, vp b1 0), (8, .pointer x4), (11, vp b4 0), (12, .slice x14.a x14.len x14.cap), (13, .slice x16.a x16.len x16.cap), (49, .slice x9.a x9.len x9.cap), (50, vi (x9.len : Int)), (51, vi x10), (82, vb x20)] /\ sh_f3_j3 Q b1 x10 nxt1 b4 x14 x16 x20 w14) ?_ ?_
 refine WX_region ?_
 refine op_v (pv_fld fo_57_0 rfl) ?_
 obtain ⟨x18, hx18, h⟩ := h
 refine op_v (pv_ld ty_46 rfl hx18) <| op_v (pv_cmp (v := (x18 != 2)) rfl rfl rfl rfl) <| mv (vb (x18 != 2)) rfl ?_
 refine ops_split 74 (b := (x18 != 2)) rfl (fun hb6 => ?_) (fun hb6 => ?_)
 have h := h.1 hb6
 refine opg_v (pv_fld fo_57_0 rfl) ?_
 obtain ⟨x19, hx19, h⟩ := h
 refine opg_v (pv_ld ty_46 rfl hx19) <| opg_v (pv_cmp (v := (x19 != 3)) rfl rfl rfl rfl) <| op_v (pv_pick (b := true) (v := vb (x19 != 3)) rfl rfl) ?_
 refine mv (vb (x19 != 3)) rfl <| ops_split 79 (b := (x19 != 3)) rfl (fun hb7 => ?_) (fun hb7 => ?_)
 have h := h.1 hb7
 iterate 2 refine opg_no ?_
 refine op_v (pv_pick (b := true) (v := vb true) rfl rfl) (ops_nil ?_)
 exact ⟨true, ⟨rfl, rfl, rfl, rfl, rfl, rfl, rfl, rfl, rfl, trivial⟩, h⟩
 have h := h.2 hb7
 refine opg_v (pv_move (v := x17.v) rfl) <| opg_v (pv_ifnil (e := x17) (v := (!x17.isNil)) ii_30 rfl rfl) ?_
 refine op_v (pv_pick (b := false) (v := vb (!x17.isNil)) rfl rfl) (ops_nil ?_)
 exact ⟨(!x17.isNil), ⟨rfl, rfl, rfl, rfl, rfl, rfl, rfl, rfl, rfl, trivial⟩, h⟩
 have h := h.2 hb6
 iterate 3 refine opg_no ?_
 refine op_v (pv_pick (b := false) (v := vb false) rfl rfl) <| mv (vb false) rfl <| opg_v (pv_move (v := x17.v) rfl) ?_
 refine opg_v (pv_ifnil (e := x17) (v := (!x17.isNil)) ii_30 rfl rfl) <| op_v (pv_pick (b := false) (v := vb (!x17.isNil)) rfl rfl) (ops_nil ?_)
 exact ⟨(!x17.isNil), ⟨rfl, rfl, rfl, rfl, rfl, rfl, rfl, rfl, rfl, trivial⟩, h⟩
 rintro f w14 ⟨x20, ha, h⟩
 obtain ⟨g2, rfl⟩ := canon ha
 refine WX_cond (b := x20) rfl (fun hb8 => ?_) (fun hb8 => ?_)
 have h := h.1 hb8
 refine WX_exit0 ?_
 exact ⟨⟨rfl, rfl, rfl, rfl, rfl, trivial⟩, h⟩
 have h := h.2 hb8
 refine WX_skip <| WX_seq (WX_region ?_)
 obtain ⟨x21, hx21, h⟩ := h
 refine op_v (pv_ld ty_26 rfl hx21) <| op_v (pv_fld fo_57_4 rfl) ?_
 obtain ⟨x22, hx22, h⟩ := h
 refine op_v (pv_ld ty_55 rfl hx22) <| op_w (pw_call co_13 rfl (CallsR.mono h ?_))
 rintro v6 w15 ⟨x23, x24, rfl, h⟩
 refine mv (.tuple #[.slice x23.a x23.len x23.cap, x24.v]) rfl ?_
 refine op_v (pv_extract (vs := [.slice x23.a x23.len x23.cap, x24.v]) (v := .slice x23.a x23.len x23.cap) rfl rfl) ?_
 refine op_v (pv_extract (vs := [.slice x23.a x23.len x23.cap, x24.v]) (v := x24.v) rfl rfl) <| mva (.slice x23.a x23.len x23.cap) rfl ?_
 refine mva x24.v rfl (ops_nil ?_)
 refine WX_join (fun f w16 => ∃ x27 : Sl, Agree f [(7, vp b1 0), (8, .pointer x4), (11, vp b4 0), (12, .slice x14.a x14.len x14.cap), (13, .slice x16.a x16.len x16.cap), (15, .slice x27.a x27.len x27.cap), (49, .slice x9.a x9.len x9.cap), (50, vi (x9.len : Int)), (51, vi x10)] /\ sh_f3_j4 Q x10 nxt1 b4 x14 x16 x27 w16) ?_ ?_
 refine WX_seq (WX_region ?_)
 refine op_v (pv_fld fo_57_0 rfl) ?_
 obtain ⟨x25, hx25, h⟩ := h
 refine op_v (pv_ld ty_46 rfl hx25) <| op_v (pv_cmp (v := (x25 == 2)) rfl rfl rfl rfl) (ops_nil ?_)
 refine WX_cond (b := (x25 == 2)) rfl (fun hb9 => ?_) (fun hb9 => ?_)
 have h := h.1 hb9
 refine WX_region ?_
 refine op_v (pv_fld fo_57_3 rfl) <| op_v (pv_fld fo_53_4 rfl) ?_
 obtain ⟨x26, hx26, h⟩ := h
 refine op_v (pv_ld ty_51 rfl hx26) <| mva (.slice x26.a x26.len x26.cap) rfl (ops_nil ?_)
 exact ⟨x26, ⟨rfl, rfl, rfl, rfl, rfl, rfl, rfl, rfl, rfl, trivial⟩, h⟩
 have h := h.2 hb9
 refine WX_skip ?_
 exact ⟨x23, ⟨rfl, rfl, rfl, rfl, rfl, rfl, rfl, rfl, rfl, trivial⟩, h⟩
 rintro f w16 ⟨x27, ha, h⟩
 obtain ⟨g9, rfl⟩ := canon ha
 refine WX_seq (WX_region ?_)
 refine mva (vi 0) rfl (ops_nil ?_)
 refine WX_join (fun f w30 => ∃ x45 : Int, Agree f [(7, vp b1 0), (8, .pointer x4), (13, .slice x16.a x16.len x16.cap), (17, vi x45), (49, .slice x9.a x9.len x9.cap), (50, vi (x9.len : Int)), (51, vi x10)] /\ sh_f3_j10 Q x10 nxt1 x16 x45 w30) ?_ ?_
 refine WX_seq (WX_region ?_)
 refine mv (.slice x27.a x27.len x27.cap) rfl <| op_v (pv_lenS (s := x27) is_51 rfl) <| mv (vi 0) rfl (ops_nil ?_)
 refine WX_block ?_
 obtain ⟨I2, ⟨m, h0⟩, hB1⟩ := h
 refine WX_loop (fun m f w17 => ∃ x28 : Int, ∃ x29 : Int, Agree f [(7, vp b1 0), (8, .pointer x4), (11, vp b4 0), (12, .slice x14.a x14.len x14.cap), (13, .slice x16.a x16.len x16.cap), (17, vi x28), (49, .slice x9.a x9.len x9.cap), (50, vi (x9.len : Int)), (51, vi x10), (96, .slice x27.a x27.len x27.cap), (97, vi (x27.len : Int)), (98, vi x29)] /\ I2 m x28 x29 w17) ⟨m, 0, 0, ⟨rfl, rfl, rfl, rfl, rfl, rfl, rfl, rfl, rfl, rfl, rfl, rfl, trivial⟩, h0⟩ ?_
 clear h0 m
 rintro m f w17 ⟨x28, x29, ha, h⟩
 obtain ⟨g7, rfl⟩ := canon ha
 replace h := hB1 m x28 x29 w17 h
 clear hB1
 generalize hn_nxt2 : (fun (y0 : Int) (y1 : Int) (w : World) => ∃ m2, m2 < m /\ I2 m2 y0 y1 w) = nxt2 at h
 refine WX_seq (WX_region ?_)
 refine op_v (pv_cmp (v := decide (x29 < (x27.len : Int))) rfl rfl rfl rfl) (ops_nil ?_)
 refine WX_seq ?_
 refine WX_cond (b := decide (x29 < (x27.len : Int))) rfl (fun hb10 => ?_) (fun hb10 => ?_)
 have h := h.1 hb10
 refine WX_skip ?_
 refine WX_join (fun f w29 => ∃ x44 : Int, Agree f [(7, vp b1 0), (8, .pointer x4), (11, vp b4 0), (12, .slice x14.a x14.len x14.cap), (13, .slice x16.a x16.len x16.cap), (17, vi x44), (49, .slice x9.a x9.len x9.cap), (50, vi (x9.len : Int)), (51, vi x10), (96, .slice x27.a x27.len x27.cap), (97, vi (x27.len : Int)), (98, vi x29)] /\ sh_f3_j9 x29 nxt2 x44 w29) ?_ ?_
 refine WX_block ?_
 refine WX_seq (WX_region ?_)
 obtain ⟨b6, o4, hi4, hi5, hi6, h⟩ := h
 refine op_v (pv_ix (s := x27) ez_51 rfl rfl hi4 hi5 hi6) ?_
 obtain ⟨x30, hx30, h⟩ := h
 refine op_v (pv_ld ty_3 rfl hx30) <| mva (vi x30) rfl (ops_nil ?_)
 refine WX_seq ?_
 refine WX_join (fun f w18 => ∃ x31 : Bool, Agree f [(7, vp b1 0), (8, .pointer x4), (11, vp b4 0), (12, .slice x14.a x14.len x14.cap), (13, .slice x16.a x16.len x16.cap), (17, vi x28), (19, vi x30), (49, .slice x9.a x9.len x9.cap), (50, vi (x9.len : Int)), (51, vi x10), (96, .slice x27.a x27.len x27.cap), (97, vi (x27.len : Int)), (98, vi x29), (109, vb x31)] /\ sh_f3_j6 Q b4 x14 x16 x28 x29 nxt2 x30 x31 w18) ?_ ?_
 refine WX_region ?_
 refine mv (vi x30) rfl <| op_v (pv_cmp (v := decide (x30 < 0)) rfl rfl rfl rfl) <| mv (vb (decide (x30 < 0))) rfl ?_
 refine ops_split 104 (b := decide (x30 < 0)) rfl (fun hb11 => ?_) (fun hb11 => ?_)
 have h := h.1 hb11
 iterate 4 refine opg_no ?_
 refine op_v (pv_pick (b := true) (v := vb true) rfl rfl) (ops_nil ?_)
 exact ⟨true, ⟨rfl, rfl, rfl, rfl, rfl, rfl, rfl, rfl, rfl, rfl, rfl, rfl, rfl, rfl, trivial⟩, h⟩
 have h := h.2 hb11
 refine opg_v (pv_move (v := vi x30) rfl) <| opg_v (pv_move (v := .slice x14.a x14.len x14.cap) rfl) <| opg_v (pv_lenS (s := x14) is_35 rfl) ?_
 refine opg_v (pv_cmp (v := decide (x30 ≥ (x14.len : Int))) rfl rfl rfl rfl) ?_
 refine op_v (pv_pick (b := false) (v := vb (decide (x30 ≥ (x14.len : Int)))) rfl rfl) (ops_nil ?_)
 exact ⟨decide (x30 ≥ (x14.len : Int)), ⟨rfl, rfl, rfl, rfl, rfl, rfl, rfl, rfl, rfl, rfl, rfl, rfl, rfl, rfl, trivial⟩, h⟩
 rintro f w18 ⟨x31, ha, h⟩
 obtain ⟨g3, rfl⟩ := canon ha
 refine WX_cond (b := x31) rfl (fun hb12 => ?_) (fun hb12 => ?_)
 have h := h.1 hb12
 refine WX_seq (WX_region ?_)
 refine mva (vb false) rfl (ops_nil ?_)
 refine WX_ret ?_
 exact fin_of [vb false] rfl ⟨rfl, trivial⟩ h
 have h := h.2 hb12
 refine WX_skip <| WX_seq (WX_region ?_)
 refine mv (.slice x14.a x14.len x14.cap) rfl <| mv (vi x30) rfl <| op_w (pw_call co_14 rfl (CallsR.mono h ?_))
 rintro v7 w19 ⟨x32, x33, rfl, h⟩
 refine mv (.tuple #[vu x32, vb x33]) rfl <| op_v (pv_extract (vs := [vu x32, vb x33]) (v := vu x32) rfl rfl) ?_
 refine op_v (pv_extract (vs := [vu x32, vb x33]) (v := vb x33) rfl rfl) <| mva (vu x32) rfl <| mva (vb x33) rfl (ops_nil ?_)
 refine WX_seq (WX_region ?_)
 refine mv (vi x30) rfl <| mv (vu x32) rfl <| mv (vb x33) rfl ?_
 refine op_v (pv_build (cs := t_store_Change.enc (⟨2, 0, 0, x30, x32, x33⟩ : G_store_Change)) (vs := [(0, vi 2), (3, vi x30), (4, vu x32), (5, vb x33)]) rfl (by kernel_rfl)) ?_
 refine op_w (pw_alloc ty_66 tz_66 ?_)
 intro b7 w20 hw8 hw9
 replace h := h b7 w20 hw8 hw9
 refine op_w (pw_st (x := (⟨2, 0, 0, x30, x32, x33⟩ : G_store_Change)) ty_66 rfl rfl h.1 ?_)
 intro w21 hw10
 replace h := h.2 w21 hw10
 refine ops_nil ?_
 refine WX_seq (WX_region ?_)
 refine mv (.slice x14.a x14.len x14.cap) rfl <| mv (vi x30) rfl ?_
 obtain ⟨b8, o5, hi7, hi8, hi9, h⟩ := h
 refine op_v (pv_ix (s := x14) ez_35 rfl rfl hi7 hi8 hi9) <| op_v (pv_fld fo_68_3 rfl) ?_
 obtain ⟨x34, hx34, h⟩ := h
 refine op_v (pv_ld ty_4 rfl hx34) <| op_v (pv_not rfl) <| mva (vb (!x34)) rfl (ops_nil ?_)
 refine WX_join (fun f w26 => ∃ x40 : Bool, Agree f [(7, vp b1 0), (8, .pointer x4), (11, vp b4 0), (12, .slice x14.a x14.len x14.cap), (13, .slice x16.a x16.len x16.cap), (17, vi x28), (22, vp b7 0), (23, vb x40), (49, .slice x9.a x9.len x9.cap), (50, vi (x9.len : Int)), (51, vi x10), (96, .slice x27.a x27.len x27.cap), (97, vi (x27.len : Int)), (98, vi x29)] /\ sh_f3_j7 Q x16 x28 x29 nxt2 b7 x40 w26) ?_ ?_
 refine WX_seq (WX_region ?_)
 refine op_v (pv_fld fo_57_0 rfl) ?_
 obtain ⟨x35, hx35, h⟩ := h
 refine op_v (pv_ld ty_46 rfl hx35) <| op_v (pv_cmp (v := (x35 == 2)) rfl rfl rfl rfl) (ops_nil ?_)
 refine WX_cond (b := (x35 == 2)) rfl (fun hb15 => ?_) (fun hb15 => ?_)
 have h := h.1 hb15
 refine WX_seq ?_
 obtain ⟨w22, hw11, h⟩ := dwe h
 obtain ⟨x36, hx36, h⟩ := h
 refine WX_dr [4,6] [0,1,3,5] [⟨[],[0,1,3],[2],[(4,[4,5],1)]⟩,⟨[4],[5],[2],[(6,[6],2)]⟩,⟨[6,4],[],[],[]⟩] [vp b4 7, vp b4 8, vu x36, vp b7 0, un, un, un] 3 mixed (by kernel_rfl) hw11 ?_
 refine draw_go rfl (pu rfl (pv_fld fo_57_3 rfl) (pu rfl (pv_fld fo_53_1 rfl) (pu rfl (pv_fld fo_66_0 rfl) ap0))) (ro rfl (pv_ld ty_36 rfl hx36) ao0) rfl ?_
 refine cy rfl rfl ?_
 refine pw_st (x := 1) ty_64 rfl rfl h.1 ?_
 intro w23 hw12
 replace h := h.2 w23 hw12
 obtain ⟨hc1, h⟩ := h
 refine nx [vp b7 1] rfl nl rfl ?_
 refine draw_go rfl (pu rfl (pv_fld fo_66_1 rfl) ap0) (ro rfl (pv_ld ty_36 rfl hc1) ao0) rfl ?_
 refine cy rfl rfl ?_
 refine pw_st (x := x36) ty_36 rfl rfl h.1 ?_
 intro w24 hw13
 replace h := h.2 w24 hw13
 refine nx [] rfl nl rfl ?_
 refine draw_end rfl ap0 ao0 ?_
 obtain ⟨w25, hw14, h⟩ := dwe h
 refine dr_split (b := (!x34)) (fun hb13 => ?_) (fun hb13 => ?_)
 have h := h.1 hb13
 obtain ⟨b9, o6, hi10, hi11, hi12, x37, hx37, h⟩ := h
 refine dr_split (b := (!x37)) (fun hb14 => ?_) (fun hb14 => ?_)
 have h := h.1 hb14
 refine WX_dr [] [0,1,2,3,4,5,7,8,9,10,11,12,14,15,16,18,19,20,21] [⟨[],[0,1,2,3,4,5,7,8,9,10,11,12,14,15,16,18,19,20,21],[6,13,17],[]⟩] [vb true, vb true, .slice x14.a x14.len x14.cap, vi x30, vp b9 (o6 + (x30).toNat * 4), vp b9 ((o6 + (x30).toNat * 4) + 0), vb x37, vb true, vb true, un, un, un, un, un, un, un, un, un, un, vb true, vb true, vb true] 1 mixed (by kernel_rfl) hw14 ?_
 refine draw_end rfl (pu rfl (pv_move (by first | rfl | exact congrArg Value.bool hb13)) (pu rfl (pv_move (by first | rfl | exact congrArg Value.bool hb13)) (pu rfl (pv_move rfl) (pu rfl (pv_move rfl) (pu rfl (pv_ix (s := x14) ez_35 rfl rfl hi10 hi11 hi12) (pu rfl (pv_fld fo_68_0 rfl) (pu rfl (pv_notE rfl (by exact hb14)) (pu rfl (pv_move (by first | rfl | exact congrArg Value.bool hb14)) (pn (pn (pn (pn (pn (pn (pn (pn (pu rfl (pv_pick (b := true) (v := vb true) rfl rfl) (pu rfl (pv_pick (b := true) (v := vb true) rfl rfl) (pu rfl (pv_assign rfl) ap0))))))))))))))))))) (ro rfl (pv_ld ty_4 rfl hx37) (rn (rn ao0))) ?_
 exact ⟨true, ⟨rfl, rfl, rfl, rfl, rfl, rfl, rfl, rfl, rfl, rfl, rfl, rfl, rfl, rfl, trivial⟩, h⟩
 have h := h.2 hb14
 obtain ⟨b10, o7, hi13, hi14, hi15, x38, hx38, x39, hx39, h⟩ := h
 refine WX_dr [] [0,1,2,3,4,5,7,8,9,10,11,12,14,15,16,18,19,20,21] [⟨[],[0,1,2,3,4,5,7,8,9,10,11,12,14,15,16,18,19,20,21],[6,13,17],[]⟩] [vb true, vb true, .slice x14.a x14.len x14.cap, vi x30, vp b9 (o6 + (x30).toNat * 4), vp b9 ((o6 + (x30).toNat * 4) + 0), vb x37, vb false, vb false, .slice x14.a x14.len x14.cap, vi x30, vp b10 (o7 + (x30).toNat * 4), vp b10 ((o7 + (x30).toNat * 4) + 1), vi x38, vp b4 7, vp b4 11, vp b4 11, vi x39, vb (decide (x38 < x39)), vb (decide (x38 < x39)), vb (decide (x38 < x39)), vb (decide (x38 < x39))] 1 mixed (by kernel_rfl) hw14 ?_
 refine draw_end rfl (pu rfl (pv_move (by first | rfl | exact congrArg Value.bool hb13)) (pu rfl (pv_move (by first | rfl | exact congrArg Value.bool hb13)) (pu rfl (pv_move rfl) (pu rfl (pv_move rfl) (pu rfl (pv_ix (s := x14) ez_35 rfl rfl hi10 hi11 hi12) (pu rfl (pv_fld fo_68_0 rfl) (pu rfl (pv_notE rfl (by exact hb14)) (pu rfl (pv_move (by first | rfl | exact congrArg Value.bool hb14)) (pu rfl (pv_move rfl) (pu rfl (pv_move rfl) (pu rfl (pv_ix (s := x14) ez_35 rfl rfl hi13 hi14 hi15) (pu rfl (pv_fld fo_68_1 rfl) (pu rfl (pv_fld fo_57_3 rfl) (pu rfl (pv_fld fo_53_3 rfl) (pu rfl (pv_fld fo_38_0 rfl) (pu rfl (pv_cmp (v := decide (x38 < x39)) rfl rfl rfl rfl) (pu rfl (pv_pick (b := false) (v := vb (decide (x38 < x39))) rfl rfl) (pu rfl (pv_pick (b := true) (v := vb (decide (x38 < x39))) rfl rfl) (pu rfl (pv_assign rfl) ap0))))))))))))))))))) (ro rfl (pv_ld ty_4 rfl hx37) (ro rfl (pv_ld ty_3 rfl hx38) (ro rfl (pv_ld ty_3 rfl hx39) ao0))) ?_
 exact ⟨decide (x38 < x39), ⟨rfl, rfl, rfl, rfl, rfl, rfl, rfl, rfl, rfl, rfl, rfl, rfl, rfl, rfl, trivial⟩, h⟩
 have h := h.2 hb13
 refine WX_dr [] [0,1,2,3,4,5,7,8,9,10,11,12,14,15,16,18,19,20,21] [⟨[],[0,1,2,3,4,5,7,8,9,10,11,12,14,15,16,18,19,20,21],[6,13,17],[]⟩] [vb false, vb false, un, un, un, un, un, un, un, un, un, un, un, un, un, un, un, un, un, un, vb false, vb false] 1 mixed (by kernel_rfl) hw14 ?_
 refine draw_end rfl (pu rfl (pv_move (by first | rfl | exact congrArg Value.bool hb13)) (pu rfl (pv_move (by first | rfl | exact congrArg Value.bool hb13)) (pn (pn (pn (pn (pn (pn (pn (pn (pn (pn (pn (pn (pn (pn (pn (pu rfl (pv_pick (b := false) (v := vb false) rfl rfl) (pu rfl (pv_assign rfl) ap0))))))))))))))))))) (rn (rn (rn ao0))) ?_
 exact ⟨false, ⟨rfl, rfl, rfl, rfl, rfl, rfl, rfl, rfl, rfl, rfl, rfl, rfl, rfl, rfl, trivial⟩, h⟩
 have h := h.2 hb15
 refine WX_skip ?_
 exact ⟨(!x34), ⟨rfl, rfl, rfl, rfl, rfl, rfl, rfl, rfl, rfl, rfl, rfl, rfl, rfl, rfl, trivial⟩, h⟩
 rintro f w26 ⟨x40, ha, h⟩
 obtain ⟨g5, rfl⟩ := canon ha
 refine WX_seq ?_
 refine WX_seq (WX_region ?_)
 refine mv (vb x40) rfl <| op_v (pv_not rfl) (ops_nil ?_)
 refine WX_cond (b := (!x40)) rfl (fun hb16 => ?_) (fun hb16 => ?_)
 have h := h.1 hb16
 refine WX_exit0 ?_
 exact ⟨x28, ⟨rfl, rfl, rfl, rfl, rfl, rfl, rfl, rfl, rfl, rfl, rfl, rfl, trivial⟩, h⟩
 have h := h.2 hb16
 refine WX_skip <| WX_seq ?_
 refine WX_join (fun f w28 => ∃ x43 : Bool, Agree f [(7, vp b1 0), (8, .pointer x4), (11, vp b4 0), (12, .slice x14.a x14.len x14.cap), (13, .slice x16.a x16.len x16.cap), (17, vi x28), (49, .slice x9.a x9.len x9.cap), (50, vi (x9.len : Int)), (51, vi x10), (96, .slice x27.a x27.len x27.cap), (97, vi (x27.len : Int)), (98, vi x29), (168, vb x43)] /\ sh_f3_j8 Q x28 x29 nxt2 x43 w28) ?_ ?_
 obtain ⟨w27, hw15, h⟩ := dwe h
 refine dr_split (b := decide (x28 ≥ (x16.len : Int))) (fun hb17 => ?_) (fun hb17 => ?_)
 have h := h.1 hb17
 refine WX_dr [] [0,1,2,3,4,5,6,7,10,11] [⟨[],[0,1,2,3,4,5,6,7,10,11],[8,9],[]⟩] [vi x28, .slice x16.a x16.len x16.cap, vi (x16.len : Int), vb true, vb true, un, un, un, un, un, un, vb true] 1 mixed (by kernel_rfl) hw15 ?_
 refine draw_end rfl (pu rfl (pv_move rfl) (pu rfl (pv_move rfl) (pu rfl (pv_lenS (s := x16) is_41 rfl) (pu rfl (pv_cmp (v := true) rfl rfl rfl (by exact hb17)) (pu rfl (pv_move (by first | rfl | exact congrArg Value.bool hb17)) (pn (pn (pn (pn (pu rfl (pv_pick (b := true) (v := vb true) rfl rfl) ap0)))))))))) (rn (rn ao0)) ?_
 exact ⟨true, ⟨rfl, rfl, rfl, rfl, rfl, rfl, rfl, rfl, rfl, rfl, rfl, rfl, rfl, trivial⟩, h⟩
 have h := h.2 hb17
 obtain ⟨b11, o8, hi16, hi17, hi18, x41, hx41, x42, hx42, h⟩ := h
 refine WX_dr [] [0,1,2,3,4,5,6,7,10,11] [⟨[],[0,1,2,3,4,5,6,7,10,11],[8,9],[]⟩] [vi x28, .slice x16.a x16.len x16.cap, vi (x16.len : Int), vb false, vb false, .slice x16.a x16.len x16.cap, vi x28, vp b11 (o8 + (x28).toNat * 6), t_store_Change.val x41, t_store_Change.val x42, vb (!eq_store_Change x41 x42), vb (!eq_store_Change x41 x42)] 1 mixed (by kernel_rfl) hw15 ?_
 refine draw_end rfl (pu rfl (pv_move rfl) (pu rfl (pv_move rfl) (pu rfl (pv_lenS (s := x16) is_41 rfl) (pu rfl (pv_cmp (v := false) rfl rfl rfl (by exact hb17)) (pu rfl (pv_move (by first | rfl | exact congrArg Value.bool hb17)) (pu rfl (pv_move rfl) (pu rfl (pv_move rfl) (pu rfl (pv_ix (s := x16) ez_41 rfl rfl hi16 hi17 hi18) (pu rfl (pv_eqS (v := (!eq_store_Change x41 x42)) eqk_66 (eqf_66 x41 x42) rfl rfl rfl) (pu rfl (pv_pick (b := false) (v := vb (!eq_store_Change x41 x42)) rfl rfl) ap0)))))))))) (ro rfl (pv_ld ty_66 rfl hx41) (ro rfl (pv_ld ty_66 rfl hx42) ao0)) ?_
 exact ⟨(!eq_store_Change x41 x42), ⟨rfl, rfl, rfl, rfl, rfl, rfl, rfl, rfl, rfl, rfl, rfl, rfl, rfl, trivial⟩, h⟩
 rintro f w28 ⟨x43, ha, h⟩
 obtain ⟨g4, rfl⟩ := canon ha
 refine WX_cond (b := x43) rfl (fun hb18 => ?_) (fun hb18 => ?_)
 have h := h.1 hb18
 refine WX_seq (WX_region ?_)
 refine mva (vb false) rfl (ops_nil ?_)
 refine WX_ret ?_
 exact fin_of [vb false] rfl ⟨rfl, trivial⟩ h
 have h := h.2 hb18
 refine WX_skip ?_
 refine WX_region ?_
 refine mv (vi x28) rfl <| op_v (pv_add rfl rfl) <| mva (vi (IntKind.i64.wrap (x28 + 1))) rfl (ops_nil ?_)
 exact ⟨(IntKind.i64.wrap (x28 + 1)), ⟨rfl, rfl, rfl, rfl, rfl, rfl, rfl, rfl, rfl, rfl, rfl, rfl, trivial⟩, h⟩
 rintro f w29 ⟨x44, ha, h⟩
 obtain ⟨g6, rfl⟩ := canon ha
 refine WX_region ?_
 refine op_v (pv_add rfl rfl) <| mv (vi (IntKind.i64.wrap (x29 + 1))) rfl (ops_nil ?_)
 subst hn_nxt2
 obtain ⟨m2, hm2, h⟩ := h
 exact ⟨m2, hm2, x44, (IntKind.i64.wrap (x29 + 1)), ⟨rfl, rfl, rfl, rfl, rfl, rfl, rfl, rfl, rfl, rfl, rfl, rfl, trivial⟩, h⟩
 have h := h.2 hb10
 refine WX_exit0 ?_
 exact ⟨x28, ⟨rfl, rfl, rfl, rfl, rfl, rfl, rfl, trivial⟩, h⟩
 rintro f w30 ⟨x45, ha, h⟩
 obtain ⟨g8, rfl⟩ := canon ha
 refine WX_seq (WX_region ?_)
 refine mv (vi x45) rfl <| mv (.slice x16.a x16.len x16.cap) rfl <| op_v (pv_lenS (s := x16) is_41 rfl) ?_
 refine op_v (pv_cmp (v := (x45 != (x16.len : Int))) rfl rfl rfl rfl) (ops_nil ?_)
 refine WX_cond (b := (x45 != (x16.len : Int))) rfl (fun hb19 => ?_) (fun hb19 => ?_)
 have h := h.1 hb19
 refine WX_seq (WX_region ?_)
 refine mva (vb false) rfl (ops_nil ?_)
 refine WX_ret ?_
 exact fin_of [vb false] rfl ⟨rfl, trivial⟩ h
 have h := h.2 hb19
 refine WX_skip ?_
 exact ⟨⟨rfl, rfl, rfl, rfl, rfl, trivial⟩, h⟩
 rintro f w31 ⟨ha, h⟩
 obtain ⟨g10, rfl⟩ := canon ha
 refine WX_region ?_
 refine op_v (pv_add rfl rfl) <| mv (vi (IntKind.i64.wrap (x10 + 1))) rfl (ops_nil ?_)
 subst hn_nxt1
 obtain ⟨m2, hm2, h⟩ := h
 exact ⟨m2, hm2, (IntKind.i64.wrap (x10 + 1)), ⟨rfl, rfl, rfl, rfl, rfl, trivial⟩, h⟩
 have h := h.2 hb5
 refine WX_exit0 ?_
 exact ⟨ag0, h⟩
 rintro f w32 ⟨ha, h⟩
 obtain ⟨g12, rfl⟩ := canon ha
 refine WX_seq (WX_region ?_)
 refine mva (vb true) rfl (ops_nil ?_)
 refine WX_ret ?_
 exact fin_of [vb true] rfl ⟨rfl, trivial⟩ h
end Go.Proofs.Ytdefmgkicdhmkaa
set_option maxRecDepth 512
set_option maxHeartbeats 200000
namespace Go.Proofs.Ytdefmgkicdhmkaa
open Go Go.Sx
set_option linter.unusedVariables false
theorem app_copy0 {α : Type} {T : Ty α} {sz by' : Nat} {e : TypeId} {w : World} {a : Option Addr} {r : Sl} {ys : List α} {K : Sl -> World -> Prop} {D : Nat -> Prop} (hz : ∀ x, (T.enc x).length = sz) (hp : ∀ x, ∀ v ∈ T.enc x, plain v = true)
  (hr : SlIs T D w r ys) (hcap : ys.length * 4 * (by' + 1) <= 2 ^ 47) (k : ∀ s' w', Gr w w' -> OwnS T sz w.heap.size w' s' ys -> K s' w') : app e sz by' w ⟨a, 0, 0⟩ r K := by
 refine (show OwnS T sz w.heap.size w ⟨a, 0, 0⟩ [] from ⟨rfl, Nat.le_refl _, .inl rfl⟩).app hz hp hr (Nat.le_refl _) (by simpa using hcap) fun s' w' k' ho => ?_
 exact k s' w' (Gr.local (Gr.refl w) k' fun i h => h.1) (by simpa using ho)
def tell (kind : Int) (e : AEvent) (vs : List G_latest_Entry) (k : Int) : List G_store_Change := if kind = 2 then AStore.tell1 e.vote.tgt.Epoch e.vote.head vs k else AStore.tell2 vs k
theorem tell_one {kind : Int} {e : AEvent} {vs : List G_latest_Entry} {k : Int} : tell kind e vs k = [] \/ ∃ c, tell kind e vs k = [c] := by
 unfold tell AStore.tell1 AStore.tell2
 split
 ·split
  ·exact .inr ⟨_, rfl⟩
  ·exact .inl rfl
 ·split
  ·exact .inr ⟨_, rfl⟩
  ·exact .inl rfl
theorem eq_change_refl (c : G_store_Change) : eq_store_Change c c = true := by simp [eq_store_Change]
set_option maxHeartbeats 1000000 in
theorem c_StoreVotes {w : World} {a0 a1 : Sl} {a2 : Int} {xs0 xs1 : List Int} {D0 D1 : Nat -> Prop} {Q : QW} (h0 : SlIs tU8 D0 w a0 xs0) (h1 : SlIs tU8 D1 w a1 xs1) (r0 : ∀ x ∈ xs0, 0 <= x /\ x <= 255) (r1 : ∀ x ∈ xs1, 0 <= x /\ x <= 255) (r2 : 0 <= a2 /\ a2 <= 255)
  (hQ : ∀ w', Gr w w' -> Q (.bool true) w') : CallsR PP n_f3 #[.slice a0.a a0.len a0.cap, .slice a1.a a1.len a1.cap, .int .u8 a2] Q w := by
 refine so_f3 _ _ ?_
 unfold sh_f3
 refine law_go h0 h1 r0 r1 r2 (sh_f3_j1 a0 Q) (fun b1 x4 x9 => sh_f3_b2 Q b1 x4 x9)
  (fun b1 x4 b4 x10 nxt1 w10 => dw w10 fun w11 => nc x4 fun b5 o3 => ld tSl w11 b5 (o3 + 4) fun x12 => chkp ((0 : Int) <= 0 /\ (0 : Int) <= 0 /\ 0 <= (x12.cap : Int)) <| ld tSl w11 b5 (o3 + 4) fun x13 => app 68 4 32 w11 (x12.cut 4 0 (0 : Int).toNat (0 : Int).toNat) x13 fun x14 w12 => ld t_api_Event w12 b4 0 fun x15 => CallsR PP n_f12 #[.pointer x4, t_api_Event.val x15] (fun v5 w13 => ∃ x16 : Sl, ∃ x17 : Ifc, v5 = .tuple #[.slice x16.a x16.len x16.cap, x17.v] /\ (ld tI64 w13 b4 0 fun x18 => br (x18 != 2) (ld tI64 w13 b4 0 fun x19 => br (x19 != 3) ((sh_f3_j3 Q b1 x10 nxt1 b4 x14 x16 true w13)) ((sh_f3_j3 Q b1 x10 nxt1 b4 x14 x16 (!x17.isNil) w13))) ((sh_f3_j3 Q b1 x10 nxt1 b4 x14 x16 (!x17.isNil) w13)))) w12)
  (fun b1 x4 w6 h => br_f rfl h) (fun b1 x4 x9 x10 w8 nxt h => h) hQ ?_
 intro w1 b1 sb b4 i nxt O I J gc A cs ge e v i0 i1 hb4 hO hnx
 refine dw_i fun w11 e11 g11 => ?_
 have hst := v.st.grow g11
 have st := hst
 obtain ⟨g, tb, tr, vb, lr, gr, gl, r⟩ := st
 have cV : CellsAt w11 sb 4 (tSl.enc g.Votes) := r.cells.sub 4 1
 have hvo := r.inO.2.2.2.1
 have hvs := r.votes.is
 have hvl := v.wf.vlen
 have hbl := v.wf.bal.1
 clear r
 refine ⟨sb, 0, rfl, ld_i cV ⟨by omega, ld_i cV ?_⟩⟩
 refine app_copy0 (fun _ => rfl) (fun x v hv => by simp at hv; rcases hv with rfl | rfl | rfl | rfl <;> rfl) hvs (by omega) fun s0 w12 g12 ho => ?_
 have G12 := g11.trans g12
 have z11 := g11.size; have z12 := g12.size
 have hOl := v.st.lt
 refine ld_i (v.ecell.gr G12) (c_Apply (hst.grow g12) v.wf (v.ev.gr G12) (fun b hb => (v.JO b hb).1) fun w13 O' I' s' gw hI' st' hsl => ⟨s', errV (A.applyErr e), rfl, ?_⟩)
 have ec : CellsAt w13 b4 0 (t_api_Event.enc ge) := (v.ecell.gr G12).keeps gw.1 v.O4
 have hw0 : SlIs t_latest_Entry (fun b => w11.heap.size <= b /\ b < w12.heap.size) w13 s0 A.votes := ((SlIs.bnd 4 (fun _ => rfl) (by decide) ho.is).keeps gw.1 fun b hb ho => by have := hOl b ho; omega)
 have z13 := gw.1.size
 have go : ∀ w', Gr w13 w' -> sh_f3_j11 i nxt w' := fun w' G => by
  refine hnx w' O' I' _ (Keeps.local (Keeps.local (Gr.keeps G12) gw.1 fun j hb => .inr (.inl hb)) (Gr.keeps (S := fun _ => False) G) fun j f => f.elim) (fun b hb => ?_) (st'.grow G)
  rcases gw.2 b hb with h | h
  ·exact .inl h
  ·exact .inr (by omega)
 have hkk : ge.Kind = e.kind := v.ev.kind
 have skip : sh_f3_j3 Q b1 i nxt b4 s0 s' true w13 := br_t rfl (go w13 (Gr.refl _))
 have main : A.applyErr e = 0 -> (e.kind = 2 \/ e.kind = 3) -> sh_f3_j3 Q b1 i nxt b4 s0 s' false w13 := by
  intro he hk
  unfold sh_f3_j3
  have cc : CellsAt w13 b1 0 (t_api_Config.enc gc) := (v.cell.gr G12).keeps gw.1 v.O1.1
  have hcfg : CfgIs J w13 gc A.cfg := (v.cfg.gr G12).keeps gw.1 fun b hb => (v.JO b hb).1
  have hev : EventIs J w13 ge e := (v.ev.gr G12).keeps gw.1 fun b hb => (v.JO b hb).1
  refine br_f rfl (ld_i (x := gc) cc (ld_i (x := ge.Proof) (ec.sub 14 14) (c_slash_Who hcfg hbl hev.pa hev.pb fun s2 w15 g15 hwho => ⟨s2, errV (if (proofWho A.cfg e.proof).isSome then 0 else 11), ?_, ?_⟩)))
  ·rw [errV_v]
   cases (proofWho A.cfg e.proof).isSome <;> rfl
  have ec15 := ec.gr g15
  have hsl15 := hsl.gr g15
  have J4 : ∀ (s3 : Sl) (who : List Int) (D : Nat -> Prop), SlIs tI64 D w15 s3 who -> who.Pairwise (· < ·) -> (∀ x ∈ who, 0 <= x /\ x < (A.cfg.bal.length : Int)) -> who.length <= A.cfg.bal.length -> (A.apply e).1 = who.flatMap (tell e.kind e A.votes) -> sh_f3_j4 Q i nxt b4 s0 s' s3 w15 := by
   intro s3 who D hs3 p1 p2 hwl htold
   have h3l := hs3.1
   have h0l := hw0.1
   have hsl1 := hsl.1
   unfold sh_f3_j4
   refine loop2 (sh_f3_b5 Q i nxt b4 s0 s' s3) (fun m n j w' => 0 <= j /\ j.toNat <= who.length /\ m = who.length - j.toNat /\ Gr w15 w' /\ n = (((who.take j.toNat).flatMap (tell e.kind e A.votes)).length : Int))
    ⟨_, by omega, by simp, rfl, Gr.refl _, by simp⟩ ?_
   rintro m n j w17 nx2 ⟨j0, j1, rfl, g17, hn⟩ hnx2
   have hlt : ∀ t : Nat, ((who.take t).flatMap (tell e.kind e A.votes)).length <= t := by
    intro t
    induction t with
    | zero => simp
    | succ t ih =>
     by_cases ht : t < who.length
     ·rw [List.take_succ_eq_append_getElem ht, List.flatMap_append, List.length_append]
      have : ([who[t]].flatMap (tell e.kind e A.votes)).length <= 1 := by
       simp only [List.flatMap_cons, List.flatMap_nil, List.append_nil]
       rcases tell_one (kind := e.kind) (e := e) (vs := A.votes) (k := who[t]) with h | ⟨c, h⟩ <;> rw [h] <;> simp
      omega
     ·rw [List.take_of_length_le (by omega)] at ih ⊢
      omega
   unfold sh_f3_b5
   refine br_i (fun q => ?_) (fun q => ?_)
   ·have q := of_decide_eq_true q
    have hj : j.toNat < who.length := by omega
    refine (hs3.gr g17).ixs 1 (fun _ => rfl) j0 hj fun b o _ hx => ld_i (x := who[j.toNat]) hx ?_
    have hkin := p2 _ (List.getElem_mem hj)
    have hsplit : who.take (j.toNat + 1) = who.take j.toNat ++ [who[j.toNat]] := List.take_succ_eq_append_getElem hj
    have htot : (A.apply e).1 = (who.take j.toNat).flatMap (tell e.kind e A.votes) ++ (tell e.kind e A.votes who[j.toNat] ++ (who.drop (j.toNat + 1)).flatMap (tell e.kind e A.votes)) := by
     rw [htold]
     conv => lhs; rw [<- List.take_append_drop (j.toNat + 1) who, hsplit]
     simp only [List.flatMap_append, List.flatMap_cons, List.flatMap_nil, List.append_nil, List.append_assoc]
    have hpre := hlt j.toNat
    generalize who[j.toNat] = k at hkin hsplit htot
    refine br_f (decide_eq_false (by omega)) ?_
    unfold sh_f3_j6
    have hk0 : k.toNat < A.votes.length := by omega
    have gx := g15.trans g17
    have hw17 := hw0.gr gx
    refine br_f (decide_eq_false (by omega)) (c_latest_Get hw17 ⟨_, _, rfl, al_i fun b7 w20 e20 g20 c20 s20 => st_i s20 fun w21 e21 k21 c21 => ?_⟩)
    have z20 := g20.size
    have l7 : b7 < w20.heap.size := cell_lt c20.1
    have G21 : Gr w17 w21 := Gr.local g20 k21 fun j e => by subst e; omega
    have hD : lgetD A.votes k = A.votes[k.toNat] := by unfold lgetD; rw [List.getD_eq_getElem?_getD, List.getElem?_eq_getElem hk0]; rfl
    have hw21 := hw17.gr G21
    refine hw21.ixs 4 (fun _ => rfl) hkin.1 hk0 fun b8 o5 _ hx8 => ld_i (x := A.votes[k.toNat].Banned) (hx8.sub 3 1) (ld_i (x := ge.Kind) ((ec15.gr (g17.trans G21)).sub 0 1) ?_)
    rw [<- hD]
    have next : ∀ (w' : World) (n' : Int), Gr w17 w' -> n' = n + ((tell e.kind e A.votes k).length : Int) -> nx2 n' (IntKind.i64.wrap (j + 1)) w' := by
     intro w' n' G' hn'
     rw [wrap_i64 (n := j + 1) (by omega) (by omega)]
     have et : (j + 1).toNat = j.toNat + 1 := by omega
     refine hnx2 _ n' (j + 1) w' (by omega) ⟨by omega, by omega, rfl, g17.trans G', ?_⟩
     rw [et, hsplit, List.flatMap_append, List.length_append, hn', hn]
     simp
    have J7 : ∀ (w26 : World) (c : G_store_Change) (told : Bool), Gr w17 w26 -> CellsAt w26 b7 0 (t_store_Change.enc c) -> tell e.kind e A.votes k = (if told then [c] else []) -> sh_f3_j7 Q s' n j nx2 b7 told w26 := by
     intro w26 c told G26 c26 ht
     unfold sh_f3_j7
     cases told with
     | false =>
      refine br_t rfl ?_
      unfold sh_f3_j9
      exact next w26 n G26 (by rw [ht]; simp)
     | true =>
      rw [if_pos rfl] at ht
      refine br_f rfl (dw_i fun w27 e27 g27 => ?_)
      rw [ht] at htot
      have hl : (A.apply e).1.length = ((who.take j.toNat).flatMap (tell e.kind e A.votes)).length + (1 + ((who.drop (j.toNat + 1)).flatMap (tell e.kind e A.votes)).length) := by rw [htot, List.length_append, List.length_append]; rfl
      have hp : n.toNat < (A.apply e).1.length := by omega
      have hget : (A.apply e).1[n.toNat]'hp = c := by
       have hnn : n.toNat = ((who.take j.toNat).flatMap (tell e.kind e A.votes)).length := by omega
       simp only [hnn]
       rw [List.getElem_of_eq htot, List.getElem_append_right (Nat.le_refl _)]
       simp
      refine br_f (decide_eq_false (by omega)) ((hsl15.gr (g17.trans (G26.trans g27))).ixs 6 (fun _ => rfl) (by omega) hp fun b o _ hx => ld_i (x := (A.apply e).1[n.toNat]'hp) hx (ld_i (x := c) (c26.gr g27) ?_))
      rw [hget, eq_change_refl]
      unfold sh_f3_j8 sh_f3_j9
      rw [wrap_i64 (n := n + 1) (by omega) (by omega)]
      exact br_f rfl (next w27 (n + 1) (G26.trans g27) (by rw [ht]; simp))
    have hlt' : (k : Int) < (A.votes.length : Int) := by omega
    refine br_i (fun q2 => ?_) (fun q2 => ?_)
    ·have q2 : e.kind = 2 := by rw [<- hkk]; simpa using q2
     refine dw_i fun w22 e22 g22 => ld_i (x := ge.Vote.Head) ((ec15.gr (g17.trans (G21.trans g22))).sub 8 1) ?_
     have s21 : CanSt w21 b7 0 6 := by rw [e21]; exact canSt_putL s20
     refine st_i ((s21.keeps g22 fun f => f).sub 0 1 (by omega)) fun w23 e23 k23 c23 => ?_
     have z22 := g22.size
     have z21 := k21.size
     have G22 := G21.trans g22
     have hb7 : w17.heap.size <= b7 := by omega
     have G23 : Gr w17 w23 := Gr.local G22 k23 fun j e => by subst e; exact hb7
     refine ⟨(ec15.gr (g17.trans G23)).sub 8 1, st_i (by rw [e23]; exact (canSt_putL (s21.keeps g22 fun f => f)).sub 1 1 (by omega)) fun w24 e24 k24 c24 => dw_i fun w25 e25 g25 => ?_⟩
     have G24 : Gr w17 w24 := Gr.local G23 k24 fun j e => by subst e; exact hb7
     have G25 := G24.trans g25
     have hhead : ge.Vote.Head = e.vote.head := v.ev.vote.head
     have cc25 : CellsAt w25 b7 0 (t_store_Change.enc ⟨1, ge.Vote.Head, 0, k, (lget A.votes k).1, (lget A.votes k).2⟩) := by
      have a21 := c21.gr g22
      have a23 : CellsAt w23 b7 1 ((t_store_Change.enc ⟨2, 0, 0, k, (lget A.votes k).1, (lget A.votes k).2⟩).drop 1) := by rw [e23]; exact CellsAt.put_other (.inr (by simp)) (a21.sub 1 5)
      have b24 : CellsAt w24 b7 0 [.int .i64 1] := by rw [e24]; exact CellsAt.put_other (.inl (by simp)) c23
      have a24 : CellsAt w24 b7 2 ((t_store_Change.enc ⟨2, 0, 0, k, (lget A.votes k).1, (lget A.votes k).2⟩).drop 2) := by rw [e24]; exact CellsAt.put_other (.inr (by simp)) (a23.sub 1 4)
      exact CellsAt.gr ⟨b24.1, c24.1, a24⟩ g25
     have hE : ge.Vote.Target.Epoch = e.vote.tgt.Epoch := by rw [v.ev.vote.tgt]
     have ht : ∀ told : Bool, lcanTake A.votes k e.vote.tgt.Epoch = told -> tell e.kind e A.votes k = if told then [⟨1, ge.Vote.Head, 0, k, (lget A.votes k).1, (lget A.votes k).2⟩] else [] := by
      intro told h
      unfold tell AStore.tell1
      rw [if_pos q2, h, hhead]
     have hcan : lcanTake A.votes k e.vote.tgt.Epoch = (!(lgetD A.votes k).Banned && !((lgetD A.votes k).Has && decide (e.vote.tgt.Epoch <= (lgetD A.votes k).Epoch))) := by
      unfold lcanTake
      rw [decide_eq_true hkin.1, decide_eq_true hlt']; rfl
     have hw25 := hw17.gr G25
     cases hB : (lgetD A.votes k).Banned with
     | true => exact br_f rfl (J7 w25 _ false G25 cc25 (ht false (by rw [hcan, hB]; rfl)))
     | false =>
      refine br_t rfl (hw25.ixs 4 (fun _ => rfl) hkin.1 hk0 fun b9 o6 _ hx9 => ld_i (x := A.votes[k.toNat].Has) (hx9.sub 0 1) ?_)
      rw [<- hD]
      cases hH : (lgetD A.votes k).Has with
      | false => exact br_t rfl (J7 w25 _ true G25 cc25 (ht true (by rw [hcan, hB, hH]; rfl)))
      | true =>
       refine br_f rfl (hw25.ixs 4 (fun _ => rfl) hkin.1 hk0 fun b10 o7 _ hx10 => ld_i (x := A.votes[k.toNat].Epoch) (hx10.sub 1 1) (ld_i (x := ge.Vote.Target.Epoch) ((ec15.gr (g17.trans G25)).sub 11 1) ?_))
       rw [<- hD, hE]
       refine J7 w25 _ _ G25 cc25 (ht _ ?_)
       rw [hcan, hB, hH]
       by_cases hle : e.vote.tgt.Epoch <= (lgetD A.votes k).Epoch
       ·rw [decide_eq_true hle, decide_eq_false (by omega)]; rfl
       ·rw [decide_eq_false hle, decide_eq_true (by omega)]; rfl
    ·have q2 : e.kind ≠ 2 := by rw [<- hkk]; simpa using q2
     refine J7 w21 _ _ G21 c21 ?_
     unfold tell AStore.tell2
     rw [if_neg q2]
     have hcan : lcanBan A.votes k = !(lgetD A.votes k).Banned := by
      unfold lcanBan
      rw [decide_eq_true hkin.1, decide_eq_true hlt']; rfl
     rw [hcan]
   ·have q := of_decide_eq_false q
    have : j.toNat = who.length := by omega
    rw [this, List.take_length, <- htold] at hn
    unfold sh_f3_j10
    rw [hn, hsl1]
    refine br_f (by simp) (go w17 (g15.trans g17))
  refine ld_i (x := ge.Kind) (ec15.sub 0 1) (br_i (fun q => ?_) (fun q => ?_))
  ·have q : e.kind = 2 := by rw [<- hkk]; simpa using q
   obtain ⟨wi, hwi⟩ : ∃ x, x = ge.Vote.Who := ⟨_, rfl⟩
   have hwho2 := (hev.vote.gr g15).who
   refine ld_i (x := ge.Vote.Who) (ec15.sub 13 1) ?_
   have hae : A.attErr e.vote false = 0 := by unfold AStore.applyErr at he; rwa [if_neg (by omega), if_neg (by omega), if_pos q] at he
   have hr := (AStore.attErr_ok hae).1
   unfold voteRight at hr
   simp only [Bool.and_eq_true] at hr
   obtain ⟨p1, p2, _⟩ := rising_sorted hr.2
   refine J4 _ _ _ hwho2 p1 p2 (rising_len hr.2) ?_
   have hap : A.apply e = A.attest e.vote false := by unfold AStore.apply; rw [if_neg (by omega), if_neg (by omega), if_pos q]
   rw [hap]
   unfold AStore.attest
   rw [if_pos hae]
   simp only
   rw [AStore.takeAll_told (vs := A.votes) p1 (fun k hk => ⟨(p2 k hk).1, rfl⟩) rfl]
   congr 1
   funext k
   unfold tell
   rw [if_pos q]
  ·have q : ¬ e.kind = 2 := by rw [<- hkk]; simpa using q
   have hk3 : e.kind = 3 := by omega
   have hse : A.slashErr e.proof = 0 := by unfold AStore.applyErr at he; rwa [if_neg (by omega), if_neg (by omega), if_neg q, if_pos hk3] at he
   unfold AStore.slashErr at hse
   have hap : A.apply e = A.slash e.proof := by unfold AStore.apply; rw [if_neg (by omega), if_neg (by omega), if_neg q, if_pos hk3]
   have hps : ((proofWho A.cfg e.proof).getD []).Pairwise (· < ·) /\ (∀ x ∈ (proofWho A.cfg e.proof).getD [], 0 <= x /\ x < (A.cfg.bal.length : Int)) := by
    unfold proofWho
    split
    ·rename_i hc
     simp only [Bool.and_eq_true] at hc
     have hr := hc.1.1.1
     unfold voteRight at hr
     simp only [Bool.and_eq_true] at hr
     obtain ⟨q1, q2, _⟩ := rising_sorted hr.2
     exact ⟨q1.filter _, fun x hx => q2 x (List.mem_filter.1 hx).1⟩
    ·exact ⟨List.Pairwise.nil, by simp⟩
   obtain ⟨p1, p2⟩ := hps
   refine J4 _ _ _ hwho p1 p2 proofWho_len ?_
   rw [hap]
   unfold AStore.slash
   simp only
   rw [AStore.banAll_told (vs := A.votes) p1 (fun k hk => ⟨(p2 k hk).1, rfl⟩) rfl]
   congr 1
   funext k
   unfold tell
   rw [if_neg q]
 rw [errV_nil]
 by_cases he : A.applyErr e = 0
 ·rw [decide_eq_true he]
  refine ld_i (x := ge.Kind) (ec.sub 0 1) ?_
  by_cases k2 : e.kind = 2
  ·exact br_f (by rw [hkk, k2]; rfl) (main he (.inl k2))
  ·refine br_t (by rw [hkk]; simpa using k2) (ld_i (x := ge.Kind) (ec.sub 0 1) ?_)
   by_cases k3 : e.kind = 3
   ·exact br_f (by rw [hkk, k3]; rfl) (main he (.inr k3))
   ·exact br_t (by rw [hkk]; simpa using k3) skip
 ·rw [decide_eq_false he]
  refine ld_i (x := ge.Kind) (ec.sub 0 1) ?_
  exact br_i (fun _ => ld_i (x := ge.Kind) (ec.sub 0 1) (br_i (fun _ => skip) (fun _ => skip))) (fun _ => skip)
end Go.Proofs.Ytdefmgkicdhmkaa
