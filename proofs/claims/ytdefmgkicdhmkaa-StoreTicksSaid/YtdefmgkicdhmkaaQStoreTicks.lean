/- A tick has it be its slot, and ends a boost; a block of the slot that it is is boosted, if none is: at every input. The walk. -/
import Derived.Test.YtdefmgkicdhmkaaQ14
namespace Go.Proofs.Ytdefmgkicdhmkaa
open Go Go.Sx
set_option linter.unusedVariables false
set_option maxRecDepth 100000
set_option maxHeartbeats 2000000
def sh_f4_j10 (Q : QW) (w24 : World) : Prop :=
  Q (.bool true) w24
def sh_f4_j9 (x10 : Int) (nxt1 : Int -> World -> Prop) (w23 : World) : Prop :=
  nxt1 (IntKind.i64.wrap (x10 + 1)) w23
def sh_f4_j8 (Q : QW) (x10 : Int) (nxt1 : Int -> World -> Prop) (x36 : Bool) (w22 : World) : Prop :=
  br x36 (Q (.bool false) w22) ((sh_f4_j9 x10 nxt1 w22))
def sh_f4_j7 (Q : QW) (x10 : Int) (nxt1 : Int -> World -> Prop) (b5 : Nat) (o3 : Nat) (x32 : Int) (w20 : World) : Prop :=
  ld tU64 w20 b5 (o3 + 6) fun x33 => br (x33 != x32) (ld tPtr w20 b5 (o3 + 3) fun x34 => CallsR PP n_f15 #[.pointer x34, .int .u64 x32] (fun v7 w21 => ∃ x35 : Bool, v7 = .bool x35 /\ ((sh_f4_j8 Q x10 nxt1 x35 w21))) w20) ((sh_f4_j8 Q x10 nxt1 false w20))
def sh_f4_j6 (Q : QW) (x10 : Int) (nxt1 : Int -> World -> Prop) (b4 : Nat) (b5 : Nat) (o3 : Nat) (x12 : Int) (x30 : Bool) (w19 : World) : Prop :=
  br x30 (ld tU64 w19 b4 2 fun x31 => (sh_f4_j7 Q x10 nxt1 b5 o3 x31 w19)) ((sh_f4_j7 Q x10 nxt1 b5 o3 x12 w19))
def sh_f4_j5 (Q : QW) (x10 : Int) (nxt1 : Int -> World -> Prop) (b4 : Nat) (b5 : Nat) (o3 : Nat) (x12 : Int) (x27 : Bool) (w17 : World) : Prop :=
  br x27 (dw w17 fun w18 => br (x12 == 0) (ld tI64 w18 b4 4 fun x28 => ld tI64 w18 b5 (o3 + 5) fun x29 => (sh_f4_j6 Q x10 nxt1 b4 b5 o3 x12 (x28 == x29) w18)) ((sh_f4_j6 Q x10 nxt1 b4 b5 o3 x12 false w18))) ((sh_f4_j9 x10 nxt1 w17))
def sh_f4_j4 (Q : QW) (x10 : Int) (nxt1 : Int -> World -> Prop) (b4 : Nat) (b5 : Nat) (o3 : Nat) (x12 : Int) (x15 : Ifc) (x22 : Bool) (w14 : World) : Prop :=
  br x22 (Q (.bool false) w14) (dw w14 fun w15 => br x15.isNil (ld tI64 w15 b4 0 fun x23 => br (x23 == 1) (ld tPtr w15 b5 (o3 + 3) fun x24 => ld tU64 w15 b4 2 fun x25 => CallsR PP n_f15 #[.pointer x24, .int .u64 x25] (fun v6 w16 => ∃ x26 : Bool, v6 = .bool x26 /\ ((sh_f4_j5 Q x10 nxt1 b4 b5 o3 x12 x26 w16))) w15) ((sh_f4_j5 Q x10 nxt1 b4 b5 o3 x12 false w15))) ((sh_f4_j5 Q x10 nxt1 b4 b5 o3 x12 false w15)))
def sh_f4_j3 (Q : QW) (x10 : Int) (nxt1 : Int -> World -> Prop) (b4 : Nat) (b5 : Nat) (o3 : Nat) (x12 : Int) (x15 : Ifc) (x17 : Bool) (w12 : World) : Prop :=
  br x17 (Q (.bool false) w12) (dw w12 fun w13 => br x15.isNil (ld tI64 w13 b4 0 fun x18 => br (x18 == 0) (ld tI64 w13 b5 (o3 + 5) fun x19 => ld tI64 w13 b4 1 fun x20 => br (x19 != x20) ((sh_f4_j4 Q x10 nxt1 b4 b5 o3 x12 x15 true w13)) (ld tU64 w13 b5 (o3 + 6) fun x21 => (sh_f4_j4 Q x10 nxt1 b4 b5 o3 x12 x15 (x21 != 0) w13))) ((sh_f4_j4 Q x10 nxt1 b4 b5 o3 x12 x15 false w13))) ((sh_f4_j4 Q x10 nxt1 b4 b5 o3 x12 x15 false w13)))
def sh_f4_b2 (Q : QW) (x4 : Option Addr) (x9 : Sl) (x10 : Int) (w8 : World) (nxt1 : Int -> World -> Prop) : Prop :=
  br (decide (x10 < (x9.len : Int))) (ixs x9 x10 fun b3 o2 => ld t_api_Event w8 b3 (o2 + (x10).toNat * 28) fun x11 => al t_api_Event 57 w8 (⟨0, 0, (⟨0, 0, 0, nilSl, nilSl⟩ : G_api_Block), (⟨0, 0, (⟨0, 0⟩ : G_api_Point), (⟨0, 0⟩ : G_api_Point), nilSl⟩ : G_api_Vote), (⟨(⟨0, 0, (⟨0, 0⟩ : G_api_Point), (⟨0, 0⟩ : G_api_Point), nilSl⟩ : G_api_Vote), (⟨0, 0, (⟨0, 0⟩ : G_api_Point), (⟨0, 0⟩ : G_api_Point), nilSl⟩ : G_api_Vote)⟩ : G_api_Proof)⟩ : G_api_Event) fun b4 w9 => st t_api_Event w9 b4 0 x11 fun w10 => nc x4 fun b5 o3 => ld tU64 w10 b5 (o3 + 6) fun x12 => ld t_api_Event w10 b4 0 fun x13 => CallsR PP n_f12 #[.pointer x4, t_api_Event.val x13] (fun v5 w11 => ∃ x14 : Sl, ∃ x15 : Ifc, v5 = .tuple #[.slice x14.a x14.len x14.cap, x15.v] /\ (br (!x15.isNil) (ld tU64 w11 b5 (o3 + 6) fun x16 => (sh_f4_j3 Q x10 nxt1 b4 b5 o3 x12 x15 (x16 != x12) w11)) ((sh_f4_j3 Q x10 nxt1 b4 b5 o3 x12 x15 false w11)))) w10) ((sh_f4_j10 Q w8))
def sh_f4_j1 (a0 : Sl) (Q : QW) (b1 : Nat) (x4 : Option Addr) (x7 : Bool) (w6 : World) : Prop :=
  br x7 (Q (.bool false) w6) (ld t_api_Config w6 b1 0 fun x8 => CallsR PP n_f11 #[t_api_Config.val x8, .slice a0.a a0.len a0.cap] (fun v4 w7 => ∃ x9 : Sl, v4 = .slice x9.a x9.len x9.cap /\ ((∃ I1 : Nat -> Int -> World -> Prop, (∃ m, I1 m 0 w7) /\ ∀ m x10 w8, I1 m x10 w8 -> sh_f4_b2 Q x4 x9 x10 w8 (fun y0 w => ∃ m2, m2 < m /\ I1 m2 y0 w)))) w6)
def sh_f4 (a0 : Sl) (a1 : Sl) (a2 : Int) (Q : QW) (w0 : World) : Prop :=
  CallsR PP n_f8 #[] (fun v1 w1 => ∃ x1 : Bool, v1 = .bool x1 /\ (br (!x1) (Q (.bool false) w1) (CallsR PP n_f9 #[.slice a1.a a1.len a1.cap, .int .u8 a2, .int .u8 40] (fun v2 w2 => ∃ x2 : G_api_Config, v2 = t_api_Config.val x2 /\ (al t_api_Config 26 w2 (⟨nilSl, 0, 0⟩ : G_api_Config) fun b1 w3 => st t_api_Config w3 b1 0 x2 fun w4 => ld t_api_Config w4 b1 0 fun x3 => CallsR PP n_f10 #[t_api_Config.val x3] (fun v3 w5 => ∃ x4 : Option Addr, ∃ x5 : Ifc, v3 = .tuple #[.pointer x4, x5.v] /\ (br (!x5.isNil) ((sh_f4_j1 a0 Q b1 x4 true w5)) (br x4.isNone ((sh_f4_j1 a0 Q b1 x4 true w5)) (nc x4 fun b2 o1 => ld tPtr w5 b2 (o1 + 3) fun x6 => (sh_f4_j1 a0 Q b1 x4 x6.isNone w5))))) w4)) w1))) w0
theorem so_f4 {a0 : Sl} {a1 : Sl} {a2 : Int} (Q : QW) (w0 : World) (h : sh_f4 a0 a1 a2 Q w0) : CallsR PP n_f4 #[.slice a0.a a0.len a0.cap, .slice a1.a a1.len a1.cap, .int .u8 a2] Q w0 := by
 refine callsR_of_WX (args := [.slice a0.a a0.len a0.cap, .slice a1.a a1.len a1.cap, .int .u8 a2]) Try.func4 rfl Try.ntmps4 nl ?_
 refine WX_seq (WX_region ?_)
 refine mva (vb false) rfl (ops_nil ?_)
 refine WX_seq ?_
 refine WX_seq (WX_region ?_)
 refine op_w (pw_call co_8 rfl (cm h ?_))
 rintro v1 w1 ⟨x1, rfl, h⟩
 refine op_v (pv_not rfl) (ops_nil ?_)
 refine WX_cond (b := (!x1)) rfl (fun hb1 => ?_) (fun hb1 => ?_)
 have h := h.1 hb1
 refine WX_seq (WX_region ?_)
 refine mva (vb false) rfl (ops_nil ?_)
 refine WX_ret ?_
 exact fin_of [vb false] rfl ⟨rfl, trivial⟩ h
 have h := h.2 hb1
 refine WX_skip <| WX_seq (WX_region ?_)
 refine mv (.slice a1.a a1.len a1.cap) rfl <| mv (.int .u8 a2) rfl <| op_w (pw_call co_9 rfl (CallsR.mono h ?_))
 rintro v2 w2 ⟨x2, rfl, h⟩
 refine op_w (pw_alloc ty_26 tz_26 ?_)
 intro b1 w3 hw1 hw2
 replace h := h b1 w3 hw1 hw2
 refine op_w (pw_st (x := x2) ty_26 rfl rfl h.1 ?_)
 intro w4 hw3
 replace h := h.2 w4 hw3
 refine ops_nil ?_
 refine WX_seq (WX_region ?_)
 obtain ⟨x3, hx3, h⟩ := h
 refine op_v (pv_ld ty_26 rfl hx3) <| op_w (pw_call co_10 rfl (CallsR.mono h ?_))
 rintro v3 w5 ⟨x4, x5, rfl, h⟩
 refine mv (.tuple #[.pointer x4, x5.v]) rfl <| op_v (pv_extract (vs := [.pointer x4, x5.v]) (v := .pointer x4) rfl rfl) ?_
 refine op_v (pv_extract (vs := [.pointer x4, x5.v]) (v := x5.v) rfl rfl) <| mva (.pointer x4) rfl <| mva x5.v rfl (ops_nil ?_)
 refine WX_seq ?_
 refine WX_join (fun f w6 => ∃ x7 : Bool, Agree f [(0, .slice a0.a a0.len a0.cap), (7, vp b1 0), (8, .pointer x4), (38, vb x7)] /\ sh_f4_j1 a0 Q b1 x4 x7 w6) ?_ ?_
 refine WX_region ?_
 refine mv x5.v rfl <| op_v (pv_ifnil (e := x5) (v := (!x5.isNil)) ii_30 rfl rfl) <| mv (vb (!x5.isNil)) rfl ?_
 refine ops_split 28 (b := (!x5.isNil)) rfl (fun hb2 => ?_) (fun hb2 => ?_)
 have h := h.1 hb2
 iterate 2 refine opg_no ?_
 refine op_v (pv_pick (b := true) (v := vb true) rfl rfl) <| mv (vb true) rfl ?_
 iterate 5 refine opg_no ?_
 refine op_v (pv_pick (b := true) (v := vb true) rfl rfl) (ops_nil ?_)
 exact ⟨true, ⟨rfl, rfl, rfl, rfl, trivial⟩, h⟩
 have h := h.2 hb2
 refine opg_v (pv_move (v := .pointer x4) rfl) <| opg_v (pv_ptrnil (p := x4) (v := x4.isNone) ip_28 rfl rfl) ?_
 refine op_v (pv_pick (b := false) (v := vb x4.isNone) rfl rfl) <| mv (vb x4.isNone) rfl ?_
 refine ops_split 32 (b := x4.isNone) rfl (fun hb3 => ?_) (fun hb3 => ?_)
 have h := h.1 hb3
 iterate 5 refine opg_no ?_
 refine op_v (pv_pick (b := true) (v := vb true) rfl rfl) (ops_nil ?_)
 exact ⟨true, ⟨rfl, rfl, rfl, rfl, trivial⟩, h⟩
 have h := h.2 hb3
 refine opg_v (pv_move (v := .pointer x4) rfl) ?_
 obtain ⟨b2, o1, hp1, h⟩ := h
 refine opg_v (pv_nilh rfl hp1) <| opg_v (pv_fld fo_43_1 rfl) ?_
 obtain ⟨x6, hx6, h⟩ := h
 refine opg_v (pv_ld ty_33 rfl hx6) <| opg_v (pv_ptrnil (p := x6) (v := x6.isNone) ip_33 rfl rfl) ?_
 refine op_v (pv_pick (b := false) (v := vb x6.isNone) rfl rfl) (ops_nil ?_)
 exact ⟨x6.isNone, ⟨rfl, rfl, rfl, rfl, trivial⟩, h⟩
 rintro f w6 ⟨x7, ha, h⟩
 obtain ⟨g1, rfl⟩ := canon ha
 refine WX_cond (b := x7) rfl (fun hb4 => ?_) (fun hb4 => ?_)
 have h := h.1 hb4
 refine WX_seq (WX_region ?_)
 refine mva (vb false) rfl (ops_nil ?_)
 refine WX_ret ?_
 exact fin_of [vb false] rfl ⟨rfl, trivial⟩ h
 have h := h.2 hb4
 refine WX_skip <| WX_join (fun f w24 => Agree f [] /\ sh_f4_j10 Q w24) ?_ ?_
 refine WX_seq (WX_region ?_)
 obtain ⟨x8, hx8, h⟩ := h
 refine op_v (pv_ld ty_26 rfl hx8) <| mv (.slice a0.a a0.len a0.cap) rfl <| op_w (pw_call co_11 rfl (CallsR.mono h ?_))
 rintro v4 w7 ⟨x9, rfl, h⟩
 refine op_v (pv_lenS (s := x9) is_44 rfl) <| mv (vi 0) rfl (ops_nil ?_)
 refine WX_block ?_
 obtain ⟨I1, ⟨m, h0⟩, hB1⟩ := h
 refine WX_loop (fun m f w8 => ∃ x10 : Int, Agree f [(8, .pointer x4), (41, .slice x9.a x9.len x9.cap), (42, vi (x9.len : Int)), (43, vi x10)] /\ I1 m x10 w8) ⟨m, 0, ⟨rfl, rfl, rfl, rfl, trivial⟩, h0⟩ ?_
 clear h0 m
 rintro m f w8 ⟨x10, ha, h⟩
 obtain ⟨g9, rfl⟩ := canon ha
 replace h := hB1 m x10 w8 h
 clear hB1
 generalize hn_nxt1 : (fun (y0 : Int) (w : World) => ∃ m2, m2 < m /\ I1 m2 y0 w) = nxt1 at h
 refine WX_seq (WX_region ?_)
 refine op_v (pv_cmp (v := decide (x10 < (x9.len : Int))) rfl rfl rfl rfl) (ops_nil ?_)
 refine WX_seq ?_
 refine WX_cond (b := decide (x10 < (x9.len : Int))) rfl (fun hb5 => ?_) (fun hb5 => ?_)
 have h := h.1 hb5
 refine WX_skip ?_
 refine WX_join (fun f w23 => Agree f [(8, .pointer x4), (41, .slice x9.a x9.len x9.cap), (42, vi (x9.len : Int)), (43, vi x10)] /\ sh_f4_j9 x10 nxt1 w23) ?_ ?_
 refine WX_block ?_
 refine WX_seq (WX_region ?_)
 obtain ⟨b3, o2, hi1, hi2, hi3, h⟩ := h
 refine op_v (pv_ix (s := x9) ez_44 rfl rfl hi1 hi2 hi3) ?_
 obtain ⟨x11, hx11, h⟩ := h
 refine op_v (pv_ld ty_57 rfl hx11) <| op_w (pw_alloc ty_57 tz_57 ?_)
 intro b4 w9 hw4 hw5
 replace h := h b4 w9 hw4 hw5
 refine op_w (pw_st (x := x11) ty_57 rfl rfl h.1 ?_)
 intro w10 hw6
 replace h := h.2 w10 hw6
 refine ops_nil ?_
 refine WX_seq (WX_region ?_)
 refine mv (.pointer x4) rfl ?_
 obtain ⟨b5, o3, hp2, h⟩ := h
 refine op_v (pv_nilh rfl hp2) <| op_v (pv_fld fo_43_4 rfl) ?_
 obtain ⟨x12, hx12, h⟩ := h
 refine op_v (pv_ld ty_36 rfl hx12) <| mva (vu x12) rfl (ops_nil ?_)
 refine WX_seq (WX_region ?_)
 refine mv (.pointer x4) rfl ?_
 obtain ⟨x13, hx13, h⟩ := h
 refine op_v (pv_ld ty_57 rfl hx13) <| op_w (pw_call co_12 rfl (CallsR.mono h ?_))
 rintro v5 w11 ⟨x14, x15, rfl, h⟩
 refine mv (.tuple #[.slice x14.a x14.len x14.cap, x15.v]) rfl ?_
 refine op_v (pv_extract (vs := [.slice x14.a x14.len x14.cap, x15.v]) (v := .slice x14.a x14.len x14.cap) rfl rfl) ?_
 refine op_v (pv_extract (vs := [.slice x14.a x14.len x14.cap, x15.v]) (v := x15.v) rfl rfl) <| mva (.slice x14.a x14.len x14.cap) rfl ?_
 refine mva x15.v rfl (ops_nil ?_)
 refine WX_block ?_
 refine WX_join (fun f w12 => ∃ x17 : Bool, Agree f [(8, .pointer x4), (11, vp b4 0), (12, vu x12), (14, x15.v), (41, .slice x9.a x9.len x9.cap), (42, vi (x9.len : Int)), (43, vi x10), (57, vb x17)] /\ sh_f4_j3 Q x10 nxt1 b4 b5 o3 x12 x15 x17 w12) ?_ ?_
 refine WX_region ?_
 refine mv x15.v rfl <| op_v (pv_ifnil (e := x15) (v := (!x15.isNil)) ii_30 rfl rfl) <| mv (vb (!x15.isNil)) rfl ?_
 refine ops_split 60 (b := (!x15.isNil)) rfl (fun hb6 => ?_) (fun hb6 => ?_)
 have h := h.1 hb6
 refine opg_v (pv_move (v := .pointer x4) rfl) <| opg_v (pv_nilh rfl hp2) <| opg_v (pv_fld fo_43_4 rfl) ?_
 obtain ⟨x16, hx16, h⟩ := h
 refine opg_v (pv_ld ty_36 rfl hx16) <| opg_v (pv_move (v := vu x12) rfl) <| opg_v (pv_cmp (v := (x16 != x12)) rfl rfl rfl rfl) ?_
 refine op_v (pv_pick (b := true) (v := vb (x16 != x12)) rfl rfl) <| mva (vb (x16 != x12)) rfl (ops_nil ?_)
 exact ⟨(x16 != x12), ⟨rfl, rfl, rfl, rfl, rfl, rfl, rfl, rfl, trivial⟩, h⟩
 have h := h.2 hb6
 iterate 6 refine opg_no ?_
 refine op_v (pv_pick (b := false) (v := vb false) rfl rfl) <| mva (vb false) rfl (ops_nil ?_)
 exact ⟨false, ⟨rfl, rfl, rfl, rfl, rfl, rfl, rfl, rfl, trivial⟩, h⟩
 rintro f w12 ⟨x17, ha, h⟩
 obtain ⟨g7, rfl⟩ := canon ha
 refine WX_cond (b := x17) rfl (fun hb18 => ?_) (fun hb18 => ?_)
 have h := h.1 hb18
 refine WX_seq (WX_region ?_)
 refine mva (vb false) rfl (ops_nil ?_)
 refine WX_ret ?_
 exact fin_of [vb false] rfl ⟨rfl, trivial⟩ h
 have h := h.2 hb18
 refine WX_join (fun f w14 => ∃ x22 : Bool, Agree f [(8, .pointer x4), (11, vp b4 0), (12, vu x12), (14, x15.v), (41, .slice x9.a x9.len x9.cap), (42, vi (x9.len : Int)), (43, vi x10), (68, vb x22)] /\ sh_f4_j4 Q x10 nxt1 b4 b5 o3 x12 x15 x22 w14) ?_ ?_
 obtain ⟨w13, hw7, h⟩ := dwe h
 refine dr_split (b := x15.isNil) (fun hb7 => ?_) (fun hb7 => ?_)
 have h := h.1 hb7
 obtain ⟨x18, hx18, h⟩ := h
 refine dr_split (b := (x18 == 0)) (fun hb8 => ?_) (fun hb8 => ?_)
 have h := h.1 hb8
 obtain ⟨x19, hx19, x20, hx20, h⟩ := h
 refine dr_split (b := (x19 != x20)) (fun hb9 => ?_) (fun hb9 => ?_)
 have h := h.1 hb9
 refine WX_dr [] [0,1,2,3,5,6,7,8,9,10,12,14,15,16,17,18,20,21,22,23] [⟨[],[0,1,2,3,5,6,7,8,9,10,12,14,15,16,17,18,20,21,22,23],[4,11,13,19],[]⟩] [x15.v, vb true, vb true, vp b4 0, vi x18, vb true, vb true, vb true, .pointer x4, vp b5 o3, vp b5 (o3 + 5), vi x19, vp b4 1, vi x20, vb true, vb true, un, un, un, un, un, vb true, vb true, vb true] 1 mixed (by kernel_rfl) hw7 ?_
 refine draw_end rfl (pu rfl (pv_move rfl) (pu rfl (pv_ifnil (e := x15) (v := true) ii_30 rfl (by exact congrArg some hb7)) (pu rfl (pv_move (by first | rfl | exact congrArg Value.bool hb7)) (pu rfl (pv_fld fo_57_0 rfl) (pu rfl (pv_cmp (v := true) rfl rfl rfl (by exact hb8)) (pu rfl (pv_pick (b := true) (v := vb true) rfl rfl) (pu rfl (pv_move (by first | rfl | exact congrArg Value.bool hb8)) (pu rfl (pv_move rfl) (pu rfl (pv_nilh rfl hp2) (pu rfl (pv_fld fo_43_3 rfl) (pu rfl (pv_fld fo_57_1 rfl) (pu rfl (pv_cmp (v := true) rfl rfl rfl (by exact hb9)) (pu rfl (pv_move (by first | rfl | exact congrArg Value.bool hb9)) (pn (pn (pn (pn (pu rfl (pv_pick (b := true) (v := vb true) rfl rfl) (pu rfl (pv_pick (b := true) (v := vb true) rfl rfl) (pu rfl (pv_assign rfl) ap0)))))))))))))))))))) (ro rfl (pv_ld ty_46 rfl hx18) (ro rfl (pv_ld ty_3 rfl hx19) (ro rfl (pv_ld ty_3 rfl hx20) (rn ao0)))) ?_
 exact ⟨true, ⟨rfl, rfl, rfl, rfl, rfl, rfl, rfl, rfl, trivial⟩, h⟩
 have h := h.2 hb9
 obtain ⟨x21, hx21, h⟩ := h
 refine WX_dr [] [0,1,2,3,5,6,7,8,9,10,12,14,15,16,17,18,20,21,22,23] [⟨[],[0,1,2,3,5,6,7,8,9,10,12,14,15,16,17,18,20,21,22,23],[4,11,13,19],[]⟩] [x15.v, vb true, vb true, vp b4 0, vi x18, vb true, vb true, vb true, .pointer x4, vp b5 o3, vp b5 (o3 + 5), vi x19, vp b4 1, vi x20, vb false, vb false, .pointer x4, vp b5 o3, vp b5 (o3 + 6), vu x21, vb (x21 != 0), vb (x21 != 0), vb (x21 != 0), vb (x21 != 0)] 1 mixed (by kernel_rfl) hw7 ?_
 refine draw_end rfl (pu rfl (pv_move rfl) (pu rfl (pv_ifnil (e := x15) (v := true) ii_30 rfl (by exact congrArg some hb7)) (pu rfl (pv_move (by first | rfl | exact congrArg Value.bool hb7)) (pu rfl (pv_fld fo_57_0 rfl) (pu rfl (pv_cmp (v := true) rfl rfl rfl (by exact hb8)) (pu rfl (pv_pick (b := true) (v := vb true) rfl rfl) (pu rfl (pv_move (by first | rfl | exact congrArg Value.bool hb8)) (pu rfl (pv_move rfl) (pu rfl (pv_nilh rfl hp2) (pu rfl (pv_fld fo_43_3 rfl) (pu rfl (pv_fld fo_57_1 rfl) (pu rfl (pv_cmp (v := false) rfl rfl rfl (by exact hb9)) (pu rfl (pv_move (by first | rfl | exact congrArg Value.bool hb9)) (pu rfl (pv_move rfl) (pu rfl (pv_nilh rfl hp2) (pu rfl (pv_fld fo_43_4 rfl) (pu rfl (pv_cmp (v := (x21 != 0)) rfl rfl rfl rfl) (pu rfl (pv_pick (b := false) (v := vb (x21 != 0)) rfl rfl) (pu rfl (pv_pick (b := true) (v := vb (x21 != 0)) rfl rfl) (pu rfl (pv_assign rfl) ap0)))))))))))))))))))) (ro rfl (pv_ld ty_46 rfl hx18) (ro rfl (pv_ld ty_3 rfl hx19) (ro rfl (pv_ld ty_3 rfl hx20) (ro rfl (pv_ld ty_36 rfl hx21) ao0)))) ?_
 exact ⟨(x21 != 0), ⟨rfl, rfl, rfl, rfl, rfl, rfl, rfl, rfl, trivial⟩, h⟩
 have h := h.2 hb8
 refine WX_dr [] [0,1,2,3,5,6,7,8,9,10,12,14,15,16,17,18,20,21,22,23] [⟨[],[0,1,2,3,5,6,7,8,9,10,12,14,15,16,17,18,20,21,22,23],[4,11,13,19],[]⟩] [x15.v, vb true, vb true, vp b4 0, vi x18, vb false, vb false, vb false, un, un, un, un, un, un, un, un, un, un, un, un, un, un, vb false, vb false] 1 mixed (by kernel_rfl) hw7 ?_
 refine draw_end rfl (pu rfl (pv_move rfl) (pu rfl (pv_ifnil (e := x15) (v := true) ii_30 rfl (by exact congrArg some hb7)) (pu rfl (pv_move (by first | rfl | exact congrArg Value.bool hb7)) (pu rfl (pv_fld fo_57_0 rfl) (pu rfl (pv_cmp (v := false) rfl rfl rfl (by exact hb8)) (pu rfl (pv_pick (b := true) (v := vb false) rfl rfl) (pu rfl (pv_move (by first | rfl | exact congrArg Value.bool hb8)) (pn (pn (pn (pn (pn (pn (pn (pn (pn (pn (pn (pu rfl (pv_pick (b := false) (v := vb false) rfl rfl) (pu rfl (pv_assign rfl) ap0)))))))))))))))))))) (ro rfl (pv_ld ty_46 rfl hx18) (rn (rn (rn ao0)))) ?_
 exact ⟨false, ⟨rfl, rfl, rfl, rfl, rfl, rfl, rfl, rfl, trivial⟩, h⟩
 have h := h.2 hb7
 refine WX_dr [] [0,1,2,3,5,6,7,8,9,10,12,14,15,16,17,18,20,21,22,23] [⟨[],[0,1,2,3,5,6,7,8,9,10,12,14,15,16,17,18,20,21,22,23],[4,11,13,19],[]⟩] [x15.v, vb false, vb false, un, un, un, vb false, vb false, un, un, un, un, un, un, un, un, un, un, un, un, un, un, vb false, vb false] 1 mixed (by kernel_rfl) hw7 ?_
 refine draw_end rfl (pu rfl (pv_move rfl) (pu rfl (pv_ifnil (e := x15) (v := false) ii_30 rfl (by exact congrArg some hb7)) (pu rfl (pv_move (by first | rfl | exact congrArg Value.bool hb7)) (pn (pn (pu rfl (pv_pick (b := false) (v := vb false) rfl rfl) (pu rfl (pv_move rfl) (pn (pn (pn (pn (pn (pn (pn (pn (pn (pn (pn (pu rfl (pv_pick (b := false) (v := vb false) rfl rfl) (pu rfl (pv_assign rfl) ap0)))))))))))))))))))) (rn (rn (rn (rn ao0)))) ?_
 exact ⟨false, ⟨rfl, rfl, rfl, rfl, rfl, rfl, rfl, rfl, trivial⟩, h⟩
 rintro f w14 ⟨x22, ha, h⟩
 obtain ⟨g6, rfl⟩ := canon ha
 refine WX_cond (b := x22) rfl (fun hb17 => ?_) (fun hb17 => ?_)
 have h := h.1 hb17
 refine WX_seq (WX_region ?_)
 refine mva (vb false) rfl (ops_nil ?_)
 refine WX_ret ?_
 exact fin_of [vb false] rfl ⟨rfl, trivial⟩ h
 have h := h.2 hb17
 refine WX_join (fun f w17 => ∃ x27 : Bool, Agree f [(8, .pointer x4), (11, vp b4 0), (12, vu x12), (41, .slice x9.a x9.len x9.cap), (42, vi (x9.len : Int)), (43, vi x10), (92, vb x27)] /\ sh_f4_j5 Q x10 nxt1 b4 b5 o3 x12 x27 w17) ?_ ?_
 obtain ⟨w15, hw8, h⟩ := dwe h
 refine dr_split (b := x15.isNil) (fun hb10 => ?_) (fun hb10 => ?_)
 have h := h.1 hb10
 obtain ⟨x23, hx23, h⟩ := h
 refine dr_split (b := (x23 == 1)) (fun hb11 => ?_) (fun hb11 => ?_)
 have h := h.1 hb11
 obtain ⟨x24, hx24, x25, hx25, h⟩ := h
 refine WX_dr [15] [0,1,2,3,5,6,7,8,9,10,12,13,16,17] [⟨[],[0,1,2,3,5,6,7,8,9,10,12,13],[4,11,14],[(15,[15,16,17],1)]⟩,⟨[15],[16,17],[],[]⟩] [x15.v, vb true, vb true, vp b4 0, vi x23, vb true, vb true, vb true, .pointer x4, vp b5 o3, vp b5 (o3 + 3), .pointer x24, vp b4 2, vp b4 2, vu x25, un, un, un] 2 mixed (by kernel_rfl) hw8 ?_
 refine draw_go rfl (pu rfl (pv_move rfl) (pu rfl (pv_ifnil (e := x15) (v := true) ii_30 rfl (by exact congrArg some hb10)) (pu rfl (pv_move (by first | rfl | exact congrArg Value.bool hb10)) (pu rfl (pv_fld fo_57_0 rfl) (pu rfl (pv_cmp (v := true) rfl rfl rfl (by exact hb11)) (pu rfl (pv_pick (b := true) (v := vb true) rfl rfl) (pu rfl (pv_move (by first | rfl | exact congrArg Value.bool hb11)) (pu rfl (pv_move rfl) (pu rfl (pv_nilh rfl hp2) (pu rfl (pv_fld fo_43_1 rfl) (pu rfl (pv_fld fo_57_2 rfl) (pu rfl (pv_fld fo_50_0 rfl) ap0)))))))))))) (ro rfl (pv_ld ty_46 rfl hx23) (ro rfl (pv_ld ty_33 rfl hx24) (ro rfl (pv_ld ty_36 rfl hx25) ao0))) rfl ?_
 refine cy rfl rfl ?_
 refine pw_call co_15 rfl (cm h ?_)
 rintro v6 w16 ⟨x26, rfl, h⟩
 refine nx [vb x26, vb x26] rfl nl rfl ?_
 refine draw_end rfl (pu rfl (pv_pick (b := true) (v := vb x26) rfl rfl) (pu rfl (pv_assign rfl) ap0)) ao0 ?_
 exact ⟨x26, ⟨rfl, rfl, rfl, rfl, rfl, rfl, rfl, trivial⟩, h⟩
 have h := h.2 hb11
 refine WX_dr [15] [0,1,2,3,5,6,7,8,9,10,12,13,16,17] [⟨[],[0,1,2,3,5,6,7,8,9,10,12,13],[4,11,14],[(15,[15,16,17],1)]⟩,⟨[15],[16,17],[],[]⟩] [x15.v, vb true, vb true, vp b4 0, vi x23, vb false, vb false, vb false, un, un, un, un, un, un, un, un, un, un] 2 mixed (by kernel_rfl) hw8 ?_
 refine draw_go rfl (pu rfl (pv_move rfl) (pu rfl (pv_ifnil (e := x15) (v := true) ii_30 rfl (by exact congrArg some hb10)) (pu rfl (pv_move (by first | rfl | exact congrArg Value.bool hb10)) (pu rfl (pv_fld fo_57_0 rfl) (pu rfl (pv_cmp (v := false) rfl rfl rfl (by exact hb11)) (pu rfl (pv_pick (b := true) (v := vb false) rfl rfl) (pu rfl (pv_move (by first | rfl | exact congrArg Value.bool hb11)) (pn (pn (pn (pn (pn ap0)))))))))))) (ro rfl (pv_ld ty_46 rfl hx23) (rn (rn ao0))) rfl ?_
 refine ch_no [vb false, vb false] rfl rfl rfl nl rfl ?_ ch0
 refine draw_end rfl (pu rfl (pv_pick (b := false) (v := vb false) rfl rfl) (pu rfl (pv_assign rfl) ap0)) ao0 ?_
 exact ⟨false, ⟨rfl, rfl, rfl, rfl, rfl, rfl, rfl, trivial⟩, h⟩
 have h := h.2 hb10
 refine WX_dr [15] [0,1,2,3,5,6,7,8,9,10,12,13,16,17] [⟨[],[0,1,2,3,5,6,7,8,9,10,12,13],[4,11,14],[(15,[15,16,17],1)]⟩,⟨[15],[16,17],[],[]⟩] [x15.v, vb false, vb false, un, un, un, vb false, vb false, un, un, un, un, un, un, un, un, un, un] 2 mixed (by kernel_rfl) hw8 ?_
 refine draw_go rfl (pu rfl (pv_move rfl) (pu rfl (pv_ifnil (e := x15) (v := false) ii_30 rfl (by exact congrArg some hb10)) (pu rfl (pv_move (by first | rfl | exact congrArg Value.bool hb10)) (pn (pn (pu rfl (pv_pick (b := false) (v := vb false) rfl rfl) (pu rfl (pv_move rfl) (pn (pn (pn (pn (pn ap0)))))))))))) (rn (rn (rn ao0))) rfl ?_
 refine ch_no [vb false, vb false] rfl rfl rfl nl rfl ?_ ch0
 refine draw_end rfl (pu rfl (pv_pick (b := false) (v := vb false) rfl rfl) (pu rfl (pv_assign rfl) ap0)) ao0 ?_
 exact ⟨false, ⟨rfl, rfl, rfl, rfl, rfl, rfl, rfl, trivial⟩, h⟩
 rintro f w17 ⟨x27, ha, h⟩
 obtain ⟨g5, rfl⟩ := canon ha
 refine WX_cond (b := x27) rfl (fun hb16 => ?_) (fun hb16 => ?_)
 have h := h.1 hb16
 refine WX_seq (WX_region ?_)
 refine mv (vu x12) rfl <| mva (vu x12) rfl (ops_nil ?_)
 refine WX_join (fun f w20 => ∃ x32 : Int, Agree f [(8, .pointer x4), (15, vu x32), (41, .slice x9.a x9.len x9.cap), (42, vi (x9.len : Int)), (43, vi x10)] /\ sh_f4_j7 Q x10 nxt1 b5 o3 x32 w20) ?_ ?_
 refine WX_join (fun f w19 => ∃ x30 : Bool, Agree f [(8, .pointer x4), (11, vp b4 0), (15, vu x12), (41, .slice x9.a x9.len x9.cap), (42, vi (x9.len : Int)), (43, vi x10), (122, vb x30)] /\ sh_f4_j6 Q x10 nxt1 b4 b5 o3 x12 x30 w19) ?_ ?_
 obtain ⟨w18, hw9, h⟩ := dwe h
 refine dr_split (b := (x12 == 0)) (fun hb12 => ?_) (fun hb12 => ?_)
 have h := h.1 hb12
 obtain ⟨x28, hx28, x29, hx29, h⟩ := h
 refine WX_dr [] [0,1,2,3,4,6,7,8,10,11] [⟨[],[0,1,2,3,4,6,7,8,10,11],[5,9],[]⟩] [vu x12, vb true, vb true, vp b4 2, vp b4 4, vi x28, .pointer x4, vp b5 o3, vp b5 (o3 + 5), vi x29, vb (x28 == x29), vb (x28 == x29)] 1 mixed (by kernel_rfl) hw9 ?_
 refine draw_end rfl (pu rfl (pv_move rfl) (pu rfl (pv_cmp (v := true) rfl rfl rfl (by exact hb12)) (pu rfl (pv_move (by first | rfl | exact congrArg Value.bool hb12)) (pu rfl (pv_fld fo_57_2 rfl) (pu rfl (pv_fld fo_50_2 rfl) (pu rfl (pv_move rfl) (pu rfl (pv_nilh rfl hp2) (pu rfl (pv_fld fo_43_3 rfl) (pu rfl (pv_cmp (v := (x28 == x29)) rfl rfl rfl rfl) (pu rfl (pv_pick (b := true) (v := vb (x28 == x29)) rfl rfl) ap0)))))))))) (ro rfl (pv_ld ty_3 rfl hx28) (ro rfl (pv_ld ty_3 rfl hx29) ao0)) ?_
 exact ⟨(x28 == x29), ⟨rfl, rfl, rfl, rfl, rfl, rfl, rfl, trivial⟩, h⟩
 have h := h.2 hb12
 refine WX_dr [] [0,1,2,3,4,6,7,8,10,11] [⟨[],[0,1,2,3,4,6,7,8,10,11],[5,9],[]⟩] [vu x12, vb false, vb false, un, un, un, un, un, un, un, un, vb false] 1 mixed (by kernel_rfl) hw9 ?_
 refine draw_end rfl (pu rfl (pv_move rfl) (pu rfl (pv_cmp (v := false) rfl rfl rfl (by exact hb12)) (pu rfl (pv_move (by first | rfl | exact congrArg Value.bool hb12)) (pn (pn (pn (pn (pn (pn (pu rfl (pv_pick (b := false) (v := vb false) rfl rfl) ap0)))))))))) (rn (rn ao0)) ?_
 exact ⟨false, ⟨rfl, rfl, rfl, rfl, rfl, rfl, rfl, trivial⟩, h⟩
 rintro f w19 ⟨x30, ha, h⟩
 obtain ⟨g2, rfl⟩ := canon ha
 refine WX_cond (b := x30) rfl (fun hb13 => ?_) (fun hb13 => ?_)
 have h := h.1 hb13
 refine WX_region ?_
 refine op_v (pv_fld fo_57_2 rfl) <| op_v (pv_fld fo_50_0 rfl) ?_
 obtain ⟨x31, hx31, h⟩ := h
 refine op_v (pv_ld ty_36 rfl hx31) <| mva (vu x31) rfl (ops_nil ?_)
 exact ⟨x31, ⟨rfl, rfl, rfl, rfl, rfl, trivial⟩, h⟩
 have h := h.2 hb13
 refine WX_skip ?_
 exact ⟨x12, ⟨rfl, rfl, rfl, rfl, rfl, trivial⟩, h⟩
 rintro f w20 ⟨x32, ha, h⟩
 obtain ⟨g4, rfl⟩ := canon ha
 refine WX_join (fun f w22 => ∃ x36 : Bool, Agree f [(8, .pointer x4), (41, .slice x9.a x9.len x9.cap), (42, vi (x9.len : Int)), (43, vi x10), (139, vb x36)] /\ sh_f4_j8 Q x10 nxt1 x36 w22) ?_ ?_
 refine WX_region ?_
 refine mv (.pointer x4) rfl <| op_v (pv_nilh rfl hp2) <| op_v (pv_fld fo_43_4 rfl) ?_
 obtain ⟨x33, hx33, h⟩ := h
 refine op_v (pv_ld ty_36 rfl hx33) <| mv (vu x32) rfl <| op_v (pv_cmp (v := (x33 != x32)) rfl rfl rfl rfl) <| mv (vb (x33 != x32)) rfl ?_
 refine ops_split 132 (b := (x33 != x32)) rfl (fun hb14 => ?_) (fun hb14 => ?_)
 have h := h.1 hb14
 refine opg_v (pv_move (v := .pointer x4) rfl) <| opg_v (pv_nilh rfl hp2) <| opg_v (pv_fld fo_43_1 rfl) ?_
 obtain ⟨x34, hx34, h⟩ := h
 refine opg_v (pv_ld ty_33 rfl hx34) <| opg_v (pv_move (v := vu x32) rfl) <| opg_w (pw_call co_15 rfl (CallsR.mono h ?_))
 rintro v7 w21 ⟨x35, rfl, h⟩
 refine op_v (pv_pick (b := true) (v := vb x35) rfl rfl) (ops_nil ?_)
 exact ⟨x35, ⟨rfl, rfl, rfl, rfl, rfl, trivial⟩, h⟩
 have h := h.2 hb14
 iterate 6 refine opg_no ?_
 refine op_v (pv_pick (b := false) (v := vb false) rfl rfl) (ops_nil ?_)
 exact ⟨false, ⟨rfl, rfl, rfl, rfl, rfl, trivial⟩, h⟩
 rintro f w22 ⟨x36, ha, h⟩
 obtain ⟨g3, rfl⟩ := canon ha
 refine WX_cond (b := x36) rfl (fun hb15 => ?_) (fun hb15 => ?_)
 have h := h.1 hb15
 refine WX_seq (WX_region ?_)
 refine mva (vb false) rfl (ops_nil ?_)
 refine WX_ret ?_
 exact fin_of [vb false] rfl ⟨rfl, trivial⟩ h
 have h := h.2 hb15
 refine WX_skip ?_
 exact ⟨⟨rfl, rfl, rfl, rfl, trivial⟩, h⟩
 have h := h.2 hb16
 refine WX_skip ?_
 exact ⟨⟨rfl, rfl, rfl, rfl, trivial⟩, h⟩
 rintro f w23 ⟨ha, h⟩
 obtain ⟨g8, rfl⟩ := canon ha
 refine WX_region ?_
 refine op_v (pv_add rfl rfl) <| mv (vi (IntKind.i64.wrap (x10 + 1))) rfl (ops_nil ?_)
 subst hn_nxt1
 obtain ⟨m2, hm2, h⟩ := h
 exact ⟨m2, hm2, (IntKind.i64.wrap (x10 + 1)), ⟨rfl, rfl, rfl, rfl, trivial⟩, h⟩
 have h := h.2 hb5
 refine WX_exit0 ?_
 exact ⟨ag0, h⟩
 rintro f w24 ⟨ha, h⟩
 obtain ⟨g10, rfl⟩ := canon ha
 refine WX_seq (WX_region ?_)
 refine mva (vb true) rfl (ops_nil ?_)
 refine WX_ret ?_
 exact fin_of [vb true] rfl ⟨rfl, trivial⟩ h
end Go.Proofs.Ytdefmgkicdhmkaa
set_option maxRecDepth 512
set_option maxHeartbeats 200000
namespace Go.Proofs.Ytdefmgkicdhmkaa
open Go Go.Sx
set_option linter.unusedVariables false
theorem c_StoreTicks {w : World} {a0 a1 : Sl} {a2 : Int} {xs0 xs1 : List Int} {D0 D1 : Nat -> Prop} {Q : QW} (h0 : SlIs tU8 D0 w a0 xs0) (h1 : SlIs tU8 D1 w a1 xs1) (r0 : ∀ x ∈ xs0, 0 <= x /\ x <= 255) (r1 : ∀ x ∈ xs1, 0 <= x /\ x <= 255) (r2 : 0 <= a2 /\ a2 <= 255)
  (hQ : ∀ w', Gr w w' -> Q (.bool true) w') : CallsR PP n_f4 #[.slice a0.a a0.len a0.cap, .slice a1.a a1.len a1.cap, .int .u8 a2] Q w := by
 refine so_f4 _ _ ?_
 unfold sh_f4
 refine law_go h0 h1 r0 r1 r2 (sh_f4_j1 a0 Q) (fun _ x4 x9 => sh_f4_b2 Q x4 x9)
  (fun _ x4 b4 x10 nxt1 w10 => nc x4 fun b5 o3 => ld tU64 w10 b5 (o3 + 6) fun x12 => ld t_api_Event w10 b4 0 fun x13 => CallsR PP n_f12 #[.pointer x4, t_api_Event.val x13] (fun v5 w11 => ∃ x14 : Sl, ∃ x15 : Ifc, v5 = .tuple #[.slice x14.a x14.len x14.cap, x15.v] /\ (br (!x15.isNil) (ld tU64 w11 b5 (o3 + 6) fun x16 => (sh_f4_j3 Q x10 nxt1 b4 b5 o3 x12 x15 (x16 != x12) w11)) ((sh_f4_j3 Q x10 nxt1 b4 b5 o3 x12 x15 false w11)))) w10)
  (fun b1 x4 w6 h => br_f rfl h) (fun b1 x4 x9 x10 w8 nxt h => h) hQ ?_
 intro w1 b1 sb b4 i nxt O I J gc A cs ge e v i0 i1 hb4 hO hnx
 have st := v.st
 obtain ⟨g, tb, tr, vb, lr, gr, gl, r⟩ := st
 have cB : CellsAt w1 sb 6 (tU64.enc A.boosted) := by rw [<- r.boosted]; exact r.cells.sub 6 1
 refine ⟨sb, 0, rfl, ld_i cB (ld_i v.ecell (c_Apply v.st v.wf v.ev (fun b hb => (v.JO b hb).1) fun w2 O' I' s' gw hI' st' hsl => ⟨s', errV (A.applyErr e), rfl, ?_⟩))⟩
 clear r cB
 have wf' := v.wf.apply v.ev.root
 obtain ⟨g', tb', tr', vb', lr', gr', gl', r'⟩ := id st'
 have ec : CellsAt w2 b4 0 (t_api_Event.enc ge) := v.ecell.keeps gw.1 v.O4
 have cB : CellsAt w2 sb 6 (tU64.enc (A.apply e).2.boosted) := by rw [<- r'.boosted]; exact r'.cells.sub 6 1
 have cS : CellsAt w2 sb 5 (tI64.enc (A.apply e).2.slot) := by rw [<- r'.slot]; exact r'.cells.sub 5 1
 have cT : CellsAt w2 sb 3 (tPtr.enc (some ⟨tb', 0, none⟩)) := by rw [<- r'.ptree]; exact r'.cells.sub 3 1
 have go : ∀ w', Gr w2 w' -> sh_f4_j9 i nxt w' := fun w' G => hnx w' O' I' _ (Keeps.local (gw.1.mono fun b _ hb => .inl hb) (Gr.keeps (S := fun _ => False) G) fun j f => f.elim) gw.2 (st'.grow G)
 rw [errV_nil]
 by_cases he : A.applyErr e = 0
 ·refine br_f (by rw [he]; rfl) ?_
  unfold sh_f4_j3
  refine br_f rfl (dw_i fun w3 e3 g3 => ?_)
  have en : (errV (A.applyErr e)).isNil = true := by rw [he]; rfl
  refine br_t en (ld_i (x := ge.Kind) ((ec.gr g3).sub 0 1) ?_)
  have J4 : ge.Kind ≠ 0 -> sh_f4_j4 Q i nxt b4 sb 0 A.boosted (errV (A.applyErr e)) false w3 := by
   intro hk
   unfold sh_f4_j4
   refine br_f rfl (dw_i fun w4 e4 g4 => br_t en (ld_i (x := ge.Kind) ((ec.gr (g3.trans g4)).sub 0 1) ?_))
   have nf : ∀ w5, Gr w2 w5 -> sh_f4_j5 Q i nxt b4 sb 0 A.boosted false w5 := fun w5 G => br_f rfl (go w5 G)
   refine br_i (fun q => ?_) (fun q => nf w4 (g3.trans g4))
   have hk1 : e.kind = 1 := by rw [<- v.ev.kind]; simpa using q
   have G4 := g3.trans g4
   refine ld_i (cT.gr G4) (ld_i (x := ge.Block.Root) ((ec.gr G4).sub 2 1) (c_tree_Has (r'.tree.gr G4) fun w5 g5 => ⟨_, rfl, ?_⟩))
   have G5 := G4.trans g5
   have hroot : ge.Block.Root = e.block.root := v.ev.block.root
   have hslot : ge.Block.Slot = e.block.slot := v.ev.block.slot
   have hap : A.apply e = A.propose e.block := by unfold AStore.apply; rw [if_neg (by omega), if_pos hk1]
   have hpe : A.propErr e.block = 0 := by unfold AStore.applyErr at he; rwa [if_neg (by omega), if_pos hk1] at he
   obtain ⟨p1, p2⟩ := AStore.propose_boost v.wf hpe v.ev.root
   rw [<- hap] at p1 p2
   unfold sh_f4_j5
   refine br_i (fun q5 => dw_i fun w6 e6 g6 => ?_) (fun q5 => go w5 G5)
   have G6 := G5.trans g6
   have J7 : ∀ want, (A.apply e).2.boosted = want \/ (A.apply e).2.tree.has want = false -> sh_f4_j7 Q i nxt sb 0 want w6 := by
    intro want hw
    unfold sh_f4_j7
    refine ld_i (cB.gr G6) (br_i (fun q6 => ?_) (fun q6 => br_f rfl (go w6 G6)))
    refine ld_i (cT.gr G6) (c_tree_Has (r'.tree.gr G6) fun w7 g7 => ⟨_, rfl, ?_⟩)
    have q6 : (A.apply e).2.boosted ≠ want := by simpa using q6
    have := hw.resolve_left q6
    unfold sh_f4_j8
    exact br_f this (go w7 (G6.trans g7))
   have J6f : ¬ (A.boosted = 0 /\ e.block.slot = A.slot) -> sh_f4_j6 Q i nxt b4 sb 0 A.boosted false w6 := fun hn => br_f rfl (J7 _ (by rw [if_neg hn] at p2; exact p2))
   refine br_i (fun q6 => ?_) (fun q6 => J6f fun hh => by simp [hh.1] at q6)
   have q6 : A.boosted = 0 := by simpa using q6
   refine ld_i (x := ge.Block.Slot) ((ec.gr G6).sub 4 1) (ld_i (cS.gr G6) ?_)
   unfold sh_f4_j6
   rw [p1, hslot]
   refine br_i (fun q7 => ?_) (fun q7 => J7 _ ?_)
   ·have q7 : e.block.slot = A.slot := by simpa using q7
    refine ld_i (x := ge.Block.Root) ((ec.gr G6).sub 2 1) (J7 _ ?_)
    rw [if_pos ⟨q6, q7⟩] at p2
    rw [hroot]; exact p2
   ·have q7 : ¬ e.block.slot = A.slot := by simpa using q7
    rw [if_neg fun hh => q7 hh.2] at p2
    exact p2
  refine br_i (fun q => ?_) (fun q => J4 (by simpa using q))
  have hk0 : e.kind = 0 := by rw [<- v.ev.kind]; simpa using q
  have hap : A.apply e = ([], A.tick e.slot) := by unfold AStore.apply; rw [if_pos hk0]
  have hte : A.tickErr e.slot = 0 := by unfold AStore.applyErr at he; rwa [if_pos hk0] at he
  obtain ⟨p1, p2⟩ := AStore.tick_ok hte
  have hs : ge.Slot = e.slot := v.ev.slot
  rw [hap] at cS cB
  refine ld_i (cS.gr g3) (ld_i (x := ge.Slot) ((ec.gr g3).sub 1 1) (br_f (by simp [hs, p1]) (ld_i (cB.gr g3) ?_)))
  unfold sh_f4_j4
  have hk : ge.Kind = 0 := by simpa using q
  refine br_f (by simp [p2]) (dw_i fun w4 e4 g4 => br_t en (ld_i (x := ge.Kind) ((ec.gr (g3.trans g4)).sub 0 1) (br_f (by simp [hk]) (br_f rfl (go w4 (g3.trans g4))))))
 ·refine br_t (by simpa using he) (ld_i cB ?_)
  rw [AStore.apply_err' he]
  have en : (errV (A.applyErr e)).isNil = false := by rw [errV_nil]; simpa using he
  unfold sh_f4_j3
  refine br_f (by simp) (dw_i fun w3 e3 g3 => br_f en ?_)
  unfold sh_f4_j4
  refine br_f rfl (dw_i fun w4 e4 g4 => br_f en (br_f rfl (go w4 (g3.trans g4))))
end Go.Proofs.Ytdefmgkicdhmkaa
