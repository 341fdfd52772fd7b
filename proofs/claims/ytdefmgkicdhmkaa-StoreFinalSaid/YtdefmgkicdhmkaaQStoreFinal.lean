/- What is justified and final is there, and stands on what was final; the first block is what is final; neither ever goes back: at every input. The walk. -/
import Derived.Test.YtdefmgkicdhmkaaQ14
namespace Go.Proofs.Ytdefmgkicdhmkaa
open Go Go.Sx
set_option linter.unusedVariables false
set_option maxRecDepth 100000
set_option maxHeartbeats 2000000
def sh_f6_j5 (Q : QW) (x10 : Int) (nxt1 : Int -> World -> Prop) (x35 : Bool) (w27 : World) : Prop :=
  br x35 (Q (.bool false) w27) (nxt1 (IntKind.i64.wrap (x10 + 1)) w27)
def sh_f6_j4 (Q : QW) (x4 : Option Addr) (x10 : Int) (nxt1 : Int -> World -> Prop) (b10 : Nat) (o4 : Nat) (b11 : Nat) (o5 : Nat) (x28 : Bool) (w25 : World) : Prop :=
  br x28 (Q (.bool false) w25) (dw w25 fun w26 => nc x4 fun b13 o7 => ld t_api_Point w26 b13 (o7 + 9) fun x29 => ld t_api_Point w26 b11 o5 fun x30 => br (eq_api_Point x29 x30) (ld tI64 w26 b13 ((o7 + 9) + 0) fun x31 => ld tI64 w26 b13 ((o7 + 7) + 0) fun x32 => br (decide (x31 > x32)) (ld tI64 w26 b11 (o5 + 0) fun x33 => ld tI64 w26 b10 (o4 + 0) fun x34 => (sh_f6_j5 Q x10 nxt1 (decide (x33 <= x34)) w26)) ((sh_f6_j5 Q x10 nxt1 false w26))) ((sh_f6_j5 Q x10 nxt1 false w26)))
def sh_f6_j3 (Q : QW) (x4 : Option Addr) (x10 : Int) (nxt1 : Int -> World -> Prop) (b4 : Nat) (b10 : Nat) (o4 : Nat) (b11 : Nat) (o5 : Nat) (w20 : World) : Prop :=
  ld t_api_Event w20 b4 0 fun x14 => CallsR PP n_f12 #[.pointer x4, t_api_Event.val x14] (fun v5 w21 => ∃ x15 : Sl, ∃ x16 : Ifc, v5 = .tuple #[.slice x15.a x15.len x15.cap, x16.v] /\ (dw w21 fun w22 => nc x4 fun b12 o6 => ld tI64 w22 b12 ((o6 + 7) + 0) fun x17 => ld tI64 w22 b10 (o4 + 0) fun x18 => br (decide (x17 < x18)) ((sh_f6_j4 Q x4 x10 nxt1 b10 o4 b11 o5 true w22)) (ld tI64 w22 b12 ((o6 + 9) + 0) fun x19 => ld tI64 w22 b11 (o5 + 0) fun x20 => br (decide (x19 < x20)) ((sh_f6_j4 Q x4 x10 nxt1 b10 o4 b11 o5 true w22)) (ld tPtr w22 b12 (o6 + 3) fun x21 => ld tU64 w22 b12 ((o6 + 9) + 1) fun x22 => CallsR PP n_f16 #[.pointer x21] (fun v6 w23 => ∃ x23 : Int, v6 = .int .u64 x23 /\ (chk tU64 w23 b12 ((o6 + 9) + 1) x22 <| br (x23 != x22) ((sh_f6_j4 Q x4 x10 nxt1 b10 o4 b11 o5 true w23)) (ld tPtr w23 b12 (o6 + 3) fun x24 => ld tU64 w23 b12 ((o6 + 7) + 1) fun x25 => ld tU64 w23 b12 ((o6 + 9) + 1) fun x26 => CallsR PP n_f17 #[.pointer x24, .int .u64 x25, .int .u64 x26] (fun v7 w24 => ∃ x27 : Bool, v7 = .bool x27 /\ ((sh_f6_j4 Q x4 x10 nxt1 b10 o4 b11 o5 (!x27) w24))) w23))) w22)))) w20
def sh_f6_j6 (Q : QW) (w28 : World) : Prop :=
  Q (.bool true) w28
def sh_f6_b2 (Q : QW) (x4 : Option Addr) (x9 : Sl) (x10 : Int) (w8 : World) (nxt1 : Int -> World -> Prop) : Prop :=
  br (decide (x10 < (x9.len : Int))) (ixs x9 x10 fun b3 o2 => ld t_api_Event w8 b3 (o2 + (x10).toNat * 28) fun x11 => al t_api_Event 57 w8 (⟨0, 0, (⟨0, 0, 0, nilSl, nilSl⟩ : G_api_Block), (⟨0, 0, (⟨0, 0⟩ : G_api_Point), (⟨0, 0⟩ : G_api_Point), nilSl⟩ : G_api_Vote), (⟨(⟨0, 0, (⟨0, 0⟩ : G_api_Point), (⟨0, 0⟩ : G_api_Point), nilSl⟩ : G_api_Vote), (⟨0, 0, (⟨0, 0⟩ : G_api_Point), (⟨0, 0⟩ : G_api_Point), nilSl⟩ : G_api_Vote)⟩ : G_api_Proof)⟩ : G_api_Event) fun b4 w9 => st t_api_Event w9 b4 0 x11 fun w10 => dw w10 fun w11 => nc x4 fun b5 o3 => ld t_api_Point w11 b5 (o3 + 7) fun x12 => ld t_api_Point w11 b5 (o3 + 9) fun x13 => ((al t_api_Point 38 w11 (⟨0, 0⟩ : G_api_Point) fun b6 w12 => chk t_api_Point w12 b5 (o3 + 7) x12 <| chk t_api_Point w12 b5 (o3 + 9) x13 <| al t_api_Point 38 w12 (⟨0, 0⟩ : G_api_Point) fun b7 w13 => chk t_api_Point w13 b5 (o3 + 7) x12 <| chk t_api_Point w13 b5 (o3 + 9) x13 <| st t_api_Point w13 b6 0 x12 fun w14 => chk t_api_Point w14 b5 (o3 + 9) x13 <| st t_api_Point w14 b7 0 x13 fun w15 => (sh_f6_j3 Q x4 x10 nxt1 b4 b6 0 b7 0 w15)) /\ (al t_api_Point 38 w11 (⟨0, 0⟩ : G_api_Point) fun b8 w16 => chk t_api_Point w16 b5 (o3 + 7) x12 <| chk t_api_Point w16 b5 (o3 + 9) x13 <| al t_api_Point 38 w16 (⟨0, 0⟩ : G_api_Point) fun b9 w17 => chk t_api_Point w17 b5 (o3 + 7) x12 <| chk t_api_Point w17 b5 (o3 + 9) x13 <| st t_api_Point w17 b9 0 x12 fun w18 => chk t_api_Point w18 b5 (o3 + 9) x13 <| st t_api_Point w18 b8 0 x13 fun w19 => (sh_f6_j3 Q x4 x10 nxt1 b4 b9 0 b8 0 w19)))) ((sh_f6_j6 Q w8))
def sh_f6_j1 (a0 : Sl) (Q : QW) (b1 : Nat) (x4 : Option Addr) (x7 : Bool) (w6 : World) : Prop :=
  br x7 (Q (.bool false) w6) (ld t_api_Config w6 b1 0 fun x8 => CallsR PP n_f11 #[t_api_Config.val x8, .slice a0.a a0.len a0.cap] (fun v4 w7 => ∃ x9 : Sl, v4 = .slice x9.a x9.len x9.cap /\ ((∃ I1 : Nat -> Int -> World -> Prop, (∃ m, I1 m 0 w7) /\ ∀ m x10 w8, I1 m x10 w8 -> sh_f6_b2 Q x4 x9 x10 w8 (fun y0 w => ∃ m2, m2 < m /\ I1 m2 y0 w)))) w6)
def sh_f6 (a0 : Sl) (a1 : Sl) (a2 : Int) (Q : QW) (w0 : World) : Prop :=
  CallsR PP n_f8 #[] (fun v1 w1 => ∃ x1 : Bool, v1 = .bool x1 /\ (br (!x1) (Q (.bool false) w1) (CallsR PP n_f9 #[.slice a1.a a1.len a1.cap, .int .u8 a2, .int .u8 40] (fun v2 w2 => ∃ x2 : G_api_Config, v2 = t_api_Config.val x2 /\ (al t_api_Config 26 w2 (⟨nilSl, 0, 0⟩ : G_api_Config) fun b1 w3 => st t_api_Config w3 b1 0 x2 fun w4 => ld t_api_Config w4 b1 0 fun x3 => CallsR PP n_f10 #[t_api_Config.val x3] (fun v3 w5 => ∃ x4 : Option Addr, ∃ x5 : Ifc, v3 = .tuple #[.pointer x4, x5.v] /\ (br (!x5.isNil) ((sh_f6_j1 a0 Q b1 x4 true w5)) (br x4.isNone ((sh_f6_j1 a0 Q b1 x4 true w5)) (nc x4 fun b2 o1 => ld tPtr w5 b2 (o1 + 3) fun x6 => (sh_f6_j1 a0 Q b1 x4 x6.isNone w5))))) w4)) w1))) w0
theorem so_f6 {a0 : Sl} {a1 : Sl} {a2 : Int} (Q : QW) (w0 : World) (h : sh_f6 a0 a1 a2 Q w0) : CallsR PP n_f6 #[.slice a0.a a0.len a0.cap, .slice a1.a a1.len a1.cap, .int .u8 a2] Q w0 := by
 refine callsR_of_WX (args := [.slice a0.a a0.len a0.cap, .slice a1.a a1.len a1.cap, .int .u8 a2]) Try.func6 rfl Try.ntmps6 nl ?_
 refine WX_seq (WX_region ?_)
 refine mva (vb false) rfl (ops_nil ?_)
 refine WX_seq ?_
 refine WX_seq (WX_region ?_)
 refine op_w (pw_call co_8 rfl (cm h ?_))
 rintro v1 w1 ⟨x1, rfl, h⟩
 refine op_v (pv_not rfl) (ops_nil ?_)
 refine WX_cond (b := (!x1)) rfl (fun hb1 => ?_) (fun hb1 => ?_)
 have h := h.1 hb1
 refine WX_seq (WX_region ?_)
 refine mva (vb false) rfl (ops_nil ?_)
 refine WX_ret ?_
 exact fin_of [vb false] rfl ⟨rfl, trivial⟩ h
 have h := h.2 hb1
 refine WX_skip <| WX_seq (WX_region ?_)
 refine mv (.slice a1.a a1.len a1.cap) rfl <| mv (.int .u8 a2) rfl <| op_w (pw_call co_9 rfl (CallsR.mono h ?_))
 rintro v2 w2 ⟨x2, rfl, h⟩
 refine op_w (pw_alloc ty_26 tz_26 ?_)
 intro b1 w3 hw1 hw2
 replace h := h b1 w3 hw1 hw2
 refine op_w (pw_st (x := x2) ty_26 rfl rfl h.1 ?_)
 intro w4 hw3
 replace h := h.2 w4 hw3
 refine ops_nil ?_
 refine WX_seq (WX_region ?_)
 obtain ⟨x3, hx3, h⟩ := h
 refine op_v (pv_ld ty_26 rfl hx3) <| op_w (pw_call co_10 rfl (CallsR.mono h ?_))
 rintro v3 w5 ⟨x4, x5, rfl, h⟩
 refine mv (.tuple #[.pointer x4, x5.v]) rfl <| op_v (pv_extract (vs := [.pointer x4, x5.v]) (v := .pointer x4) rfl rfl) ?_
 refine op_v (pv_extract (vs := [.pointer x4, x5.v]) (v := x5.v) rfl rfl) <| mva (.pointer x4) rfl <| mva x5.v rfl (ops_nil ?_)
 refine WX_seq ?_
 refine WX_join (fun f w6 => ∃ x7 : Bool, Agree f [(0, .slice a0.a a0.len a0.cap), (7, vp b1 0), (8, .pointer x4), (36, vb x7)] /\ sh_f6_j1 a0 Q b1 x4 x7 w6) ?_ ?_
 refine WX_region ?_
 refine mv x5.v rfl <| op_v (pv_ifnil (e := x5) (v := (!x5.isNil)) ii_30 rfl rfl) <| mv (vb (!x5.isNil)) rfl ?_
 refine ops_split 26 (b := (!x5.isNil)) rfl (fun hb2 => ?_) (fun hb2 => ?_)
 have h := h.1 hb2
 iterate 2 refine opg_no ?_
 refine op_v (pv_pick (b := true) (v := vb true) rfl rfl) <| mv (vb true) rfl ?_
 iterate 5 refine opg_no ?_
 refine op_v (pv_pick (b := true) (v := vb true) rfl rfl) (ops_nil ?_)
 exact ⟨true, ⟨rfl, rfl, rfl, rfl, trivial⟩, h⟩
 have h := h.2 hb2
 refine opg_v (pv_move (v := .pointer x4) rfl) <| opg_v (pv_ptrnil (p := x4) (v := x4.isNone) ip_28 rfl rfl) ?_
 refine op_v (pv_pick (b := false) (v := vb x4.isNone) rfl rfl) <| mv (vb x4.isNone) rfl ?_
 refine ops_split 30 (b := x4.isNone) rfl (fun hb3 => ?_) (fun hb3 => ?_)
 have h := h.1 hb3
 iterate 5 refine opg_no ?_
 refine op_v (pv_pick (b := true) (v := vb true) rfl rfl) (ops_nil ?_)
 exact ⟨true, ⟨rfl, rfl, rfl, rfl, trivial⟩, h⟩
 have h := h.2 hb3
 refine opg_v (pv_move (v := .pointer x4) rfl) ?_
 obtain ⟨b2, o1, hp1, h⟩ := h
 refine opg_v (pv_nilh rfl hp1) <| opg_v (pv_fld fo_43_1 rfl) ?_
 obtain ⟨x6, hx6, h⟩ := h
 refine opg_v (pv_ld ty_33 rfl hx6) <| opg_v (pv_ptrnil (p := x6) (v := x6.isNone) ip_33 rfl rfl) ?_
 refine op_v (pv_pick (b := false) (v := vb x6.isNone) rfl rfl) (ops_nil ?_)
 exact ⟨x6.isNone, ⟨rfl, rfl, rfl, rfl, trivial⟩, h⟩
 rintro f w6 ⟨x7, ha, h⟩
 obtain ⟨g1, rfl⟩ := canon ha
 refine WX_cond (b := x7) rfl (fun hb4 => ?_) (fun hb4 => ?_)
 have h := h.1 hb4
 refine WX_seq (WX_region ?_)
 refine mva (vb false) rfl (ops_nil ?_)
 refine WX_ret ?_
 exact fin_of [vb false] rfl ⟨rfl, trivial⟩ h
 have h := h.2 hb4
 refine WX_skip <| WX_join (fun f w28 => Agree f [] /\ sh_f6_j6 Q w28) ?_ ?_
 refine WX_seq (WX_region ?_)
 obtain ⟨x8, hx8, h⟩ := h
 refine op_v (pv_ld ty_26 rfl hx8) <| mv (.slice a0.a a0.len a0.cap) rfl <| op_w (pw_call co_11 rfl (CallsR.mono h ?_))
 rintro v4 w7 ⟨x9, rfl, h⟩
 refine op_v (pv_lenS (s := x9) is_44 rfl) <| mv (vi 0) rfl (ops_nil ?_)
 refine WX_block ?_
 obtain ⟨I1, ⟨m, h0⟩, hB1⟩ := h
 refine WX_loop (fun m f w8 => ∃ x10 : Int, Agree f [(8, .pointer x4), (39, .slice x9.a x9.len x9.cap), (40, vi (x9.len : Int)), (41, vi x10)] /\ I1 m x10 w8) ⟨m, 0, ⟨rfl, rfl, rfl, rfl, trivial⟩, h0⟩ ?_
 clear h0 m
 rintro m f w8 ⟨x10, ha, h⟩
 obtain ⟨g5, rfl⟩ := canon ha
 replace h := hB1 m x10 w8 h
 clear hB1
 generalize hn_nxt1 : (fun (y0 : Int) (w : World) => ∃ m2, m2 < m /\ I1 m2 y0 w) = nxt1 at h
 refine WX_seq (WX_region ?_)
 refine op_v (pv_cmp (v := decide (x10 < (x9.len : Int))) rfl rfl rfl rfl) (ops_nil ?_)
 refine WX_seq ?_
 refine WX_cond (b := decide (x10 < (x9.len : Int))) rfl (fun hb5 => ?_) (fun hb5 => ?_)
 have h := h.1 hb5
 refine WX_skip <| WX_seq ?_
 refine WX_block ?_
 refine WX_seq (WX_region ?_)
 obtain ⟨b3, o2, hi1, hi2, hi3, h⟩ := h
 refine op_v (pv_ix (s := x9) ez_44 rfl rfl hi1 hi2 hi3) ?_
 obtain ⟨x11, hx11, h⟩ := h
 refine op_v (pv_ld ty_57 rfl hx11) <| op_w (pw_alloc ty_57 tz_57 ?_)
 intro b4 w9 hw4 hw5
 replace h := h b4 w9 hw4 hw5
 refine op_w (pw_st (x := x11) ty_57 rfl rfl h.1 ?_)
 intro w10 hw6
 replace h := h.2 w10 hw6
 refine ops_nil ?_
 refine WX_join (fun f w20 => ∃ b10 : Nat, ∃ o4 : Nat, ∃ b11 : Nat, ∃ o5 : Nat, Agree f [(8, .pointer x4), (11, vp b4 0), (12, vp b10 o4), (13, vp b11 o5), (39, .slice x9.a x9.len x9.cap), (40, vi (x9.len : Int)), (41, vi x10)] /\ sh_f6_j3 Q x4 x10 nxt1 b4 b10 o4 b11 o5 w20) ?_ ?_
 obtain ⟨w11, hw7, h⟩ := dwe h
 obtain ⟨b5, o3, hp2, x12, hx12, x13, hx13, h⟩ := h
 refine WX_dr [8,9,10,11] [0,1,2,4,5,6] [⟨[],[0,1,2,4,5,6],[3,7],[(8,[8],1),(9,[9],5)]⟩,⟨[8],[],[3,7],[(9,[9],2)]⟩,⟨[9,8],[],[3,7],[(10,[10],3)]⟩,⟨[10,9,8],[],[7],[(11,[11],4)]⟩,⟨[11,10,9,8],[],[],[]⟩,⟨[9],[],[3,7],[(8,[8],6)]⟩,⟨[8,9],[],[3,7],[(10,[10],7)]⟩,⟨[10,8,9],[],[7],[(11,[11],8)]⟩,⟨[11,10,8,9],[],[],[]⟩] [.pointer x4, vp b5 o3, vp b5 (o3 + 7), t_api_Point.val x12, .pointer x4, vp b5 o3, vp b5 (o3 + 9), t_api_Point.val x13, un, un, un, un] 5 mixed (by kernel_rfl) hw7 ?_
 refine draw_go rfl (pu rfl (pv_move rfl) (pu rfl (pv_nilh rfl hp2) (pu rfl (pv_fld fo_43_5 rfl) (pu rfl (pv_move rfl) (pu rfl (pv_nilh rfl hp2) (pu rfl (pv_fld fo_43_6 rfl) ap0)))))) (ro rfl (pv_ld ty_38 rfl hx12) (ro rfl (pv_ld ty_38 rfl hx13) ao0)) rfl ?_
 refine ch_yes rfl rfl ?_ (ch_yes rfl rfl ?_ ch0)
 replace h := h.1
 refine pw_alloc ty_38 tz_38 ?_
 intro b6 w12 hw8 hw9
 replace h := h b6 w12 hw8 hw9
 obtain ⟨hc1, hc2, h⟩ := h
 refine nx [] rfl nl rfl ?_
 refine draw_go rfl ap0 (ro rfl (pv_ld ty_38 rfl hc1) (ro rfl (pv_ld ty_38 rfl hc2) ao0)) rfl ?_
 refine cy rfl rfl ?_
 refine pw_alloc ty_38 tz_38 ?_
 intro b7 w13 hw10 hw11
 replace h := h b7 w13 hw10 hw11
 obtain ⟨hc3, hc4, h⟩ := h
 refine nx [] rfl nl rfl ?_
 refine draw_go rfl ap0 (ro rfl (pv_ld ty_38 rfl hc3) (ro rfl (pv_ld ty_38 rfl hc4) ao0)) rfl ?_
 refine cy rfl rfl ?_
 refine pw_st (x := x12) ty_38 rfl rfl h.1 ?_
 intro w14 hw12
 replace h := h.2 w14 hw12
 obtain ⟨hc5, h⟩ := h
 refine nx [] rfl nl rfl ?_
 dsimp only [putV, List.set]
 refine draw_go rfl ap0 (ro rfl (pv_ld ty_38 rfl hc5) ao0) rfl ?_
 refine cy rfl rfl ?_
 refine pw_st (x := x13) ty_38 rfl rfl h.1 ?_
 intro w15 hw13
 replace h := h.2 w15 hw13
 refine nx [] rfl nl rfl ?_
 refine draw_end rfl ap0 ao0 ?_
 exact ⟨b6, 0, b7, 0, ⟨rfl, rfl, rfl, rfl, rfl, rfl, rfl, trivial⟩, h⟩
 replace h := h.2
 refine pw_alloc ty_38 tz_38 ?_
 intro b8 w16 hw14 hw15
 replace h := h b8 w16 hw14 hw15
 obtain ⟨hc6, hc7, h⟩ := h
 refine nx [] rfl nl rfl ?_
 refine draw_go rfl ap0 (ro rfl (pv_ld ty_38 rfl hc6) (ro rfl (pv_ld ty_38 rfl hc7) ao0)) rfl ?_
 refine cy rfl rfl ?_
 refine pw_alloc ty_38 tz_38 ?_
 intro b9 w17 hw16 hw17
 replace h := h b9 w17 hw16 hw17
 obtain ⟨hc8, hc9, h⟩ := h
 refine nx [] rfl nl rfl ?_
 dsimp only [putV, List.set]
 refine draw_go rfl ap0 (ro rfl (pv_ld ty_38 rfl hc8) (ro rfl (pv_ld ty_38 rfl hc9) ao0)) rfl ?_
 refine cy rfl rfl ?_
 refine pw_st (x := x12) ty_38 rfl rfl h.1 ?_
 intro w18 hw18
 replace h := h.2 w18 hw18
 obtain ⟨hc10, h⟩ := h
 refine nx [] rfl nl rfl ?_
 refine draw_go rfl ap0 (ro rfl (pv_ld ty_38 rfl hc10) ao0) rfl ?_
 refine cy rfl rfl ?_
 refine pw_st (x := x13) ty_38 rfl rfl h.1 ?_
 intro w19 hw19
 replace h := h.2 w19 hw19
 refine nx [] rfl nl rfl ?_
 refine draw_end rfl ap0 ao0 ?_
 exact ⟨b9, 0, b8, 0, ⟨rfl, rfl, rfl, rfl, rfl, rfl, rfl, trivial⟩, h⟩
 rintro f w20 ⟨b10, o4, b11, o5, ha, h⟩
 obtain ⟨g4, rfl⟩ := canon ha
 refine WX_seq (WX_region ?_)
 refine mv (.pointer x4) rfl ?_
 obtain ⟨x14, hx14, h⟩ := h
 refine op_v (pv_ld ty_57 rfl hx14) <| op_w (pw_call co_12 rfl (CallsR.mono h ?_))
 rintro v5 w21 ⟨x15, x16, rfl, h⟩
 refine mv (.tuple #[.slice x15.a x15.len x15.cap, x16.v]) rfl ?_
 refine op_v (pv_extract (vs := [.slice x15.a x15.len x15.cap, x16.v]) (v := .slice x15.a x15.len x15.cap) rfl rfl) ?_
 refine op_v (pv_extract (vs := [.slice x15.a x15.len x15.cap, x16.v]) (v := x16.v) rfl rfl) (ops_nil ?_)
 refine WX_seq ?_
 refine WX_join (fun f w25 => ∃ x28 : Bool, Agree f [(8, .pointer x4), (12, vp b10 o4), (13, vp b11 o5), (39, .slice x9.a x9.len x9.cap), (40, vi (x9.len : Int)), (41, vi x10), (107, vb x28)] /\ sh_f6_j4 Q x4 x10 nxt1 b10 o4 b11 o5 x28 w25) ?_ ?_
 obtain ⟨w22, hw20, h⟩ := dwe h
 obtain ⟨b12, o6, hp3, x17, hx17, x18, hx18, h⟩ := h
 refine dr_split (b := decide (x17 < x18)) (fun hb6 => ?_) (fun hb6 => ?_)
 have h := h.1 hb6
 refine WX_dr [23,46] [0,1,2,3,5,7,8,9,10,11,12,14,16,17,18,19,20,21,24,25,26,27,29,30,31,32,33,34,36,37,38,39,41,42,43,44,47,48] [⟨[],[0,1,2,3,5,7,8,9,10,11,12,14,16,17,18,19,20,21,24,25,26,27],[4,6,13,15,22,28],[(23,[23,29,30,31,32,33,34,35,36,37,38,39,40,41,42,43,44,45],1)]⟩,⟨[23],[29,30,31,32,33,34,36,37,38,39,41,42,43,44],[28,35,40,45],[(46,[46,47,48],2)]⟩,⟨[46,23],[47,48],[],[]⟩] [.pointer x4, vp b12 o6, vp b12 (o6 + 7), vp b12 ((o6 + 7) + 0), vi x17, vp b10 (o4 + 0), vi x18, vb true, vb true, un, un, un, un, un, un, un, un, vb true, vb true, un, un, un, un, un, un, un, un, un, un, un, un, un, un, un, un, un, un, un, un, un, un, un, un, un, un, un, un, un, un] 3 mixed (by kernel_rfl) hw20 ?_
 refine draw_go rfl (pu rfl (pv_move rfl) (pu rfl (pv_nilh rfl hp3) (pu rfl (pv_fld fo_43_5 rfl) (pu rfl (pv_fld fo_38_0 rfl) (pu rfl (pv_fld fo_38_0 rfl) (pu rfl (pv_cmp (v := true) rfl rfl rfl (by exact hb6)) (pu rfl (pv_move (by first | rfl | exact congrArg Value.bool hb6)) (pn (pn (pn (pn (pn (pn (pu rfl (pv_pick (b := true) (v := vb true) rfl rfl) (pu rfl (pv_move rfl) (pn (pn (pn (pn (pn (pn (pn ap0)))))))))))))))))))))) (ro rfl (pv_ld ty_3 rfl hx17) (ro rfl (pv_ld ty_3 rfl hx18) (rn (rn (rn (rn ao0)))))) rfl ?_
 refine ch_no [un, vb true, vb true, un, un, un, un, un, un, un, un, un, un, un, un, un, un] rfl rfl rfl nl rfl ?_ ch0
 dsimp only [putV, List.set]
 refine draw_go rfl (pn (pu rfl (pv_pick (b := true) (v := vb true) rfl rfl) (pu rfl (pv_move rfl) (pn (pn (pn (pn (pn (pn (pn (pn (pn (pn (pn ap0)))))))))))))) (rn (rn (rn (rn ao0)))) rfl ?_
 refine ch_no [un, vb true] rfl rfl rfl nl rfl ?_ ch0
 refine draw_end rfl (pn (pu rfl (pv_pick (b := true) (v := vb true) rfl rfl) ap0)) ao0 ?_
 exact ⟨true, ⟨rfl, rfl, rfl, rfl, rfl, rfl, rfl, trivial⟩, h⟩
 have h := h.2 hb6
 obtain ⟨x19, hx19, x20, hx20, h⟩ := h
 refine dr_split (b := decide (x19 < x20)) (fun hb7 => ?_) (fun hb7 => ?_)
 have h := h.1 hb7
 refine WX_dr [23,46] [0,1,2,3,5,7,8,9,10,11,12,14,16,17,18,19,20,21,24,25,26,27,29,30,31,32,33,34,36,37,38,39,41,42,43,44,47,48] [⟨[],[0,1,2,3,5,7,8,9,10,11,12,14,16,17,18,19,20,21,24,25,26,27],[4,6,13,15,22,28],[(23,[23,29,30,31,32,33,34,35,36,37,38,39,40,41,42,43,44,45],1)]⟩,⟨[23],[29,30,31,32,33,34,36,37,38,39,41,42,43,44],[28,35,40,45],[(46,[46,47,48],2)]⟩,⟨[46,23],[47,48],[],[]⟩] [.pointer x4, vp b12 o6, vp b12 (o6 + 7), vp b12 ((o6 + 7) + 0), vi x17, vp b10 (o4 + 0), vi x18, vb false, vb false, .pointer x4, vp b12 o6, vp b12 (o6 + 9), vp b12 ((o6 + 9) + 0), vi x19, vp b11 (o5 + 0), vi x20, vb true, vb true, vb true, un, un, un, un, un, un, un, un, un, un, un, un, un, un, un, un, un, un, un, un, un, un, un, un, un, un, un, un, un, un] 3 mixed (by kernel_rfl) hw20 ?_
 refine draw_go rfl (pu rfl (pv_move rfl) (pu rfl (pv_nilh rfl hp3) (pu rfl (pv_fld fo_43_5 rfl) (pu rfl (pv_fld fo_38_0 rfl) (pu rfl (pv_fld fo_38_0 rfl) (pu rfl (pv_cmp (v := false) rfl rfl rfl (by exact hb6)) (pu rfl (pv_move (by first | rfl | exact congrArg Value.bool hb6)) (pu rfl (pv_move rfl) (pu rfl (pv_nilh rfl hp3) (pu rfl (pv_fld fo_43_6 rfl) (pu rfl (pv_fld fo_38_0 rfl) (pu rfl (pv_fld fo_38_0 rfl) (pu rfl (pv_cmp (v := true) rfl rfl rfl (by exact hb7)) (pu rfl (pv_pick (b := false) (v := vb true) rfl rfl) (pu rfl (pv_move (by first | rfl | exact congrArg Value.bool hb7)) (pn (pn (pn (pn (pn (pn (pn ap0)))))))))))))))))))))) (ro rfl (pv_ld ty_3 rfl hx17) (ro rfl (pv_ld ty_3 rfl hx18) (ro rfl (pv_ld ty_3 rfl hx19) (ro rfl (pv_ld ty_3 rfl hx20) (rn (rn ao0)))))) rfl ?_
 refine ch_no [un, vb true, vb true, un, un, un, un, un, un, un, un, un, un, un, un, un, un] rfl rfl rfl nl rfl ?_ ch0
 dsimp only [putV, List.set]
 refine draw_go rfl (pn (pu rfl (pv_pick (b := true) (v := vb true) rfl rfl) (pu rfl (pv_move rfl) (pn (pn (pn (pn (pn (pn (pn (pn (pn (pn (pn ap0)))))))))))))) (rn (rn (rn (rn ao0)))) rfl ?_
 refine ch_no [un, vb true] rfl rfl rfl nl rfl ?_ ch0
 refine draw_end rfl (pn (pu rfl (pv_pick (b := true) (v := vb true) rfl rfl) ap0)) ao0 ?_
 exact ⟨true, ⟨rfl, rfl, rfl, rfl, rfl, rfl, rfl, trivial⟩, h⟩
 have h := h.2 hb7
 obtain ⟨x21, hx21, x22, hx22, h⟩ := h
 refine WX_dr [23,46] [0,1,2,3,5,7,8,9,10,11,12,14,16,17,18,19,20,21,24,25,26,27,29,30,31,32,33,34,36,37,38,39,41,42,43,44,47,48] [⟨[],[0,1,2,3,5,7,8,9,10,11,12,14,16,17,18,19,20,21,24,25,26,27],[4,6,13,15,22,28],[(23,[23,29,30,31,32,33,34,35,36,37,38,39,40,41,42,43,44,45],1)]⟩,⟨[23],[29,30,31,32,33,34,36,37,38,39,41,42,43,44],[28,35,40,45],[(46,[46,47,48],2)]⟩,⟨[46,23],[47,48],[],[]⟩] [.pointer x4, vp b12 o6, vp b12 (o6 + 7), vp b12 ((o6 + 7) + 0), vi x17, vp b10 (o4 + 0), vi x18, vb false, vb false, .pointer x4, vp b12 o6, vp b12 (o6 + 9), vp b12 ((o6 + 9) + 0), vi x19, vp b11 (o5 + 0), vi x20, vb false, vb false, vb false, .pointer x4, vp b12 o6, vp b12 (o6 + 3), .pointer x21, un, .pointer x4, vp b12 o6, vp b12 (o6 + 9), vp b12 ((o6 + 9) + 1), vu x22, un, un, un, un, un, un, un, un, un, un, un, un, un, un, un, un, un, un, un, un] 3 mixed (by kernel_rfl) hw20 ?_
 refine draw_go rfl (pu rfl (pv_move rfl) (pu rfl (pv_nilh rfl hp3) (pu rfl (pv_fld fo_43_5 rfl) (pu rfl (pv_fld fo_38_0 rfl) (pu rfl (pv_fld fo_38_0 rfl) (pu rfl (pv_cmp (v := false) rfl rfl rfl (by exact hb6)) (pu rfl (pv_move (by first | rfl | exact congrArg Value.bool hb6)) (pu rfl (pv_move rfl) (pu rfl (pv_nilh rfl hp3) (pu rfl (pv_fld fo_43_6 rfl) (pu rfl (pv_fld fo_38_0 rfl) (pu rfl (pv_fld fo_38_0 rfl) (pu rfl (pv_cmp (v := false) rfl rfl rfl (by exact hb7)) (pu rfl (pv_pick (b := false) (v := vb false) rfl rfl) (pu rfl (pv_move (by first | rfl | exact congrArg Value.bool hb7)) (pu rfl (pv_move rfl) (pu rfl (pv_nilh rfl hp3) (pu rfl (pv_fld fo_43_1 rfl) (pu rfl (pv_move rfl) (pu rfl (pv_nilh rfl hp3) (pu rfl (pv_fld fo_43_6 rfl) (pu rfl (pv_fld fo_38_1 rfl) ap0)))))))))))))))))))))) (ro rfl (pv_ld ty_3 rfl hx17) (ro rfl (pv_ld ty_3 rfl hx18) (ro rfl (pv_ld ty_3 rfl hx19) (ro rfl (pv_ld ty_3 rfl hx20) (ro rfl (pv_ld ty_33 rfl hx21) (ro rfl (pv_ld ty_36 rfl hx22) ao0)))))) rfl ?_
 refine cy rfl rfl ?_
 refine pw_call co_16 rfl (cm h ?_)
 rintro v6 w23 ⟨x23, rfl, h⟩
 obtain ⟨hc11, h⟩ := h
 refine dr_split (b := (x23 != x22)) (fun hb8 => ?_) (fun hb8 => ?_)
 have h := h.1 hb8
 refine nx [vb true, vb true, vb true, un, un, un, un, un, un, un, un, un, un, un, un, un, un] rfl nl rfl ?_
 dsimp only [putV, List.set]
 refine draw_go rfl (pu rfl (pv_cmp (v := true) rfl rfl rfl (by exact hb8)) (pu rfl (pv_pick (b := false) (v := vb true) rfl rfl) (pu rfl (pv_move (by first | rfl | exact congrArg Value.bool hb8)) (pn (pn (pn (pn (pn (pn (pn (pn (pn (pn (pn ap0)))))))))))))) (ro rfl (pv_ld ty_36 rfl hc11) (rn (rn (rn ao0)))) rfl ?_
 refine ch_no [un, vb true] rfl rfl rfl nl rfl ?_ ch0
 refine draw_end rfl (pn (pu rfl (pv_pick (b := true) (v := vb true) rfl rfl) ap0)) ao0 ?_
 exact ⟨true, ⟨rfl, rfl, rfl, rfl, rfl, rfl, rfl, trivial⟩, h⟩
 have h := h.2 hb8
 obtain ⟨x24, hx24, x25, hx25, x26, hx26, h⟩ := h
 refine nx [vb false, vb false, vb false, .pointer x4, vp b12 o6, vp b12 (o6 + 3), .pointer x24, .pointer x4, vp b12 o6, vp b12 (o6 + 7), vp b12 ((o6 + 7) + 1), vu x25, .pointer x4, vp b12 o6, vp b12 (o6 + 9), vp b12 ((o6 + 9) + 1), vu x26] rfl nl rfl ?_
 dsimp only [putV, List.set]
 refine draw_go rfl (pu rfl (pv_cmp (v := false) rfl rfl rfl (by exact hb8)) (pu rfl (pv_pick (b := false) (v := vb false) rfl rfl) (pu rfl (pv_move (by first | rfl | exact congrArg Value.bool hb8)) (pu rfl (pv_move rfl) (pu rfl (pv_nilh rfl hp3) (pu rfl (pv_fld fo_43_1 rfl) (pu rfl (pv_move rfl) (pu rfl (pv_nilh rfl hp3) (pu rfl (pv_fld fo_43_5 rfl) (pu rfl (pv_fld fo_38_1 rfl) (pu rfl (pv_move rfl) (pu rfl (pv_nilh rfl hp3) (pu rfl (pv_fld fo_43_6 rfl) (pu rfl (pv_fld fo_38_1 rfl) ap0)))))))))))))) (ro rfl (pv_ld ty_36 rfl hc11) (ro rfl (pv_ld ty_33 rfl hx24) (ro rfl (pv_ld ty_36 rfl hx25) (ro rfl (pv_ld ty_36 rfl hx26) ao0)))) rfl ?_
 refine cy rfl rfl ?_
 refine pw_call co_17 rfl (cm h ?_)
 rintro v7 w24 ⟨x27, rfl, h⟩
 refine nx [vb (!x27), vb (!x27)] rfl nl rfl ?_
 refine draw_end rfl (pu rfl (pv_not rfl) (pu rfl (pv_pick (b := false) (v := vb (!x27)) rfl rfl) ap0)) ao0 ?_
 exact ⟨(!x27), ⟨rfl, rfl, rfl, rfl, rfl, rfl, rfl, trivial⟩, h⟩
 rintro f w25 ⟨x28, ha, h⟩
 obtain ⟨g2, rfl⟩ := canon ha
 refine WX_cond (b := x28) rfl (fun hb9 => ?_) (fun hb9 => ?_)
 have h := h.1 hb9
 refine WX_seq (WX_region ?_)
 refine mva (vb false) rfl (ops_nil ?_)
 refine WX_ret ?_
 exact fin_of [vb false] rfl ⟨rfl, trivial⟩ h
 have h := h.2 hb9
 refine WX_skip ?_
 refine WX_join (fun f w27 => ∃ x35 : Bool, Agree f [(8, .pointer x4), (39, .slice x9.a x9.len x9.cap), (40, vi (x9.len : Int)), (41, vi x10), (133, vb x35)] /\ sh_f6_j5 Q x10 nxt1 x35 w27) ?_ ?_
 obtain ⟨w26, hw21, h⟩ := dwe h
 obtain ⟨b13, o7, hp4, x29, hx29, x30, hx30, h⟩ := h
 refine dr_split (b := (eq_api_Point x29 x30)) (fun hb10 => ?_) (fun hb10 => ?_)
 have h := h.1 hb10
 obtain ⟨x31, hx31, x32, hx32, h⟩ := h
 refine dr_split (b := decide (x31 > x32)) (fun hb11 => ?_) (fun hb11 => ?_)
 have h := h.1 hb11
 obtain ⟨x33, hx33, x34, hx34, h⟩ := h
 refine WX_dr [] [0,1,2,5,6,7,8,9,10,12,13,14,15,17,18,19,20,22,24,25] [⟨[],[0,1,2,5,6,7,8,9,10,12,13,14,15,17,18,19,20,22,24,25],[3,4,11,16,21,23],[]⟩] [.pointer x4, vp b13 o7, vp b13 (o7 + 9), t_api_Point.val x29, t_api_Point.val x30, vb true, vb true, .pointer x4, vp b13 o7, vp b13 (o7 + 9), vp b13 ((o7 + 9) + 0), vi x31, .pointer x4, vp b13 o7, vp b13 (o7 + 7), vp b13 ((o7 + 7) + 0), vi x32, vb true, vb true, vb true, vp b11 (o5 + 0), vi x33, vp b10 (o4 + 0), vi x34, vb (decide (x33 <= x34)), vb (decide (x33 <= x34))] 1 mixed (by kernel_rfl) hw21 ?_
 refine draw_end rfl (pu rfl (pv_move rfl) (pu rfl (pv_nilh rfl hp4) (pu rfl (pv_fld fo_43_6 rfl) (pu rfl (pv_eqS (v := true) eqk_38 (eqf_38 x29 x30) rfl rfl (by exact congrArg some hb10)) (pu rfl (pv_move (by first | rfl | exact congrArg Value.bool hb10)) (pu rfl (pv_move rfl) (pu rfl (pv_nilh rfl hp4) (pu rfl (pv_fld fo_43_6 rfl) (pu rfl (pv_fld fo_38_0 rfl) (pu rfl (pv_move rfl) (pu rfl (pv_nilh rfl hp4) (pu rfl (pv_fld fo_43_5 rfl) (pu rfl (pv_fld fo_38_0 rfl) (pu rfl (pv_cmp (v := true) rfl rfl rfl (by exact hb11)) (pu rfl (pv_pick (b := true) (v := vb true) rfl rfl) (pu rfl (pv_move (by first | rfl | exact congrArg Value.bool hb11)) (pu rfl (pv_fld fo_38_0 rfl) (pu rfl (pv_fld fo_38_0 rfl) (pu rfl (pv_cmp (v := decide (x33 <= x34)) rfl rfl rfl rfl) (pu rfl (pv_pick (b := true) (v := vb (decide (x33 <= x34))) rfl rfl) ap0)))))))))))))))))))) (ro rfl (pv_ld ty_38 rfl hx29) (ro rfl (pv_ld ty_38 rfl hx30) (ro rfl (pv_ld ty_3 rfl hx31) (ro rfl (pv_ld ty_3 rfl hx32) (ro rfl (pv_ld ty_3 rfl hx33) (ro rfl (pv_ld ty_3 rfl hx34) ao0)))))) ?_
 exact ⟨decide (x33 <= x34), ⟨rfl, rfl, rfl, rfl, rfl, trivial⟩, h⟩
 have h := h.2 hb11
 refine WX_dr [] [0,1,2,5,6,7,8,9,10,12,13,14,15,17,18,19,20,22,24,25] [⟨[],[0,1,2,5,6,7,8,9,10,12,13,14,15,17,18,19,20,22,24,25],[3,4,11,16,21,23],[]⟩] [.pointer x4, vp b13 o7, vp b13 (o7 + 9), t_api_Point.val x29, t_api_Point.val x30, vb true, vb true, .pointer x4, vp b13 o7, vp b13 (o7 + 9), vp b13 ((o7 + 9) + 0), vi x31, .pointer x4, vp b13 o7, vp b13 (o7 + 7), vp b13 ((o7 + 7) + 0), vi x32, vb false, vb false, vb false, un, un, un, un, un, vb false] 1 mixed (by kernel_rfl) hw21 ?_
 refine draw_end rfl (pu rfl (pv_move rfl) (pu rfl (pv_nilh rfl hp4) (pu rfl (pv_fld fo_43_6 rfl) (pu rfl (pv_eqS (v := true) eqk_38 (eqf_38 x29 x30) rfl rfl (by exact congrArg some hb10)) (pu rfl (pv_move (by first | rfl | exact congrArg Value.bool hb10)) (pu rfl (pv_move rfl) (pu rfl (pv_nilh rfl hp4) (pu rfl (pv_fld fo_43_6 rfl) (pu rfl (pv_fld fo_38_0 rfl) (pu rfl (pv_move rfl) (pu rfl (pv_nilh rfl hp4) (pu rfl (pv_fld fo_43_5 rfl) (pu rfl (pv_fld fo_38_0 rfl) (pu rfl (pv_cmp (v := false) rfl rfl rfl (by exact hb11)) (pu rfl (pv_pick (b := true) (v := vb false) rfl rfl) (pu rfl (pv_move (by first | rfl | exact congrArg Value.bool hb11)) (pn (pn (pn (pu rfl (pv_pick (b := false) (v := vb false) rfl rfl) ap0)))))))))))))))))))) (ro rfl (pv_ld ty_38 rfl hx29) (ro rfl (pv_ld ty_38 rfl hx30) (ro rfl (pv_ld ty_3 rfl hx31) (ro rfl (pv_ld ty_3 rfl hx32) (rn (rn ao0)))))) ?_
 exact ⟨false, ⟨rfl, rfl, rfl, rfl, rfl, trivial⟩, h⟩
 have h := h.2 hb10
 refine WX_dr [] [0,1,2,5,6,7,8,9,10,12,13,14,15,17,18,19,20,22,24,25] [⟨[],[0,1,2,5,6,7,8,9,10,12,13,14,15,17,18,19,20,22,24,25],[3,4,11,16,21,23],[]⟩] [.pointer x4, vp b13 o7, vp b13 (o7 + 9), t_api_Point.val x29, t_api_Point.val x30, vb false, vb false, un, un, un, un, un, un, un, un, un, un, un, vb false, vb false, un, un, un, un, un, vb false] 1 mixed (by kernel_rfl) hw21 ?_
 refine draw_end rfl (pu rfl (pv_move rfl) (pu rfl (pv_nilh rfl hp4) (pu rfl (pv_fld fo_43_6 rfl) (pu rfl (pv_eqS (v := false) eqk_38 (eqf_38 x29 x30) rfl rfl (by exact congrArg some hb10)) (pu rfl (pv_move (by first | rfl | exact congrArg Value.bool hb10)) (pn (pn (pn (pn (pn (pn (pn (pn (pn (pu rfl (pv_pick (b := false) (v := vb false) rfl rfl) (pu rfl (pv_move rfl) (pn (pn (pn (pu rfl (pv_pick (b := false) (v := vb false) rfl rfl) ap0)))))))))))))))))))) (ro rfl (pv_ld ty_38 rfl hx29) (ro rfl (pv_ld ty_38 rfl hx30) (rn (rn (rn (rn ao0)))))) ?_
 exact ⟨false, ⟨rfl, rfl, rfl, rfl, rfl, trivial⟩, h⟩
 rintro f w27 ⟨x35, ha, h⟩
 obtain ⟨g3, rfl⟩ := canon ha
 refine WX_cond (b := x35) rfl (fun hb12 => ?_) (fun hb12 => ?_)
 have h := h.1 hb12
 refine WX_seq (WX_region ?_)
 refine mva (vb false) rfl (ops_nil ?_)
 refine WX_ret ?_
 exact fin_of [vb false] rfl ⟨rfl, trivial⟩ h
 have h := h.2 hb12
 refine WX_skip ?_
 refine WX_region ?_
 refine op_v (pv_add rfl rfl) <| mv (vi (IntKind.i64.wrap (x10 + 1))) rfl (ops_nil ?_)
 subst hn_nxt1
 obtain ⟨m2, hm2, h⟩ := h
 exact ⟨m2, hm2, (IntKind.i64.wrap (x10 + 1)), ⟨rfl, rfl, rfl, rfl, trivial⟩, h⟩
 have h := h.2 hb5
 refine WX_exit0 ?_
 exact ⟨ag0, h⟩
 rintro f w28 ⟨ha, h⟩
 obtain ⟨g6, rfl⟩ := canon ha
 refine WX_seq (WX_region ?_)
 refine mva (vb true) rfl (ops_nil ?_)
 refine WX_ret ?_
 exact fin_of [vb true] rfl ⟨rfl, trivial⟩ h
end Go.Proofs.Ytdefmgkicdhmkaa
set_option maxRecDepth 512
set_option maxHeartbeats 200000
namespace Go.Proofs.Ytdefmgkicdhmkaa
open Go Go.Sx
set_option linter.unusedVariables false
theorem chk_i {α : Type} {T : Ty α} {w : World} {b o : Nat} {x : α} {k : Prop} (h : CellsAt w b o (T.enc x)) (hk : k) : chk T w b o x k := ⟨h, hk⟩
theorem c_StoreFinal {w : World} {a0 a1 : Sl} {a2 : Int} {xs0 xs1 : List Int} {D0 D1 : Nat -> Prop} {Q : QW} (h0 : SlIs tU8 D0 w a0 xs0) (h1 : SlIs tU8 D1 w a1 xs1) (r0 : ∀ x ∈ xs0, 0 <= x /\ x <= 255) (r1 : ∀ x ∈ xs1, 0 <= x /\ x <= 255) (r2 : 0 <= a2 /\ a2 <= 255)
  (hQ : ∀ w', Gr w w' -> Q (.bool true) w') : CallsR PP n_f6 #[.slice a0.a a0.len a0.cap, .slice a1.a a1.len a1.cap, .int .u8 a2] Q w := by
 refine so_f6 _ _ ?_
 unfold sh_f6
 refine law_go h0 h1 r0 r1 r2 (sh_f6_j1 a0 Q) (fun _ x4 x9 => sh_f6_b2 Q x4 x9)
  (fun _ x4 b4 x10 nxt1 w10 => dw w10 fun w11 => nc x4 fun b5 o3 => ld t_api_Point w11 b5 (o3 + 7) fun x12 => ld t_api_Point w11 b5 (o3 + 9) fun x13 => ((al t_api_Point 38 w11 (⟨0, 0⟩ : G_api_Point) fun b6 w12 => chk t_api_Point w12 b5 (o3 + 7) x12 <| chk t_api_Point w12 b5 (o3 + 9) x13 <| al t_api_Point 38 w12 (⟨0, 0⟩ : G_api_Point) fun b7 w13 => chk t_api_Point w13 b5 (o3 + 7) x12 <| chk t_api_Point w13 b5 (o3 + 9) x13 <| st t_api_Point w13 b6 0 x12 fun w14 => chk t_api_Point w14 b5 (o3 + 9) x13 <| st t_api_Point w14 b7 0 x13 fun w15 => (sh_f6_j3 Q x4 x10 nxt1 b4 b6 0 b7 0 w15)) /\ (al t_api_Point 38 w11 (⟨0, 0⟩ : G_api_Point) fun b8 w16 => chk t_api_Point w16 b5 (o3 + 7) x12 <| chk t_api_Point w16 b5 (o3 + 9) x13 <| al t_api_Point 38 w16 (⟨0, 0⟩ : G_api_Point) fun b9 w17 => chk t_api_Point w17 b5 (o3 + 7) x12 <| chk t_api_Point w17 b5 (o3 + 9) x13 <| st t_api_Point w17 b9 0 x12 fun w18 => chk t_api_Point w18 b5 (o3 + 9) x13 <| st t_api_Point w18 b8 0 x13 fun w19 => (sh_f6_j3 Q x4 x10 nxt1 b4 b9 0 b8 0 w19))))
  (fun b1 x4 w6 h => br_f rfl h) (fun b1 x4 x9 x10 w8 nxt h => h) hQ ?_
 intro w1 b1 sb b4 i nxt O I J gc A cs ge e v i0 i1 hb4 hO hnx
 have st := v.st
 obtain ⟨g, tb, tr, vb, lr, gr, gl, r⟩ := st
 have cF : CellsAt w1 sb 9 (t_api_Point.enc A.fin) := by rw [<- r.fin]; exact r.cells.sub 9 2
 have cJ : CellsAt w1 sb 7 (t_api_Point.enc A.just) := by rw [<- r.just]; exact r.cells.sub 7 2
 clear r
 have hOl := v.st.lt
 have l4 : b4 < w1.heap.size := cell_lt v.ecell.1
 have lsb : sb < w1.heap.size := hOl _ v.st.inO
 have wf' := v.wf.apply v.ev.root
 have up := AStore.apply_up v.wf (e := e) v.ev.root
 have J3 : ∀ (w12 : World) (bj bf : Nat), Gr w1 w12 -> w1.heap.size <= bj -> w1.heap.size <= bf -> CellsAt w12 bj 0 (t_api_Point.enc A.just) -> CellsAt w12 bf 0 (t_api_Point.enc A.fin) -> sh_f6_j3 Q (some ⟨sb, 0, none⟩) i nxt b4 bj 0 bf 0 w12 := by
  intro w12 bj bf G12 hbj hbf cj cf
  unfold sh_f6_j3
  refine ld_i (v.ecell.gr G12) (c_Apply (v.st.grow G12) v.wf (v.ev.gr G12) (fun b hb => (v.JO b hb).1) fun w2 O' I' s' gw hI' st' hsl => ⟨s', errV (A.applyErr e), rfl, dw_i fun w3 e3 g3 => ?_⟩)
  obtain ⟨g', tb', tr', vb', lr', gr', gl', r'⟩ := id st'
  have cj2 : CellsAt w3 bj 0 (t_api_Point.enc A.just) := (cj.keeps gw.1 fun ho => by have := hOl _ ho; omega).gr g3
  have cf2 : CellsAt w3 bf 0 (t_api_Point.enc A.fin) := (cf.keeps gw.1 fun ho => by have := hOl _ ho; omega).gr g3
  have cF : CellsAt w2 sb 9 (t_api_Point.enc (A.apply e).2.fin) := by rw [<- r'.fin]; exact r'.cells.sub 9 2
  have cJ : CellsAt w2 sb 7 (t_api_Point.enc (A.apply e).2.just) := by rw [<- r'.just]; exact r'.cells.sub 7 2
  have cT : CellsAt w2 sb 3 (tPtr.enc (some ⟨tb', 0, none⟩)) := by rw [<- r'.ptree]; exact r'.cells.sub 3 1
  have z12 := G12.size
  have go : ∀ w', Gr w2 w' -> nxt (IntKind.i64.wrap (i + 1)) w' := fun w' G => by
   refine hnx w' O' I' _ (Keeps.local (Keeps.local (Gr.keeps G12) gw.1 fun j hb => .inr (.inl hb)) (Gr.keeps (S := fun _ => False) G) fun j f => f.elim) (fun b hb => ?_) (st'.grow G)
   rcases gw.2 b hb with h | h
   ·exact .inl h
   ·exact .inr (by omega)
  refine ⟨sb, 0, rfl, ld_i (x := (A.apply e).2.just.Epoch) ((cJ.gr g3).sub 0 1) (ld_i (x := A.just.Epoch) (cj2.sub 0 1) (br_f (by simpa using up.1) (ld_i (x := (A.apply e).2.fin.Epoch) ((cF.gr g3).sub 0 1) (ld_i (x := A.fin.Epoch) (cf2.sub 0 1) (br_f (by simpa using up.2) ?_)))))⟩
  refine ld_i (cT.gr g3) (ld_i (x := (A.apply e).2.fin.Root) ((cF.gr g3).sub 1 1) (c_tree_First (r'.tree.gr g3) ⟨_, rfl, chk_i ((cF.gr g3).sub 1 1) (br_f (by rw [wf'.first]; simp) (ld_i (cT.gr g3) (ld_i (x := (A.apply e).2.just.Root) ((cJ.gr g3).sub 1 1) (ld_i (x := (A.apply e).2.fin.Root) ((cF.gr g3).sub 1 1) (c_tree_Below (r'.tree.gr g3) wf'.tree fun w4 g4 => ⟨_, rfl, ?_⟩)))))⟩))
  rw [wf'.jf]
  have G4 := g3.trans g4
  unfold sh_f6_j4
  refine br_f rfl (dw_i fun w5 e5 g5 => ⟨sb, 0, rfl, ld_i (cF.gr (G4.trans g5)) (ld_i (x := A.fin) ((cf2.gr g4).gr g5) (br_i (fun q => ?_) (fun q => br_f rfl (go w5 (G4.trans g5)))))⟩)
  have q : (A.apply e).2.fin = A.fin := by
   revert q
   generalize (A.apply e).2.fin = x
   generalize A.fin = y
   obtain ⟨x1, x2⟩ := x; obtain ⟨y1, y2⟩ := y
   simp [eq_api_Point]
  refine ld_i (x := (A.apply e).2.fin.Epoch) ((cF.gr (G4.trans g5)).sub 0 1) (ld_i (x := (A.apply e).2.just.Epoch) ((cJ.gr (G4.trans g5)).sub 0 1) (br_i (fun q2 => ?_) (fun q2 => br_f rfl (go w5 (G4.trans g5)))))
  have q2 := of_decide_eq_true q2
  refine ld_i (x := A.fin.Epoch) (((cf2.gr g4).gr g5).sub 0 1) (ld_i (x := A.just.Epoch) (((cj2.gr g4).gr g5).sub 0 1) ?_)
  unfold sh_f6_j5
  refine br_f (decide_eq_false ?_) (go w5 (G4.trans g5))
  have h1 := up.1
  rw [q] at q2
  omega
 refine dw_i fun w11 e11 g11 => ⟨sb, 0, rfl, ld_i (cJ.gr g11) (ld_i (cF.gr g11) ⟨?_, ?_⟩)⟩
 ·refine al_i fun b6 w12 e12 g12 c12 s12 => chk_i ((cJ.gr g11).gr g12) (chk_i ((cF.gr g11).gr g12) (al_i fun b7 w13 e13 g13 c13 s13 => ?_))
  have z11 := g11.size; have z12 := g12.size; have z13 := g13.size
  have l6 : b6 < w12.heap.size := cell_lt c12.1
  have l7 : b7 < w13.heap.size := cell_lt c13.1
  have G13 := g11.trans (g12.trans g13)
  refine chk_i (cJ.gr G13) (chk_i (cF.gr G13) (st_i (s12.keeps g13 fun f => f) fun w14 e14 k14 c14 => chk_i ((cF.gr G13).keeps k14 (by omega)) ?_))
  have z14 := k14.size
  refine st_i (s13.keeps k14 (by omega)) fun w15 e15 k15 c15 => ?_
  exact J3 w15 b6 b7 (Gr.local (Gr.local G13 k14 fun j e => by subst e; omega) k15 fun j e => by subst e; omega) (by omega) (by omega) (c14.keeps k15 (by omega)) c15
 ·refine al_i fun b6 w12 e12 g12 c12 s12 => chk_i ((cJ.gr g11).gr g12) (chk_i ((cF.gr g11).gr g12) (al_i fun b7 w13 e13 g13 c13 s13 => ?_))
  have z11 := g11.size; have z12 := g12.size; have z13 := g13.size
  have l6 : b6 < w12.heap.size := cell_lt c12.1
  have l7 : b7 < w13.heap.size := cell_lt c13.1
  have G13 := g11.trans (g12.trans g13)
  refine chk_i (cJ.gr G13) (chk_i (cF.gr G13) (st_i s13 fun w14 e14 k14 c14 => chk_i ((cF.gr G13).keeps k14 (by omega)) ?_))
  have z14 := k14.size
  refine st_i ((s12.keeps g13 fun f => f).keeps k14 (by omega)) fun w15 e15 k15 c15 => ?_
  exact J3 w15 b7 b6 (Gr.local (Gr.local G13 k14 fun j e => by subst e; omega) k15 fun j e => by subst e; omega) (by omega) (by omega) (c14.keeps k15 (by omega)) c15
end Go.Proofs.Ytdefmgkicdhmkaa
