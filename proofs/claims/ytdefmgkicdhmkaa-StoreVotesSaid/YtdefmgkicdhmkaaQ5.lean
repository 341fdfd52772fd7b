/- What the functions do, part 5; for every memory. -/
import Derived.Test.YtdefmgkicdhmkaaQ4
namespace Go.Proofs.Ytdefmgkicdhmkaa
open Go Go.Sx
set_option linter.unusedVariables false
set_option maxRecDepth 100000
set_option maxHeartbeats 2000000
def sh_f36_j3 (Q : QW) (x12 : Int) (nxt1 : Int -> World -> Prop) (x17 : Bool) (w7 : World) : Prop :=
  br x17 (Q (.bool false) w7) (nxt1 (IntKind.i64.wrap (x12 + 1)) w7)
def sh_f36_j4 (Q : QW) (w8 : World) : Prop :=
  Q (.bool true) w8
def sh_f36_b2 (Q : QW) (b1 : Nat) (b2 : Nat) (x11 : Sl) (x12 : Int) (w6 : World) (nxt1 : Int -> World -> Prop) : Prop :=
  br (decide (x12 < (x11.len : Int))) (ixs x11 x12 fun b3 o1 => ld tI64 w6 b3 (o1 + (x12).toNat * 1) fun x13 => br (decide (x13 < 0)) ((sh_f36_j3 Q x12 nxt1 true w6)) (ld tSl w6 b1 0 fun x14 => br (decide (x13 ≥ (x14.len : Int))) ((sh_f36_j3 Q x12 nxt1 true w6)) (br (decide (x12 > 0)) (ld tSl w6 b2 6 fun x15 => ixs x15 (IntKind.i64.wrap (x12 - 1)) fun b4 o2 => ld tI64 w6 b4 (o2 + ((IntKind.i64.wrap (x12 - 1))).toNat * 1) fun x16 => (sh_f36_j3 Q x12 nxt1 (decide (x13 <= x16)) w6)) ((sh_f36_j3 Q x12 nxt1 false w6))))) ((sh_f36_j4 Q w6))
def sh_f36_j1 (Q : QW) (b1 : Nat) (b2 : Nat) (x10 : Bool) (w5 : World) : Prop :=
  br x10 (Q (.bool false) w5) (ld tSl w5 b2 6 fun x11 => (∃ I1 : Nat -> Int -> World -> Prop, (∃ m, I1 m 0 w5) /\ ∀ m x12 w6, I1 m x12 w6 -> sh_f36_b2 Q b1 b2 x11 x12 w6 (fun y0 w => ∃ m2, m2 < m /\ I1 m2 y0 w)))
def sh_f36 (a0 : G_api_Config) (a1 : G_api_Vote) (Q : QW) (w0 : World) : Prop :=
  al t_api_Config 26 w0 a0 fun b1 w1 => al t_api_Vote 53 w1 a1 fun b2 w2 => dw w2 fun w3 => ld tSl w3 b2 6 fun x1 => br ((x1.len : Int) == 0) ((sh_f36_j1 Q b1 b2 true w3)) (ld tI64 w3 b2 0 fun x2 => br (decide (x2 < 0)) ((sh_f36_j1 Q b1 b2 true w3)) (ld tI64 w3 b2 2 fun x3 => br (decide (x3 < 0)) ((sh_f36_j1 Q b1 b2 true w3)) (ld tI64 w3 b2 2 fun x4 => ld tI64 w3 b2 4 fun x5 => br (decide (x4 > x5)) ((sh_f36_j1 Q b1 b2 true w3)) (ld tI64 w3 b2 4 fun x6 => ld tI64 w3 b2 0 fun x7 => ld tI64 w3 b1 1 fun x8 => CallsR PP n_f41 #[.int .i64 x7, .int .i64 x8] (fun v1 w4 => ∃ x9 : Int, v1 = .int .i64 x9 /\ (chk tI64 w4 b2 4 x6 <| (sh_f36_j1 Q b1 b2 (x6 != x9) w4))) w3))))
theorem so_f36 {a0 : G_api_Config} {a1 : G_api_Vote} (Q : QW) (w0 : World) (h : sh_f36 a0 a1 Q w0) : CallsR PP n_f36 #[t_api_Config.val a0, t_api_Vote.val a1] Q w0 := by
 refine callsR_of_WX (args := [t_api_Config.val a0, t_api_Vote.val a1]) Try.func36 rfl Try.ntmps36 nl ?_
 refine WX_seq (WX_region ?_)
 refine op_w (pw_box (v := a0) ty_26 rfl ?_)
 intro b1 w1 hw1 hw2
 replace h := h b1 w1 hw1 hw2
 refine op_w (pw_box (v := a1) ty_53 rfl ?_)
 intro b2 w2 hw3 hw4
 replace h := h b2 w2 hw3 hw4
 refine mva (vb false) rfl (ops_nil ?_)
 refine WX_seq ?_
 refine WX_join (fun f w5 => ∃ x10 : Bool, Agree f [(2, vp b1 0), (3, vp b2 0), (41, vb x10)] /\ sh_f36_j1 Q b1 b2 x10 w5) ?_ ?_
 obtain ⟨w3, hw5, h⟩ := dwe h
 obtain ⟨x1, hx1, h⟩ := h
 refine dr_split (b := ((x1.len : Int) == 0)) (fun hb1 => ?_) (fun hb1 => ?_)
 have h := h.1 hb1
 refine WX_dr [32] [0,2,3,4,5,7,8,9,10,11,13,14,15,16,17,19,20,22,23,24,25,26,28,30,33,34] [⟨[],[0,2,3,4,5,7,8,9,10,11,13,14,15,16,17,19,20,22,23,24,25,26,28,30],[1,6,12,18,21,27,29,31],[(32,[32,33,34],1)]⟩,⟨[32],[33,34],[27],[]⟩] [vp b2 6, .slice x1.a x1.len x1.cap, vi (x1.len : Int), vb true, vb true, un, un, un, vb true, vb true, un, un, un, un, vb true, vb true, un, un, un, un, un, un, un, vb true, vb true, un, un, un, un, un, un, un, un, un, un] 2 mixed (by kernel_rfl) hw5 ?_
 refine draw_go rfl (pu rfl (pv_fld fo_53_4 rfl) (pu rfl (pv_lenS (s := x1) is_51 rfl) (pu rfl (pv_cmp (v := true) rfl rfl rfl (by exact hb1)) (pu rfl (pv_move (by first | rfl | exact congrArg Value.bool hb1)) (pn (pn (pu rfl (pv_pick (b := true) (v := vb true) rfl rfl) (pu rfl (pv_move rfl) (pn (pn (pn (pu rfl (pv_pick (b := true) (v := vb true) rfl rfl) (pu rfl (pv_move rfl) (pn (pn (pn (pn (pn (pu rfl (pv_pick (b := true) (v := vb true) rfl rfl) (pu rfl (pv_move rfl) (pn (pn (pn (pn ap0)))))))))))))))))))))))) (ro rfl (pv_ld ty_51 rfl hx1) (rn (rn (rn (rn (rn (rn (rn ao0)))))))) rfl ?_
 refine ch_no [un, vb true] rfl rfl rfl nl rfl ?_ ch0
 refine draw_end rfl (pn (pu rfl (pv_pick (b := true) (v := vb true) rfl rfl) ap0)) (rn ao0) ?_
 exact ⟨true, ⟨rfl, rfl, rfl, trivial⟩, h⟩
 have h := h.2 hb1
 obtain ⟨x2, hx2, h⟩ := h
 refine dr_split (b := decide (x2 < 0)) (fun hb2 => ?_) (fun hb2 => ?_)
 have h := h.1 hb2
 refine WX_dr [32] [0,2,3,4,5,7,8,9,10,11,13,14,15,16,17,19,20,22,23,24,25,26,28,30,33,34] [⟨[],[0,2,3,4,5,7,8,9,10,11,13,14,15,16,17,19,20,22,23,24,25,26,28,30],[1,6,12,18,21,27,29,31],[(32,[32,33,34],1)]⟩,⟨[32],[33,34],[27],[]⟩] [vp b2 6, .slice x1.a x1.len x1.cap, vi (x1.len : Int), vb false, vb false, vp b2 0, vi x2, vb true, vb true, vb true, un, un, un, un, vb true, vb true, un, un, un, un, un, un, un, vb true, vb true, un, un, un, un, un, un, un, un, un, un] 2 mixed (by kernel_rfl) hw5 ?_
 refine draw_go rfl (pu rfl (pv_fld fo_53_4 rfl) (pu rfl (pv_lenS (s := x1) is_51 rfl) (pu rfl (pv_cmp (v := false) rfl rfl rfl (by exact hb1)) (pu rfl (pv_move (by first | rfl | exact congrArg Value.bool hb1)) (pu rfl (pv_fld fo_53_0 rfl) (pu rfl (pv_cmp (v := true) rfl rfl rfl (by exact hb2)) (pu rfl (pv_pick (b := false) (v := vb true) rfl rfl) (pu rfl (pv_move (by first | rfl | exact congrArg Value.bool hb2)) (pn (pn (pn (pu rfl (pv_pick (b := true) (v := vb true) rfl rfl) (pu rfl (pv_move rfl) (pn (pn (pn (pn (pn (pu rfl (pv_pick (b := true) (v := vb true) rfl rfl) (pu rfl (pv_move rfl) (pn (pn (pn (pn ap0)))))))))))))))))))))))) (ro rfl (pv_ld ty_51 rfl hx1) (ro rfl (pv_ld ty_3 rfl hx2) (rn (rn (rn (rn (rn (rn ao0)))))))) rfl ?_
 refine ch_no [un, vb true] rfl rfl rfl nl rfl ?_ ch0
 refine draw_end rfl (pn (pu rfl (pv_pick (b := true) (v := vb true) rfl rfl) ap0)) (rn ao0) ?_
 exact ⟨true, ⟨rfl, rfl, rfl, trivial⟩, h⟩
 have h := h.2 hb2
 obtain ⟨x3, hx3, h⟩ := h
 refine dr_split (b := decide (x3 < 0)) (fun hb3 => ?_) (fun hb3 => ?_)
 have h := h.1 hb3
 refine WX_dr [32] [0,2,3,4,5,7,8,9,10,11,13,14,15,16,17,19,20,22,23,24,25,26,28,30,33,34] [⟨[],[0,2,3,4,5,7,8,9,10,11,13,14,15,16,17,19,20,22,23,24,25,26,28,30],[1,6,12,18,21,27,29,31],[(32,[32,33,34],1)]⟩,⟨[32],[33,34],[27],[]⟩] [vp b2 6, .slice x1.a x1.len x1.cap, vi (x1.len : Int), vb false, vb false, vp b2 0, vi x2, vb false, vb false, vb false, vp b2 2, vp b2 2, vi x3, vb true, vb true, vb true, un, un, un, un, un, un, un, vb true, vb true, un, un, un, un, un, un, un, un, un, un] 2 mixed (by kernel_rfl) hw5 ?_
 refine draw_go rfl (pu rfl (pv_fld fo_53_4 rfl) (pu rfl (pv_lenS (s := x1) is_51 rfl) (pu rfl (pv_cmp (v := false) rfl rfl rfl (by exact hb1)) (pu rfl (pv_move (by first | rfl | exact congrArg Value.bool hb1)) (pu rfl (pv_fld fo_53_0 rfl) (pu rfl (pv_cmp (v := false) rfl rfl rfl (by exact hb2)) (pu rfl (pv_pick (b := false) (v := vb false) rfl rfl) (pu rfl (pv_move (by first | rfl | exact congrArg Value.bool hb2)) (pu rfl (pv_fld fo_53_2 rfl) (pu rfl (pv_fld fo_38_0 rfl) (pu rfl (pv_cmp (v := true) rfl rfl rfl (by exact hb3)) (pu rfl (pv_pick (b := false) (v := vb true) rfl rfl) (pu rfl (pv_move (by first | rfl | exact congrArg Value.bool hb3)) (pn (pn (pn (pn (pn (pu rfl (pv_pick (b := true) (v := vb true) rfl rfl) (pu rfl (pv_move rfl) (pn (pn (pn (pn ap0)))))))))))))))))))))))) (ro rfl (pv_ld ty_51 rfl hx1) (ro rfl (pv_ld ty_3 rfl hx2) (ro rfl (pv_ld ty_3 rfl hx3) (rn (rn (rn (rn (rn ao0)))))))) rfl ?_
 refine ch_no [un, vb true] rfl rfl rfl nl rfl ?_ ch0
 refine draw_end rfl (pn (pu rfl (pv_pick (b := true) (v := vb true) rfl rfl) ap0)) (rn ao0) ?_
 exact ⟨true, ⟨rfl, rfl, rfl, trivial⟩, h⟩
 have h := h.2 hb3
 obtain ⟨x4, hx4, x5, hx5, h⟩ := h
 refine dr_split (b := decide (x4 > x5)) (fun hb4 => ?_) (fun hb4 => ?_)
 have h := h.1 hb4
 refine WX_dr [32] [0,2,3,4,5,7,8,9,10,11,13,14,15,16,17,19,20,22,23,24,25,26,28,30,33,34] [⟨[],[0,2,3,4,5,7,8,9,10,11,13,14,15,16,17,19,20,22,23,24,25,26,28,30],[1,6,12,18,21,27,29,31],[(32,[32,33,34],1)]⟩,⟨[32],[33,34],[27],[]⟩] [vp b2 6, .slice x1.a x1.len x1.cap, vi (x1.len : Int), vb false, vb false, vp b2 0, vi x2, vb false, vb false, vb false, vp b2 2, vp b2 2, vi x3, vb false, vb false, vb false, vp b2 2, vp b2 2, vi x4, vp b2 4, vp b2 4, vi x5, vb true, vb true, vb true, un, un, un, un, un, un, un, un, un, un] 2 mixed (by kernel_rfl) hw5 ?_
 refine draw_go rfl (pu rfl (pv_fld fo_53_4 rfl) (pu rfl (pv_lenS (s := x1) is_51 rfl) (pu rfl (pv_cmp (v := false) rfl rfl rfl (by exact hb1)) (pu rfl (pv_move (by first | rfl | exact congrArg Value.bool hb1)) (pu rfl (pv_fld fo_53_0 rfl) (pu rfl (pv_cmp (v := false) rfl rfl rfl (by exact hb2)) (pu rfl (pv_pick (b := false) (v := vb false) rfl rfl) (pu rfl (pv_move (by first | rfl | exact congrArg Value.bool hb2)) (pu rfl (pv_fld fo_53_2 rfl) (pu rfl (pv_fld fo_38_0 rfl) (pu rfl (pv_cmp (v := false) rfl rfl rfl (by exact hb3)) (pu rfl (pv_pick (b := false) (v := vb false) rfl rfl) (pu rfl (pv_move (by first | rfl | exact congrArg Value.bool hb3)) (pu rfl (pv_fld fo_53_2 rfl) (pu rfl (pv_fld fo_38_0 rfl) (pu rfl (pv_fld fo_53_3 rfl) (pu rfl (pv_fld fo_38_0 rfl) (pu rfl (pv_cmp (v := true) rfl rfl rfl (by exact hb4)) (pu rfl (pv_pick (b := false) (v := vb true) rfl rfl) (pu rfl (pv_move (by first | rfl | exact congrArg Value.bool hb4)) (pn (pn (pn (pn ap0)))))))))))))))))))))))) (ro rfl (pv_ld ty_51 rfl hx1) (ro rfl (pv_ld ty_3 rfl hx2) (ro rfl (pv_ld ty_3 rfl hx3) (ro rfl (pv_ld ty_3 rfl hx4) (ro rfl (pv_ld ty_3 rfl hx5) (rn (rn (rn ao0)))))))) rfl ?_
 refine ch_no [un, vb true] rfl rfl rfl nl rfl ?_ ch0
 refine draw_end rfl (pn (pu rfl (pv_pick (b := true) (v := vb true) rfl rfl) ap0)) (rn ao0) ?_
 exact ⟨true, ⟨rfl, rfl, rfl, trivial⟩, h⟩
 have h := h.2 hb4
 obtain ⟨x6, hx6, x7, hx7, x8, hx8, h⟩ := h
 refine WX_dr [32] [0,2,3,4,5,7,8,9,10,11,13,14,15,16,17,19,20,22,23,24,25,26,28,30,33,34] [⟨[],[0,2,3,4,5,7,8,9,10,11,13,14,15,16,17,19,20,22,23,24,25,26,28,30],[1,6,12,18,21,27,29,31],[(32,[32,33,34],1)]⟩,⟨[32],[33,34],[27],[]⟩] [vp b2 6, .slice x1.a x1.len x1.cap, vi (x1.len : Int), vb false, vb false, vp b2 0, vi x2, vb false, vb false, vb false, vp b2 2, vp b2 2, vi x3, vb false, vb false, vb false, vp b2 2, vp b2 2, vi x4, vp b2 4, vp b2 4, vi x5, vb false, vb false, vb false, vp b2 4, vp b2 4, vi x6, vp b2 0, vi x7, vp b1 1, vi x8, un, un, un] 2 mixed (by kernel_rfl) hw5 ?_
 refine draw_go rfl (pu rfl (pv_fld fo_53_4 rfl) (pu rfl (pv_lenS (s := x1) is_51 rfl) (pu rfl (pv_cmp (v := false) rfl rfl rfl (by exact hb1)) (pu rfl (pv_move (by first | rfl | exact congrArg Value.bool hb1)) (pu rfl (pv_fld fo_53_0 rfl) (pu rfl (pv_cmp (v := false) rfl rfl rfl (by exact hb2)) (pu rfl (pv_pick (b := false) (v := vb false) rfl rfl) (pu rfl (pv_move (by first | rfl | exact congrArg Value.bool hb2)) (pu rfl (pv_fld fo_53_2 rfl) (pu rfl (pv_fld fo_38_0 rfl) (pu rfl (pv_cmp (v := false) rfl rfl rfl (by exact hb3)) (pu rfl (pv_pick (b := false) (v := vb false) rfl rfl) (pu rfl (pv_move (by first | rfl | exact congrArg Value.bool hb3)) (pu rfl (pv_fld fo_53_2 rfl) (pu rfl (pv_fld fo_38_0 rfl) (pu rfl (pv_fld fo_53_3 rfl) (pu rfl (pv_fld fo_38_0 rfl) (pu rfl (pv_cmp (v := false) rfl rfl rfl (by exact hb4)) (pu rfl (pv_pick (b := false) (v := vb false) rfl rfl) (pu rfl (pv_move (by first | rfl | exact congrArg Value.bool hb4)) (pu rfl (pv_fld fo_53_3 rfl) (pu rfl (pv_fld fo_38_0 rfl) (pu rfl (pv_fld fo_53_0 rfl) (pu rfl (pv_fld fo_26_1 rfl) ap0)))))))))))))))))))))))) (ro rfl (pv_ld ty_51 rfl hx1) (ro rfl (pv_ld ty_3 rfl hx2) (ro rfl (pv_ld ty_3 rfl hx3) (ro rfl (pv_ld ty_3 rfl hx4) (ro rfl (pv_ld ty_3 rfl hx5) (ro rfl (pv_ld ty_3 rfl hx6) (ro rfl (pv_ld ty_3 rfl hx7) (ro rfl (pv_ld ty_3 rfl hx8) ao0)))))))) rfl ?_
 refine cy rfl rfl ?_
 refine pw_call co_41 rfl (cm h ?_)
 rintro v1 w4 ⟨x9, rfl, h⟩
 obtain ⟨hc1, h⟩ := h
 refine nx [vb (x6 != x9), vb (x6 != x9)] rfl nl rfl ?_
 refine draw_end rfl (pu rfl (pv_cmp (v := (x6 != x9)) rfl rfl rfl rfl) (pu rfl (pv_pick (b := false) (v := vb (x6 != x9)) rfl rfl) ap0)) (ro rfl (pv_ld ty_3 rfl hc1) ao0) ?_
 exact ⟨(x6 != x9), ⟨rfl, rfl, rfl, trivial⟩, h⟩
 rintro f w5 ⟨x10, ha, h⟩
 obtain ⟨g1, rfl⟩ := canon ha
 refine WX_cond (b := x10) rfl (fun hb5 => ?_) (fun hb5 => ?_)
 have h := h.1 hb5
 refine WX_seq (WX_region ?_)
 refine mva (vb false) rfl (ops_nil ?_)
 refine WX_ret ?_
 exact fin_of [vb false] rfl ⟨rfl, trivial⟩ h
 have h := h.2 hb5
 refine WX_skip <| WX_join (fun f w8 => Agree f [] /\ sh_f36_j4 Q w8) ?_ ?_
 refine WX_seq (WX_region ?_)
 refine op_v (pv_fld fo_53_4 rfl) ?_
 obtain ⟨x11, hx11, h⟩ := h
 refine op_v (pv_ld ty_51 rfl hx11) <| op_v (pv_lenS (s := x11) is_51 rfl) <| mv (vi 0) rfl (ops_nil ?_)
 refine WX_block ?_
 obtain ⟨I1, ⟨m, h0⟩, hB1⟩ := h
 refine WX_loop (fun m f w6 => ∃ x12 : Int, Agree f [(2, vp b1 0), (3, vp b2 0), (43, .slice x11.a x11.len x11.cap), (44, vi (x11.len : Int)), (45, vi x12)] /\ I1 m x12 w6) ⟨m, 0, ⟨rfl, rfl, rfl, rfl, rfl, trivial⟩, h0⟩ ?_
 clear h0 m
 rintro m f w6 ⟨x12, ha, h⟩
 obtain ⟨g3, rfl⟩ := canon ha
 replace h := hB1 m x12 w6 h
 clear hB1
 generalize hn_nxt1 : (fun (y0 : Int) (w : World) => ∃ m2, m2 < m /\ I1 m2 y0 w) = nxt1 at h
 refine WX_seq (WX_region ?_)
 refine op_v (pv_cmp (v := decide (x12 < (x11.len : Int))) rfl rfl rfl rfl) (ops_nil ?_)
 refine WX_seq ?_
 refine WX_cond (b := decide (x12 < (x11.len : Int))) rfl (fun hb6 => ?_) (fun hb6 => ?_)
 have h := h.1 hb6
 refine WX_skip <| WX_seq ?_
 refine WX_block ?_
 refine WX_seq (WX_region ?_)
 refine mv (vi x12) rfl ?_
 obtain ⟨b3, o1, hi1, hi2, hi3, h⟩ := h
 refine op_v (pv_ix (s := x11) ez_51 rfl rfl hi1 hi2 hi3) ?_
 obtain ⟨x13, hx13, h⟩ := h
 refine op_v (pv_ld ty_3 rfl hx13) <| mva (vi x12) rfl <| mva (vi x13) rfl (ops_nil ?_)
 refine WX_join (fun f w7 => ∃ x17 : Bool, Agree f [(2, vp b1 0), (3, vp b2 0), (43, .slice x11.a x11.len x11.cap), (44, vi (x11.len : Int)), (45, vi x12), (72, vb x17)] /\ sh_f36_j3 Q x12 nxt1 x17 w7) ?_ ?_
 refine WX_region ?_
 refine mv (vi x13) rfl <| op_v (pv_cmp (v := decide (x13 < 0)) rfl rfl rfl rfl) <| mv (vb (decide (x13 < 0))) rfl ?_
 refine ops_split 52 (b := decide (x13 < 0)) rfl (fun hb7 => ?_) (fun hb7 => ?_)
 have h := h.1 hb7
 iterate 5 refine opg_no ?_
 refine op_v (pv_pick (b := true) (v := vb true) rfl rfl) <| mv (vb true) rfl ?_
 iterate 12 refine opg_no ?_
 refine op_v (pv_pick (b := true) (v := vb true) rfl rfl) (ops_nil ?_)
 exact ⟨true, ⟨rfl, rfl, rfl, rfl, rfl, rfl, trivial⟩, h⟩
 have h := h.2 hb7
 refine opg_v (pv_move (v := vi x13) rfl) <| opg_v (pv_fld fo_26_0 rfl) ?_
 obtain ⟨x14, hx14, h⟩ := h
 refine opg_v (pv_ld ty_24 rfl hx14) <| opg_v (pv_lenS (s := x14) is_24 rfl) <| opg_v (pv_cmp (v := decide (x13 ≥ (x14.len : Int))) rfl rfl rfl rfl) ?_
 refine op_v (pv_pick (b := false) (v := vb (decide (x13 ≥ (x14.len : Int)))) rfl rfl) <| mv (vb (decide (x13 ≥ (x14.len : Int)))) rfl ?_
 refine ops_split 59 (b := decide (x13 ≥ (x14.len : Int))) rfl (fun hb8 => ?_) (fun hb8 => ?_)
 have h := h.1 hb8
 iterate 12 refine opg_no ?_
 refine op_v (pv_pick (b := true) (v := vb true) rfl rfl) (ops_nil ?_)
 exact ⟨true, ⟨rfl, rfl, rfl, rfl, rfl, rfl, trivial⟩, h⟩
 have h := h.2 hb8
 refine opg_v (pv_move (v := vi x12) rfl) <| opg_v (pv_cmp (v := decide (x12 > 0)) rfl rfl rfl rfl) <| opg_v (pv_move (v := vb (decide (x12 > 0))) rfl) ?_
 refine ops_split 62 (b := decide (x12 > 0)) rfl (fun hb9 => ?_) (fun hb9 => ?_)
 have h := h.1 hb9
 refine opg_v (pv_move (v := vi x13) rfl) <| opg_v (pv_fld fo_53_4 rfl) ?_
 obtain ⟨x15, hx15, h⟩ := h
 refine opg_v (pv_ld ty_51 rfl hx15) <| opg_v (pv_move (v := vi x12) rfl) <| opg_v (pv_sub rfl rfl) ?_
 obtain ⟨b4, o2, hi4, hi5, hi6, h⟩ := h
 refine opg_v (pv_ix (s := x15) ez_51 rfl rfl hi4 hi5 hi6) ?_
 obtain ⟨x16, hx16, h⟩ := h
 refine opg_v (pv_ld ty_3 rfl hx16) <| opg_v (pv_cmp (v := decide (x13 <= x16)) rfl rfl rfl rfl) ?_
 refine opg_v (pv_pick (b := true) (v := vb (decide (x13 <= x16))) rfl rfl) ?_
 refine op_v (pv_pick (b := false) (v := vb (decide (x13 <= x16))) rfl rfl) (ops_nil ?_)
 exact ⟨decide (x13 <= x16), ⟨rfl, rfl, rfl, rfl, rfl, rfl, trivial⟩, h⟩
 have h := h.2 hb9
 iterate 8 refine opg_no ?_
 refine opg_v (pv_pick (b := false) (v := vb false) rfl rfl) <| op_v (pv_pick (b := false) (v := vb false) rfl rfl) (ops_nil ?_)
 exact ⟨false, ⟨rfl, rfl, rfl, rfl, rfl, rfl, trivial⟩, h⟩
 rintro f w7 ⟨x17, ha, h⟩
 obtain ⟨g2, rfl⟩ := canon ha
 refine WX_cond (b := x17) rfl (fun hb10 => ?_) (fun hb10 => ?_)
 have h := h.1 hb10
 refine WX_seq (WX_region ?_)
 refine mva (vb false) rfl (ops_nil ?_)
 refine WX_ret ?_
 exact fin_of [vb false] rfl ⟨rfl, trivial⟩ h
 have h := h.2 hb10
 refine WX_skip ?_
 refine WX_region ?_
 refine op_v (pv_add rfl rfl) <| mv (vi (IntKind.i64.wrap (x12 + 1))) rfl (ops_nil ?_)
 subst hn_nxt1
 obtain ⟨m2, hm2, h⟩ := h
 exact ⟨m2, hm2, (IntKind.i64.wrap (x12 + 1)), ⟨rfl, rfl, rfl, rfl, rfl, trivial⟩, h⟩
 have h := h.2 hb6
 refine WX_exit0 ?_
 exact ⟨ag0, h⟩
 rintro f w8 ⟨ha, h⟩
 obtain ⟨g4, rfl⟩ := canon ha
 refine WX_seq (WX_region ?_)
 refine mva (vb true) rfl (ops_nil ?_)
 refine WX_ret ?_
 exact fin_of [vb true] rfl ⟨rfl, trivial⟩ h
def sh_f37_j1 (Q : QW) (x10 : Bool) (w6 : World) : Prop :=
  Q (.bool x10) w6
def sh_f37 (a0 : G_api_Vote) (a1 : G_api_Vote) (Q : QW) (w0 : World) : Prop :=
  al t_api_Vote 53 w0 a0 fun b1 w1 => al t_api_Vote 53 w1 a1 fun b2 w2 => ld t_api_Vote w2 b1 0 fun x1 => ld t_api_Vote w2 b2 0 fun x2 => CallsR PP n_f56 #[t_api_Vote.val x1, t_api_Vote.val x2] (fun v1 w3 => ∃ x3 : Bool, v1 = .bool x3 /\ (br x3 ((sh_f37_j1 Q true w3)) (ld t_api_Vote w3 b1 0 fun x4 => ld t_api_Vote w3 b2 0 fun x5 => CallsR PP n_f57 #[t_api_Vote.val x4, t_api_Vote.val x5] (fun v2 w4 => ∃ x6 : Bool, v2 = .bool x6 /\ (br x6 ((sh_f37_j1 Q true w4)) (ld t_api_Vote w4 b2 0 fun x7 => ld t_api_Vote w4 b1 0 fun x8 => CallsR PP n_f57 #[t_api_Vote.val x7, t_api_Vote.val x8] (fun v3 w5 => ∃ x9 : Bool, v3 = .bool x9 /\ ((sh_f37_j1 Q x9 w5))) w4))) w3))) w2
theorem so_f37 {a0 : G_api_Vote} {a1 : G_api_Vote} (Q : QW) (w0 : World) (h : sh_f37 a0 a1 Q w0) : CallsR PP n_f37 #[t_api_Vote.val a0, t_api_Vote.val a1] Q w0 := by
 refine callsR_of_WX (args := [t_api_Vote.val a0, t_api_Vote.val a1]) Try.func37 rfl Try.ntmps37 nl ?_
 refine WX_seq (WX_region ?_)
 refine op_w (pw_box (v := a0) ty_53 rfl ?_)
 intro b1 w1 hw1 hw2
 replace h := h b1 w1 hw1 hw2
 refine op_w (pw_box (v := a1) ty_53 rfl ?_)
 intro b2 w2 hw3 hw4
 replace h := h b2 w2 hw3 hw4
 refine mva (vb false) rfl (ops_nil ?_)
 refine WX_join (fun f w6 => ∃ x10 : Bool, Agree f [(4, vb x10)] /\ sh_f37_j1 Q x10 w6) ?_ ?_
 refine WX_region ?_
 obtain ⟨x1, hx1, h⟩ := h
 refine op_v (pv_ld ty_53 rfl hx1) ?_
 obtain ⟨x2, hx2, h⟩ := h
 refine op_v (pv_ld ty_53 rfl hx2) <| op_w (pw_call co_56 rfl (CallsR.mono h ?_))
 rintro v1 w3 ⟨x3, rfl, h⟩
 refine mv (vb x3) rfl <| ops_split 8 (b := x3) rfl (fun hb1 => ?_) (fun hb1 => ?_)
 have h := h.1 hb1
 iterate 3 refine opg_no ?_
 refine op_v (pv_pick (b := true) (v := vb true) rfl rfl) <| mv (vb true) rfl ?_
 iterate 3 refine opg_no ?_
 refine op_v (pv_pick (b := true) (v := vb true) rfl rfl) <| mva (vb true) rfl (ops_nil ?_)
 exact ⟨true, ⟨rfl, trivial⟩, h⟩
 have h := h.2 hb1
 obtain ⟨x4, hx4, h⟩ := h
 refine opg_v (pv_ld ty_53 rfl hx4) ?_
 obtain ⟨x5, hx5, h⟩ := h
 refine opg_v (pv_ld ty_53 rfl hx5) <| opg_w (pw_call co_57 rfl (CallsR.mono h ?_))
 rintro v2 w4 ⟨x6, rfl, h⟩
 refine op_v (pv_pick (b := false) (v := vb x6) rfl rfl) <| mv (vb x6) rfl <| ops_split 13 (b := x6) rfl (fun hb2 => ?_) (fun hb2 => ?_)
 have h := h.1 hb2
 iterate 3 refine opg_no ?_
 refine op_v (pv_pick (b := true) (v := vb true) rfl rfl) <| mva (vb true) rfl (ops_nil ?_)
 exact ⟨true, ⟨rfl, trivial⟩, h⟩
 have h := h.2 hb2
 obtain ⟨x7, hx7, h⟩ := h
 refine opg_v (pv_ld ty_53 rfl hx7) ?_
 obtain ⟨x8, hx8, h⟩ := h
 refine opg_v (pv_ld ty_53 rfl hx8) <| opg_w (pw_call co_57 rfl (CallsR.mono h ?_))
 rintro v3 w5 ⟨x9, rfl, h⟩
 refine op_v (pv_pick (b := false) (v := vb x9) rfl rfl) <| mva (vb x9) rfl (ops_nil ?_)
 exact ⟨x9, ⟨rfl, trivial⟩, h⟩
 rintro f w6 ⟨x10, ha, h⟩
 obtain ⟨g1, rfl⟩ := canon ha
 refine WX_ret ?_
 exact fin_of [vb x10] rfl ⟨rfl, trivial⟩ h
def sh_f38_j3 (x3 : Int) (nxt1 : Sl -> Int -> World -> Prop) (x10 : Sl) (w9 : World) : Prop :=
  nxt1 x10 (IntKind.i64.wrap (x3 + 1)) w9
def sh_f38_j2 (x2 : Sl) (x3 : Int) (nxt1 : Sl -> Int -> World -> Prop) (x4 : Int) (x8 : Bool) (w6 : World) : Prop :=
  br x8 (alr 3 w6 (tI64.enc x4) fun b4 w7 => app 3 1 8 w7 x2 (Sl.mk (some ⟨b4, 0, none⟩) 1 1) fun x9 w8 => (sh_f38_j3 x3 nxt1 x9 w8)) ((sh_f38_j3 x3 nxt1 x2 w6))
def sh_f38_j4 (Q : QW) (x11 : Sl) (w10 : World) : Prop :=
  CallsR PP n_f59 #[.slice x11.a x11.len x11.cap] (fun v3 w11 => Q (.slice x11.a x11.len x11.cap) w11) w10
def sh_f38_b1 (Q : QW) (b2 : Nat) (x1 : Sl) (x2 : Sl) (x3 : Int) (w3 : World) (nxt1 : Sl -> Int -> World -> Prop) : Prop :=
  br (decide (x3 < (x1.len : Int))) (ixs x1 x3 fun b3 o1 => ld tI64 w3 b3 (o1 + (x3).toNat * 1) fun x4 => ld tSl w3 b2 6 fun x5 => CallsR PP n_f58 #[.slice x5.a x5.len x5.cap, .int .i64 x4] (fun v1 w4 => ∃ x6 : Bool, v1 = .bool x6 /\ (br x6 (CallsR PP n_f58 #[.slice x2.a x2.len x2.cap, .int .i64 x4] (fun v2 w5 => ∃ x7 : Bool, v2 = .bool x7 /\ ((sh_f38_j2 x2 x3 nxt1 x4 (!x7) w5))) w4) ((sh_f38_j2 x2 x3 nxt1 x4 false w4)))) w3) ((sh_f38_j4 Q x2 w3))
def sh_f38 (a0 : G_api_Vote) (a1 : G_api_Vote) (Q : QW) (w0 : World) : Prop :=
  al t_api_Vote 53 w0 a0 fun b1 w1 => al t_api_Vote 53 w1 a1 fun b2 w2 => ld tSl w2 b1 6 fun x1 => (∃ I1 : Nat -> Sl -> Int -> World -> Prop, (∃ m, I1 m nilSl 0 w2) /\ ∀ m x2 x3 w3, I1 m x2 x3 w3 -> sh_f38_b1 Q b2 x1 x2 x3 w3 (fun y0 y1 w => ∃ m2, m2 < m /\ I1 m2 y0 y1 w))
theorem so_f38 {a0 : G_api_Vote} {a1 : G_api_Vote} (Q : QW) (w0 : World) (h : sh_f38 a0 a1 Q w0) : CallsR PP n_f38 #[t_api_Vote.val a0, t_api_Vote.val a1] Q w0 := by
 refine callsR_of_WX (args := [t_api_Vote.val a0, t_api_Vote.val a1]) Try.func38 rfl Try.ntmps38 nl ?_
 refine WX_seq (WX_region ?_)
 refine op_w (pw_box (v := a0) ty_53 rfl ?_)
 intro b1 w1 hw1 hw2
 replace h := h b1 w1 hw1 hw2
 refine op_w (pw_box (v := a1) ty_53 rfl ?_)
 intro b2 w2 hw3 hw4
 replace h := h b2 w2 hw3 hw4
 refine mva (.slice none 0 0) rfl (ops_nil ?_)
 refine WX_seq (WX_region ?_)
 refine mva (.slice none 0 0) rfl (ops_nil ?_)
 refine WX_join (fun f w10 => ∃ x11 : Sl, Agree f [(5, .slice x11.a x11.len x11.cap)] /\ sh_f38_j4 Q x11 w10) ?_ ?_
 refine WX_seq (WX_region ?_)
 refine op_v (pv_fld fo_53_4 rfl) ?_
 obtain ⟨x1, hx1, h⟩ := h
 refine op_v (pv_ld ty_51 rfl hx1) <| op_v (pv_lenS (s := x1) is_51 rfl) <| mv (vi 0) rfl (ops_nil ?_)
 refine WX_block ?_
 obtain ⟨I1, ⟨m, h0⟩, hB1⟩ := h
 refine WX_loop (fun m f w3 => ∃ x2 : Sl, ∃ x3 : Int, Agree f [(3, vp b2 0), (5, .slice x2.a x2.len x2.cap), (9, .slice x1.a x1.len x1.cap), (10, vi (x1.len : Int)), (11, vi x3)] /\ I1 m x2 x3 w3) ⟨m, nilSl, 0, ⟨rfl, rfl, rfl, rfl, rfl, trivial⟩, h0⟩ ?_
 clear h0 m
 rintro m f w3 ⟨x2, x3, ha, h⟩
 obtain ⟨g3, rfl⟩ := canon ha
 replace h := hB1 m x2 x3 w3 h
 clear hB1
 generalize hn_nxt1 : (fun (y0 : Sl) (y1 : Int) (w : World) => ∃ m2, m2 < m /\ I1 m2 y0 y1 w) = nxt1 at h
 refine WX_seq (WX_region ?_)
 refine op_v (pv_cmp (v := decide (x3 < (x1.len : Int))) rfl rfl rfl rfl) (ops_nil ?_)
 refine WX_seq ?_
 refine WX_cond (b := decide (x3 < (x1.len : Int))) rfl (fun hb1 => ?_) (fun hb1 => ?_)
 have h := h.1 hb1
 refine WX_skip ?_
 refine WX_join (fun f w9 => ∃ x10 : Sl, Agree f [(3, vp b2 0), (5, .slice x10.a x10.len x10.cap), (9, .slice x1.a x1.len x1.cap), (10, vi (x1.len : Int)), (11, vi x3)] /\ sh_f38_j3 x3 nxt1 x10 w9) ?_ ?_
 refine WX_block ?_
 refine WX_seq (WX_region ?_)
 obtain ⟨b3, o1, hi1, hi2, hi3, h⟩ := h
 refine op_v (pv_ix (s := x1) ez_51 rfl rfl hi1 hi2 hi3) ?_
 obtain ⟨x4, hx4, h⟩ := h
 refine op_v (pv_ld ty_3 rfl hx4) <| mva (vi x4) rfl (ops_nil ?_)
 refine WX_join (fun f w6 => ∃ x8 : Bool, Agree f [(3, vp b2 0), (5, .slice x2.a x2.len x2.cap), (7, vi x4), (9, .slice x1.a x1.len x1.cap), (10, vi (x1.len : Int)), (11, vi x3), (24, vb x8)] /\ sh_f38_j2 x2 x3 nxt1 x4 x8 w6) ?_ ?_
 refine WX_region ?_
 refine op_v (pv_fld fo_53_4 rfl) ?_
 obtain ⟨x5, hx5, h⟩ := h
 refine op_v (pv_ld ty_51 rfl hx5) <| mv (vi x4) rfl <| op_w (pw_call co_58 rfl (CallsR.mono h ?_))
 rintro v1 w4 ⟨x6, rfl, h⟩
 refine mv (vb x6) rfl <| ops_split 19 (b := x6) rfl (fun hb2 => ?_) (fun hb2 => ?_)
 have h := h.1 hb2
 refine opg_v (pv_move (v := .slice x2.a x2.len x2.cap) rfl) <| opg_v (pv_move (v := vi x4) rfl) <| opg_w (pw_call co_58 rfl (CallsR.mono h ?_))
 rintro v2 w5 ⟨x7, rfl, h⟩
 refine opg_v (pv_not rfl) <| op_v (pv_pick (b := true) (v := vb (!x7)) rfl rfl) (ops_nil ?_)
 exact ⟨(!x7), ⟨rfl, rfl, rfl, rfl, rfl, rfl, rfl, trivial⟩, h⟩
 have h := h.2 hb2
 iterate 4 refine opg_no ?_
 refine op_v (pv_pick (b := false) (v := vb false) rfl rfl) (ops_nil ?_)
 exact ⟨false, ⟨rfl, rfl, rfl, rfl, rfl, rfl, rfl, trivial⟩, h⟩
 rintro f w6 ⟨x8, ha, h⟩
 obtain ⟨g1, rfl⟩ := canon ha
 refine WX_cond (b := x8) rfl (fun hb3 => ?_) (fun hb3 => ?_)
 have h := h.1 hb3
 refine WX_region ?_
 refine mv (.slice x2.a x2.len x2.cap) rfl <| mv (vi x4) rfl ?_
 refine op_w (pw_buildSlice (e := 3) (cs := tI64.enc x4) (vs := [(0, vi x4)]) rfl (by kernel_rfl) ?_)
 intro b4 w7 hw5 hw6
 replace h := h b4 w7 hw5 hw6
 obtain ⟨ol1, ne1, ha1, ha2, ha3, ha4, ha5, h⟩ := h
 refine op_w (pw_append (s := x2) (r := (Sl.mk (some ⟨b4, 0, none⟩) 1 1)) eo_51 is_51 rfl rfl ha1 ha2 ha3 ha4 ha5 ?_)
 intro x9 w8 ha6
 replace h := h x9 w8 ha6
 refine mva (.slice x9.a x9.len x9.cap) rfl (ops_nil ?_)
 exact ⟨x9, ⟨rfl, rfl, rfl, rfl, rfl, trivial⟩, h⟩
 have h := h.2 hb3
 refine WX_skip ?_
 exact ⟨x2, ⟨rfl, rfl, rfl, rfl, rfl, trivial⟩, h⟩
 rintro f w9 ⟨x10, ha, h⟩
 obtain ⟨g2, rfl⟩ := canon ha
 refine WX_region ?_
 refine op_v (pv_add rfl rfl) <| mv (vi (IntKind.i64.wrap (x3 + 1))) rfl (ops_nil ?_)
 subst hn_nxt1
 obtain ⟨m2, hm2, h⟩ := h
 exact ⟨m2, hm2, x10, (IntKind.i64.wrap (x3 + 1)), ⟨rfl, rfl, rfl, rfl, rfl, trivial⟩, h⟩
 have h := h.2 hb1
 refine WX_exit0 ?_
 exact ⟨x2, ⟨rfl, trivial⟩, h⟩
 rintro f w10 ⟨x11, ha, h⟩
 obtain ⟨g4, rfl⟩ := canon ha
 refine WX_seq (WX_region ?_)
 refine mv (.slice x11.a x11.len x11.cap) rfl <| op_w (pw_call co_59 rfl (CallsR.mono h ?_))
 intro v3 w11 h
 refine ops_nil ?_
 refine WX_seq (WX_region ?_)
 refine mv (.slice x11.a x11.len x11.cap) rfl <| mva (.slice x11.a x11.len x11.cap) rfl (ops_nil ?_)
 refine WX_ret ?_
 exact fin_of [.slice x11.a x11.len x11.cap] rfl ⟨rfl, trivial⟩ h
def sh_f39_j3 (Q : QW) (x7 : Sl) (w7 : World) : Prop :=
  Q (.slice x7.a x7.len x7.cap) w7
def sh_f39_j2 (Q : QW) (x2 : Sl) (x3 : Int) (nxt1 : Sl -> Int -> World -> Prop) (x5 : Bool) (w4 : World) : Prop :=
  br x5 (alr 3 w4 (tI64.enc x3) fun b1 w5 => app 3 1 8 w5 x2 (Sl.mk (some ⟨b1, 0, none⟩) 1 1) fun x6 w6 => nxt1 x6 (IntKind.i64.wrap (x3 + 1)) w6) ((sh_f39_j3 Q x2 w4))
def sh_f39_b1 (a1 : Int) (a2 : Int) (Q : QW) (x2 : Sl) (x3 : Int) (w2 : World) (nxt1 : Sl -> Int -> World -> Prop) : Prop :=
  CallsR PP n_f41 #[.int .i64 a1, .int .i64 a2] (fun v2 w3 => ∃ x4 : Int, v2 = .int .i64 x4 /\ (br (decide (x3 < x4)) ((sh_f39_j2 Q x2 x3 nxt1 (decide ((x2.len : Int) < 4096)) w3)) ((sh_f39_j2 Q x2 x3 nxt1 false w3)))) w2
def sh_f39 (a0 : Int) (a1 : Int) (a2 : Int) (Q : QW) (w0 : World) : Prop :=
  CallsR PP n_f41 #[.int .i64 a0, .int .i64 a2] (fun v1 w1 => ∃ x1 : Int, v1 = .int .i64 x1 /\ ((∃ I1 : Nat -> Sl -> Int -> World -> Prop, (∃ m, I1 m nilSl x1 w1) /\ ∀ m x2 x3 w2, I1 m x2 x3 w2 -> sh_f39_b1 a1 a2 Q x2 x3 w2 (fun y0 y1 w => ∃ m2, m2 < m /\ I1 m2 y0 y1 w)))) w0
theorem so_f39 {a0 : Int} {a1 : Int} {a2 : Int} (Q : QW) (w0 : World) (h : sh_f39 a0 a1 a2 Q w0) : CallsR PP n_f39 #[.int .i64 a0, .int .i64 a1, .int .i64 a2] Q w0 := by
 refine callsR_of_WX (args := [vi a0, vi a1, vi a2]) Try.func39 rfl Try.ntmps39 nl ?_
 refine WX_seq (WX_region ?_)
 refine mva (.slice none 0 0) rfl (ops_nil ?_)
 refine WX_seq (WX_region ?_)
 refine mva (.slice none 0 0) rfl (ops_nil ?_)
 refine WX_join (fun f w7 => ∃ x7 : Sl, Agree f [(7, .slice x7.a x7.len x7.cap)] /\ sh_f39_j3 Q x7 w7) ?_ ?_
 refine WX_seq (WX_region ?_)
 refine mv (vi a0) rfl <| mv (vi a2) rfl <| op_w (pw_call co_41 rfl (CallsR.mono h ?_))
 rintro v1 w1 ⟨x1, rfl, h⟩
 refine mva (vi x1) rfl (ops_nil ?_)
 refine WX_block ?_
 obtain ⟨I1, ⟨m, h0⟩, hB1⟩ := h
 refine WX_loop (fun m f w2 => ∃ x2 : Sl, ∃ x3 : Int, Agree f [(1, vi a1), (2, vi a2), (7, .slice x2.a x2.len x2.cap), (8, vi x3)] /\ I1 m x2 x3 w2) ⟨m, nilSl, x1, ⟨rfl, rfl, rfl, rfl, trivial⟩, h0⟩ ?_
 clear h0 m
 rintro m f w2 ⟨x2, x3, ha, h⟩
 obtain ⟨g2, rfl⟩ := canon ha
 replace h := hB1 m x2 x3 w2 h
 clear hB1
 generalize hn_nxt1 : (fun (y0 : Sl) (y1 : Int) (w : World) => ∃ m2, m2 < m /\ I1 m2 y0 y1 w) = nxt1 at h
 refine WX_seq ?_
 refine WX_join (fun f w4 => ∃ x5 : Bool, Agree f [(1, vi a1), (2, vi a2), (7, .slice x2.a x2.len x2.cap), (8, vi x3), (21, vb x5)] /\ sh_f39_j2 Q x2 x3 nxt1 x5 w4) ?_ ?_
 refine WX_region ?_
 refine mv (vi x3) rfl <| mv (vi a1) rfl <| mv (vi a2) rfl <| op_w (pw_call co_41 rfl (CallsR.mono h ?_))
 rintro v2 w3 ⟨x4, rfl, h⟩
 refine op_v (pv_cmp (v := decide (x3 < x4)) rfl rfl rfl rfl) <| mv (vb (decide (x3 < x4))) rfl ?_
 refine ops_split 17 (b := decide (x3 < x4)) rfl (fun hb1 => ?_) (fun hb1 => ?_)
 have h := h.1 hb1
 refine opg_v (pv_move (v := .slice x2.a x2.len x2.cap) rfl) <| opg_v (pv_lenS (s := x2) is_51 rfl) ?_
 refine opg_v (pv_cmp (v := decide ((x2.len : Int) < 4096)) rfl rfl rfl rfl) ?_
 refine op_v (pv_pick (b := true) (v := vb (decide ((x2.len : Int) < 4096))) rfl rfl) (ops_nil ?_)
 exact ⟨decide ((x2.len : Int) < 4096), ⟨rfl, rfl, rfl, rfl, rfl, trivial⟩, h⟩
 have h := h.2 hb1
 iterate 3 refine opg_no ?_
 refine op_v (pv_pick (b := false) (v := vb false) rfl rfl) (ops_nil ?_)
 exact ⟨false, ⟨rfl, rfl, rfl, rfl, rfl, trivial⟩, h⟩
 rintro f w4 ⟨x5, ha, h⟩
 obtain ⟨g1, rfl⟩ := canon ha
 refine WX_cond (b := x5) rfl (fun hb2 => ?_) (fun hb2 => ?_)
 have h := h.1 hb2
 refine WX_skip <| WX_seq ?_
 refine WX_block ?_
 refine WX_region ?_
 refine mv (.slice x2.a x2.len x2.cap) rfl <| mv (vi x3) rfl ?_
 refine op_w (pw_buildSlice (e := 3) (cs := tI64.enc x3) (vs := [(0, vi x3)]) rfl (by kernel_rfl) ?_)
 intro b1 w5 hw1 hw2
 replace h := h b1 w5 hw1 hw2
 obtain ⟨ol1, ne1, ha1, ha2, ha3, ha4, ha5, h⟩ := h
 refine op_w (pw_append (s := x2) (r := (Sl.mk (some ⟨b1, 0, none⟩) 1 1)) eo_51 is_51 rfl rfl ha1 ha2 ha3 ha4 ha5 ?_)
 intro x6 w6 ha6
 replace h := h x6 w6 ha6
 refine mva (.slice x6.a x6.len x6.cap) rfl (ops_nil ?_)
 refine WX_region ?_
 refine mv (vi x3) rfl <| op_v (pv_add rfl rfl) <| mva (vi (IntKind.i64.wrap (x3 + 1))) rfl (ops_nil ?_)
 subst hn_nxt1
 obtain ⟨m2, hm2, h⟩ := h
 exact ⟨m2, hm2, x6, (IntKind.i64.wrap (x3 + 1)), ⟨rfl, rfl, rfl, rfl, trivial⟩, h⟩
 have h := h.2 hb2
 refine WX_exit0 ?_
 exact ⟨x2, ⟨rfl, trivial⟩, h⟩
 rintro f w7 ⟨x7, ha, h⟩
 obtain ⟨g3, rfl⟩ := canon ha
 refine WX_seq (WX_region ?_)
 refine mv (.slice x7.a x7.len x7.cap) rfl <| mva (.slice x7.a x7.len x7.cap) rfl (ops_nil ?_)
 refine WX_ret ?_
 exact fin_of [.slice x7.a x7.len x7.cap] rfl ⟨rfl, trivial⟩ h
def sh_f40 (a0 : G_api_Config) (a1 : Int) (a2 : Fv) (Q : QW) (w0 : World) : Prop :=
  al t_api_Config 26 w0 a0 fun b1 w1 => al t_api_Point 38 w1 (⟨0, 0⟩ : G_api_Point) fun b2 w2 => ld tI64 w2 b1 1 fun x1 => CallsR PP n_f53 #[.int .i64 a1, .int .i64 x1] (fun v1 w3 => ∃ x2 : Int, v1 = .int .i64 x2 /\ (∃ (k1 : Nat) (fi1 ca1 : List Value), a2.v = .func (.func k1) fi1.toArray ca1.toArray /\ CallOk PP k1 /\ CallsR PP k1 (fi1 ++ ([.int .i64 x2] : List Value) ++ ca1).toArray (fun v2 w4 => ∃ x3 : Int, v2 = .int .u64 x3 /\ (st t_api_Point w4 b2 0 (⟨(if a1 > 0 then a1 else 0), x3⟩ : G_api_Point) fun w5 => ld t_api_Point w5 b2 0 fun x4 => Q (t_api_Point.val x4) w5)) w3)) w2
theorem so_f40 {a0 : G_api_Config} {a1 : Int} {a2 : Fv} (Q : QW) (w0 : World) (h : sh_f40 a0 a1 a2 Q w0) : CallsR PP n_f40 #[t_api_Config.val a0, .int .i64 a1, a2.v] Q w0 := by
 refine callsR_of_WX (args := [t_api_Config.val a0, vi a1, a2.v]) Try.func40 rfl Try.ntmps40 nl ?_
 refine WX_seq (WX_region ?_)
 refine op_w (pw_box (v := a0) ty_26 rfl ?_)
 intro b1 w1 hw1 hw2
 replace h := h b1 w1 hw1 hw2
 refine op_w (pw_alloc ty_38 tz_38 ?_)
 intro b2 w2 hw3 hw4
 replace h := h b2 w2 hw3 hw4
 refine ops_nil ?_
 refine WX_seq (WX_region ?_)
 refine mv (vi a1) rfl <| op_v (pv_max rfl rfl) <| mv a2.v rfl <| mv (vi a1) rfl <| op_v (pv_fld fo_26_1 rfl) ?_
 obtain ⟨x1, hx1, h⟩ := h
 refine op_v (pv_ld ty_3 rfl hx1) <| op_w (pw_call co_53 rfl (CallsR.mono h ?_))
 rintro v1 w3 ⟨x2, rfl, h⟩
 obtain ⟨k1, fi1, ca1, hg1, hk1, h⟩ := h
 refine op_w (pw_callv hk1 hg1 rfl (cm h ?_))
 rintro v2 w4 ⟨x3, rfl, h⟩
 refine op_v (pv_build (cs := t_api_Point.enc (⟨(if a1 > 0 then a1 else 0), x3⟩ : G_api_Point)) (vs := [(0, vi (if a1 > 0 then a1 else 0)), (1, vu x3)]) rfl (by kernel_rfl)) ?_
 refine op_w (pw_st (x := (⟨(if a1 > 0 then a1 else 0), x3⟩ : G_api_Point)) ty_38 rfl rfl h.1 ?_)
 intro w5 hw5
 replace h := h.2 w5 hw5
 refine ops_nil ?_
 refine WX_ret ?_
 obtain ⟨x4, hx4, h⟩ := h
 exact fin_of [t_api_Point.val x4] rfl ⟨⟨_, _, rfl, run_loadVar ty_38 hx4⟩, trivial⟩ h
def sh_f41 (a0 : Int) (a1 : Int) (Q : QW) (w0 : World) : Prop :=
  chkp ((if a1 > 1 then a1 else 1) ≠ 0) <| Q (.int .i64 (IntKind.i64.wrap (Int.tdiv (if a0 > 0 then a0 else 0) (if a1 > 1 then a1 else 1)))) w0
theorem so_f41 {a0 : Int} {a1 : Int} (Q : QW) (w0 : World) (h : sh_f41 a0 a1 Q w0) : CallsR PP n_f41 #[.int .i64 a0, .int .i64 a1] Q w0 := by
 refine callsR_of_WX (args := [vi a0, vi a1]) Try.func41 rfl Try.ntmps41 nl ?_
 refine WX_seq (WX_region ?_)
 refine mva (vi 0) rfl (ops_nil ?_)
 refine WX_seq (WX_region ?_)
 refine mv (vi a0) rfl <| op_v (pv_max rfl rfl) <| mv (vi a1) rfl <| op_v (pv_max rfl rfl) ?_
 obtain ⟨hz1, h⟩ := h
 refine op_v (pv_quo rfl rfl hz1) <| mva (vi (IntKind.i64.wrap (Int.tdiv (if a0 > 0 then a0 else 0) (if a1 > 1 then a1 else 1)))) rfl (ops_nil ?_)
 refine WX_ret ?_
 exact fin_of [vi (IntKind.i64.wrap (Int.tdiv (if a0 > 0 then a0 else 0) (if a1 > 1 then a1 else 1)))] rfl ⟨rfl, trivial⟩ h
def sh_f42 (a0 : Option Addr) (a1 : Int) (Q : QW) (w0 : World) : Prop :=
  al tPtr 28 w0 a0 fun b1 w1 => al tU64 36 w1 a1 fun b2 w2 => Q ((Fv.mk 60 [] [.pointer (some ⟨b1, 0, none⟩), .pointer (some ⟨b2, 0, none⟩)]).v) w2
theorem so_f42 {a0 : Option Addr} {a1 : Int} (Q : QW) (w0 : World) (h : sh_f42 a0 a1 Q w0) : CallsR PP n_f42 #[.pointer a0, .int .u64 a1] Q w0 := by
 refine callsR_of_WX (args := [.pointer a0, vu a1]) Try.func42 rfl Try.ntmps42 nl ?_
 refine WX_seq (WX_region ?_)
 refine op_w (pw_box (v := a0) ty_28 rfl ?_)
 intro b1 w1 hw1 hw2
 replace h := h b1 w1 hw1 hw2
 refine op_w (pw_box (v := a1) ty_36 rfl ?_)
 intro b2 w2 hw3 hw4
 replace h := h b2 w2 hw3 hw4
 refine mva .nilFunc rfl (ops_nil ?_)
 refine WX_seq (WX_region ?_)
 refine op_v (pv_func (va := []) (vb := [vp b1 0, vp b2 0]) rfl rfl) <| mva ((Fv.mk 60 [] [vp b1 0, vp b2 0]).v) rfl (ops_nil ?_)
 refine WX_ret ?_
 exact fin_of [(Fv.mk 60 [] [vp b1 0, vp b2 0]).v] rfl ⟨rfl, trivial⟩ h
def sh_f43 (a0 : G_api_Config) (Q : QW) (w0 : World) : Prop :=
  al t_api_Config 26 w0 a0 fun b1 w1 => dw w1 fun w2 => ld t_api_Config w2 b1 0 fun x1 => ld tSl w2 b1 0 fun x2 => CallsR PP n_f61 #[.int .i64 (x2.len : Int)] (fun v1 w3 => ∃ x3 : Sl, v1 = .slice x3.a x3.len x3.cap /\ (chk t_api_Config w3 b1 0 x1 <| CallsR PP n_f45 #[t_api_Config.val x1, .slice x3.a x3.len x3.cap] (fun v2 w4 => ∃ x4 : Int, v2 = .int .u64 x4 /\ (Q (.int .u64 x4) w4)) w3)) w2
theorem so_f43 {a0 : G_api_Config} (Q : QW) (w0 : World) (h : sh_f43 a0 Q w0) : CallsR PP n_f43 #[t_api_Config.val a0] Q w0 := by
 refine callsR_of_WX (args := [t_api_Config.val a0]) Try.func43 rfl Try.ntmps43 nl ?_
 refine WX_seq (WX_region ?_)
 refine op_w (pw_box (v := a0) ty_26 rfl ?_)
 intro b1 w1 hw1 hw2
 replace h := h b1 w1 hw1 hw2
 refine mva (vu 0) rfl (ops_nil ?_)
 refine WX_seq ?_
 obtain ⟨w2, hw3, h⟩ := dwe h
 obtain ⟨x1, hx1, x2, hx2, h⟩ := h
 refine WX_dr [4,5] [1,3,6] [⟨[],[1,3],[0,2],[(4,[4],1)]⟩,⟨[4],[],[0],[(5,[5,6],2)]⟩,⟨[5,4],[6],[],[]⟩] [t_api_Config.val x1, vp b1 0, .slice x2.a x2.len x2.cap, vi (x2.len : Int), un, un, un] 3 mixed (by kernel_rfl) hw3 ?_
 refine draw_go rfl (pu rfl (pv_fld fo_26_0 rfl) (pu rfl (pv_lenS (s := x2) is_24 rfl) ap0)) (ro rfl (pv_ld ty_26 rfl hx1) (ro rfl (pv_ld ty_24 rfl hx2) ao0)) rfl ?_
 refine cy rfl rfl ?_
 refine pw_call co_61 rfl (cm h ?_)
 rintro v1 w3 ⟨x3, rfl, h⟩
 obtain ⟨hc1, h⟩ := h
 refine nx [] rfl nl rfl ?_
 refine draw_go rfl ap0 (ro rfl (pv_ld ty_26 rfl hc1) ao0) rfl ?_
 refine cy rfl rfl ?_
 refine pw_call co_45 rfl (cm h ?_)
 rintro v2 w4 ⟨x4, rfl, h⟩
 refine nx [vu x4] rfl nl rfl ?_
 refine draw_end rfl (pu rfl (pv_assign rfl) ap0) ao0 ?_
 refine WX_ret ?_
 exact fin_of [vu x4] rfl ⟨rfl, trivial⟩ h
def sh_f44_j1 (Q : QW) (x1 : Bool) (w1 : World) : Prop :=
  Q (.bool x1) w1
def sh_f44 (a0 : Int) (a1 : Int) (Q : QW) (w0 : World) : Prop :=
  br (decide (a1 > 0)) ((sh_f44_j1 Q (decide (a0 ≥ (IntKind.u64.wrap ((IntKind.u64.wrap (2 * (IntKind.u64.wrap (Int.tdiv a1 3)))) + (IntKind.u64.wrap (Int.tdiv (IntKind.u64.wrap ((IntKind.u64.wrap (2 * (Int.tmod a1 3))) + 2)) 3)))))) w0)) ((sh_f44_j1 Q false w0))
theorem so_f44 {a0 : Int} {a1 : Int} (Q : QW) (w0 : World) (h : sh_f44 a0 a1 Q w0) : CallsR PP n_f44 #[.int .u64 a0, .int .u64 a1] Q w0 := by
 refine callsR_of_WX (args := [vu a0, vu a1]) Try.func44 rfl Try.ntmps44 nl ?_
 refine WX_seq (WX_region ?_)
 refine mva (vb false) rfl (ops_nil ?_)
 refine WX_seq (WX_region ?_)
 refine mv (vu a1) rfl <| op_v (pv_quo rfl rfl (by decide)) <| mva (vu (IntKind.u64.wrap (Int.tdiv a1 3))) rfl (ops_nil ?_)
 refine WX_seq (WX_region ?_)
 refine mv (vu (IntKind.u64.wrap (Int.tdiv a1 3))) rfl <| op_v (pv_mul rfl rfl) <| mv (vu a1) rfl <| op_v (pv_rem rfl rfl (by decide)) ?_
 refine op_v (pv_mul rfl rfl) <| op_v (pv_add rfl rfl) <| op_v (pv_quo rfl rfl (by decide)) <| op_v (pv_add rfl rfl) ?_
 refine mva (vu (IntKind.u64.wrap ((IntKind.u64.wrap (2 * (IntKind.u64.wrap (Int.tdiv a1 3)))) + (IntKind.u64.wrap (Int.tdiv (IntKind.u64.wrap ((IntKind.u64.wrap (2 * (Int.tmod a1 3))) + 2)) 3))))) rfl (ops_nil ?_)
 refine WX_join (fun f w1 => ∃ x1 : Bool, Agree f [(4, vb x1)] /\ sh_f44_j1 Q x1 w1) ?_ ?_
 refine WX_region ?_
 refine mv (vu a1) rfl <| op_v (pv_cmp (v := decide (a1 > 0)) rfl rfl rfl rfl) <| mv (vb (decide (a1 > 0))) rfl ?_
 refine ops_split 19 (b := decide (a1 > 0)) rfl (fun hb1 => ?_) (fun hb1 => ?_)
 have h := h.1 hb1
 refine opg_v (pv_move (v := vu a0) rfl) ?_
 refine opg_v (pv_move (v := vu (IntKind.u64.wrap ((IntKind.u64.wrap (2 * (IntKind.u64.wrap (Int.tdiv a1 3)))) + (IntKind.u64.wrap (Int.tdiv (IntKind.u64.wrap ((IntKind.u64.wrap (2 * (Int.tmod a1 3))) + 2)) 3))))) rfl) ?_
 refine opg_v (pv_cmp (v := decide (a0 ≥ (IntKind.u64.wrap ((IntKind.u64.wrap (2 * (IntKind.u64.wrap (Int.tdiv a1 3)))) + (IntKind.u64.wrap (Int.tdiv (IntKind.u64.wrap ((IntKind.u64.wrap (2 * (Int.tmod a1 3))) + 2)) 3)))))) rfl rfl rfl rfl) ?_
 refine op_v (pv_pick (b := true) (v := vb (decide (a0 ≥ (IntKind.u64.wrap ((IntKind.u64.wrap (2 * (IntKind.u64.wrap (Int.tdiv a1 3)))) + (IntKind.u64.wrap (Int.tdiv (IntKind.u64.wrap ((IntKind.u64.wrap (2 * (Int.tmod a1 3))) + 2)) 3))))))) rfl rfl) ?_
 refine mva (vb (decide (a0 ≥ (IntKind.u64.wrap ((IntKind.u64.wrap (2 * (IntKind.u64.wrap (Int.tdiv a1 3)))) + (IntKind.u64.wrap (Int.tdiv (IntKind.u64.wrap ((IntKind.u64.wrap (2 * (Int.tmod a1 3))) + 2)) 3))))))) rfl (ops_nil ?_)
 exact ⟨decide (a0 ≥ (IntKind.u64.wrap ((IntKind.u64.wrap (2 * (IntKind.u64.wrap (Int.tdiv a1 3)))) + (IntKind.u64.wrap (Int.tdiv (IntKind.u64.wrap ((IntKind.u64.wrap (2 * (Int.tmod a1 3))) + 2)) 3))))), ⟨rfl, trivial⟩, h⟩
 have h := h.2 hb1
 iterate 3 refine opg_no ?_
 refine op_v (pv_pick (b := false) (v := vb false) rfl rfl) <| mva (vb false) rfl (ops_nil ?_)
 exact ⟨false, ⟨rfl, trivial⟩, h⟩
 rintro f w1 ⟨x1, ha, h⟩
 obtain ⟨g1, rfl⟩ := canon ha
 refine WX_ret ?_
 exact fin_of [vb x1] rfl ⟨rfl, trivial⟩ h
end Go.Proofs.Ytdefmgkicdhmkaa
namespace Go.Proofs.Ytdefmgkicdhmkaa
open Go Go.Sx
set_option linter.unusedVariables false
set_option maxRecDepth 100000
set_option maxHeartbeats 2000000
def sh_f45_j3 (x2 : Int) (nxt1 : Int -> Int -> World -> Prop) (x8 : Int) (w4 : World) : Prop :=
  nxt1 x8 (IntKind.i64.wrap (x2 + 1)) w4
def sh_f45_j2 (b1 : Nat) (x1 : Int) (x2 : Int) (nxt1 : Int -> Int -> World -> Prop) (x3 : Int) (x5 : Bool) (w3 : World) : Prop :=
  br x5 (ld tSl w3 b1 0 fun x6 => ixs x6 x3 fun b3 o2 => ld tU64 w3 b3 (o2 + (x3).toNat * 1) fun x7 => (sh_f45_j3 x2 nxt1 (IntKind.u64.wrap (x1 + x7)) w3)) ((sh_f45_j3 x2 nxt1 x1 w3))
def sh_f45_j4 (Q : QW) (x9 : Int) (w5 : World) : Prop :=
  Q (.int .u64 x9) w5
def sh_f45_b1 (a1 : Sl) (Q : QW) (b1 : Nat) (x1 : Int) (x2 : Int) (w2 : World) (nxt1 : Int -> Int -> World -> Prop) : Prop :=
  br (decide (x2 < (a1.len : Int))) (ixs a1 x2 fun b2 o1 => ld tI64 w2 b2 (o1 + (x2).toNat * 1) fun x3 => br (decide (x3 ≥ 0)) (ld tSl w2 b1 0 fun x4 => (sh_f45_j2 b1 x1 x2 nxt1 x3 (decide (x3 < (x4.len : Int))) w2)) ((sh_f45_j2 b1 x1 x2 nxt1 x3 false w2))) ((sh_f45_j4 Q x1 w2))
def sh_f45 (a0 : G_api_Config) (a1 : Sl) (Q : QW) (w0 : World) : Prop :=
  al t_api_Config 26 w0 a0 fun b1 w1 => (∃ I1 : Nat -> Int -> Int -> World -> Prop, (∃ m, I1 m 0 0 w1) /\ ∀ m x1 x2 w2, I1 m x1 x2 w2 -> sh_f45_b1 a1 Q b1 x1 x2 w2 (fun y0 y1 w => ∃ m2, m2 < m /\ I1 m2 y0 y1 w))
theorem so_f45 {a0 : G_api_Config} {a1 : Sl} (Q : QW) (w0 : World) (h : sh_f45 a0 a1 Q w0) : CallsR PP n_f45 #[t_api_Config.val a0, .slice a1.a a1.len a1.cap] Q w0 := by
 refine callsR_of_WX (args := [t_api_Config.val a0, .slice a1.a a1.len a1.cap]) Try.func45 rfl Try.ntmps45 nl ?_
 refine WX_seq (WX_region ?_)
 refine op_w (pw_box (v := a0) ty_26 rfl ?_)
 intro b1 w1 hw1 hw2
 replace h := h b1 w1 hw1 hw2
 refine mva (vu 0) rfl (ops_nil ?_)
 refine WX_seq (WX_region ?_)
 refine mva (vu 0) rfl (ops_nil ?_)
 refine WX_join (fun f w5 => ∃ x9 : Int, Agree f [(5, vu x9)] /\ sh_f45_j4 Q x9 w5) ?_ ?_
 refine WX_seq (WX_region ?_)
 refine mv (.slice a1.a a1.len a1.cap) rfl <| op_v (pv_lenS (s := a1) is_51 rfl) <| mv (vi 0) rfl (ops_nil ?_)
 refine WX_block ?_
 obtain ⟨I1, ⟨m, h0⟩, hB1⟩ := h
 refine WX_loop (fun m f w2 => ∃ x1 : Int, ∃ x2 : Int, Agree f [(2, vp b1 0), (5, vu x1), (8, .slice a1.a a1.len a1.cap), (9, vi (a1.len : Int)), (10, vi x2)] /\ I1 m x1 x2 w2) ⟨m, 0, 0, ⟨rfl, rfl, rfl, rfl, rfl, trivial⟩, h0⟩ ?_
 clear h0 m
 rintro m f w2 ⟨x1, x2, ha, h⟩
 obtain ⟨g3, rfl⟩ := canon ha
 replace h := hB1 m x1 x2 w2 h
 clear hB1
 generalize hn_nxt1 : (fun (y0 : Int) (y1 : Int) (w : World) => ∃ m2, m2 < m /\ I1 m2 y0 y1 w) = nxt1 at h
 refine WX_seq (WX_region ?_)
 refine op_v (pv_cmp (v := decide (x2 < (a1.len : Int))) rfl rfl rfl rfl) (ops_nil ?_)
 refine WX_seq ?_
 refine WX_cond (b := decide (x2 < (a1.len : Int))) rfl (fun hb1 => ?_) (fun hb1 => ?_)
 have h := h.1 hb1
 refine WX_skip ?_
 refine WX_join (fun f w4 => ∃ x8 : Int, Agree f [(2, vp b1 0), (5, vu x8), (8, .slice a1.a a1.len a1.cap), (9, vi (a1.len : Int)), (10, vi x2)] /\ sh_f45_j3 x2 nxt1 x8 w4) ?_ ?_
 refine WX_block ?_
 refine WX_seq (WX_region ?_)
 obtain ⟨b2, o1, hi1, hi2, hi3, h⟩ := h
 refine op_v (pv_ix (s := a1) ez_51 rfl rfl hi1 hi2 hi3) ?_
 obtain ⟨x3, hx3, h⟩ := h
 refine op_v (pv_ld ty_3 rfl hx3) <| mva (vi x3) rfl (ops_nil ?_)
 refine WX_join (fun f w3 => ∃ x5 : Bool, Agree f [(2, vp b1 0), (5, vu x1), (7, vi x3), (8, .slice a1.a a1.len a1.cap), (9, vi (a1.len : Int)), (10, vi x2), (22, vb x5)] /\ sh_f45_j2 b1 x1 x2 nxt1 x3 x5 w3) ?_ ?_
 refine WX_region ?_
 refine mv (vi x3) rfl <| op_v (pv_cmp (v := decide (x3 ≥ 0)) rfl rfl rfl rfl) <| mv (vb (decide (x3 ≥ 0))) rfl ?_
 refine ops_split 16 (b := decide (x3 ≥ 0)) rfl (fun hb2 => ?_) (fun hb2 => ?_)
 have h := h.1 hb2
 refine opg_v (pv_move (v := vi x3) rfl) <| opg_v (pv_fld fo_26_0 rfl) ?_
 obtain ⟨x4, hx4, h⟩ := h
 refine opg_v (pv_ld ty_24 rfl hx4) <| opg_v (pv_lenS (s := x4) is_24 rfl) <| opg_v (pv_cmp (v := decide (x3 < (x4.len : Int))) rfl rfl rfl rfl) ?_
 refine op_v (pv_pick (b := true) (v := vb (decide (x3 < (x4.len : Int)))) rfl rfl) (ops_nil ?_)
 exact ⟨decide (x3 < (x4.len : Int)), ⟨rfl, rfl, rfl, rfl, rfl, rfl, rfl, trivial⟩, h⟩
 have h := h.2 hb2
 iterate 5 refine opg_no ?_
 refine op_v (pv_pick (b := false) (v := vb false) rfl rfl) (ops_nil ?_)
 exact ⟨false, ⟨rfl, rfl, rfl, rfl, rfl, rfl, rfl, trivial⟩, h⟩
 rintro f w3 ⟨x5, ha, h⟩
 obtain ⟨g1, rfl⟩ := canon ha
 refine WX_cond (b := x5) rfl (fun hb3 => ?_) (fun hb3 => ?_)
 have h := h.1 hb3
 refine WX_region ?_
 refine mv (vu x1) rfl <| op_v (pv_fld fo_26_0 rfl) ?_
 obtain ⟨x6, hx6, h⟩ := h
 refine op_v (pv_ld ty_24 rfl hx6) <| mv (vi x3) rfl ?_
 obtain ⟨b3, o2, hi4, hi5, hi6, h⟩ := h
 refine op_v (pv_ix (s := x6) ez_24 rfl rfl hi4 hi5 hi6) ?_
 obtain ⟨x7, hx7, h⟩ := h
 refine op_v (pv_ld ty_36 rfl hx7) <| op_v (pv_add rfl rfl) <| mva (vu (IntKind.u64.wrap (x1 + x7))) rfl (ops_nil ?_)
 exact ⟨(IntKind.u64.wrap (x1 + x7)), ⟨rfl, rfl, rfl, rfl, rfl, trivial⟩, h⟩
 have h := h.2 hb3
 refine WX_skip ?_
 exact ⟨x1, ⟨rfl, rfl, rfl, rfl, rfl, trivial⟩, h⟩
 rintro f w4 ⟨x8, ha, h⟩
 obtain ⟨g2, rfl⟩ := canon ha
 refine WX_region ?_
 refine op_v (pv_add rfl rfl) <| mv (vi (IntKind.i64.wrap (x2 + 1))) rfl (ops_nil ?_)
 subst hn_nxt1
 obtain ⟨m2, hm2, h⟩ := h
 exact ⟨m2, hm2, x8, (IntKind.i64.wrap (x2 + 1)), ⟨rfl, rfl, rfl, rfl, rfl, trivial⟩, h⟩
 have h := h.2 hb1
 refine WX_exit0 ?_
 exact ⟨x1, ⟨rfl, trivial⟩, h⟩
 rintro f w5 ⟨x9, ha, h⟩
 obtain ⟨g4, rfl⟩ := canon ha
 refine WX_seq (WX_region ?_)
 refine mv (vu x9) rfl <| mva (vu x9) rfl (ops_nil ?_)
 refine WX_ret ?_
 exact fin_of [vu x9] rfl ⟨rfl, trivial⟩ h
def sh_f46_j2 (x2 : Int) (nxt1 : Sl -> Int -> World -> Prop) (x5 : Sl) (w4 : World) : Prop :=
  nxt1 x5 (IntKind.i64.wrap (x2 + 1)) w4
def sh_f46_j3 (Q : QW) (x6 : Sl) (w5 : World) : Prop :=
  Q (.slice x6.a x6.len x6.cap) w5
def sh_f46_b1 (a0 : Sl) (Q : QW) (x1 : Sl) (x2 : Int) (w1 : World) (nxt1 : Sl -> Int -> World -> Prop) : Prop :=
  br (decide (x2 < (a0.len : Int))) (ixs a0 x2 fun b1 o1 => ld tBool w1 b1 (o1 + (x2).toNat * 1) fun x3 => br x3 (alr 3 w1 (tI64.enc x2) fun b2 w2 => app 3 1 8 w2 x1 (Sl.mk (some ⟨b2, 0, none⟩) 1 1) fun x4 w3 => (sh_f46_j2 x2 nxt1 x4 w3)) ((sh_f46_j2 x2 nxt1 x1 w1))) ((sh_f46_j3 Q x1 w1))
def sh_f46 (a0 : Sl) (Q : QW) (w0 : World) : Prop :=
  (∃ I1 : Nat -> Sl -> Int -> World -> Prop, (∃ m, I1 m nilSl 0 w0) /\ ∀ m x1 x2 w1, I1 m x1 x2 w1 -> sh_f46_b1 a0 Q x1 x2 w1 (fun y0 y1 w => ∃ m2, m2 < m /\ I1 m2 y0 y1 w))
theorem so_f46 {a0 : Sl} (Q : QW) (w0 : World) (h : sh_f46 a0 Q w0) : CallsR PP n_f46 #[.slice a0.a a0.len a0.cap] Q w0 := by
 refine callsR_of_WX (args := [.slice a0.a a0.len a0.cap]) Try.func46 rfl Try.ntmps46 nl ?_
 refine WX_seq (WX_region ?_)
 refine mva (.slice none 0 0) rfl (ops_nil ?_)
 refine WX_seq (WX_region ?_)
 refine mva (.slice none 0 0) rfl (ops_nil ?_)
 refine WX_join (fun f w5 => ∃ x6 : Sl, Agree f [(3, .slice x6.a x6.len x6.cap)] /\ sh_f46_j3 Q x6 w5) ?_ ?_
 refine WX_seq (WX_region ?_)
 refine mv (.slice a0.a a0.len a0.cap) rfl <| op_v (pv_lenS (s := a0) is_76 rfl) <| mv (vi 0) rfl (ops_nil ?_)
 refine WX_block ?_
 obtain ⟨I1, ⟨m, h0⟩, hB1⟩ := h
 refine WX_loop (fun m f w1 => ∃ x1 : Sl, ∃ x2 : Int, Agree f [(3, .slice x1.a x1.len x1.cap), (6, .slice a0.a a0.len a0.cap), (7, vi (a0.len : Int)), (8, vi x2)] /\ I1 m x1 x2 w1) ⟨m, nilSl, 0, ⟨rfl, rfl, rfl, rfl, trivial⟩, h0⟩ ?_
 clear h0 m
 rintro m f w1 ⟨x1, x2, ha, h⟩
 obtain ⟨g2, rfl⟩ := canon ha
 replace h := hB1 m x1 x2 w1 h
 clear hB1
 generalize hn_nxt1 : (fun (y0 : Sl) (y1 : Int) (w : World) => ∃ m2, m2 < m /\ I1 m2 y0 y1 w) = nxt1 at h
 refine WX_seq (WX_region ?_)
 refine op_v (pv_cmp (v := decide (x2 < (a0.len : Int))) rfl rfl rfl rfl) (ops_nil ?_)
 refine WX_seq ?_
 refine WX_cond (b := decide (x2 < (a0.len : Int))) rfl (fun hb1 => ?_) (fun hb1 => ?_)
 have h := h.1 hb1
 refine WX_skip ?_
 refine WX_join (fun f w4 => ∃ x5 : Sl, Agree f [(3, .slice x5.a x5.len x5.cap), (6, .slice a0.a a0.len a0.cap), (7, vi (a0.len : Int)), (8, vi x2)] /\ sh_f46_j2 x2 nxt1 x5 w4) ?_ ?_
 refine WX_block ?_
 refine WX_seq (WX_region ?_)
 refine mv (vi x2) rfl ?_
 obtain ⟨b1, o1, hi1, hi2, hi3, h⟩ := h
 refine op_v (pv_ix (s := a0) ez_76 rfl rfl hi1 hi2 hi3) ?_
 obtain ⟨x3, hx3, h⟩ := h
 refine op_v (pv_ld ty_4 rfl hx3) <| mva (vi x2) rfl <| mva (vb x3) rfl (ops_nil ?_)
 refine WX_seq (WX_region ?_)
 refine mv (vb x3) rfl (ops_nil ?_)
 refine WX_cond (b := x3) rfl (fun hb2 => ?_) (fun hb2 => ?_)
 have h := h.1 hb2
 refine WX_region ?_
 refine mv (.slice x1.a x1.len x1.cap) rfl <| mv (vi x2) rfl ?_
 refine op_w (pw_buildSlice (e := 3) (cs := tI64.enc x2) (vs := [(0, vi x2)]) rfl (by kernel_rfl) ?_)
 intro b2 w2 hw1 hw2
 replace h := h b2 w2 hw1 hw2
 obtain ⟨ol1, ne1, ha1, ha2, ha3, ha4, ha5, h⟩ := h
 refine op_w (pw_append (s := x1) (r := (Sl.mk (some ⟨b2, 0, none⟩) 1 1)) eo_51 is_51 rfl rfl ha1 ha2 ha3 ha4 ha5 ?_)
 intro x4 w3 ha6
 replace h := h x4 w3 ha6
 refine mva (.slice x4.a x4.len x4.cap) rfl (ops_nil ?_)
 exact ⟨x4, ⟨rfl, rfl, rfl, rfl, trivial⟩, h⟩
 have h := h.2 hb2
 refine WX_skip ?_
 exact ⟨x1, ⟨rfl, rfl, rfl, rfl, trivial⟩, h⟩
 rintro f w4 ⟨x5, ha, h⟩
 obtain ⟨g1, rfl⟩ := canon ha
 refine WX_region ?_
 refine op_v (pv_add rfl rfl) <| mv (vi (IntKind.i64.wrap (x2 + 1))) rfl (ops_nil ?_)
 subst hn_nxt1
 obtain ⟨m2, hm2, h⟩ := h
 exact ⟨m2, hm2, x5, (IntKind.i64.wrap (x2 + 1)), ⟨rfl, rfl, rfl, rfl, trivial⟩, h⟩
 have h := h.2 hb1
 refine WX_exit0 ?_
 exact ⟨x1, ⟨rfl, trivial⟩, h⟩
 rintro f w5 ⟨x6, ha, h⟩
 obtain ⟨g3, rfl⟩ := canon ha
 refine WX_seq (WX_region ?_)
 refine mv (.slice x6.a x6.len x6.cap) rfl <| mva (.slice x6.a x6.len x6.cap) rfl (ops_nil ?_)
 refine WX_ret ?_
 exact fin_of [.slice x6.a x6.len x6.cap] rfl ⟨rfl, trivial⟩ h
def sh_f47_j8 (Q : QW) (b4 : Nat) (b11 : Nat) (w34 : World) : Prop :=
  ld t_justify_State w34 b11 0 fun x34 => st t_justify_State w34 b4 0 x34 fun w35 => ld t_justify_State w35 b4 0 fun x35 => Q (t_justify_State.val x35) w35
def sh_f47_j7 (Q : QW) (b4 : Nat) (b10 : Nat) (o2 : Nat) (b11 : Nat) (x32 : Bool) (w32 : World) : Prop :=
  br x32 (ld t_api_Point w32 b10 o2 fun x33 => st t_api_Point w32 b11 8 x33 fun w33 => (sh_f47_j8 Q b4 b11 w33)) ((sh_f47_j8 Q b4 b11 w32))
def sh_f47_j6 (a1 : Int) (Q : QW) (b4 : Nat) (b10 : Nat) (o2 : Nat) (b11 : Nat) (b12 : Nat) (x26 : Bool) (w30 : World) : Prop :=
  br x26 (ld t_api_Point w30 b10 o2 fun x27 => st t_api_Point w30 b11 8 x27 fun w31 => (sh_f47_j8 Q b4 b11 w31)) (ld tBool w30 b12 1 fun x28 => br x28 (ld tBool w30 b12 2 fun x29 => br x29 (ld tBool w30 b12 3 fun x30 => br x30 (ld tI64 w30 b10 (o2 + 0) fun x31 => (sh_f47_j7 Q b4 b10 o2 b11 ((IntKind.i64.wrap (x31 + 3)) == a1) w30)) ((sh_f47_j7 Q b4 b10 o2 b11 false w30))) ((sh_f47_j7 Q b4 b10 o2 b11 false w30))) ((sh_f47_j7 Q b4 b10 o2 b11 false w30)))
def sh_f47_j5 (a1 : Int) (Q : QW) (b4 : Nat) (b9 : Nat) (o1 : Nat) (b10 : Nat) (o2 : Nat) (b11 : Nat) (b12 : Nat) (x21 : Bool) (w28 : World) : Prop :=
  br x21 (ld t_api_Point w28 b9 o1 fun x22 => st t_api_Point w28 b11 8 x22 fun w29 => (sh_f47_j8 Q b4 b11 w29)) (ld tBool w28 b12 1 fun x23 => br x23 (ld tBool w28 b12 2 fun x24 => br x24 (ld tI64 w28 b10 (o2 + 0) fun x25 => (sh_f47_j6 a1 Q b4 b10 o2 b11 b12 ((IntKind.i64.wrap (x25 + 2)) == a1) w28)) ((sh_f47_j6 a1 Q b4 b10 o2 b11 b12 false w28))) ((sh_f47_j6 a1 Q b4 b10 o2 b11 b12 false w28)))
def sh_f47_j4 (a1 : Int) (Q : QW) (b4 : Nat) (b9 : Nat) (o1 : Nat) (b10 : Nat) (o2 : Nat) (b11 : Nat) (b12 : Nat) (x15 : Bool) (w26 : World) : Prop :=
  br x15 (ld t_api_Point w26 b9 o1 fun x16 => st t_api_Point w26 b11 8 x16 fun w27 => (sh_f47_j8 Q b4 b11 w27)) (ld tBool w26 b12 0 fun x17 => br x17 (ld tBool w26 b12 1 fun x18 => br x18 (ld tBool w26 b12 2 fun x19 => br x19 (ld tI64 w26 b9 (o1 + 0) fun x20 => (sh_f47_j5 a1 Q b4 b9 o1 b10 o2 b11 b12 ((IntKind.i64.wrap (x20 + 2)) == a1) w26)) ((sh_f47_j5 a1 Q b4 b9 o1 b10 o2 b11 b12 false w26))) ((sh_f47_j5 a1 Q b4 b9 o1 b10 o2 b11 b12 false w26))) ((sh_f47_j5 a1 Q b4 b9 o1 b10 o2 b11 b12 false w26)))
def sh_f47_j3 (a1 : Int) (Q : QW) (b4 : Nat) (b9 : Nat) (o1 : Nat) (b10 : Nat) (o2 : Nat) (b11 : Nat) (w23 : World) : Prop :=
  ld t_Arr4_bool w23 b11 0 fun x11 => al t_Arr4_bool 73 w23 (⟨false, false, false, false⟩ : G_Arr4_bool) fun b12 w24 => st t_Arr4_bool w24 b12 0 x11 fun w25 => ld tBool w25 b12 0 fun x12 => br x12 (ld tBool w25 b12 1 fun x13 => br x13 (ld tI64 w25 b9 (o1 + 0) fun x14 => (sh_f47_j4 a1 Q b4 b9 o1 b10 o2 b11 b12 ((IntKind.i64.wrap (x14 + 1)) == a1) w25)) ((sh_f47_j4 a1 Q b4 b9 o1 b10 o2 b11 b12 false w25))) ((sh_f47_j4 a1 Q b4 b9 o1 b10 o2 b11 b12 false w25))
def sh_f47_j2 (a1 : Int) (a3 : Bool) (Q : QW) (b3 : Nat) (b4 : Nat) (b9 : Nat) (o1 : Nat) (b10 : Nat) (o2 : Nat) (b11 : Nat) (w20 : World) : Prop :=
  br a3 (ld t_api_Point w20 b3 0 fun x10 => st t_api_Point w20 b11 6 x10 fun w21 => st tBool w21 b11 0 true fun w22 => (sh_f47_j3 a1 Q b4 b9 o1 b10 o2 b11 w22)) ((sh_f47_j3 a1 Q b4 b9 o1 b10 o2 b11 w20))
def sh_f47_j1 (a1 : Int) (a2 : Bool) (a3 : Bool) (Q : QW) (b1 : Nat) (b2 : Nat) (b3 : Nat) (b4 : Nat) (b9 : Nat) (o1 : Nat) (b10 : Nat) (o2 : Nat) (w14 : World) : Prop :=
  ld t_api_Point w14 b1 6 fun x3 => ld t_api_Point w14 b1 6 fun x4 => ld t_api_Point w14 b1 8 fun x5 => al t_justify_State 75 w14 (⟨(⟨false, false, false, false⟩ : G_Arr4_bool), (⟨0, 0⟩ : G_api_Point), (⟨0, 0⟩ : G_api_Point), (⟨0, 0⟩ : G_api_Point)⟩ : G_justify_State) fun b11 w15 => st t_justify_State w15 b11 0 (⟨(⟨false, false, false, false⟩ : G_Arr4_bool), x3, x4, x5⟩ : G_justify_State) fun w16 => ld tBool w16 b1 0 fun x6 => ld tBool w16 b1 1 fun x7 => ld tBool w16 b1 2 fun x8 => st t_Arr4_bool w16 b11 0 (⟨false, x6, x7, x8⟩ : G_Arr4_bool) fun w17 => br a2 (ld t_api_Point w17 b2 0 fun x9 => st t_api_Point w17 b11 6 x9 fun w18 => st tBool w18 b11 1 true fun w19 => (sh_f47_j2 a1 a3 Q b3 b4 b9 o1 b10 o2 b11 w19)) ((sh_f47_j2 a1 a3 Q b3 b4 b9 o1 b10 o2 b11 w17))
def sh_f47 (a0 : G_justify_State) (a1 : Int) (a2 : Bool) (a3 : Bool) (a4 : G_api_Point) (a5 : G_api_Point) (Q : QW) (w0 : World) : Prop :=
  al t_justify_State 75 w0 a0 fun b1 w1 => al t_api_Point 38 w1 a4 fun b2 w2 => al t_api_Point 38 w2 a5 fun b3 w3 => al t_justify_State 75 w3 (⟨(⟨false, false, false, false⟩ : G_Arr4_bool), (⟨0, 0⟩ : G_api_Point), (⟨0, 0⟩ : G_api_Point), (⟨0, 0⟩ : G_api_Point)⟩ : G_justify_State) fun b4 w4 => dw w4 fun w5 => ld t_api_Point w5 b1 6 fun x1 => ld t_api_Point w5 b1 4 fun x2 => ((al t_api_Point 38 w5 (⟨0, 0⟩ : G_api_Point) fun b5 w6 => chk t_api_Point w6 b1 6 x1 <| chk t_api_Point w6 b1 4 x2 <| al t_api_Point 38 w6 (⟨0, 0⟩ : G_api_Point) fun b6 w7 => chk t_api_Point w7 b1 6 x1 <| chk t_api_Point w7 b1 4 x2 <| st t_api_Point w7 b5 0 x1 fun w8 => chk t_api_Point w8 b1 4 x2 <| st t_api_Point w8 b6 0 x2 fun w9 => (sh_f47_j1 a1 a2 a3 Q b1 b2 b3 b4 b5 0 b6 0 w9)) /\ (al t_api_Point 38 w5 (⟨0, 0⟩ : G_api_Point) fun b7 w10 => chk t_api_Point w10 b1 6 x1 <| chk t_api_Point w10 b1 4 x2 <| al t_api_Point 38 w10 (⟨0, 0⟩ : G_api_Point) fun b8 w11 => chk t_api_Point w11 b1 6 x1 <| chk t_api_Point w11 b1 4 x2 <| st t_api_Point w11 b8 0 x1 fun w12 => chk t_api_Point w12 b1 4 x2 <| st t_api_Point w12 b7 0 x2 fun w13 => (sh_f47_j1 a1 a2 a3 Q b1 b2 b3 b4 b8 0 b7 0 w13)))
theorem so_f47 {a0 : G_justify_State} {a1 : Int} {a2 : Bool} {a3 : Bool} {a4 : G_api_Point} {a5 : G_api_Point} (Q : QW) (w0 : World) (h : sh_f47 a0 a1 a2 a3 a4 a5 Q w0) : CallsR PP n_f47 #[t_justify_State.val a0, .int .i64 a1, .bool a2, .bool a3, t_api_Point.val a4, t_api_Point.val a5] Q w0 := by
 refine callsR_of_WX (args := [t_justify_State.val a0, vi a1, vb a2, vb a3, t_api_Point.val a4, t_api_Point.val a5]) Try.func47 rfl Try.ntmps47 nl ?_
 refine WX_seq (WX_region ?_)
 refine op_w (pw_box (v := a0) ty_75 rfl ?_)
 intro b1 w1 hw1 hw2
 replace h := h b1 w1 hw1 hw2
 refine op_w (pw_box (v := a4) ty_38 rfl ?_)
 intro b2 w2 hw3 hw4
 replace h := h b2 w2 hw3 hw4
 refine op_w (pw_box (v := a5) ty_38 rfl ?_)
 intro b3 w3 hw5 hw6
 replace h := h b3 w3 hw5 hw6
 refine op_w (pw_alloc ty_75 tz_75 ?_)
 intro b4 w4 hw7 hw8
 replace h := h b4 w4 hw7 hw8
 refine ops_nil ?_
 refine WX_join (fun f w14 => ∃ b9 : Nat, ∃ o1 : Nat, ∃ b10 : Nat, ∃ o2 : Nat, Agree f [(1, vi a1), (2, vb a2), (3, vb a3), (6, vp b1 0), (10, vp b2 0), (11, vp b3 0), (12, vp b4 0), (13, vp b9 o1), (14, vp b10 o2)] /\ sh_f47_j1 a1 a2 a3 Q b1 b2 b3 b4 b9 o1 b10 o2 w14) ?_ ?_
 obtain ⟨w5, hw9, h⟩ := dwe h
 obtain ⟨x1, hx1, x2, hx2, h⟩ := h
 refine WX_dr [4,5,6,7] [0,2] [⟨[],[0,2],[1,3],[(4,[4],1),(5,[5],5)]⟩,⟨[4],[],[1,3],[(5,[5],2)]⟩,⟨[5,4],[],[1,3],[(6,[6],3)]⟩,⟨[6,5,4],[],[3],[(7,[7],4)]⟩,⟨[7,6,5,4],[],[],[]⟩,⟨[5],[],[1,3],[(4,[4],6)]⟩,⟨[4,5],[],[1,3],[(6,[6],7)]⟩,⟨[6,4,5],[],[3],[(7,[7],8)]⟩,⟨[7,6,4,5],[],[],[]⟩] [vp b1 6, t_api_Point.val x1, vp b1 4, t_api_Point.val x2, un, un, un, un] 5 mixed (by kernel_rfl) hw9 ?_
 refine draw_go rfl (pu rfl (pv_fld fo_75_2 rfl) (pu rfl (pv_fld fo_75_1 rfl) ap0)) (ro rfl (pv_ld ty_38 rfl hx1) (ro rfl (pv_ld ty_38 rfl hx2) ao0)) rfl ?_
 refine ch_yes rfl rfl ?_ (ch_yes rfl rfl ?_ ch0)
 replace h := h.1
 refine pw_alloc ty_38 tz_38 ?_
 intro b5 w6 hw10 hw11
 replace h := h b5 w6 hw10 hw11
 obtain ⟨hc1, hc2, h⟩ := h
 refine nx [] rfl nl rfl ?_
 refine draw_go rfl ap0 (ro rfl (pv_ld ty_38 rfl hc1) (ro rfl (pv_ld ty_38 rfl hc2) ao0)) rfl ?_
 refine cy rfl rfl ?_
 refine pw_alloc ty_38 tz_38 ?_
 intro b6 w7 hw12 hw13
 replace h := h b6 w7 hw12 hw13
 obtain ⟨hc3, hc4, h⟩ := h
 refine nx [] rfl nl rfl ?_
 refine draw_go rfl ap0 (ro rfl (pv_ld ty_38 rfl hc3) (ro rfl (pv_ld ty_38 rfl hc4) ao0)) rfl ?_
 refine cy rfl rfl ?_
 refine pw_st (x := x1) ty_38 rfl rfl h.1 ?_
 intro w8 hw14
 replace h := h.2 w8 hw14
 obtain ⟨hc5, h⟩ := h
 refine nx [] rfl nl rfl ?_
 dsimp only [putV, List.set]
 refine draw_go rfl ap0 (ro rfl (pv_ld ty_38 rfl hc5) ao0) rfl ?_
 refine cy rfl rfl ?_
 refine pw_st (x := x2) ty_38 rfl rfl h.1 ?_
 intro w9 hw15
 replace h := h.2 w9 hw15
 refine nx [] rfl nl rfl ?_
 refine draw_end rfl ap0 ao0 ?_
 exact ⟨b5, 0, b6, 0, ⟨rfl, rfl, rfl, rfl, rfl, rfl, rfl, rfl, rfl, trivial⟩, h⟩
 replace h := h.2
 refine pw_alloc ty_38 tz_38 ?_
 intro b7 w10 hw16 hw17
 replace h := h b7 w10 hw16 hw17
 obtain ⟨hc6, hc7, h⟩ := h
 refine nx [] rfl nl rfl ?_
 refine draw_go rfl ap0 (ro rfl (pv_ld ty_38 rfl hc6) (ro rfl (pv_ld ty_38 rfl hc7) ao0)) rfl ?_
 refine cy rfl rfl ?_
 refine pw_alloc ty_38 tz_38 ?_
 intro b8 w11 hw18 hw19
 replace h := h b8 w11 hw18 hw19
 obtain ⟨hc8, hc9, h⟩ := h
 refine nx [] rfl nl rfl ?_
 dsimp only [putV, List.set]
 refine draw_go rfl ap0 (ro rfl (pv_ld ty_38 rfl hc8) (ro rfl (pv_ld ty_38 rfl hc9) ao0)) rfl ?_
 refine cy rfl rfl ?_
 refine pw_st (x := x1) ty_38 rfl rfl h.1 ?_
 intro w12 hw20
 replace h := h.2 w12 hw20
 obtain ⟨hc10, h⟩ := h
 refine nx [] rfl nl rfl ?_
 refine draw_go rfl ap0 (ro rfl (pv_ld ty_38 rfl hc10) ao0) rfl ?_
 refine cy rfl rfl ?_
 refine pw_st (x := x2) ty_38 rfl rfl h.1 ?_
 intro w13 hw21
 replace h := h.2 w13 hw21
 refine nx [] rfl nl rfl ?_
 refine draw_end rfl ap0 ao0 ?_
 exact ⟨b8, 0, b7, 0, ⟨rfl, rfl, rfl, rfl, rfl, rfl, rfl, rfl, rfl, trivial⟩, h⟩
 rintro f w14 ⟨b9, o1, b10, o2, ha, h⟩
 obtain ⟨g8, rfl⟩ := canon ha
 refine WX_seq (WX_region ?_)
 refine op_v (pv_fld fo_75_2 rfl) ?_
 obtain ⟨x3, hx3, h⟩ := h
 refine op_v (pv_ld ty_38 rfl hx3) <| op_v (pv_fld fo_75_2 rfl) ?_
 obtain ⟨x4, hx4, h⟩ := h
 refine op_v (pv_ld ty_38 rfl hx4) <| op_v (pv_fld fo_75_3 rfl) ?_
 obtain ⟨x5, hx5, h⟩ := h
 refine op_v (pv_ld ty_38 rfl hx5) ?_
 refine op_v (pv_build (cs := t_justify_State.enc (⟨(⟨false, false, false, false⟩ : G_Arr4_bool), x3, x4, x5⟩ : G_justify_State)) (vs := [(1, t_api_Point.val x3), (2, t_api_Point.val x4), (3, t_api_Point.val x5)]) rfl (by kernel_rfl)) ?_
 refine op_w (pw_alloc ty_75 tz_75 ?_)
 intro b11 w15 hw22 hw23
 replace h := h b11 w15 hw22 hw23
 refine op_w (pw_st (x := (⟨(⟨false, false, false, false⟩ : G_Arr4_bool), x3, x4, x5⟩ : G_justify_State)) ty_75 rfl rfl h.1 ?_)
 intro w16 hw24
 replace h := h.2 w16 hw24
 refine ops_nil ?_
 refine WX_seq (WX_region ?_)
 refine op_v (pv_fld fo_75_0 rfl) <| op_v (pv_ixA az_73 rfl rfl (by decide) (by decide)) ?_
 obtain ⟨x6, hx6, h⟩ := h
 refine op_v (pv_ld ty_4 rfl hx6) <| op_v (pv_fld fo_75_0 rfl) <| op_v (pv_ixA az_73 rfl rfl (by decide) (by decide)) ?_
 obtain ⟨x7, hx7, h⟩ := h
 refine op_v (pv_ld ty_4 rfl hx7) <| op_v (pv_fld fo_75_0 rfl) <| op_v (pv_ixA az_73 rfl rfl (by decide) (by decide)) ?_
 obtain ⟨x8, hx8, h⟩ := h
 refine op_v (pv_ld ty_4 rfl hx8) ?_
 refine op_v (pv_build (cs := t_Arr4_bool.enc (⟨false, x6, x7, x8⟩ : G_Arr4_bool)) (vs := [(0, vb false), (1, vb x6), (2, vb x7), (3, vb x8)]) rfl (by kernel_rfl)) ?_
 refine op_v (pv_fld fo_75_0 rfl) <| op_w (pw_st (x := (⟨false, x6, x7, x8⟩ : G_Arr4_bool)) ty_73 rfl rfl h.1 ?_)
 intro w17 hw25
 replace h := h.2 w17 hw25
 refine ops_nil ?_
 refine WX_join (fun f w20 => Agree f [(1, vi a1), (3, vb a3), (11, vp b3 0), (12, vp b4 0), (13, vp b9 o1), (14, vp b10 o2), (15, vp b11 0)] /\ sh_f47_j2 a1 a3 Q b3 b4 b9 o1 b10 o2 b11 w20) ?_ ?_
 refine WX_seq (WX_region ?_)
 refine mv (vb a2) rfl (ops_nil ?_)
 refine WX_cond (b := a2) rfl (fun hb1 => ?_) (fun hb1 => ?_)
 have h := h.1 hb1
 refine WX_region ?_
 obtain ⟨x9, hx9, h⟩ := h
 refine op_v (pv_ld ty_38 rfl hx9) <| op_v (pv_fld fo_75_2 rfl) <| op_w (pw_st (x := x9) ty_38 rfl rfl h.1 ?_)
 intro w18 hw26
 replace h := h.2 w18 hw26
 refine op_v (pv_fld fo_75_0 rfl) <| op_v (pv_ixA az_73 rfl rfl (by decide) (by decide)) <| op_w (pw_st (x := true) ty_4 rfl rfl h.1 ?_)
 intro w19 hw27
 replace h := h.2 w19 hw27
 refine ops_nil ?_
 exact ⟨⟨rfl, rfl, rfl, rfl, rfl, rfl, rfl, trivial⟩, h⟩
 have h := h.2 hb1
 refine WX_skip ?_
 exact ⟨⟨rfl, rfl, rfl, rfl, rfl, rfl, rfl, trivial⟩, h⟩
 rintro f w20 ⟨ha, h⟩
 obtain ⟨g7, rfl⟩ := canon ha
 refine WX_join (fun f w23 => Agree f [(1, vi a1), (12, vp b4 0), (13, vp b9 o1), (14, vp b10 o2), (15, vp b11 0)] /\ sh_f47_j3 a1 Q b4 b9 o1 b10 o2 b11 w23) ?_ ?_
 refine WX_seq (WX_region ?_)
 refine mv (vb a3) rfl (ops_nil ?_)
 refine WX_cond (b := a3) rfl (fun hb2 => ?_) (fun hb2 => ?_)
 have h := h.1 hb2
 refine WX_region ?_
 obtain ⟨x10, hx10, h⟩ := h
 refine op_v (pv_ld ty_38 rfl hx10) <| op_v (pv_fld fo_75_2 rfl) <| op_w (pw_st (x := x10) ty_38 rfl rfl h.1 ?_)
 intro w21 hw28
 replace h := h.2 w21 hw28
 refine op_v (pv_fld fo_75_0 rfl) <| op_v (pv_ixA az_73 rfl rfl (by decide) (by decide)) <| op_w (pw_st (x := true) ty_4 rfl rfl h.1 ?_)
 intro w22 hw29
 replace h := h.2 w22 hw29
 refine ops_nil ?_
 exact ⟨⟨rfl, rfl, rfl, rfl, rfl, trivial⟩, h⟩
 have h := h.2 hb2
 refine WX_skip ?_
 exact ⟨⟨rfl, rfl, rfl, rfl, rfl, trivial⟩, h⟩
 rintro f w23 ⟨ha, h⟩
 obtain ⟨g6, rfl⟩ := canon ha
 refine WX_seq (WX_region ?_)
 refine op_v (pv_fld fo_75_0 rfl) ?_
 obtain ⟨x11, hx11, h⟩ := h
 refine op_v (pv_ld ty_73 rfl hx11) <| op_w (pw_alloc ty_73 tz_73 ?_)
 intro b12 w24 hw30 hw31
 replace h := h b12 w24 hw30 hw31
 refine op_w (pw_st (x := x11) ty_73 rfl rfl h.1 ?_)
 intro w25 hw32
 replace h := h.2 w25 hw32
 refine ops_nil ?_
 refine WX_join (fun f w34 => Agree f [(12, vp b4 0), (15, vp b11 0)] /\ sh_f47_j8 Q b4 b11 w34) ?_ ?_
 refine WX_block ?_
 refine WX_join (fun f w26 => ∃ x15 : Bool, Agree f [(1, vi a1), (12, vp b4 0), (13, vp b9 o1), (14, vp b10 o2), (15, vp b11 0), (16, vp b12 0), (51, vb x15)] /\ sh_f47_j4 a1 Q b4 b9 o1 b10 o2 b11 b12 x15 w26) ?_ ?_
 refine WX_region ?_
 refine op_v (pv_ixA az_73 rfl rfl (by decide) (by decide)) ?_
 obtain ⟨x12, hx12, h⟩ := h
 refine op_v (pv_ld ty_4 rfl hx12) <| mv (vb x12) rfl <| ops_split 54 (b := x12) rfl (fun hb3 => ?_) (fun hb3 => ?_)
 have h := h.1 hb3
 refine opg_v (pv_ixA az_73 rfl rfl (by decide) (by decide)) ?_
 obtain ⟨x13, hx13, h⟩ := h
 refine opg_v (pv_ld ty_4 rfl hx13) <| op_v (pv_pick (b := true) (v := vb x13) rfl rfl) <| mv (vb x13) rfl ?_
 refine ops_split 58 (b := x13) rfl (fun hb4 => ?_) (fun hb4 => ?_)
 have h := h.1 hb4
 refine opg_v (pv_fld fo_38_0 rfl) ?_
 obtain ⟨x14, hx14, h⟩ := h
 refine opg_v (pv_ld ty_3 rfl hx14) <| opg_v (pv_add rfl rfl) <| opg_v (pv_move (v := vi a1) rfl) ?_
 refine opg_v (pv_cmp (v := ((IntKind.i64.wrap (x14 + 1)) == a1)) rfl rfl rfl rfl) ?_
 refine op_v (pv_pick (b := true) (v := vb ((IntKind.i64.wrap (x14 + 1)) == a1)) rfl rfl) ?_
 refine mva (vb ((IntKind.i64.wrap (x14 + 1)) == a1)) rfl (ops_nil ?_)
 exact ⟨((IntKind.i64.wrap (x14 + 1)) == a1), ⟨rfl, rfl, rfl, rfl, rfl, rfl, rfl, trivial⟩, h⟩
 have h := h.2 hb4
 iterate 5 refine opg_no ?_
 refine op_v (pv_pick (b := false) (v := vb false) rfl rfl) <| mva (vb false) rfl (ops_nil ?_)
 exact ⟨false, ⟨rfl, rfl, rfl, rfl, rfl, rfl, rfl, trivial⟩, h⟩
 have h := h.2 hb3
 iterate 2 refine opg_no ?_
 refine op_v (pv_pick (b := false) (v := vb false) rfl rfl) <| mv (vb false) rfl ?_
 iterate 5 refine opg_no ?_
 refine op_v (pv_pick (b := false) (v := vb false) rfl rfl) <| mva (vb false) rfl (ops_nil ?_)
 exact ⟨false, ⟨rfl, rfl, rfl, rfl, rfl, rfl, rfl, trivial⟩, h⟩
 rintro f w26 ⟨x15, ha, h⟩
 obtain ⟨g4, rfl⟩ := canon ha
 refine WX_cond (b := x15) rfl (fun hb16 => ?_) (fun hb16 => ?_)
 have h := h.1 hb16
 refine WX_region ?_
 obtain ⟨x16, hx16, h⟩ := h
 refine op_v (pv_ld ty_38 rfl hx16) <| op_v (pv_fld fo_75_3 rfl) <| op_w (pw_st (x := x16) ty_38 rfl rfl h.1 ?_)
 intro w27 hw33
 replace h := h.2 w27 hw33
 refine ops_nil ?_
 exact ⟨⟨rfl, rfl, trivial⟩, h⟩
 have h := h.2 hb16
 refine WX_join (fun f w28 => ∃ x21 : Bool, Agree f [(1, vi a1), (12, vp b4 0), (13, vp b9 o1), (14, vp b10 o2), (15, vp b11 0), (16, vp b12 0), (67, vb x21)] /\ sh_f47_j5 a1 Q b4 b9 o1 b10 o2 b11 b12 x21 w28) ?_ ?_
 refine WX_region ?_
 refine op_v (pv_ixA az_73 rfl rfl (by decide) (by decide)) ?_
 obtain ⟨x17, hx17, h⟩ := h
 refine op_v (pv_ld ty_4 rfl hx17) <| mv (vb x17) rfl <| ops_split 70 (b := x17) rfl (fun hb5 => ?_) (fun hb5 => ?_)
 have h := h.1 hb5
 refine opg_v (pv_ixA az_73 rfl rfl (by decide) (by decide)) ?_
 obtain ⟨x18, hx18, h⟩ := h
 refine opg_v (pv_ld ty_4 rfl hx18) <| op_v (pv_pick (b := true) (v := vb x18) rfl rfl) <| mv (vb x18) rfl ?_
 refine ops_split 74 (b := x18) rfl (fun hb6 => ?_) (fun hb6 => ?_)
 have h := h.1 hb6
 refine opg_v (pv_ixA az_73 rfl rfl (by decide) (by decide)) ?_
 obtain ⟨x19, hx19, h⟩ := h
 refine opg_v (pv_ld ty_4 rfl hx19) <| op_v (pv_pick (b := true) (v := vb x19) rfl rfl) <| mv (vb x19) rfl ?_
 refine ops_split 78 (b := x19) rfl (fun hb7 => ?_) (fun hb7 => ?_)
 have h := h.1 hb7
 refine opg_v (pv_fld fo_38_0 rfl) ?_
 obtain ⟨x20, hx20, h⟩ := h
 refine opg_v (pv_ld ty_3 rfl hx20) <| opg_v (pv_add rfl rfl) <| opg_v (pv_move (v := vi a1) rfl) ?_
 refine opg_v (pv_cmp (v := ((IntKind.i64.wrap (x20 + 2)) == a1)) rfl rfl rfl rfl) ?_
 refine op_v (pv_pick (b := true) (v := vb ((IntKind.i64.wrap (x20 + 2)) == a1)) rfl rfl) ?_
 refine mva (vb ((IntKind.i64.wrap (x20 + 2)) == a1)) rfl (ops_nil ?_)
 exact ⟨((IntKind.i64.wrap (x20 + 2)) == a1), ⟨rfl, rfl, rfl, rfl, rfl, rfl, rfl, trivial⟩, h⟩
 have h := h.2 hb7
 iterate 5 refine opg_no ?_
 refine op_v (pv_pick (b := false) (v := vb false) rfl rfl) <| mva (vb false) rfl (ops_nil ?_)
 exact ⟨false, ⟨rfl, rfl, rfl, rfl, rfl, rfl, rfl, trivial⟩, h⟩
 have h := h.2 hb6
 iterate 2 refine opg_no ?_
 refine op_v (pv_pick (b := false) (v := vb false) rfl rfl) <| mv (vb false) rfl ?_
 iterate 5 refine opg_no ?_
 refine op_v (pv_pick (b := false) (v := vb false) rfl rfl) <| mva (vb false) rfl (ops_nil ?_)
 exact ⟨false, ⟨rfl, rfl, rfl, rfl, rfl, rfl, rfl, trivial⟩, h⟩
 have h := h.2 hb5
 iterate 2 refine opg_no ?_
 refine op_v (pv_pick (b := false) (v := vb false) rfl rfl) <| mv (vb false) rfl ?_
 iterate 2 refine opg_no ?_
 refine op_v (pv_pick (b := false) (v := vb false) rfl rfl) <| mv (vb false) rfl ?_
 iterate 5 refine opg_no ?_
 refine op_v (pv_pick (b := false) (v := vb false) rfl rfl) <| mva (vb false) rfl (ops_nil ?_)
 exact ⟨false, ⟨rfl, rfl, rfl, rfl, rfl, rfl, rfl, trivial⟩, h⟩
 rintro f w28 ⟨x21, ha, h⟩
 obtain ⟨g3, rfl⟩ := canon ha
 refine WX_cond (b := x21) rfl (fun hb15 => ?_) (fun hb15 => ?_)
 have h := h.1 hb15
 refine WX_region ?_
 obtain ⟨x22, hx22, h⟩ := h
 refine op_v (pv_ld ty_38 rfl hx22) <| op_v (pv_fld fo_75_3 rfl) <| op_w (pw_st (x := x22) ty_38 rfl rfl h.1 ?_)
 intro w29 hw34
 replace h := h.2 w29 hw34
 refine ops_nil ?_
 exact ⟨⟨rfl, rfl, trivial⟩, h⟩
 have h := h.2 hb15
 refine WX_join (fun f w30 => ∃ x26 : Bool, Agree f [(1, vi a1), (12, vp b4 0), (14, vp b10 o2), (15, vp b11 0), (16, vp b12 0), (87, vb x26)] /\ sh_f47_j6 a1 Q b4 b10 o2 b11 b12 x26 w30) ?_ ?_
 refine WX_region ?_
 refine op_v (pv_ixA az_73 rfl rfl (by decide) (by decide)) ?_
 obtain ⟨x23, hx23, h⟩ := h
 refine op_v (pv_ld ty_4 rfl hx23) <| mv (vb x23) rfl <| ops_split 90 (b := x23) rfl (fun hb8 => ?_) (fun hb8 => ?_)
 have h := h.1 hb8
 refine opg_v (pv_ixA az_73 rfl rfl (by decide) (by decide)) ?_
 obtain ⟨x24, hx24, h⟩ := h
 refine opg_v (pv_ld ty_4 rfl hx24) <| op_v (pv_pick (b := true) (v := vb x24) rfl rfl) <| mv (vb x24) rfl ?_
 refine ops_split 94 (b := x24) rfl (fun hb9 => ?_) (fun hb9 => ?_)
 have h := h.1 hb9
 refine opg_v (pv_fld fo_38_0 rfl) ?_
 obtain ⟨x25, hx25, h⟩ := h
 refine opg_v (pv_ld ty_3 rfl hx25) <| opg_v (pv_add rfl rfl) <| opg_v (pv_move (v := vi a1) rfl) ?_
 refine opg_v (pv_cmp (v := ((IntKind.i64.wrap (x25 + 2)) == a1)) rfl rfl rfl rfl) ?_
 refine op_v (pv_pick (b := true) (v := vb ((IntKind.i64.wrap (x25 + 2)) == a1)) rfl rfl) ?_
 refine mva (vb ((IntKind.i64.wrap (x25 + 2)) == a1)) rfl (ops_nil ?_)
 exact ⟨((IntKind.i64.wrap (x25 + 2)) == a1), ⟨rfl, rfl, rfl, rfl, rfl, rfl, trivial⟩, h⟩
 have h := h.2 hb9
 iterate 5 refine opg_no ?_
 refine op_v (pv_pick (b := false) (v := vb false) rfl rfl) <| mva (vb false) rfl (ops_nil ?_)
 exact ⟨false, ⟨rfl, rfl, rfl, rfl, rfl, rfl, trivial⟩, h⟩
 have h := h.2 hb8
 iterate 2 refine opg_no ?_
 refine op_v (pv_pick (b := false) (v := vb false) rfl rfl) <| mv (vb false) rfl ?_
 iterate 5 refine opg_no ?_
 refine op_v (pv_pick (b := false) (v := vb false) rfl rfl) <| mva (vb false) rfl (ops_nil ?_)
 exact ⟨false, ⟨rfl, rfl, rfl, rfl, rfl, rfl, trivial⟩, h⟩
 rintro f w30 ⟨x26, ha, h⟩
 obtain ⟨g2, rfl⟩ := canon ha
 refine WX_cond (b := x26) rfl (fun hb14 => ?_) (fun hb14 => ?_)
 have h := h.1 hb14
 refine WX_region ?_
 obtain ⟨x27, hx27, h⟩ := h
 refine op_v (pv_ld ty_38 rfl hx27) <| op_v (pv_fld fo_75_3 rfl) <| op_w (pw_st (x := x27) ty_38 rfl rfl h.1 ?_)
 intro w31 hw35
 replace h := h.2 w31 hw35
 refine ops_nil ?_
 exact ⟨⟨rfl, rfl, trivial⟩, h⟩
 have h := h.2 hb14
 refine WX_join (fun f w32 => ∃ x32 : Bool, Agree f [(12, vp b4 0), (14, vp b10 o2), (15, vp b11 0), (103, vb x32)] /\ sh_f47_j7 Q b4 b10 o2 b11 x32 w32) ?_ ?_
 refine WX_region ?_
 refine op_v (pv_ixA az_73 rfl rfl (by decide) (by decide)) ?_
 obtain ⟨x28, hx28, h⟩ := h
 refine op_v (pv_ld ty_4 rfl hx28) <| mv (vb x28) rfl <| ops_split 106 (b := x28) rfl (fun hb10 => ?_) (fun hb10 => ?_)
 have h := h.1 hb10
 refine opg_v (pv_ixA az_73 rfl rfl (by decide) (by decide)) ?_
 obtain ⟨x29, hx29, h⟩ := h
 refine opg_v (pv_ld ty_4 rfl hx29) <| op_v (pv_pick (b := true) (v := vb x29) rfl rfl) <| mv (vb x29) rfl ?_
 refine ops_split 110 (b := x29) rfl (fun hb11 => ?_) (fun hb11 => ?_)
 have h := h.1 hb11
 refine opg_v (pv_ixA az_73 rfl rfl (by decide) (by decide)) ?_
 obtain ⟨x30, hx30, h⟩ := h
 refine opg_v (pv_ld ty_4 rfl hx30) <| op_v (pv_pick (b := true) (v := vb x30) rfl rfl) <| mv (vb x30) rfl ?_
 refine ops_split 114 (b := x30) rfl (fun hb12 => ?_) (fun hb12 => ?_)
 have h := h.1 hb12
 refine opg_v (pv_fld fo_38_0 rfl) ?_
 obtain ⟨x31, hx31, h⟩ := h
 refine opg_v (pv_ld ty_3 rfl hx31) <| opg_v (pv_add rfl rfl) <| opg_v (pv_move (v := vi a1) rfl) ?_
 refine opg_v (pv_cmp (v := ((IntKind.i64.wrap (x31 + 3)) == a1)) rfl rfl rfl rfl) ?_
 refine op_v (pv_pick (b := true) (v := vb ((IntKind.i64.wrap (x31 + 3)) == a1)) rfl rfl) ?_
 refine mva (vb ((IntKind.i64.wrap (x31 + 3)) == a1)) rfl (ops_nil ?_)
 exact ⟨((IntKind.i64.wrap (x31 + 3)) == a1), ⟨rfl, rfl, rfl, rfl, trivial⟩, h⟩
 have h := h.2 hb12
 iterate 5 refine opg_no ?_
 refine op_v (pv_pick (b := false) (v := vb false) rfl rfl) <| mva (vb false) rfl (ops_nil ?_)
 exact ⟨false, ⟨rfl, rfl, rfl, rfl, trivial⟩, h⟩
 have h := h.2 hb11
 iterate 2 refine opg_no ?_
 refine op_v (pv_pick (b := false) (v := vb false) rfl rfl) <| mv (vb false) rfl ?_
 iterate 5 refine opg_no ?_
 refine op_v (pv_pick (b := false) (v := vb false) rfl rfl) <| mva (vb false) rfl (ops_nil ?_)
 exact ⟨false, ⟨rfl, rfl, rfl, rfl, trivial⟩, h⟩
 have h := h.2 hb10
 iterate 2 refine opg_no ?_
 refine op_v (pv_pick (b := false) (v := vb false) rfl rfl) <| mv (vb false) rfl ?_
 iterate 2 refine opg_no ?_
 refine op_v (pv_pick (b := false) (v := vb false) rfl rfl) <| mv (vb false) rfl ?_
 iterate 5 refine opg_no ?_
 refine op_v (pv_pick (b := false) (v := vb false) rfl rfl) <| mva (vb false) rfl (ops_nil ?_)
 exact ⟨false, ⟨rfl, rfl, rfl, rfl, trivial⟩, h⟩
 rintro f w32 ⟨x32, ha, h⟩
 obtain ⟨g1, rfl⟩ := canon ha
 refine WX_cond (b := x32) rfl (fun hb13 => ?_) (fun hb13 => ?_)
 have h := h.1 hb13
 refine WX_region ?_
 obtain ⟨x33, hx33, h⟩ := h
 refine op_v (pv_ld ty_38 rfl hx33) <| op_v (pv_fld fo_75_3 rfl) <| op_w (pw_st (x := x33) ty_38 rfl rfl h.1 ?_)
 intro w33 hw36
 replace h := h.2 w33 hw36
 refine ops_nil ?_
 exact ⟨⟨rfl, rfl, trivial⟩, h⟩
 have h := h.2 hb13
 refine WX_skip ?_
 exact ⟨⟨rfl, rfl, trivial⟩, h⟩
 rintro f w34 ⟨ha, h⟩
 obtain ⟨g5, rfl⟩ := canon ha
 refine WX_seq (WX_region ?_)
 obtain ⟨x34, hx34, h⟩ := h
 refine op_v (pv_ld ty_75 rfl hx34) <| op_w (pw_st (x := x34) ty_75 rfl rfl h.1 ?_)
 intro w35 hw37
 replace h := h.2 w35 hw37
 refine ops_nil ?_
 refine WX_ret ?_
 obtain ⟨x35, hx35, h⟩ := h
 exact fin_of [t_justify_State.val x35] rfl ⟨⟨_, _, rfl, run_loadVar ty_75 hx35⟩, trivial⟩ h
def sh_f48 (a0 : Option Addr) (a1 : Int) (Q : QW) (w0 : World) : Prop :=
  nc a0 fun b1 o1 => ld tSl w0 b1 (o1 + 1) fun x1 => br ((x1.len : Int) == 0) (Q (.int .i64 0) w0) (ld tSl w0 b1 (o1 + 1) fun x2 => ixs x2 0 fun b2 o2 => ld tU8 w0 b2 (o2 + (0 : Int).toNat * 1) fun x3 => ld tSl w0 b1 (o1 + 1) fun x4 => chkp (0 <= (1 : Int) /\ (1 : Int) <= (x4.len : Int)) <| st tSl w0 b1 (o1 + 1) (x4.cut 1 (1 : Int).toNat x4.len x4.cap) fun w1 => chkp (a1 ≠ 0) <| Q (.int .i64 (Int.tmod (IntKind.i64.wrap x3) a1)) w1)
theorem so_f48 {a0 : Option Addr} {a1 : Int} (Q : QW) (w0 : World) (h : sh_f48 a0 a1 Q w0) : CallsR PP n_f48 #[.pointer a0, .int .i64 a1] Q w0 := by
 refine callsR_of_WX (args := [.pointer a0, vi a1]) Try.func48 rfl Try.ntmps48 nl ?_
 obtain ⟨b1, o1, hp1, h⟩ := h
 refine WX_seq (WX_region ?_)
 refine mva (vi 0) rfl (ops_nil ?_)
 refine WX_seq ?_
 refine WX_seq (WX_region ?_)
 refine mv (.pointer a0) rfl <| op_v (pv_nilh rfl hp1) <| op_v (pv_fld fo_99_1 rfl) ?_
 obtain ⟨x1, hx1, h⟩ := h
 refine op_v (pv_ld ty_22 rfl hx1) <| op_v (pv_lenS (s := x1) is_22 rfl) <| op_v (pv_cmp (v := ((x1.len : Int) == 0)) rfl rfl rfl rfl) (ops_nil ?_)
 refine WX_cond (b := ((x1.len : Int) == 0)) rfl (fun hb1 => ?_) (fun hb1 => ?_)
 have h := h.1 hb1
 refine WX_seq (WX_region ?_)
 refine mva (vi 0) rfl (ops_nil ?_)
 refine WX_ret ?_
 exact fin_of [vi 0] rfl ⟨rfl, trivial⟩ h
 have h := h.2 hb1
 refine WX_skip <| WX_seq (WX_region ?_)
 refine mv (.pointer a0) rfl <| op_v (pv_nilh rfl hp1) <| op_v (pv_fld fo_99_1 rfl) ?_
 obtain ⟨x2, hx2, h⟩ := h
 refine op_v (pv_ld ty_22 rfl hx2) ?_
 obtain ⟨b2, o2, hi1, hi2, hi3, h⟩ := h
 refine op_v (pv_ix (s := x2) ez_22 rfl rfl hi1 hi2 hi3) ?_
 obtain ⟨x3, hx3, h⟩ := h
 refine op_v (pv_ld ty_5 rfl hx3) <| op_v (pv_conv us_5 uk_3 rfl) <| mva (vi (IntKind.i64.wrap x3)) rfl (ops_nil ?_)
 refine WX_seq (WX_region ?_)
 refine mv (.pointer a0) rfl <| mv (.pointer a0) rfl <| op_v (pv_nilh rfl hp1) <| op_v (pv_fld fo_99_1 rfl) ?_
 obtain ⟨x4, hx4, h⟩ := h
 refine op_v (pv_ld ty_22 rfl hx4) ?_
 obtain ⟨hs1, h⟩ := h
 refine op_v (pv_sliceLo (s := x4) ez_22 rfl rfl hs1.1 hs1.2) <| op_v (pv_nilh rfl hp1) <| op_v (pv_fld fo_99_1 rfl) ?_
 refine op_w (pw_st (x := (x4.cut 1 (1 : Int).toNat x4.len x4.cap)) ty_22 rfl rfl h.1 ?_)
 intro w1 hw1
 replace h := h.2 w1 hw1
 refine ops_nil ?_
 refine WX_seq (WX_region ?_)
 refine mv (vi (IntKind.i64.wrap x3)) rfl <| mv (vi a1) rfl ?_
 obtain ⟨hz1, h⟩ := h
 refine op_v (pv_rem rfl rfl hz1) <| mva (vi (Int.tmod (IntKind.i64.wrap x3) a1)) rfl (ops_nil ?_)
 refine WX_ret ?_
 exact fin_of [vi (Int.tmod (IntKind.i64.wrap x3) a1)] rfl ⟨rfl, trivial⟩ h
def sh_f49 (a0 : Option Addr) (Q : QW) (w0 : World) : Prop :=
  nc a0 fun b1 o1 => CallsR PP n_f48 #[.pointer a0, .int .i64 8] (fun v1 w1 => ∃ x1 : Int, v1 = .int .i64 x1 /\ (br (decide (x1 < 5)) (dw w1 fun w2 => ld tSl w2 b1 (o1 + 2) fun x2 => ld tSl w2 b1 (o1 + 2) fun x3 => ixs x2 (IntKind.i64.wrap ((x3.len : Int) - 1)) fun b2 o2 => ld tU64 w2 b2 (o2 + ((IntKind.i64.wrap ((x3.len : Int) - 1))).toNat * 1) fun x4 => Q (.int .u64 x4) w2) (dw w1 fun w3 => ld tSl w3 b1 (o1 + 2) fun x5 => ld tSl w3 b1 (o1 + 2) fun x6 => CallsR PP n_f48 #[.pointer a0, .int .i64 (x6.len : Int)] (fun v2 w4 => ∃ x7 : Int, v2 = .int .i64 x7 /\ (chk tSl w4 b1 (o1 + 2) x5 <| ixs x5 x7 fun b3 o3 => ld tU64 w4 b3 (o3 + (x7).toNat * 1) fun x8 => Q (.int .u64 x8) w4)) w3))) w0
theorem so_f49 {a0 : Option Addr} (Q : QW) (w0 : World) (h : sh_f49 a0 Q w0) : CallsR PP n_f49 #[.pointer a0] Q w0 := by
 refine callsR_of_WX (args := [.pointer a0]) Try.func49 rfl Try.ntmps49 nl ?_
 obtain ⟨b1, o1, hp1, h⟩ := h
 refine WX_seq (WX_region ?_)
 refine mva (vu 0) rfl (ops_nil ?_)
 refine WX_seq (WX_region ?_)
 refine mv (.pointer a0) rfl <| op_w (pw_call co_48 rfl (CallsR.mono h ?_))
 rintro v1 w1 ⟨x1, rfl, h⟩
 refine mva (vi x1) rfl (ops_nil ?_)
 refine WX_seq ?_
 refine WX_seq (WX_region ?_)
 refine mv (vi x1) rfl <| op_v (pv_cmp (v := decide (x1 < 5)) rfl rfl rfl rfl) (ops_nil ?_)
 refine WX_cond (b := decide (x1 < 5)) rfl (fun hb1 => ?_) (fun hb1 => ?_)
 have h := h.1 hb1
 refine WX_seq ?_
 obtain ⟨w2, hw1, h⟩ := dwe h
 obtain ⟨x2, hx2, x3, hx3, b2, o2, hi1, hi2, hi3, x4, hx4, h⟩ := h
 refine WX_dr [] [0,1,2,4,5,6,8,9,10,12] [⟨[],[0,1,2,4,5,6,8,9,10,12],[3,7,11],[]⟩] [.pointer a0, vp b1 o1, vp b1 (o1 + 2), .slice x2.a x2.len x2.cap, .pointer a0, vp b1 o1, vp b1 (o1 + 2), .slice x3.a x3.len x3.cap, vi (x3.len : Int), vi (IntKind.i64.wrap ((x3.len : Int) - 1)), vp b2 (o2 + ((IntKind.i64.wrap ((x3.len : Int) - 1))).toNat * 1), vu x4, vu x4] 1 mixed (by kernel_rfl) hw1 ?_
 refine draw_end rfl (pu rfl (pv_move rfl) (pu rfl (pv_nilh rfl hp1) (pu rfl (pv_fld fo_99_2 rfl) (pu rfl (pv_move rfl) (pu rfl (pv_nilh rfl hp1) (pu rfl (pv_fld fo_99_2 rfl) (pu rfl (pv_lenS (s := x3) is_24 rfl) (pu rfl (pv_sub rfl rfl) (pu rfl (pv_ix (s := x2) ez_24 rfl rfl hi1 hi2 hi3) (pu rfl (pv_assign rfl) ap0)))))))))) (ro rfl (pv_ld ty_24 rfl hx2) (ro rfl (pv_ld ty_24 rfl hx3) (ro rfl (pv_ld ty_36 rfl hx4) ao0))) ?_
 refine WX_ret ?_
 exact fin_of [vu x4] rfl ⟨rfl, trivial⟩ h
 have h := h.2 hb1
 refine WX_skip <| WX_seq ?_
 obtain ⟨w3, hw2, h⟩ := dwe h
 obtain ⟨x5, hx5, x6, hx6, h⟩ := h
 refine WX_dr [10] [0,1,2,4,5,6,7,9,11,13] [⟨[],[0,1,2,4,5,6,7,9],[3,8],[(10,[10,11,12,13],1)]⟩,⟨[10],[11,13],[3,12],[]⟩] [.pointer a0, vp b1 o1, vp b1 (o1 + 2), .slice x5.a x5.len x5.cap, .pointer a0, .pointer a0, vp b1 o1, vp b1 (o1 + 2), .slice x6.a x6.len x6.cap, vi (x6.len : Int), un, un, un, un] 2 mixed (by kernel_rfl) hw2 ?_
 refine draw_go rfl (pu rfl (pv_move rfl) (pu rfl (pv_nilh rfl hp1) (pu rfl (pv_fld fo_99_2 rfl) (pu rfl (pv_move rfl) (pu rfl (pv_move rfl) (pu rfl (pv_nilh rfl hp1) (pu rfl (pv_fld fo_99_2 rfl) (pu rfl (pv_lenS (s := x6) is_24 rfl) ap0)))))))) (ro rfl (pv_ld ty_24 rfl hx5) (ro rfl (pv_ld ty_24 rfl hx6) ao0)) rfl ?_
 refine cy rfl rfl ?_
 refine pw_call co_48 rfl (cm h ?_)
 rintro v2 w4 ⟨x7, rfl, h⟩
 obtain ⟨hc1, b3, o3, hi4, hi5, hi6, x8, hx8, h⟩ := h
 refine nx [vp b3 (o3 + (x7).toNat * 1), vu x8, vu x8] rfl nl rfl ?_
 refine draw_end rfl (pu rfl (pv_ix (s := x5) ez_24 rfl rfl hi4 hi5 hi6) (pu rfl (pv_assign rfl) ap0)) (ro rfl (pv_ld ty_24 rfl hc1) (ro rfl (pv_ld ty_36 rfl hx8) ao0)) ?_
 refine WX_ret ?_
 exact fin_of [vu x8] rfl ⟨rfl, trivial⟩ h
end Go.Proofs.Ytdefmgkicdhmkaa
