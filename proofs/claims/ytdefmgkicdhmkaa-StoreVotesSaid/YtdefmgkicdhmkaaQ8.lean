/- What the functions do, part 8; for every memory. -/
import Derived.Test.YtdefmgkicdhmkaaQ7
namespace Go.Proofs.Ytdefmgkicdhmkaa
open Go Go.Sx
set_option linter.unusedVariables false
set_option maxRecDepth 100000
set_option maxHeartbeats 2000000
def sh_f98_j8 (x2 : Int) (nxt1 : Int -> Int -> World -> Prop) (x23 : Int) (w23 : World) : Prop :=
  nxt1 x23 (IntKind.i64.wrap (x2 + 1)) w23
def sh_f98_b7 (a0 : Sl) (a2 : Int) (x2 : Int) (nxt1 : Int -> Int -> World -> Prop) (x8 : Int) (x17 : Int) (w17 : World) (nxt4 : Int -> World -> Prop) : Prop :=
  br (decide (x17 < a2)) (dw w17 fun w18 => ixs a0 x17 fun b13 o13 => ld tU64 w18 b13 (o13 + (x17).toNat * 1) fun x18 => ixs a0 (IntKind.i64.wrap (x17 - 1)) fun b14 o14 => ld tU64 w18 b14 (o14 + ((IntKind.i64.wrap (x17 - 1))).toNat * 1) fun x19 => CallsR PP n_f99 #[.int .u64 x18, .int .u64 x19] (fun v3 w19 => ∃ x20 : Bool, v3 = .bool x20 /\ (br (!x20) ((sh_f98_j8 x2 nxt1 x8 w19)) (dw w19 fun w20 => ixs a0 (IntKind.i64.wrap (x17 - 1)) fun b15 o15 => ld tU64 w20 b15 (o15 + ((IntKind.i64.wrap (x17 - 1))).toNat * 1) fun x21 => ixs a0 x17 fun b16 o16 => ld tU64 w20 b16 (o16 + (x17).toNat * 1) fun x22 => ixs a0 x17 fun b17 o17 => st tU64 w20 b17 (o17 + (x17).toNat * 1) x21 fun w21 => ixs a0 (IntKind.i64.wrap (x17 - 1)) fun b18 o18 => st tU64 w21 b18 (o18 + ((IntKind.i64.wrap (x17 - 1))).toNat * 1) x22 fun w22 => nxt4 (IntKind.i64.wrap (x17 + 1)) w22))) w18) ((sh_f98_j8 x2 nxt1 x8 w17))
def sh_f98_j6 (a0 : Sl) (a2 : Int) (x2 : Int) (nxt1 : Int -> Int -> World -> Prop) (x8 : Int) (w16 : World) : Prop :=
  br (decide ((IntKind.i64.wrap (a2 - x8)) ≥ 2)) ((∃ I4 : Nat -> Int -> World -> Prop, (∃ m, I4 m (IntKind.i64.wrap (x8 + 1)) w16) /\ ∀ m x17 w17, I4 m x17 w17 -> sh_f98_b7 a0 a2 x2 nxt1 x8 x17 w17 (fun y0 w => ∃ m2, m2 < m /\ I4 m2 y0 w))) ((sh_f98_j8 x2 nxt1 x8 w16))
def sh_f98_b5 (a0 : Sl) (a2 : Int) (x2 : Int) (nxt1 : Int -> Int -> World -> Prop) (x8 : Int) (x11 : Int) (w10 : World) (nxt3 : Int -> World -> Prop) : Prop :=
  br (decide (x11 ≥ 1)) (dw w10 fun w11 => ixs a0 x11 fun b7 o7 => ld tU64 w11 b7 (o7 + (x11).toNat * 1) fun x12 => ixs a0 (IntKind.i64.wrap (x11 - 1)) fun b8 o8 => ld tU64 w11 b8 (o8 + ((IntKind.i64.wrap (x11 - 1))).toNat * 1) fun x13 => CallsR PP n_f99 #[.int .u64 x12, .int .u64 x13] (fun v2 w12 => ∃ x14 : Bool, v2 = .bool x14 /\ (br (!x14) ((sh_f98_j6 a0 a2 x2 nxt1 x8 w12)) (dw w12 fun w13 => ixs a0 (IntKind.i64.wrap (x11 - 1)) fun b9 o9 => ld tU64 w13 b9 (o9 + ((IntKind.i64.wrap (x11 - 1))).toNat * 1) fun x15 => ixs a0 x11 fun b10 o10 => ld tU64 w13 b10 (o10 + (x11).toNat * 1) fun x16 => ixs a0 x11 fun b11 o11 => st tU64 w13 b11 (o11 + (x11).toNat * 1) x15 fun w14 => ixs a0 (IntKind.i64.wrap (x11 - 1)) fun b12 o12 => st tU64 w14 b12 (o12 + ((IntKind.i64.wrap (x11 - 1))).toNat * 1) x16 fun w15 => nxt3 (IntKind.i64.wrap (x11 - 1)) w15))) w11) ((sh_f98_j6 a0 a2 x2 nxt1 x8 w10))
def sh_f98_j4 (a0 : Sl) (a1 : Int) (a2 : Int) (Q : QW) (x2 : Int) (nxt1 : Int -> Int -> World -> Prop) (x8 : Int) (w6 : World) : Prop :=
  br (x8 == a2) (Q (.bool true) w6) (br (decide ((IntKind.i64.wrap (a2 - a1)) < 50)) (Q (.bool false) w6) (dw w6 fun w7 => ixs a0 (IntKind.i64.wrap (x8 - 1)) fun b3 o3 => ld tU64 w7 b3 (o3 + ((IntKind.i64.wrap (x8 - 1))).toNat * 1) fun x9 => ixs a0 x8 fun b4 o4 => ld tU64 w7 b4 (o4 + (x8).toNat * 1) fun x10 => ixs a0 x8 fun b5 o5 => st tU64 w7 b5 (o5 + (x8).toNat * 1) x9 fun w8 => ixs a0 (IntKind.i64.wrap (x8 - 1)) fun b6 o6 => st tU64 w8 b6 (o6 + ((IntKind.i64.wrap (x8 - 1))).toNat * 1) x10 fun w9 => br (decide ((IntKind.i64.wrap (x8 - a1)) ≥ 2)) ((∃ I3 : Nat -> Int -> World -> Prop, (∃ m, I3 m (IntKind.i64.wrap (x8 - 1)) w9) /\ ∀ m x11 w10, I3 m x11 w10 -> sh_f98_b5 a0 a2 x2 nxt1 x8 x11 w10 (fun y0 w => ∃ m2, m2 < m /\ I3 m2 y0 w))) ((sh_f98_j6 a0 a2 x2 nxt1 x8 w9))))
def sh_f98_j3 (a0 : Sl) (a1 : Int) (a2 : Int) (Q : QW) (x2 : Int) (nxt1 : Int -> Int -> World -> Prop) (x3 : Int) (nxt2 : Int -> World -> Prop) (x7 : Bool) (w5 : World) : Prop :=
  br x7 (nxt2 (IntKind.i64.wrap (x3 + 1)) w5) ((sh_f98_j4 a0 a1 a2 Q x2 nxt1 x3 w5))
def sh_f98_b2 (a0 : Sl) (a1 : Int) (a2 : Int) (Q : QW) (x2 : Int) (nxt1 : Int -> Int -> World -> Prop) (x3 : Int) (w2 : World) (nxt2 : Int -> World -> Prop) : Prop :=
  dw w2 fun w3 => br (decide (x3 < a2)) (ixs a0 x3 fun b1 o1 => ld tU64 w3 b1 (o1 + (x3).toNat * 1) fun x4 => ixs a0 (IntKind.i64.wrap (x3 - 1)) fun b2 o2 => ld tU64 w3 b2 (o2 + ((IntKind.i64.wrap (x3 - 1))).toNat * 1) fun x5 => CallsR PP n_f99 #[.int .u64 x4, .int .u64 x5] (fun v1 w4 => ∃ x6 : Bool, v1 = .bool x6 /\ ((sh_f98_j3 a0 a1 a2 Q x2 nxt1 x3 nxt2 (!x6) w4))) w3) ((sh_f98_j3 a0 a1 a2 Q x2 nxt1 x3 nxt2 false w3))
def sh_f98_j9 (Q : QW) (w24 : World) : Prop :=
  Q (.bool false) w24
def sh_f98_b1 (a0 : Sl) (a1 : Int) (a2 : Int) (Q : QW) (x1 : Int) (x2 : Int) (w1 : World) (nxt1 : Int -> Int -> World -> Prop) : Prop :=
  br (decide (x2 < 5)) ((∃ I2 : Nat -> Int -> World -> Prop, (∃ m, I2 m x1 w1) /\ ∀ m x3 w2, I2 m x3 w2 -> sh_f98_b2 a0 a1 a2 Q x2 nxt1 x3 w2 (fun y0 w => ∃ m2, m2 < m /\ I2 m2 y0 w))) ((sh_f98_j9 Q w1))
def sh_f98 (a0 : Sl) (a1 : Int) (a2 : Int) (Q : QW) (w0 : World) : Prop :=
  (∃ I1 : Nat -> Int -> Int -> World -> Prop, (∃ m, I1 m (IntKind.i64.wrap (a1 + 1)) 0 w0) /\ ∀ m x1 x2 w1, I1 m x1 x2 w1 -> sh_f98_b1 a0 a1 a2 Q x1 x2 w1 (fun y0 y1 w => ∃ m2, m2 < m /\ I1 m2 y0 y1 w))
theorem so_f98 {a0 : Sl} {a1 : Int} {a2 : Int} (Q : QW) (w0 : World) (h : sh_f98 a0 a1 a2 Q w0) : CallsR PP n_f98 #[.slice a0.a a0.len a0.cap, .int .i64 a1, .int .i64 a2] Q w0 := by
 refine callsR_of_WX (args := [.slice a0.a a0.len a0.cap, vi a1, vi a2]) Try.func98 rfl Try.ntmps98 nl ?_
 refine WX_seq (WX_region ?_)
 refine mva (vb false) rfl (ops_nil ?_)
 refine WX_seq (WX_region ?_)
 refine mv (vi a1) rfl <| op_v (pv_add rfl rfl) <| mva (vi (IntKind.i64.wrap (a1 + 1))) rfl (ops_nil ?_)
 refine WX_join (fun f w24 => Agree f [] /\ sh_f98_j9 Q w24) ?_ ?_
 refine WX_seq (WX_region ?_)
 refine mva (vi 0) rfl (ops_nil ?_)
 refine WX_block ?_
 obtain ⟨I1, ⟨m, h0⟩, hB4⟩ := h
 refine WX_loop (fun m f w1 => ∃ x1 : Int, ∃ x2 : Int, Agree f [(0, .slice a0.a a0.len a0.cap), (1, vi a1), (2, vi a2), (7, vi x1), (8, vi x2)] /\ I1 m x1 x2 w1) ⟨m, (IntKind.i64.wrap (a1 + 1)), 0, ⟨rfl, rfl, rfl, rfl, rfl, trivial⟩, h0⟩ ?_
 clear h0 m
 rintro m f w1 ⟨x1, x2, ha, h⟩
 obtain ⟨g8, rfl⟩ := canon ha
 replace h := hB4 m x1 x2 w1 h
 clear hB4
 generalize hn_nxt1 : (fun (y0 : Int) (y1 : Int) (w : World) => ∃ m2, m2 < m /\ I1 m2 y0 y1 w) = nxt1 at h
 refine WX_seq ?_
 refine WX_seq (WX_region ?_)
 refine mv (vi x2) rfl <| op_v (pv_cmp (v := decide (x2 < 5)) rfl rfl rfl rfl) (ops_nil ?_)
 refine WX_cond (b := decide (x2 < 5)) rfl (fun hb1 => ?_) (fun hb1 => ?_)
 have h := h.1 hb1
 refine WX_skip ?_
 refine WX_join (fun f w23 => ∃ x23 : Int, Agree f [(0, .slice a0.a a0.len a0.cap), (1, vi a1), (2, vi a2), (7, vi x23), (8, vi x2)] /\ sh_f98_j8 x2 nxt1 x23 w23) ?_ ?_
 refine WX_block ?_
 refine WX_join (fun f w6 => ∃ x8 : Int, Agree f [(0, .slice a0.a a0.len a0.cap), (1, vi a1), (2, vi a2), (7, vi x8), (8, vi x2)] /\ sh_f98_j4 a0 a1 a2 Q x2 nxt1 x8 w6) ?_ ?_
 refine WX_block ?_
 obtain ⟨I2, ⟨m, h0⟩, hB1⟩ := h
 refine WX_loop (fun m f w2 => ∃ x3 : Int, Agree f [(0, .slice a0.a a0.len a0.cap), (1, vi a1), (2, vi a2), (7, vi x3), (8, vi x2)] /\ I2 m x3 w2) ⟨m, x1, ⟨rfl, rfl, rfl, rfl, rfl, trivial⟩, h0⟩ ?_
 clear h0 m
 rintro m f w2 ⟨x3, ha, h⟩
 obtain ⟨g2, rfl⟩ := canon ha
 replace h := hB1 m x3 w2 h
 clear hB1
 generalize hn_nxt2 : (fun (y0 : Int) (w : World) => ∃ m2, m2 < m /\ I2 m2 y0 w) = nxt2 at h
 refine WX_seq ?_
 refine WX_join (fun f w5 => ∃ x7 : Bool, Agree f [(0, .slice a0.a a0.len a0.cap), (1, vi a1), (2, vi a2), (7, vi x3), (8, vi x2), (32, vb x7)] /\ sh_f98_j3 a0 a1 a2 Q x2 nxt1 x3 nxt2 x7 w5) ?_ ?_
 obtain ⟨w3, hw1, h⟩ := dwe h
 refine dr_split (b := decide (x3 < a2)) (fun hb2 => ?_) (fun hb2 => ?_)
 have h := h.1 hb2
 obtain ⟨b1, o1, hi1, hi2, hi3, x4, hx4, b2, o2, hi4, hi5, hi6, x5, hx5, h⟩ := h
 refine WX_dr [13] [0,1,2,3,4,5,6,8,9,10,11,14,15] [⟨[],[0,1,2,3,4,5,6,8,9,10,11],[7,12],[(13,[13,14,15],1)]⟩,⟨[13],[14,15],[],[]⟩] [vi x3, vi a2, vb true, vb true, .slice a0.a a0.len a0.cap, vi x3, vp b1 (o1 + (x3).toNat * 1), vu x4, .slice a0.a a0.len a0.cap, vi x3, vi (IntKind.i64.wrap (x3 - 1)), vp b2 (o2 + ((IntKind.i64.wrap (x3 - 1))).toNat * 1), vu x5, un, un, un] 2 mixed (by kernel_rfl) hw1 ?_
 refine draw_go rfl (pu rfl (pv_move rfl) (pu rfl (pv_move rfl) (pu rfl (pv_cmp (v := true) rfl rfl rfl (by exact hb2)) (pu rfl (pv_move (by first | rfl | exact congrArg Value.bool hb2)) (pu rfl (pv_move rfl) (pu rfl (pv_move rfl) (pu rfl (pv_ix (s := a0) ez_24 rfl rfl hi1 hi2 hi3) (pu rfl (pv_move rfl) (pu rfl (pv_move rfl) (pu rfl (pv_sub rfl rfl) (pu rfl (pv_ix (s := a0) ez_24 rfl rfl hi4 hi5 hi6) ap0))))))))))) (ro rfl (pv_ld ty_36 rfl hx4) (ro rfl (pv_ld ty_36 rfl hx5) ao0)) rfl ?_
 refine cy rfl rfl ?_
 refine pw_call co_99 rfl (cm h ?_)
 rintro v1 w4 ⟨x6, rfl, h⟩
 refine nx [vb (!x6), vb (!x6)] rfl nl rfl ?_
 refine draw_end rfl (pu rfl (pv_not rfl) (pu rfl (pv_pick (b := true) (v := vb (!x6)) rfl rfl) ap0)) ao0 ?_
 exact ⟨(!x6), ⟨rfl, rfl, rfl, rfl, rfl, rfl, trivial⟩, h⟩
 have h := h.2 hb2
 refine WX_dr [13] [0,1,2,3,4,5,6,8,9,10,11,14,15] [⟨[],[0,1,2,3,4,5,6,8,9,10,11],[7,12],[(13,[13,14,15],1)]⟩,⟨[13],[14,15],[],[]⟩] [vi x3, vi a2, vb false, vb false, un, un, un, un, un, un, un, un, un, un, un, un] 2 mixed (by kernel_rfl) hw1 ?_
 refine draw_go rfl (pu rfl (pv_move rfl) (pu rfl (pv_move rfl) (pu rfl (pv_cmp (v := false) rfl rfl rfl (by exact hb2)) (pu rfl (pv_move (by first | rfl | exact congrArg Value.bool hb2)) (pn (pn (pn (pn (pn (pn (pn ap0))))))))))) (rn (rn ao0)) rfl ?_
 refine ch_no [un, vb false] rfl rfl rfl nl rfl ?_ ch0
 refine draw_end rfl (pn (pu rfl (pv_pick (b := false) (v := vb false) rfl rfl) ap0)) ao0 ?_
 exact ⟨false, ⟨rfl, rfl, rfl, rfl, rfl, rfl, trivial⟩, h⟩
 rintro f w5 ⟨x7, ha, h⟩
 obtain ⟨g1, rfl⟩ := canon ha
 refine WX_cond (b := x7) rfl (fun hb3 => ?_) (fun hb3 => ?_)
 have h := h.1 hb3
 refine WX_skip ?_
 refine WX_block ?_
 refine WX_region ?_
 refine mv (vi x3) rfl <| op_v (pv_add rfl rfl) <| mva (vi (IntKind.i64.wrap (x3 + 1))) rfl (ops_nil ?_)
 subst hn_nxt2
 obtain ⟨m2, hm2, h⟩ := h
 exact ⟨m2, hm2, (IntKind.i64.wrap (x3 + 1)), ⟨rfl, rfl, rfl, rfl, rfl, trivial⟩, h⟩
 have h := h.2 hb3
 refine WX_exit0 ?_
 exact ⟨x3, ⟨rfl, rfl, rfl, rfl, rfl, trivial⟩, h⟩
 rintro f w6 ⟨x8, ha, h⟩
 obtain ⟨g6, rfl⟩ := canon ha
 refine WX_seq ?_
 refine WX_seq (WX_region ?_)
 refine mv (vi x8) rfl <| mv (vi a2) rfl <| op_v (pv_cmp (v := (x8 == a2)) rfl rfl rfl rfl) (ops_nil ?_)
 refine WX_cond (b := (x8 == a2)) rfl (fun hb4 => ?_) (fun hb4 => ?_)
 have h := h.1 hb4
 refine WX_seq (WX_region ?_)
 refine mva (vb true) rfl (ops_nil ?_)
 refine WX_ret ?_
 exact fin_of [vb true] rfl ⟨rfl, trivial⟩ h
 have h := h.2 hb4
 refine WX_skip <| WX_seq <| WX_seq (WX_region ?_)
 refine mv (vi a2) rfl <| mv (vi a1) rfl <| op_v (pv_sub rfl rfl) ?_
 refine op_v (pv_cmp (v := decide ((IntKind.i64.wrap (a2 - a1)) < 50)) rfl rfl rfl rfl) (ops_nil ?_)
 refine WX_cond (b := decide ((IntKind.i64.wrap (a2 - a1)) < 50)) rfl (fun hb5 => ?_) (fun hb5 => ?_)
 have h := h.1 hb5
 refine WX_seq (WX_region ?_)
 refine mva (vb false) rfl (ops_nil ?_)
 refine WX_ret ?_
 exact fin_of [vb false] rfl ⟨rfl, trivial⟩ h
 have h := h.2 hb5
 refine WX_skip <| WX_seq ?_
 obtain ⟨w7, hw2, h⟩ := dwe h
 obtain ⟨b3, o3, hi7, hi8, hi9, x9, hx9, b4, o4, hi10, hi11, hi12, x10, hx10, b5, o5, hi13, hi14, hi15, h⟩ := h
 refine WX_dr [15,17] [0,1,2,3,4,5,6,7,8,10,11,12,14,16] [⟨[],[0,1,2,3,4,5,6,7,8,10,11,12,14],[9,13],[(15,[15,16],1)]⟩,⟨[15],[16],[],[(17,[17],2)]⟩,⟨[17,15],[],[],[]⟩] [.slice a0.a a0.len a0.cap, vi x8, .slice a0.a a0.len a0.cap, vi x8, vi (IntKind.i64.wrap (x8 - 1)), .slice a0.a a0.len a0.cap, vi x8, vi (IntKind.i64.wrap (x8 - 1)), vp b3 (o3 + ((IntKind.i64.wrap (x8 - 1))).toNat * 1), vu x9, .slice a0.a a0.len a0.cap, vi x8, vp b4 (o4 + (x8).toNat * 1), vu x10, vp b5 (o5 + (x8).toNat * 1), un, un, un] 3 mixed (by kernel_rfl) hw2 ?_
 refine draw_go rfl (pu rfl (pv_move rfl) (pu rfl (pv_move rfl) (pu rfl (pv_move rfl) (pu rfl (pv_move rfl) (pu rfl (pv_sub rfl rfl) (pu rfl (pv_move rfl) (pu rfl (pv_move rfl) (pu rfl (pv_sub rfl rfl) (pu rfl (pv_ix (s := a0) ez_24 rfl rfl hi7 hi8 hi9) (pu rfl (pv_move rfl) (pu rfl (pv_move rfl) (pu rfl (pv_ix (s := a0) ez_24 rfl rfl hi10 hi11 hi12) (pu rfl (pv_ix (s := a0) ez_24 rfl rfl hi13 hi14 hi15) ap0))))))))))))) (ro rfl (pv_ld ty_36 rfl hx9) (ro rfl (pv_ld ty_36 rfl hx10) ao0)) rfl ?_
 refine cy rfl rfl ?_
 refine pw_st (x := x9) ty_36 rfl rfl h.1 ?_
 intro w8 hw3
 replace h := h.2 w8 hw3
 obtain ⟨b6, o6, hi16, hi17, hi18, h⟩ := h
 refine nx [vp b6 (o6 + ((IntKind.i64.wrap (x8 - 1))).toNat * 1)] rfl nl rfl ?_
 refine draw_go rfl (pu rfl (pv_ix (s := a0) ez_24 rfl rfl hi16 hi17 hi18) ap0) ao0 rfl ?_
 refine cy rfl rfl ?_
 refine pw_st (x := x10) ty_36 rfl rfl h.1 ?_
 intro w9 hw4
 replace h := h.2 w9 hw4
 refine nx [] rfl nl rfl ?_
 refine draw_end rfl ap0 ao0 ?_
 refine WX_join (fun f w16 => Agree f [(0, .slice a0.a a0.len a0.cap), (1, vi a1), (2, vi a2), (7, vi x8), (8, vi x2)] /\ sh_f98_j6 a0 a2 x2 nxt1 x8 w16) ?_ ?_
 refine WX_seq (WX_region ?_)
 refine mv (vi x8) rfl <| mv (vi a1) rfl <| op_v (pv_sub rfl rfl) ?_
 refine op_v (pv_cmp (v := decide ((IntKind.i64.wrap (x8 - a1)) ≥ 2)) rfl rfl rfl rfl) (ops_nil ?_)
 refine WX_cond (b := decide ((IntKind.i64.wrap (x8 - a1)) ≥ 2)) rfl (fun hb8 => ?_) (fun hb8 => ?_)
 have h := h.1 hb8
 refine WX_seq (WX_region ?_)
 refine mv (vi x8) rfl <| op_v (pv_sub rfl rfl) <| mva (vi (IntKind.i64.wrap (x8 - 1))) rfl (ops_nil ?_)
 refine WX_block ?_
 obtain ⟨I3, ⟨m, h0⟩, hB2⟩ := h
 refine WX_loop (fun m f w10 => ∃ x11 : Int, Agree f [(0, .slice a0.a a0.len a0.cap), (1, vi a1), (2, vi a2), (7, vi x8), (8, vi x2), (9, vi x11)] /\ I3 m x11 w10) ⟨m, (IntKind.i64.wrap (x8 - 1)), ⟨rfl, rfl, rfl, rfl, rfl, rfl, trivial⟩, h0⟩ ?_
 clear h0 m
 rintro m f w10 ⟨x11, ha, h⟩
 obtain ⟨g3, rfl⟩ := canon ha
 replace h := hB2 m x11 w10 h
 clear hB2
 generalize hn_nxt3 : (fun (y0 : Int) (w : World) => ∃ m2, m2 < m /\ I3 m2 y0 w) = nxt3 at h
 refine WX_seq ?_
 refine WX_seq (WX_region ?_)
 refine mv (vi x11) rfl <| op_v (pv_cmp (v := decide (x11 ≥ 1)) rfl rfl rfl rfl) (ops_nil ?_)
 refine WX_cond (b := decide (x11 ≥ 1)) rfl (fun hb6 => ?_) (fun hb6 => ?_)
 have h := h.1 hb6
 refine WX_skip <| WX_seq ?_
 refine WX_block ?_
 refine WX_seq ?_
 refine WX_seq ?_
 obtain ⟨w11, hw5, h⟩ := dwe h
 obtain ⟨b7, o7, hi19, hi20, hi21, x12, hx12, b8, o8, hi22, hi23, hi24, x13, hx13, h⟩ := h
 refine WX_dr [9] [0,1,2,4,5,6,7,10] [⟨[],[0,1,2,4,5,6,7],[3,8],[(9,[9,10],1)]⟩,⟨[9],[10],[],[]⟩] [.slice a0.a a0.len a0.cap, vi x11, vp b7 (o7 + (x11).toNat * 1), vu x12, .slice a0.a a0.len a0.cap, vi x11, vi (IntKind.i64.wrap (x11 - 1)), vp b8 (o8 + ((IntKind.i64.wrap (x11 - 1))).toNat * 1), vu x13, un, un] 2 mixed (by kernel_rfl) hw5 ?_
 refine draw_go rfl (pu rfl (pv_move rfl) (pu rfl (pv_move rfl) (pu rfl (pv_ix (s := a0) ez_24 rfl rfl hi19 hi20 hi21) (pu rfl (pv_move rfl) (pu rfl (pv_move rfl) (pu rfl (pv_sub rfl rfl) (pu rfl (pv_ix (s := a0) ez_24 rfl rfl hi22 hi23 hi24) ap0))))))) (ro rfl (pv_ld ty_36 rfl hx12) (ro rfl (pv_ld ty_36 rfl hx13) ao0)) rfl ?_
 refine cy rfl rfl ?_
 refine pw_call co_99 rfl (cm h ?_)
 rintro v2 w12 ⟨x14, rfl, h⟩
 refine nx [vb (!x14)] rfl nl rfl ?_
 refine draw_end rfl (pu rfl (pv_not rfl) ap0) ao0 ?_
 refine WX_cond (b := (!x14)) rfl (fun hb7 => ?_) (fun hb7 => ?_)
 have h := h.1 hb7
 refine WX_exit1 ?_
 exact ⟨⟨rfl, rfl, rfl, rfl, rfl, trivial⟩, h⟩
 have h := h.2 hb7
 refine WX_skip ?_
 obtain ⟨w13, hw6, h⟩ := dwe h
 obtain ⟨b9, o9, hi25, hi26, hi27, x15, hx15, b10, o10, hi28, hi29, hi30, x16, hx16, b11, o11, hi31, hi32, hi33, h⟩ := h
 refine WX_dr [15,17] [0,1,2,3,4,5,6,7,8,10,11,12,14,16] [⟨[],[0,1,2,3,4,5,6,7,8,10,11,12,14],[9,13],[(15,[15,16],1)]⟩,⟨[15],[16],[],[(17,[17],2)]⟩,⟨[17,15],[],[],[]⟩] [.slice a0.a a0.len a0.cap, vi x11, .slice a0.a a0.len a0.cap, vi x11, vi (IntKind.i64.wrap (x11 - 1)), .slice a0.a a0.len a0.cap, vi x11, vi (IntKind.i64.wrap (x11 - 1)), vp b9 (o9 + ((IntKind.i64.wrap (x11 - 1))).toNat * 1), vu x15, .slice a0.a a0.len a0.cap, vi x11, vp b10 (o10 + (x11).toNat * 1), vu x16, vp b11 (o11 + (x11).toNat * 1), un, un, un] 3 mixed (by kernel_rfl) hw6 ?_
 refine draw_go rfl (pu rfl (pv_move rfl) (pu rfl (pv_move rfl) (pu rfl (pv_move rfl) (pu rfl (pv_move rfl) (pu rfl (pv_sub rfl rfl) (pu rfl (pv_move rfl) (pu rfl (pv_move rfl) (pu rfl (pv_sub rfl rfl) (pu rfl (pv_ix (s := a0) ez_24 rfl rfl hi25 hi26 hi27) (pu rfl (pv_move rfl) (pu rfl (pv_move rfl) (pu rfl (pv_ix (s := a0) ez_24 rfl rfl hi28 hi29 hi30) (pu rfl (pv_ix (s := a0) ez_24 rfl rfl hi31 hi32 hi33) ap0))))))))))))) (ro rfl (pv_ld ty_36 rfl hx15) (ro rfl (pv_ld ty_36 rfl hx16) ao0)) rfl ?_
 refine cy rfl rfl ?_
 refine pw_st (x := x15) ty_36 rfl rfl h.1 ?_
 intro w14 hw7
 replace h := h.2 w14 hw7
 obtain ⟨b12, o12, hi34, hi35, hi36, h⟩ := h
 refine nx [vp b12 (o12 + ((IntKind.i64.wrap (x11 - 1))).toNat * 1)] rfl nl rfl ?_
 refine draw_go rfl (pu rfl (pv_ix (s := a0) ez_24 rfl rfl hi34 hi35 hi36) ap0) ao0 rfl ?_
 refine cy rfl rfl ?_
 refine pw_st (x := x16) ty_36 rfl rfl h.1 ?_
 intro w15 hw8
 replace h := h.2 w15 hw8
 refine nx [] rfl nl rfl ?_
 refine draw_end rfl ap0 ao0 ?_
 refine WX_region ?_
 refine mv (vi x11) rfl <| op_v (pv_sub rfl rfl) <| mva (vi (IntKind.i64.wrap (x11 - 1))) rfl (ops_nil ?_)
 subst hn_nxt3
 obtain ⟨m2, hm2, h⟩ := h
 exact ⟨m2, hm2, (IntKind.i64.wrap (x11 - 1)), ⟨rfl, rfl, rfl, rfl, rfl, rfl, trivial⟩, h⟩
 have h := h.2 hb6
 refine WX_exit0 ?_
 exact ⟨⟨rfl, rfl, rfl, rfl, rfl, trivial⟩, h⟩
 have h := h.2 hb8
 refine WX_skip ?_
 exact ⟨⟨rfl, rfl, rfl, rfl, rfl, trivial⟩, h⟩
 rintro f w16 ⟨ha, h⟩
 obtain ⟨g5, rfl⟩ := canon ha
 refine WX_seq (WX_region ?_)
 refine mv (vi a2) rfl <| mv (vi x8) rfl <| op_v (pv_sub rfl rfl) ?_
 refine op_v (pv_cmp (v := decide ((IntKind.i64.wrap (a2 - x8)) ≥ 2)) rfl rfl rfl rfl) (ops_nil ?_)
 refine WX_cond (b := decide ((IntKind.i64.wrap (a2 - x8)) ≥ 2)) rfl (fun hb11 => ?_) (fun hb11 => ?_)
 have h := h.1 hb11
 refine WX_seq (WX_region ?_)
 refine mv (vi x8) rfl <| op_v (pv_add rfl rfl) <| mva (vi (IntKind.i64.wrap (x8 + 1))) rfl (ops_nil ?_)
 refine WX_block ?_
 obtain ⟨I4, ⟨m, h0⟩, hB3⟩ := h
 refine WX_loop (fun m f w17 => ∃ x17 : Int, Agree f [(0, .slice a0.a a0.len a0.cap), (1, vi a1), (2, vi a2), (7, vi x8), (8, vi x2), (10, vi x17)] /\ I4 m x17 w17) ⟨m, (IntKind.i64.wrap (x8 + 1)), ⟨rfl, rfl, rfl, rfl, rfl, rfl, trivial⟩, h0⟩ ?_
 clear h0 m
 rintro m f w17 ⟨x17, ha, h⟩
 obtain ⟨g4, rfl⟩ := canon ha
 replace h := hB3 m x17 w17 h
 clear hB3
 generalize hn_nxt4 : (fun (y0 : Int) (w : World) => ∃ m2, m2 < m /\ I4 m2 y0 w) = nxt4 at h
 refine WX_seq ?_
 refine WX_seq (WX_region ?_)
 refine mv (vi x17) rfl <| mv (vi a2) rfl <| op_v (pv_cmp (v := decide (x17 < a2)) rfl rfl rfl rfl) (ops_nil ?_)
 refine WX_cond (b := decide (x17 < a2)) rfl (fun hb9 => ?_) (fun hb9 => ?_)
 have h := h.1 hb9
 refine WX_skip <| WX_seq ?_
 refine WX_block ?_
 refine WX_seq ?_
 refine WX_seq ?_
 obtain ⟨w18, hw9, h⟩ := dwe h
 obtain ⟨b13, o13, hi37, hi38, hi39, x18, hx18, b14, o14, hi40, hi41, hi42, x19, hx19, h⟩ := h
 refine WX_dr [9] [0,1,2,4,5,6,7,10] [⟨[],[0,1,2,4,5,6,7],[3,8],[(9,[9,10],1)]⟩,⟨[9],[10],[],[]⟩] [.slice a0.a a0.len a0.cap, vi x17, vp b13 (o13 + (x17).toNat * 1), vu x18, .slice a0.a a0.len a0.cap, vi x17, vi (IntKind.i64.wrap (x17 - 1)), vp b14 (o14 + ((IntKind.i64.wrap (x17 - 1))).toNat * 1), vu x19, un, un] 2 mixed (by kernel_rfl) hw9 ?_
 refine draw_go rfl (pu rfl (pv_move rfl) (pu rfl (pv_move rfl) (pu rfl (pv_ix (s := a0) ez_24 rfl rfl hi37 hi38 hi39) (pu rfl (pv_move rfl) (pu rfl (pv_move rfl) (pu rfl (pv_sub rfl rfl) (pu rfl (pv_ix (s := a0) ez_24 rfl rfl hi40 hi41 hi42) ap0))))))) (ro rfl (pv_ld ty_36 rfl hx18) (ro rfl (pv_ld ty_36 rfl hx19) ao0)) rfl ?_
 refine cy rfl rfl ?_
 refine pw_call co_99 rfl (cm h ?_)
 rintro v3 w19 ⟨x20, rfl, h⟩
 refine nx [vb (!x20)] rfl nl rfl ?_
 refine draw_end rfl (pu rfl (pv_not rfl) ap0) ao0 ?_
 refine WX_cond (b := (!x20)) rfl (fun hb10 => ?_) (fun hb10 => ?_)
 have h := h.1 hb10
 refine WX_exit1 ?_
 exact ⟨x8, ⟨rfl, rfl, rfl, rfl, rfl, trivial⟩, h⟩
 have h := h.2 hb10
 refine WX_skip ?_
 obtain ⟨w20, hw10, h⟩ := dwe h
 obtain ⟨b15, o15, hi43, hi44, hi45, x21, hx21, b16, o16, hi46, hi47, hi48, x22, hx22, b17, o17, hi49, hi50, hi51, h⟩ := h
 refine WX_dr [15,17] [0,1,2,3,4,5,6,7,8,10,11,12,14,16] [⟨[],[0,1,2,3,4,5,6,7,8,10,11,12,14],[9,13],[(15,[15,16],1)]⟩,⟨[15],[16],[],[(17,[17],2)]⟩,⟨[17,15],[],[],[]⟩] [.slice a0.a a0.len a0.cap, vi x17, .slice a0.a a0.len a0.cap, vi x17, vi (IntKind.i64.wrap (x17 - 1)), .slice a0.a a0.len a0.cap, vi x17, vi (IntKind.i64.wrap (x17 - 1)), vp b15 (o15 + ((IntKind.i64.wrap (x17 - 1))).toNat * 1), vu x21, .slice a0.a a0.len a0.cap, vi x17, vp b16 (o16 + (x17).toNat * 1), vu x22, vp b17 (o17 + (x17).toNat * 1), un, un, un] 3 mixed (by kernel_rfl) hw10 ?_
 refine draw_go rfl (pu rfl (pv_move rfl) (pu rfl (pv_move rfl) (pu rfl (pv_move rfl) (pu rfl (pv_move rfl) (pu rfl (pv_sub rfl rfl) (pu rfl (pv_move rfl) (pu rfl (pv_move rfl) (pu rfl (pv_sub rfl rfl) (pu rfl (pv_ix (s := a0) ez_24 rfl rfl hi43 hi44 hi45) (pu rfl (pv_move rfl) (pu rfl (pv_move rfl) (pu rfl (pv_ix (s := a0) ez_24 rfl rfl hi46 hi47 hi48) (pu rfl (pv_ix (s := a0) ez_24 rfl rfl hi49 hi50 hi51) ap0))))))))))))) (ro rfl (pv_ld ty_36 rfl hx21) (ro rfl (pv_ld ty_36 rfl hx22) ao0)) rfl ?_
 refine cy rfl rfl ?_
 refine pw_st (x := x21) ty_36 rfl rfl h.1 ?_
 intro w21 hw11
 replace h := h.2 w21 hw11
 obtain ⟨b18, o18, hi52, hi53, hi54, h⟩ := h
 refine nx [vp b18 (o18 + ((IntKind.i64.wrap (x17 - 1))).toNat * 1)] rfl nl rfl ?_
 refine draw_go rfl (pu rfl (pv_ix (s := a0) ez_24 rfl rfl hi52 hi53 hi54) ap0) ao0 rfl ?_
 refine cy rfl rfl ?_
 refine pw_st (x := x22) ty_36 rfl rfl h.1 ?_
 intro w22 hw12
 replace h := h.2 w22 hw12
 refine nx [] rfl nl rfl ?_
 refine draw_end rfl ap0 ao0 ?_
 refine WX_region ?_
 refine mv (vi x17) rfl <| op_v (pv_add rfl rfl) <| mva (vi (IntKind.i64.wrap (x17 + 1))) rfl (ops_nil ?_)
 subst hn_nxt4
 obtain ⟨m2, hm2, h⟩ := h
 exact ⟨m2, hm2, (IntKind.i64.wrap (x17 + 1)), ⟨rfl, rfl, rfl, rfl, rfl, rfl, trivial⟩, h⟩
 have h := h.2 hb9
 refine WX_exit0 ?_
 exact ⟨x8, ⟨rfl, rfl, rfl, rfl, rfl, trivial⟩, h⟩
 have h := h.2 hb11
 refine WX_skip ?_
 exact ⟨x8, ⟨rfl, rfl, rfl, rfl, rfl, trivial⟩, h⟩
 rintro f w23 ⟨x23, ha, h⟩
 obtain ⟨g7, rfl⟩ := canon ha
 refine WX_region ?_
 refine mv (vi x2) rfl <| op_v (pv_add rfl rfl) <| mva (vi (IntKind.i64.wrap (x2 + 1))) rfl (ops_nil ?_)
 subst hn_nxt1
 obtain ⟨m2, hm2, h⟩ := h
 exact ⟨m2, hm2, x23, (IntKind.i64.wrap (x2 + 1)), ⟨rfl, rfl, rfl, rfl, rfl, trivial⟩, h⟩
 have h := h.2 hb1
 refine WX_exit0 ?_
 exact ⟨ag0, h⟩
 rintro f w24 ⟨ha, h⟩
 obtain ⟨g9, rfl⟩ := canon ha
 refine WX_seq (WX_region ?_)
 refine mva (vb false) rfl (ops_nil ?_)
 refine WX_ret ?_
 exact fin_of [vb false] rfl ⟨rfl, trivial⟩ h
def sh_f99_j1 (Q : QW) (x3 : Bool) (w3 : World) : Prop :=
  Q (.bool x3) w3
def sh_f99 (a0 : Int) (a1 : Int) (Q : QW) (w0 : World) : Prop :=
  CallsR PP n_f105 #[.int .u64 a0] (fun v1 w1 => ∃ x1 : Bool, v1 = .bool x1 /\ (br x1 (CallsR PP n_f105 #[.int .u64 a1] (fun v2 w2 => ∃ x2 : Bool, v2 = .bool x2 /\ (br (!x2) ((sh_f99_j1 Q true w2)) ((sh_f99_j1 Q (decide (a0 < a1)) w2)))) w1) ((sh_f99_j1 Q (decide (a0 < a1)) w1)))) w0
theorem so_f99 {a0 : Int} {a1 : Int} (Q : QW) (w0 : World) (h : sh_f99 a0 a1 Q w0) : CallsR PP n_f99 #[.int .u64 a0, .int .u64 a1] Q w0 := by
 refine callsR_of_WX (args := [vu a0, vu a1]) Try.func99 rfl Try.ntmps99 nl ?_
 refine WX_seq (WX_region ?_)
 refine mva (vb false) rfl (ops_nil ?_)
 refine WX_join (fun f w3 => ∃ x3 : Bool, Agree f [(4, vb x3)] /\ sh_f99_j1 Q x3 w3) ?_ ?_
 refine WX_region ?_
 refine mv (vu a0) rfl <| op_w (pw_call co_105 rfl (CallsR.mono h ?_))
 rintro v1 w1 ⟨x1, rfl, h⟩
 refine mv (vb x1) rfl <| ops_split 7 (b := x1) rfl (fun hb1 => ?_) (fun hb1 => ?_)
 have h := h.1 hb1
 refine opg_v (pv_move (v := vu a1) rfl) <| opg_w (pw_call co_105 rfl (CallsR.mono h ?_))
 rintro v2 w2 ⟨x2, rfl, h⟩
 refine opg_v (pv_not rfl) <| op_v (pv_pick (b := true) (v := vb (!x2)) rfl rfl) <| mv (vb (!x2)) rfl ?_
 refine ops_split 12 (b := (!x2)) rfl (fun hb2 => ?_) (fun hb2 => ?_)
 have h := h.1 hb2
 iterate 3 refine opg_no ?_
 refine op_v (pv_pick (b := true) (v := vb true) rfl rfl) <| mva (vb true) rfl (ops_nil ?_)
 exact ⟨true, ⟨rfl, trivial⟩, h⟩
 have h := h.2 hb2
 refine opg_v (pv_move (v := vu a0) rfl) <| opg_v (pv_move (v := vu a1) rfl) <| opg_v (pv_cmp (v := decide (a0 < a1)) rfl rfl rfl rfl) ?_
 refine op_v (pv_pick (b := false) (v := vb (decide (a0 < a1))) rfl rfl) <| mva (vb (decide (a0 < a1))) rfl (ops_nil ?_)
 exact ⟨decide (a0 < a1), ⟨rfl, trivial⟩, h⟩
 have h := h.2 hb1
 iterate 3 refine opg_no ?_
 refine op_v (pv_pick (b := false) (v := vb false) rfl rfl) <| mv (vb false) rfl <| opg_v (pv_move (v := vu a0) rfl) ?_
 refine opg_v (pv_move (v := vu a1) rfl) <| opg_v (pv_cmp (v := decide (a0 < a1)) rfl rfl rfl rfl) ?_
 refine op_v (pv_pick (b := false) (v := vb (decide (a0 < a1))) rfl rfl) <| mva (vb (decide (a0 < a1))) rfl (ops_nil ?_)
 exact ⟨decide (a0 < a1), ⟨rfl, trivial⟩, h⟩
 rintro f w3 ⟨x3, ha, h⟩
 obtain ⟨g1, rfl⟩ := canon ha
 refine WX_ret ?_
 exact fin_of [vb x3] rfl ⟨rfl, trivial⟩ h
def sh_f100_j8 (Q : QW) (x19 : Int) (w18 : World) : Prop :=
  Q (.int .i64 x19) w18
def sh_f100_j7 (a0 : Sl) (Q : QW) (nxt1 : Int -> Int -> World -> Prop) (x10 : Int) (x16 : Int) (w14 : World) : Prop :=
  br (decide (x10 > x16)) ((sh_f100_j8 Q x10 w14)) (dw w14 fun w15 => ixs a0 x16 fun b9 o9 => ld tU64 w15 b9 (o9 + (x16).toNat * 1) fun x17 => ixs a0 x10 fun b10 o10 => ld tU64 w15 b10 (o10 + (x10).toNat * 1) fun x18 => ixs a0 x10 fun b11 o11 => st tU64 w15 b11 (o11 + (x10).toNat * 1) x17 fun w16 => ixs a0 x16 fun b12 o12 => st tU64 w16 b12 (o12 + (x16).toNat * 1) x18 fun w17 => nxt1 (IntKind.i64.wrap (x10 + 1)) (IntKind.i64.wrap (x16 - 1)) w17)
def sh_f100_j6 (a0 : Sl) (Q : QW) (nxt1 : Int -> Int -> World -> Prop) (x10 : Int) (x11 : Int) (nxt3 : Int -> World -> Prop) (x15 : Bool) (w13 : World) : Prop :=
  br x15 (nxt3 (IntKind.i64.wrap (x11 - 1)) w13) ((sh_f100_j7 a0 Q nxt1 x10 x11 w13))
def sh_f100_b5 (a0 : Sl) (a1 : Int) (Q : QW) (nxt1 : Int -> Int -> World -> Prop) (x10 : Int) (x11 : Int) (w10 : World) (nxt3 : Int -> World -> Prop) : Prop :=
  dw w10 fun w11 => br (decide (x10 <= x11)) (ixs a0 a1 fun b7 o7 => ld tU64 w11 b7 (o7 + (a1).toNat * 1) fun x12 => ixs a0 x11 fun b8 o8 => ld tU64 w11 b8 (o8 + (x11).toNat * 1) fun x13 => CallsR PP n_f99 #[.int .u64 x12, .int .u64 x13] (fun v2 w12 => ∃ x14 : Bool, v2 = .bool x14 /\ ((sh_f100_j6 a0 Q nxt1 x10 x11 nxt3 x14 w12))) w11) ((sh_f100_j6 a0 Q nxt1 x10 x11 nxt3 false w11))
def sh_f100_j4 (a0 : Sl) (a1 : Int) (Q : QW) (x4 : Int) (nxt1 : Int -> Int -> World -> Prop) (x10 : Int) (w9 : World) : Prop :=
  (∃ I3 : Nat -> Int -> World -> Prop, (∃ m, I3 m x4 w9) /\ ∀ m x11 w10, I3 m x11 w10 -> sh_f100_b5 a0 a1 Q nxt1 x10 x11 w10 (fun y0 w => ∃ m2, m2 < m /\ I3 m2 y0 w))
def sh_f100_j3 (a0 : Sl) (a1 : Int) (Q : QW) (x4 : Int) (nxt1 : Int -> Int -> World -> Prop) (x5 : Int) (nxt2 : Int -> World -> Prop) (x9 : Bool) (w8 : World) : Prop :=
  br x9 (nxt2 (IntKind.i64.wrap (x5 + 1)) w8) ((sh_f100_j4 a0 a1 Q x4 nxt1 x5 w8))
def sh_f100_b2 (a0 : Sl) (a1 : Int) (Q : QW) (x4 : Int) (nxt1 : Int -> Int -> World -> Prop) (x5 : Int) (w5 : World) (nxt2 : Int -> World -> Prop) : Prop :=
  dw w5 fun w6 => br (decide (x5 <= x4)) (ixs a0 a1 fun b5 o5 => ld tU64 w6 b5 (o5 + (a1).toNat * 1) fun x6 => ixs a0 x5 fun b6 o6 => ld tU64 w6 b6 (o6 + (x5).toNat * 1) fun x7 => CallsR PP n_f99 #[.int .u64 x6, .int .u64 x7] (fun v1 w7 => ∃ x8 : Bool, v1 = .bool x8 /\ ((sh_f100_j3 a0 a1 Q x4 nxt1 x5 nxt2 (!x8) w7))) w6) ((sh_f100_j3 a0 a1 Q x4 nxt1 x5 nxt2 false w6))
def sh_f100_b1 (a0 : Sl) (a1 : Int) (Q : QW) (x3 : Int) (x4 : Int) (w4 : World) (nxt1 : Int -> Int -> World -> Prop) : Prop :=
  (∃ I2 : Nat -> Int -> World -> Prop, (∃ m, I2 m x3 w4) /\ ∀ m x5 w5, I2 m x5 w5 -> sh_f100_b2 a0 a1 Q x4 nxt1 x5 w5 (fun y0 w => ∃ m2, m2 < m /\ I2 m2 y0 w))
def sh_f100 (a0 : Sl) (a1 : Int) (a2 : Int) (a3 : Int) (Q : QW) (w0 : World) : Prop :=
  dw w0 fun w1 => ixs a0 a3 fun b1 o1 => ld tU64 w1 b1 (o1 + (a3).toNat * 1) fun x1 => ixs a0 a1 fun b2 o2 => ld tU64 w1 b2 (o2 + (a1).toNat * 1) fun x2 => ixs a0 a1 fun b3 o3 => st tU64 w1 b3 (o3 + (a1).toNat * 1) x1 fun w2 => ixs a0 a3 fun b4 o4 => st tU64 w2 b4 (o4 + (a3).toNat * 1) x2 fun w3 => (∃ I1 : Nat -> Int -> Int -> World -> Prop, (∃ m, I1 m (IntKind.i64.wrap (a1 + 1)) (IntKind.i64.wrap (a2 - 1)) w3) /\ ∀ m x3 x4 w4, I1 m x3 x4 w4 -> sh_f100_b1 a0 a1 Q x3 x4 w4 (fun y0 y1 w => ∃ m2, m2 < m /\ I1 m2 y0 y1 w))
theorem so_f100 {a0 : Sl} {a1 : Int} {a2 : Int} {a3 : Int} (Q : QW) (w0 : World) (h : sh_f100 a0 a1 a2 a3 Q w0) : CallsR PP n_f100 #[.slice a0.a a0.len a0.cap, .int .i64 a1, .int .i64 a2, .int .i64 a3] Q w0 := by
 refine callsR_of_WX (args := [.slice a0.a a0.len a0.cap, vi a1, vi a2, vi a3]) Try.func100 rfl Try.ntmps100 nl ?_
 refine WX_seq (WX_region ?_)
 refine mva (vi 0) rfl (ops_nil ?_)
 refine WX_seq ?_
 obtain ⟨w1, hw1, h⟩ := dwe h
 obtain ⟨b1, o1, hi1, hi2, hi3, x1, hx1, b2, o2, hi4, hi5, hi6, x2, hx2, b3, o3, hi7, hi8, hi9, h⟩ := h
 refine WX_dr [13,15] [0,1,2,3,4,5,6,8,9,10,12,14] [⟨[],[0,1,2,3,4,5,6,8,9,10,12],[7,11],[(13,[13,14],1)]⟩,⟨[13],[14],[],[(15,[15],2)]⟩,⟨[15,13],[],[],[]⟩] [.slice a0.a a0.len a0.cap, vi a1, .slice a0.a a0.len a0.cap, vi a3, .slice a0.a a0.len a0.cap, vi a3, vp b1 (o1 + (a3).toNat * 1), vu x1, .slice a0.a a0.len a0.cap, vi a1, vp b2 (o2 + (a1).toNat * 1), vu x2, vp b3 (o3 + (a1).toNat * 1), un, un, un] 3 mixed (by kernel_rfl) hw1 ?_
 refine draw_go rfl (pu rfl (pv_move rfl) (pu rfl (pv_move rfl) (pu rfl (pv_move rfl) (pu rfl (pv_move rfl) (pu rfl (pv_move rfl) (pu rfl (pv_move rfl) (pu rfl (pv_ix (s := a0) ez_24 rfl rfl hi1 hi2 hi3) (pu rfl (pv_move rfl) (pu rfl (pv_move rfl) (pu rfl (pv_ix (s := a0) ez_24 rfl rfl hi4 hi5 hi6) (pu rfl (pv_ix (s := a0) ez_24 rfl rfl hi7 hi8 hi9) ap0))))))))))) (ro rfl (pv_ld ty_36 rfl hx1) (ro rfl (pv_ld ty_36 rfl hx2) ao0)) rfl ?_
 refine cy rfl rfl ?_
 refine pw_st (x := x1) ty_36 rfl rfl h.1 ?_
 intro w2 hw2
 replace h := h.2 w2 hw2
 obtain ⟨b4, o4, hi10, hi11, hi12, h⟩ := h
 refine nx [vp b4 (o4 + (a3).toNat * 1)] rfl nl rfl ?_
 refine draw_go rfl (pu rfl (pv_ix (s := a0) ez_24 rfl rfl hi10 hi11 hi12) ap0) ao0 rfl ?_
 refine cy rfl rfl ?_
 refine pw_st (x := x2) ty_36 rfl rfl h.1 ?_
 intro w3 hw3
 replace h := h.2 w3 hw3
 refine nx [] rfl nl rfl ?_
 refine draw_end rfl ap0 ao0 ?_
 refine WX_seq (WX_region ?_)
 refine mv (vi a1) rfl <| op_v (pv_add rfl rfl) <| mv (vi a2) rfl <| op_v (pv_sub rfl rfl) <| mva (vi (IntKind.i64.wrap (a1 + 1))) rfl ?_
 refine mva (vi (IntKind.i64.wrap (a2 - 1))) rfl (ops_nil ?_)
 refine WX_join (fun f w18 => ∃ x19 : Int, Agree f [(9, vi x19)] /\ sh_f100_j8 Q x19 w18) ?_ ?_
 refine WX_block ?_
 obtain ⟨I1, ⟨m, h0⟩, hB3⟩ := h
 refine WX_loop (fun m f w4 => ∃ x3 : Int, ∃ x4 : Int, Agree f [(0, .slice a0.a a0.len a0.cap), (1, vi a1), (9, vi x3), (10, vi x4)] /\ I1 m x3 x4 w4) ⟨m, (IntKind.i64.wrap (a1 + 1)), (IntKind.i64.wrap (a2 - 1)), ⟨rfl, rfl, rfl, rfl, trivial⟩, h0⟩ ?_
 clear h0 m
 rintro m f w4 ⟨x3, x4, ha, h⟩
 obtain ⟨g7, rfl⟩ := canon ha
 replace h := hB3 m x3 x4 w4 h
 clear hB3
 generalize hn_nxt1 : (fun (y0 : Int) (y1 : Int) (w : World) => ∃ m2, m2 < m /\ I1 m2 y0 y1 w) = nxt1 at h
 refine WX_block ?_
 refine WX_join (fun f w9 => ∃ x10 : Int, Agree f [(0, .slice a0.a a0.len a0.cap), (1, vi a1), (9, vi x10), (10, vi x4)] /\ sh_f100_j4 a0 a1 Q x4 nxt1 x10 w9) ?_ ?_
 refine WX_block ?_
 obtain ⟨I2, ⟨m, h0⟩, hB1⟩ := h
 refine WX_loop (fun m f w5 => ∃ x5 : Int, Agree f [(0, .slice a0.a a0.len a0.cap), (1, vi a1), (9, vi x5), (10, vi x4)] /\ I2 m x5 w5) ⟨m, x3, ⟨rfl, rfl, rfl, rfl, trivial⟩, h0⟩ ?_
 clear h0 m
 rintro m f w5 ⟨x5, ha, h⟩
 obtain ⟨g2, rfl⟩ := canon ha
 replace h := hB1 m x5 w5 h
 clear hB1
 generalize hn_nxt2 : (fun (y0 : Int) (w : World) => ∃ m2, m2 < m /\ I2 m2 y0 w) = nxt2 at h
 refine WX_seq ?_
 refine WX_join (fun f w8 => ∃ x9 : Bool, Agree f [(0, .slice a0.a a0.len a0.cap), (1, vi a1), (9, vi x5), (10, vi x4), (43, vb x9)] /\ sh_f100_j3 a0 a1 Q x4 nxt1 x5 nxt2 x9 w8) ?_ ?_
 obtain ⟨w6, hw4, h⟩ := dwe h
 refine dr_split (b := decide (x5 <= x4)) (fun hb1 => ?_) (fun hb1 => ?_)
 have h := h.1 hb1
 obtain ⟨b5, o5, hi13, hi14, hi15, x6, hx6, b6, o6, hi16, hi17, hi18, x7, hx7, h⟩ := h
 refine WX_dr [12] [0,1,2,3,4,5,6,8,9,10,13,14] [⟨[],[0,1,2,3,4,5,6,8,9,10],[7,11],[(12,[12,13,14],1)]⟩,⟨[12],[13,14],[],[]⟩] [vi x5, vi x4, vb true, vb true, .slice a0.a a0.len a0.cap, vi a1, vp b5 (o5 + (a1).toNat * 1), vu x6, .slice a0.a a0.len a0.cap, vi x5, vp b6 (o6 + (x5).toNat * 1), vu x7, un, un, un] 2 mixed (by kernel_rfl) hw4 ?_
 refine draw_go rfl (pu rfl (pv_move rfl) (pu rfl (pv_move rfl) (pu rfl (pv_cmp (v := true) rfl rfl rfl (by exact hb1)) (pu rfl (pv_move (by first | rfl | exact congrArg Value.bool hb1)) (pu rfl (pv_move rfl) (pu rfl (pv_move rfl) (pu rfl (pv_ix (s := a0) ez_24 rfl rfl hi13 hi14 hi15) (pu rfl (pv_move rfl) (pu rfl (pv_move rfl) (pu rfl (pv_ix (s := a0) ez_24 rfl rfl hi16 hi17 hi18) ap0)))))))))) (ro rfl (pv_ld ty_36 rfl hx6) (ro rfl (pv_ld ty_36 rfl hx7) ao0)) rfl ?_
 refine cy rfl rfl ?_
 refine pw_call co_99 rfl (cm h ?_)
 rintro v1 w7 ⟨x8, rfl, h⟩
 refine nx [vb (!x8), vb (!x8)] rfl nl rfl ?_
 refine draw_end rfl (pu rfl (pv_not rfl) (pu rfl (pv_pick (b := true) (v := vb (!x8)) rfl rfl) ap0)) ao0 ?_
 exact ⟨(!x8), ⟨rfl, rfl, rfl, rfl, rfl, trivial⟩, h⟩
 have h := h.2 hb1
 refine WX_dr [12] [0,1,2,3,4,5,6,8,9,10,13,14] [⟨[],[0,1,2,3,4,5,6,8,9,10],[7,11],[(12,[12,13,14],1)]⟩,⟨[12],[13,14],[],[]⟩] [vi x5, vi x4, vb false, vb false, un, un, un, un, un, un, un, un, un, un, un] 2 mixed (by kernel_rfl) hw4 ?_
 refine draw_go rfl (pu rfl (pv_move rfl) (pu rfl (pv_move rfl) (pu rfl (pv_cmp (v := false) rfl rfl rfl (by exact hb1)) (pu rfl (pv_move (by first | rfl | exact congrArg Value.bool hb1)) (pn (pn (pn (pn (pn (pn ap0)))))))))) (rn (rn ao0)) rfl ?_
 refine ch_no [un, vb false] rfl rfl rfl nl rfl ?_ ch0
 refine draw_end rfl (pn (pu rfl (pv_pick (b := false) (v := vb false) rfl rfl) ap0)) ao0 ?_
 exact ⟨false, ⟨rfl, rfl, rfl, rfl, rfl, trivial⟩, h⟩
 rintro f w8 ⟨x9, ha, h⟩
 obtain ⟨g1, rfl⟩ := canon ha
 refine WX_cond (b := x9) rfl (fun hb2 => ?_) (fun hb2 => ?_)
 have h := h.1 hb2
 refine WX_skip ?_
 refine WX_block ?_
 refine WX_region ?_
 refine mv (vi x5) rfl <| op_v (pv_add rfl rfl) <| mva (vi (IntKind.i64.wrap (x5 + 1))) rfl (ops_nil ?_)
 subst hn_nxt2
 obtain ⟨m2, hm2, h⟩ := h
 exact ⟨m2, hm2, (IntKind.i64.wrap (x5 + 1)), ⟨rfl, rfl, rfl, rfl, trivial⟩, h⟩
 have h := h.2 hb2
 refine WX_exit0 ?_
 exact ⟨x5, ⟨rfl, rfl, rfl, rfl, trivial⟩, h⟩
 rintro f w9 ⟨x10, ha, h⟩
 obtain ⟨g6, rfl⟩ := canon ha
 refine WX_join (fun f w14 => ∃ x16 : Int, Agree f [(0, .slice a0.a a0.len a0.cap), (1, vi a1), (9, vi x10), (10, vi x16)] /\ sh_f100_j7 a0 Q nxt1 x10 x16 w14) ?_ ?_
 refine WX_block ?_
 obtain ⟨I3, ⟨m, h0⟩, hB2⟩ := h
 refine WX_loop (fun m f w10 => ∃ x11 : Int, Agree f [(0, .slice a0.a a0.len a0.cap), (1, vi a1), (9, vi x10), (10, vi x11)] /\ I3 m x11 w10) ⟨m, x4, ⟨rfl, rfl, rfl, rfl, trivial⟩, h0⟩ ?_
 clear h0 m
 rintro m f w10 ⟨x11, ha, h⟩
 obtain ⟨g4, rfl⟩ := canon ha
 replace h := hB2 m x11 w10 h
 clear hB2
 generalize hn_nxt3 : (fun (y0 : Int) (w : World) => ∃ m2, m2 < m /\ I3 m2 y0 w) = nxt3 at h
 refine WX_seq ?_
 refine WX_join (fun f w13 => ∃ x15 : Bool, Agree f [(0, .slice a0.a a0.len a0.cap), (1, vi a1), (9, vi x10), (10, vi x11), (59, vb x15)] /\ sh_f100_j6 a0 Q nxt1 x10 x11 nxt3 x15 w13) ?_ ?_
 obtain ⟨w11, hw5, h⟩ := dwe h
 refine dr_split (b := decide (x10 <= x11)) (fun hb3 => ?_) (fun hb3 => ?_)
 have h := h.1 hb3
 obtain ⟨b7, o7, hi19, hi20, hi21, x12, hx12, b8, o8, hi22, hi23, hi24, x13, hx13, h⟩ := h
 refine WX_dr [12] [0,1,2,3,4,5,6,8,9,10,13] [⟨[],[0,1,2,3,4,5,6,8,9,10],[7,11],[(12,[12,13],1)]⟩,⟨[12],[13],[],[]⟩] [vi x10, vi x11, vb true, vb true, .slice a0.a a0.len a0.cap, vi a1, vp b7 (o7 + (a1).toNat * 1), vu x12, .slice a0.a a0.len a0.cap, vi x11, vp b8 (o8 + (x11).toNat * 1), vu x13, un, un] 2 mixed (by kernel_rfl) hw5 ?_
 refine draw_go rfl (pu rfl (pv_move rfl) (pu rfl (pv_move rfl) (pu rfl (pv_cmp (v := true) rfl rfl rfl (by exact hb3)) (pu rfl (pv_move (by first | rfl | exact congrArg Value.bool hb3)) (pu rfl (pv_move rfl) (pu rfl (pv_move rfl) (pu rfl (pv_ix (s := a0) ez_24 rfl rfl hi19 hi20 hi21) (pu rfl (pv_move rfl) (pu rfl (pv_move rfl) (pu rfl (pv_ix (s := a0) ez_24 rfl rfl hi22 hi23 hi24) ap0)))))))))) (ro rfl (pv_ld ty_36 rfl hx12) (ro rfl (pv_ld ty_36 rfl hx13) ao0)) rfl ?_
 refine cy rfl rfl ?_
 refine pw_call co_99 rfl (cm h ?_)
 rintro v2 w12 ⟨x14, rfl, h⟩
 refine nx [vb x14] rfl nl rfl ?_
 refine draw_end rfl (pu rfl (pv_pick (b := true) (v := vb x14) rfl rfl) ap0) ao0 ?_
 exact ⟨x14, ⟨rfl, rfl, rfl, rfl, rfl, trivial⟩, h⟩
 have h := h.2 hb3
 refine WX_dr [12] [0,1,2,3,4,5,6,8,9,10,13] [⟨[],[0,1,2,3,4,5,6,8,9,10],[7,11],[(12,[12,13],1)]⟩,⟨[12],[13],[],[]⟩] [vi x10, vi x11, vb false, vb false, un, un, un, un, un, un, un, un, un, un] 2 mixed (by kernel_rfl) hw5 ?_
 refine draw_go rfl (pu rfl (pv_move rfl) (pu rfl (pv_move rfl) (pu rfl (pv_cmp (v := false) rfl rfl rfl (by exact hb3)) (pu rfl (pv_move (by first | rfl | exact congrArg Value.bool hb3)) (pn (pn (pn (pn (pn (pn ap0)))))))))) (rn (rn ao0)) rfl ?_
 refine ch_no [vb false] rfl rfl rfl nl rfl ?_ ch0
 refine draw_end rfl (pu rfl (pv_pick (b := false) (v := vb false) rfl rfl) ap0) ao0 ?_
 exact ⟨false, ⟨rfl, rfl, rfl, rfl, rfl, trivial⟩, h⟩
 rintro f w13 ⟨x15, ha, h⟩
 obtain ⟨g3, rfl⟩ := canon ha
 refine WX_cond (b := x15) rfl (fun hb4 => ?_) (fun hb4 => ?_)
 have h := h.1 hb4
 refine WX_skip ?_
 refine WX_block ?_
 refine WX_region ?_
 refine mv (vi x11) rfl <| op_v (pv_sub rfl rfl) <| mva (vi (IntKind.i64.wrap (x11 - 1))) rfl (ops_nil ?_)
 subst hn_nxt3
 obtain ⟨m2, hm2, h⟩ := h
 exact ⟨m2, hm2, (IntKind.i64.wrap (x11 - 1)), ⟨rfl, rfl, rfl, rfl, trivial⟩, h⟩
 have h := h.2 hb4
 refine WX_exit0 ?_
 exact ⟨x11, ⟨rfl, rfl, rfl, rfl, trivial⟩, h⟩
 rintro f w14 ⟨x16, ha, h⟩
 obtain ⟨g5, rfl⟩ := canon ha
 refine WX_seq ?_
 refine WX_seq (WX_region ?_)
 refine mv (vi x10) rfl <| mv (vi x16) rfl <| op_v (pv_cmp (v := decide (x10 > x16)) rfl rfl rfl rfl) (ops_nil ?_)
 refine WX_cond (b := decide (x10 > x16)) rfl (fun hb5 => ?_) (fun hb5 => ?_)
 have h := h.1 hb5
 refine WX_exit1 ?_
 exact ⟨x10, ⟨rfl, trivial⟩, h⟩
 have h := h.2 hb5
 refine WX_skip <| WX_seq ?_
 obtain ⟨w15, hw6, h⟩ := dwe h
 obtain ⟨b9, o9, hi25, hi26, hi27, x17, hx17, b10, o10, hi28, hi29, hi30, x18, hx18, b11, o11, hi31, hi32, hi33, h⟩ := h
 refine WX_dr [13,15] [0,1,2,3,4,5,6,8,9,10,12,14] [⟨[],[0,1,2,3,4,5,6,8,9,10,12],[7,11],[(13,[13,14],1)]⟩,⟨[13],[14],[],[(15,[15],2)]⟩,⟨[15,13],[],[],[]⟩] [.slice a0.a a0.len a0.cap, vi x10, .slice a0.a a0.len a0.cap, vi x16, .slice a0.a a0.len a0.cap, vi x16, vp b9 (o9 + (x16).toNat * 1), vu x17, .slice a0.a a0.len a0.cap, vi x10, vp b10 (o10 + (x10).toNat * 1), vu x18, vp b11 (o11 + (x10).toNat * 1), un, un, un] 3 mixed (by kernel_rfl) hw6 ?_
 refine draw_go rfl (pu rfl (pv_move rfl) (pu rfl (pv_move rfl) (pu rfl (pv_move rfl) (pu rfl (pv_move rfl) (pu rfl (pv_move rfl) (pu rfl (pv_move rfl) (pu rfl (pv_ix (s := a0) ez_24 rfl rfl hi25 hi26 hi27) (pu rfl (pv_move rfl) (pu rfl (pv_move rfl) (pu rfl (pv_ix (s := a0) ez_24 rfl rfl hi28 hi29 hi30) (pu rfl (pv_ix (s := a0) ez_24 rfl rfl hi31 hi32 hi33) ap0))))))))))) (ro rfl (pv_ld ty_36 rfl hx17) (ro rfl (pv_ld ty_36 rfl hx18) ao0)) rfl ?_
 refine cy rfl rfl ?_
 refine pw_st (x := x17) ty_36 rfl rfl h.1 ?_
 intro w16 hw7
 replace h := h.2 w16 hw7
 obtain ⟨b12, o12, hi34, hi35, hi36, h⟩ := h
 refine nx [vp b12 (o12 + (x16).toNat * 1)] rfl nl rfl ?_
 refine draw_go rfl (pu rfl (pv_ix (s := a0) ez_24 rfl rfl hi34 hi35 hi36) ap0) ao0 rfl ?_
 refine cy rfl rfl ?_
 refine pw_st (x := x18) ty_36 rfl rfl h.1 ?_
 intro w17 hw8
 replace h := h.2 w17 hw8
 refine nx [] rfl nl rfl ?_
 refine draw_end rfl ap0 ao0 ?_
 refine WX_seq (WX_region ?_)
 refine mv (vi x10) rfl <| op_v (pv_add rfl rfl) <| mva (vi (IntKind.i64.wrap (x10 + 1))) rfl (ops_nil ?_)
 refine WX_region ?_
 refine mv (vi x16) rfl <| op_v (pv_sub rfl rfl) <| mva (vi (IntKind.i64.wrap (x16 - 1))) rfl (ops_nil ?_)
 subst hn_nxt1
 obtain ⟨m2, hm2, h⟩ := h
 exact ⟨m2, hm2, (IntKind.i64.wrap (x10 + 1)), (IntKind.i64.wrap (x16 - 1)), ⟨rfl, rfl, rfl, rfl, trivial⟩, h⟩
 rintro f w18 ⟨x19, ha, h⟩
 obtain ⟨g8, rfl⟩ := canon ha
 refine WX_seq (WX_region ?_)
 refine mv (vi x19) rfl <| mva (vi x19) rfl (ops_nil ?_)
 refine WX_ret ?_
 exact fin_of [vi x19] rfl ⟨rfl, trivial⟩ h
end Go.Proofs.Ytdefmgkicdhmkaa
namespace Go.Proofs.Ytdefmgkicdhmkaa
open Go Go.Sx
set_option linter.unusedVariables false
set_option maxRecDepth 100000
set_option maxHeartbeats 2000000
def sh_f101_j14 (a0 : Sl) (a1 : Int) (Q : QW) (x35 : Int) (w34 : World) : Prop :=
  dw w34 fun w35 => ixs a0 a1 fun b25 o25 => ld tU64 w35 b25 (o25 + (a1).toNat * 1) fun x36 => ixs a0 x35 fun b26 o26 => ld tU64 w35 b26 (o26 + (x35).toNat * 1) fun x37 => ixs a0 x35 fun b27 o27 => st tU64 w35 b27 (o27 + (x35).toNat * 1) x36 fun w36 => ixs a0 a1 fun b28 o28 => st tU64 w36 b28 (o28 + (a1).toNat * 1) x37 fun w37 => Q (.tuple #[.int .i64 x35, .bool false]) w37
def sh_f101_j13 (a0 : Sl) (a1 : Int) (Q : QW) (nxt3 : Int -> Int -> World -> Prop) (x26 : Int) (x32 : Int) (w30 : World) : Prop :=
  br (decide (x26 > x32)) ((sh_f101_j14 a0 a1 Q x32 w30)) (dw w30 fun w31 => ixs a0 x32 fun b21 o21 => ld tU64 w31 b21 (o21 + (x32).toNat * 1) fun x33 => ixs a0 x26 fun b22 o22 => ld tU64 w31 b22 (o22 + (x26).toNat * 1) fun x34 => ixs a0 x26 fun b23 o23 => st tU64 w31 b23 (o23 + (x26).toNat * 1) x33 fun w32 => ixs a0 x32 fun b24 o24 => st tU64 w32 b24 (o24 + (x32).toNat * 1) x34 fun w33 => nxt3 (IntKind.i64.wrap (x26 + 1)) (IntKind.i64.wrap (x32 - 1)) w33)
def sh_f101_j12 (a0 : Sl) (a1 : Int) (Q : QW) (nxt3 : Int -> Int -> World -> Prop) (x26 : Int) (x27 : Int) (nxt5 : Int -> World -> Prop) (x31 : Bool) (w29 : World) : Prop :=
  br x31 (nxt5 (IntKind.i64.wrap (x27 - 1)) w29) ((sh_f101_j13 a0 a1 Q nxt3 x26 x27 w29))
def sh_f101_b11 (a0 : Sl) (a1 : Int) (Q : QW) (nxt3 : Int -> Int -> World -> Prop) (x26 : Int) (x27 : Int) (w26 : World) (nxt5 : Int -> World -> Prop) : Prop :=
  dw w26 fun w27 => br (decide (x26 <= x27)) (ixs a0 x27 fun b19 o19 => ld tU64 w27 b19 (o19 + (x27).toNat * 1) fun x28 => ixs a0 a1 fun b20 o20 => ld tU64 w27 b20 (o20 + (a1).toNat * 1) fun x29 => CallsR PP n_f99 #[.int .u64 x28, .int .u64 x29] (fun v4 w28 => ∃ x30 : Bool, v4 = .bool x30 /\ ((sh_f101_j12 a0 a1 Q nxt3 x26 x27 nxt5 (!x30) w28))) w27) ((sh_f101_j12 a0 a1 Q nxt3 x26 x27 nxt5 false w27))
def sh_f101_j10 (a0 : Sl) (a1 : Int) (Q : QW) (x20 : Int) (nxt3 : Int -> Int -> World -> Prop) (x26 : Int) (w25 : World) : Prop :=
  (∃ I5 : Nat -> Int -> World -> Prop, (∃ m, I5 m x20 w25) /\ ∀ m x27 w26, I5 m x27 w26 -> sh_f101_b11 a0 a1 Q nxt3 x26 x27 w26 (fun y0 w => ∃ m2, m2 < m /\ I5 m2 y0 w))
def sh_f101_j9 (a0 : Sl) (a1 : Int) (Q : QW) (x20 : Int) (nxt3 : Int -> Int -> World -> Prop) (x21 : Int) (nxt4 : Int -> World -> Prop) (x25 : Bool) (w24 : World) : Prop :=
  br x25 (nxt4 (IntKind.i64.wrap (x21 + 1)) w24) ((sh_f101_j10 a0 a1 Q x20 nxt3 x21 w24))
def sh_f101_b8 (a0 : Sl) (a1 : Int) (Q : QW) (x20 : Int) (nxt3 : Int -> Int -> World -> Prop) (x21 : Int) (w21 : World) (nxt4 : Int -> World -> Prop) : Prop :=
  dw w21 fun w22 => br (decide (x21 <= x20)) (ixs a0 x21 fun b17 o17 => ld tU64 w22 b17 (o17 + (x21).toNat * 1) fun x22 => ixs a0 a1 fun b18 o18 => ld tU64 w22 b18 (o18 + (a1).toNat * 1) fun x23 => CallsR PP n_f99 #[.int .u64 x22, .int .u64 x23] (fun v3 w23 => ∃ x24 : Bool, v3 = .bool x24 /\ ((sh_f101_j9 a0 a1 Q x20 nxt3 x21 nxt4 x24 w23))) w22) ((sh_f101_j9 a0 a1 Q x20 nxt3 x21 nxt4 false w22))
def sh_f101_b7 (a0 : Sl) (a1 : Int) (Q : QW) (x19 : Int) (x20 : Int) (w20 : World) (nxt3 : Int -> Int -> World -> Prop) : Prop :=
  (∃ I4 : Nat -> Int -> World -> Prop, (∃ m, I4 m x19 w20) /\ ∀ m x21 w21, I4 m x21 w21 -> sh_f101_b8 a0 a1 Q x20 nxt3 x21 w21 (fun y0 w => ∃ m2, m2 < m /\ I4 m2 y0 w))
def sh_f101_j6 (a0 : Sl) (a1 : Int) (Q : QW) (x8 : Int) (x14 : Int) (w13 : World) : Prop :=
  br (decide (x8 > x14)) (dw w13 fun w14 => ixs a0 a1 fun b9 o9 => ld tU64 w14 b9 (o9 + (a1).toNat * 1) fun x15 => ixs a0 x14 fun b10 o10 => ld tU64 w14 b10 (o10 + (x14).toNat * 1) fun x16 => ixs a0 x14 fun b11 o11 => st tU64 w14 b11 (o11 + (x14).toNat * 1) x15 fun w15 => ixs a0 a1 fun b12 o12 => st tU64 w15 b12 (o12 + (a1).toNat * 1) x16 fun w16 => Q (.tuple #[.int .i64 x14, .bool true]) w16) (dw w13 fun w17 => ixs a0 x14 fun b13 o13 => ld tU64 w17 b13 (o13 + (x14).toNat * 1) fun x17 => ixs a0 x8 fun b14 o14 => ld tU64 w17 b14 (o14 + (x8).toNat * 1) fun x18 => ixs a0 x8 fun b15 o15 => st tU64 w17 b15 (o15 + (x8).toNat * 1) x17 fun w18 => ixs a0 x14 fun b16 o16 => st tU64 w18 b16 (o16 + (x14).toNat * 1) x18 fun w19 => (∃ I3 : Nat -> Int -> Int -> World -> Prop, (∃ m, I3 m (IntKind.i64.wrap (x8 + 1)) (IntKind.i64.wrap (x14 - 1)) w19) /\ ∀ m x19 x20 w20, I3 m x19 x20 w20 -> sh_f101_b7 a0 a1 Q x19 x20 w20 (fun y0 y1 w => ∃ m2, m2 < m /\ I3 m2 y0 y1 w)))
def sh_f101_j5 (a0 : Sl) (a1 : Int) (Q : QW) (x8 : Int) (x9 : Int) (nxt2 : Int -> World -> Prop) (x13 : Bool) (w12 : World) : Prop :=
  br x13 (nxt2 (IntKind.i64.wrap (x9 - 1)) w12) ((sh_f101_j6 a0 a1 Q x8 x9 w12))
def sh_f101_b4 (a0 : Sl) (a1 : Int) (Q : QW) (x8 : Int) (x9 : Int) (w9 : World) (nxt2 : Int -> World -> Prop) : Prop :=
  dw w9 fun w10 => br (decide (x8 <= x9)) (ixs a0 x9 fun b7 o7 => ld tU64 w10 b7 (o7 + (x9).toNat * 1) fun x10 => ixs a0 a1 fun b8 o8 => ld tU64 w10 b8 (o8 + (a1).toNat * 1) fun x11 => CallsR PP n_f99 #[.int .u64 x10, .int .u64 x11] (fun v2 w11 => ∃ x12 : Bool, v2 = .bool x12 /\ ((sh_f101_j5 a0 a1 Q x8 x9 nxt2 (!x12) w11))) w10) ((sh_f101_j5 a0 a1 Q x8 x9 nxt2 false w10))
def sh_f101_j3 (a0 : Sl) (a1 : Int) (a2 : Int) (Q : QW) (x8 : Int) (w8 : World) : Prop :=
  (∃ I2 : Nat -> Int -> World -> Prop, (∃ m, I2 m (IntKind.i64.wrap (a2 - 1)) w8) /\ ∀ m x9 w9, I2 m x9 w9 -> sh_f101_b4 a0 a1 Q x8 x9 w9 (fun y0 w => ∃ m2, m2 < m /\ I2 m2 y0 w))
def sh_f101_j2 (a0 : Sl) (a1 : Int) (a2 : Int) (Q : QW) (x3 : Int) (nxt1 : Int -> World -> Prop) (x7 : Bool) (w7 : World) : Prop :=
  br x7 (nxt1 (IntKind.i64.wrap (x3 + 1)) w7) ((sh_f101_j3 a0 a1 a2 Q x3 w7))
def sh_f101_b1 (a0 : Sl) (a1 : Int) (a2 : Int) (Q : QW) (x3 : Int) (w4 : World) (nxt1 : Int -> World -> Prop) : Prop :=
  dw w4 fun w5 => br (decide (x3 <= (IntKind.i64.wrap (a2 - 1)))) (ixs a0 x3 fun b5 o5 => ld tU64 w5 b5 (o5 + (x3).toNat * 1) fun x4 => ixs a0 a1 fun b6 o6 => ld tU64 w5 b6 (o6 + (a1).toNat * 1) fun x5 => CallsR PP n_f99 #[.int .u64 x4, .int .u64 x5] (fun v1 w6 => ∃ x6 : Bool, v1 = .bool x6 /\ ((sh_f101_j2 a0 a1 a2 Q x3 nxt1 x6 w6))) w5) ((sh_f101_j2 a0 a1 a2 Q x3 nxt1 false w5))
def sh_f101 (a0 : Sl) (a1 : Int) (a2 : Int) (a3 : Int) (Q : QW) (w0 : World) : Prop :=
  dw w0 fun w1 => ixs a0 a3 fun b1 o1 => ld tU64 w1 b1 (o1 + (a3).toNat * 1) fun x1 => ixs a0 a1 fun b2 o2 => ld tU64 w1 b2 (o2 + (a1).toNat * 1) fun x2 => ixs a0 a1 fun b3 o3 => st tU64 w1 b3 (o3 + (a1).toNat * 1) x1 fun w2 => ixs a0 a3 fun b4 o4 => st tU64 w2 b4 (o4 + (a3).toNat * 1) x2 fun w3 => (∃ I1 : Nat -> Int -> World -> Prop, (∃ m, I1 m (IntKind.i64.wrap (a1 + 1)) w3) /\ ∀ m x3 w4, I1 m x3 w4 -> sh_f101_b1 a0 a1 a2 Q x3 w4 (fun y0 w => ∃ m2, m2 < m /\ I1 m2 y0 w))
theorem so_f101 {a0 : Sl} {a1 : Int} {a2 : Int} {a3 : Int} (Q : QW) (w0 : World) (h : sh_f101 a0 a1 a2 a3 Q w0) : CallsR PP n_f101 #[.slice a0.a a0.len a0.cap, .int .i64 a1, .int .i64 a2, .int .i64 a3] Q w0 := by
 refine callsR_of_WX (args := [.slice a0.a a0.len a0.cap, vi a1, vi a2, vi a3]) Try.func101 rfl Try.ntmps101 nl ?_
 refine WX_seq (WX_region ?_)
 refine mva (vi 0) rfl <| mva (vb false) rfl (ops_nil ?_)
 refine WX_seq ?_
 obtain ⟨w1, hw1, h⟩ := dwe h
 obtain ⟨b1, o1, hi1, hi2, hi3, x1, hx1, b2, o2, hi4, hi5, hi6, x2, hx2, b3, o3, hi7, hi8, hi9, h⟩ := h
 refine WX_dr [13,15] [0,1,2,3,4,5,6,8,9,10,12,14] [⟨[],[0,1,2,3,4,5,6,8,9,10,12],[7,11],[(13,[13,14],1)]⟩,⟨[13],[14],[],[(15,[15],2)]⟩,⟨[15,13],[],[],[]⟩] [.slice a0.a a0.len a0.cap, vi a1, .slice a0.a a0.len a0.cap, vi a3, .slice a0.a a0.len a0.cap, vi a3, vp b1 (o1 + (a3).toNat * 1), vu x1, .slice a0.a a0.len a0.cap, vi a1, vp b2 (o2 + (a1).toNat * 1), vu x2, vp b3 (o3 + (a1).toNat * 1), un, un, un] 3 mixed (by kernel_rfl) hw1 ?_
 refine draw_go rfl (pu rfl (pv_move rfl) (pu rfl (pv_move rfl) (pu rfl (pv_move rfl) (pu rfl (pv_move rfl) (pu rfl (pv_move rfl) (pu rfl (pv_move rfl) (pu rfl (pv_ix (s := a0) ez_24 rfl rfl hi1 hi2 hi3) (pu rfl (pv_move rfl) (pu rfl (pv_move rfl) (pu rfl (pv_ix (s := a0) ez_24 rfl rfl hi4 hi5 hi6) (pu rfl (pv_ix (s := a0) ez_24 rfl rfl hi7 hi8 hi9) ap0))))))))))) (ro rfl (pv_ld ty_36 rfl hx1) (ro rfl (pv_ld ty_36 rfl hx2) ao0)) rfl ?_
 refine cy rfl rfl ?_
 refine pw_st (x := x1) ty_36 rfl rfl h.1 ?_
 intro w2 hw2
 replace h := h.2 w2 hw2
 obtain ⟨b4, o4, hi10, hi11, hi12, h⟩ := h
 refine nx [vp b4 (o4 + (a3).toNat * 1)] rfl nl rfl ?_
 refine draw_go rfl (pu rfl (pv_ix (s := a0) ez_24 rfl rfl hi10 hi11 hi12) ap0) ao0 rfl ?_
 refine cy rfl rfl ?_
 refine pw_st (x := x2) ty_36 rfl rfl h.1 ?_
 intro w3 hw3
 replace h := h.2 w3 hw3
 refine nx [] rfl nl rfl ?_
 refine draw_end rfl ap0 ao0 ?_
 refine WX_seq (WX_region ?_)
 refine mv (vi a1) rfl <| op_v (pv_add rfl rfl) <| mv (vi a2) rfl <| op_v (pv_sub rfl rfl) <| mva (vi (IntKind.i64.wrap (a1 + 1))) rfl ?_
 refine mva (vi (IntKind.i64.wrap (a2 - 1))) rfl (ops_nil ?_)
 refine WX_join (fun f w8 => ∃ x8 : Int, Agree f [(0, .slice a0.a a0.len a0.cap), (1, vi a1), (10, vi x8), (11, vi (IntKind.i64.wrap (a2 - 1)))] /\ sh_f101_j3 a0 a1 a2 Q x8 w8) ?_ ?_
 refine WX_block ?_
 obtain ⟨I1, ⟨m, h0⟩, hB1⟩ := h
 refine WX_loop (fun m f w4 => ∃ x3 : Int, Agree f [(0, .slice a0.a a0.len a0.cap), (1, vi a1), (10, vi x3), (11, vi (IntKind.i64.wrap (a2 - 1)))] /\ I1 m x3 w4) ⟨m, (IntKind.i64.wrap (a1 + 1)), ⟨rfl, rfl, rfl, rfl, trivial⟩, h0⟩ ?_
 clear h0 m
 rintro m f w4 ⟨x3, ha, h⟩
 obtain ⟨g2, rfl⟩ := canon ha
 replace h := hB1 m x3 w4 h
 clear hB1
 generalize hn_nxt1 : (fun (y0 : Int) (w : World) => ∃ m2, m2 < m /\ I1 m2 y0 w) = nxt1 at h
 refine WX_seq ?_
 refine WX_join (fun f w7 => ∃ x7 : Bool, Agree f [(0, .slice a0.a a0.len a0.cap), (1, vi a1), (10, vi x3), (11, vi (IntKind.i64.wrap (a2 - 1))), (43, vb x7)] /\ sh_f101_j2 a0 a1 a2 Q x3 nxt1 x7 w7) ?_ ?_
 obtain ⟨w5, hw4, h⟩ := dwe h
 refine dr_split (b := decide (x3 <= (IntKind.i64.wrap (a2 - 1)))) (fun hb1 => ?_) (fun hb1 => ?_)
 have h := h.1 hb1
 obtain ⟨b5, o5, hi13, hi14, hi15, x4, hx4, b6, o6, hi16, hi17, hi18, x5, hx5, h⟩ := h
 refine WX_dr [12] [0,1,2,3,4,5,6,8,9,10,13] [⟨[],[0,1,2,3,4,5,6,8,9,10],[7,11],[(12,[12,13],1)]⟩,⟨[12],[13],[],[]⟩] [vi x3, vi (IntKind.i64.wrap (a2 - 1)), vb true, vb true, .slice a0.a a0.len a0.cap, vi x3, vp b5 (o5 + (x3).toNat * 1), vu x4, .slice a0.a a0.len a0.cap, vi a1, vp b6 (o6 + (a1).toNat * 1), vu x5, un, un] 2 mixed (by kernel_rfl) hw4 ?_
 refine draw_go rfl (pu rfl (pv_move rfl) (pu rfl (pv_move rfl) (pu rfl (pv_cmp (v := true) rfl rfl rfl (by exact hb1)) (pu rfl (pv_move (by first | rfl | exact congrArg Value.bool hb1)) (pu rfl (pv_move rfl) (pu rfl (pv_move rfl) (pu rfl (pv_ix (s := a0) ez_24 rfl rfl hi13 hi14 hi15) (pu rfl (pv_move rfl) (pu rfl (pv_move rfl) (pu rfl (pv_ix (s := a0) ez_24 rfl rfl hi16 hi17 hi18) ap0)))))))))) (ro rfl (pv_ld ty_36 rfl hx4) (ro rfl (pv_ld ty_36 rfl hx5) ao0)) rfl ?_
 refine cy rfl rfl ?_
 refine pw_call co_99 rfl (cm h ?_)
 rintro v1 w6 ⟨x6, rfl, h⟩
 refine nx [vb x6] rfl nl rfl ?_
 refine draw_end rfl (pu rfl (pv_pick (b := true) (v := vb x6) rfl rfl) ap0) ao0 ?_
 exact ⟨x6, ⟨rfl, rfl, rfl, rfl, rfl, trivial⟩, h⟩
 have h := h.2 hb1
 refine WX_dr [12] [0,1,2,3,4,5,6,8,9,10,13] [⟨[],[0,1,2,3,4,5,6,8,9,10],[7,11],[(12,[12,13],1)]⟩,⟨[12],[13],[],[]⟩] [vi x3, vi (IntKind.i64.wrap (a2 - 1)), vb false, vb false, un, un, un, un, un, un, un, un, un, un] 2 mixed (by kernel_rfl) hw4 ?_
 refine draw_go rfl (pu rfl (pv_move rfl) (pu rfl (pv_move rfl) (pu rfl (pv_cmp (v := false) rfl rfl rfl (by exact hb1)) (pu rfl (pv_move (by first | rfl | exact congrArg Value.bool hb1)) (pn (pn (pn (pn (pn (pn ap0)))))))))) (rn (rn ao0)) rfl ?_
 refine ch_no [vb false] rfl rfl rfl nl rfl ?_ ch0
 refine draw_end rfl (pu rfl (pv_pick (b := false) (v := vb false) rfl rfl) ap0) ao0 ?_
 exact ⟨false, ⟨rfl, rfl, rfl, rfl, rfl, trivial⟩, h⟩
 rintro f w7 ⟨x7, ha, h⟩
 obtain ⟨g1, rfl⟩ := canon ha
 refine WX_cond (b := x7) rfl (fun hb2 => ?_) (fun hb2 => ?_)
 have h := h.1 hb2
 refine WX_skip ?_
 refine WX_block ?_
 refine WX_region ?_
 refine mv (vi x3) rfl <| op_v (pv_add rfl rfl) <| mva (vi (IntKind.i64.wrap (x3 + 1))) rfl (ops_nil ?_)
 subst hn_nxt1
 obtain ⟨m2, hm2, h⟩ := h
 exact ⟨m2, hm2, (IntKind.i64.wrap (x3 + 1)), ⟨rfl, rfl, rfl, rfl, trivial⟩, h⟩
 have h := h.2 hb2
 refine WX_exit0 ?_
 exact ⟨x3, ⟨rfl, rfl, rfl, rfl, trivial⟩, h⟩
 rintro f w8 ⟨x8, ha, h⟩
 obtain ⟨g14, rfl⟩ := canon ha
 refine WX_join (fun f w13 => ∃ x14 : Int, Agree f [(0, .slice a0.a a0.len a0.cap), (1, vi a1), (10, vi x8), (11, vi x14)] /\ sh_f101_j6 a0 a1 Q x8 x14 w13) ?_ ?_
 refine WX_block ?_
 obtain ⟨I2, ⟨m, h0⟩, hB2⟩ := h
 refine WX_loop (fun m f w9 => ∃ x9 : Int, Agree f [(0, .slice a0.a a0.len a0.cap), (1, vi a1), (10, vi x8), (11, vi x9)] /\ I2 m x9 w9) ⟨m, (IntKind.i64.wrap (a2 - 1)), ⟨rfl, rfl, rfl, rfl, trivial⟩, h0⟩ ?_
 clear h0 m
 rintro m f w9 ⟨x9, ha, h⟩
 obtain ⟨g4, rfl⟩ := canon ha
 replace h := hB2 m x9 w9 h
 clear hB2
 generalize hn_nxt2 : (fun (y0 : Int) (w : World) => ∃ m2, m2 < m /\ I2 m2 y0 w) = nxt2 at h
 refine WX_seq ?_
 refine WX_join (fun f w12 => ∃ x13 : Bool, Agree f [(0, .slice a0.a a0.len a0.cap), (1, vi a1), (10, vi x8), (11, vi x9), (60, vb x13)] /\ sh_f101_j5 a0 a1 Q x8 x9 nxt2 x13 w12) ?_ ?_
 obtain ⟨w10, hw5, h⟩ := dwe h
 refine dr_split (b := decide (x8 <= x9)) (fun hb3 => ?_) (fun hb3 => ?_)
 have h := h.1 hb3
 obtain ⟨b7, o7, hi19, hi20, hi21, x10, hx10, b8, o8, hi22, hi23, hi24, x11, hx11, h⟩ := h
 refine WX_dr [12] [0,1,2,3,4,5,6,8,9,10,13,14] [⟨[],[0,1,2,3,4,5,6,8,9,10],[7,11],[(12,[12,13,14],1)]⟩,⟨[12],[13,14],[],[]⟩] [vi x8, vi x9, vb true, vb true, .slice a0.a a0.len a0.cap, vi x9, vp b7 (o7 + (x9).toNat * 1), vu x10, .slice a0.a a0.len a0.cap, vi a1, vp b8 (o8 + (a1).toNat * 1), vu x11, un, un, un] 2 mixed (by kernel_rfl) hw5 ?_
 refine draw_go rfl (pu rfl (pv_move rfl) (pu rfl (pv_move rfl) (pu rfl (pv_cmp (v := true) rfl rfl rfl (by exact hb3)) (pu rfl (pv_move (by first | rfl | exact congrArg Value.bool hb3)) (pu rfl (pv_move rfl) (pu rfl (pv_move rfl) (pu rfl (pv_ix (s := a0) ez_24 rfl rfl hi19 hi20 hi21) (pu rfl (pv_move rfl) (pu rfl (pv_move rfl) (pu rfl (pv_ix (s := a0) ez_24 rfl rfl hi22 hi23 hi24) ap0)))))))))) (ro rfl (pv_ld ty_36 rfl hx10) (ro rfl (pv_ld ty_36 rfl hx11) ao0)) rfl ?_
 refine cy rfl rfl ?_
 refine pw_call co_99 rfl (cm h ?_)
 rintro v2 w11 ⟨x12, rfl, h⟩
 refine nx [vb (!x12), vb (!x12)] rfl nl rfl ?_
 refine draw_end rfl (pu rfl (pv_not rfl) (pu rfl (pv_pick (b := true) (v := vb (!x12)) rfl rfl) ap0)) ao0 ?_
 exact ⟨(!x12), ⟨rfl, rfl, rfl, rfl, rfl, trivial⟩, h⟩
 have h := h.2 hb3
 refine WX_dr [12] [0,1,2,3,4,5,6,8,9,10,13,14] [⟨[],[0,1,2,3,4,5,6,8,9,10],[7,11],[(12,[12,13,14],1)]⟩,⟨[12],[13,14],[],[]⟩] [vi x8, vi x9, vb false, vb false, un, un, un, un, un, un, un, un, un, un, un] 2 mixed (by kernel_rfl) hw5 ?_
 refine draw_go rfl (pu rfl (pv_move rfl) (pu rfl (pv_move rfl) (pu rfl (pv_cmp (v := false) rfl rfl rfl (by exact hb3)) (pu rfl (pv_move (by first | rfl | exact congrArg Value.bool hb3)) (pn (pn (pn (pn (pn (pn ap0)))))))))) (rn (rn ao0)) rfl ?_
 refine ch_no [un, vb false] rfl rfl rfl nl rfl ?_ ch0
 refine draw_end rfl (pn (pu rfl (pv_pick (b := false) (v := vb false) rfl rfl) ap0)) ao0 ?_
 exact ⟨false, ⟨rfl, rfl, rfl, rfl, rfl, trivial⟩, h⟩
 rintro f w12 ⟨x13, ha, h⟩
 obtain ⟨g3, rfl⟩ := canon ha
 refine WX_cond (b := x13) rfl (fun hb4 => ?_) (fun hb4 => ?_)
 have h := h.1 hb4
 refine WX_skip ?_
 refine WX_block ?_
 refine WX_region ?_
 refine mv (vi x9) rfl <| op_v (pv_sub rfl rfl) <| mva (vi (IntKind.i64.wrap (x9 - 1))) rfl (ops_nil ?_)
 subst hn_nxt2
 obtain ⟨m2, hm2, h⟩ := h
 exact ⟨m2, hm2, (IntKind.i64.wrap (x9 - 1)), ⟨rfl, rfl, rfl, rfl, trivial⟩, h⟩
 have h := h.2 hb4
 refine WX_exit0 ?_
 exact ⟨x9, ⟨rfl, rfl, rfl, rfl, trivial⟩, h⟩
 rintro f w13 ⟨x14, ha, h⟩
 obtain ⟨g13, rfl⟩ := canon ha
 refine WX_seq ?_
 refine WX_seq (WX_region ?_)
 refine mv (vi x8) rfl <| mv (vi x14) rfl <| op_v (pv_cmp (v := decide (x8 > x14)) rfl rfl rfl rfl) (ops_nil ?_)
 refine WX_cond (b := decide (x8 > x14)) rfl (fun hb5 => ?_) (fun hb5 => ?_)
 have h := h.1 hb5
 refine WX_seq ?_
 obtain ⟨w14, hw6, h⟩ := dwe h
 obtain ⟨b9, o9, hi25, hi26, hi27, x15, hx15, b10, o10, hi28, hi29, hi30, x16, hx16, b11, o11, hi31, hi32, hi33, h⟩ := h
 refine WX_dr [13,15] [0,1,2,3,4,5,6,8,9,10,12,14] [⟨[],[0,1,2,3,4,5,6,8,9,10,12],[7,11],[(13,[13,14],1)]⟩,⟨[13],[14],[],[(15,[15],2)]⟩,⟨[15,13],[],[],[]⟩] [.slice a0.a a0.len a0.cap, vi x14, .slice a0.a a0.len a0.cap, vi a1, .slice a0.a a0.len a0.cap, vi a1, vp b9 (o9 + (a1).toNat * 1), vu x15, .slice a0.a a0.len a0.cap, vi x14, vp b10 (o10 + (x14).toNat * 1), vu x16, vp b11 (o11 + (x14).toNat * 1), un, un, un] 3 mixed (by kernel_rfl) hw6 ?_
 refine draw_go rfl (pu rfl (pv_move rfl) (pu rfl (pv_move rfl) (pu rfl (pv_move rfl) (pu rfl (pv_move rfl) (pu rfl (pv_move rfl) (pu rfl (pv_move rfl) (pu rfl (pv_ix (s := a0) ez_24 rfl rfl hi25 hi26 hi27) (pu rfl (pv_move rfl) (pu rfl (pv_move rfl) (pu rfl (pv_ix (s := a0) ez_24 rfl rfl hi28 hi29 hi30) (pu rfl (pv_ix (s := a0) ez_24 rfl rfl hi31 hi32 hi33) ap0))))))))))) (ro rfl (pv_ld ty_36 rfl hx15) (ro rfl (pv_ld ty_36 rfl hx16) ao0)) rfl ?_
 refine cy rfl rfl ?_
 refine pw_st (x := x15) ty_36 rfl rfl h.1 ?_
 intro w15 hw7
 replace h := h.2 w15 hw7
 obtain ⟨b12, o12, hi34, hi35, hi36, h⟩ := h
 refine nx [vp b12 (o12 + (a1).toNat * 1)] rfl nl rfl ?_
 refine draw_go rfl (pu rfl (pv_ix (s := a0) ez_24 rfl rfl hi34 hi35 hi36) ap0) ao0 rfl ?_
 refine cy rfl rfl ?_
 refine pw_st (x := x16) ty_36 rfl rfl h.1 ?_
 intro w16 hw8
 replace h := h.2 w16 hw8
 refine nx [] rfl nl rfl ?_
 refine draw_end rfl ap0 ao0 ?_
 refine WX_seq (WX_region ?_)
 refine mv (vi x14) rfl <| mva (vi x14) rfl <| mva (vb true) rfl (ops_nil ?_)
 refine WX_ret ?_
 exact fin_of [vi x14, vb true] rfl ⟨rfl, ⟨rfl, trivial⟩⟩ h
 have h := h.2 hb5
 refine WX_skip <| WX_seq ?_
 obtain ⟨w17, hw9, h⟩ := dwe h
 obtain ⟨b13, o13, hi37, hi38, hi39, x17, hx17, b14, o14, hi40, hi41, hi42, x18, hx18, b15, o15, hi43, hi44, hi45, h⟩ := h
 refine WX_dr [13,15] [0,1,2,3,4,5,6,8,9,10,12,14] [⟨[],[0,1,2,3,4,5,6,8,9,10,12],[7,11],[(13,[13,14],1)]⟩,⟨[13],[14],[],[(15,[15],2)]⟩,⟨[15,13],[],[],[]⟩] [.slice a0.a a0.len a0.cap, vi x8, .slice a0.a a0.len a0.cap, vi x14, .slice a0.a a0.len a0.cap, vi x14, vp b13 (o13 + (x14).toNat * 1), vu x17, .slice a0.a a0.len a0.cap, vi x8, vp b14 (o14 + (x8).toNat * 1), vu x18, vp b15 (o15 + (x8).toNat * 1), un, un, un] 3 mixed (by kernel_rfl) hw9 ?_
 refine draw_go rfl (pu rfl (pv_move rfl) (pu rfl (pv_move rfl) (pu rfl (pv_move rfl) (pu rfl (pv_move rfl) (pu rfl (pv_move rfl) (pu rfl (pv_move rfl) (pu rfl (pv_ix (s := a0) ez_24 rfl rfl hi37 hi38 hi39) (pu rfl (pv_move rfl) (pu rfl (pv_move rfl) (pu rfl (pv_ix (s := a0) ez_24 rfl rfl hi40 hi41 hi42) (pu rfl (pv_ix (s := a0) ez_24 rfl rfl hi43 hi44 hi45) ap0))))))))))) (ro rfl (pv_ld ty_36 rfl hx17) (ro rfl (pv_ld ty_36 rfl hx18) ao0)) rfl ?_
 refine cy rfl rfl ?_
 refine pw_st (x := x17) ty_36 rfl rfl h.1 ?_
 intro w18 hw10
 replace h := h.2 w18 hw10
 obtain ⟨b16, o16, hi46, hi47, hi48, h⟩ := h
 refine nx [vp b16 (o16 + (x14).toNat * 1)] rfl nl rfl ?_
 refine draw_go rfl (pu rfl (pv_ix (s := a0) ez_24 rfl rfl hi46 hi47 hi48) ap0) ao0 rfl ?_
 refine cy rfl rfl ?_
 refine pw_st (x := x18) ty_36 rfl rfl h.1 ?_
 intro w19 hw11
 replace h := h.2 w19 hw11
 refine nx [] rfl nl rfl ?_
 refine draw_end rfl ap0 ao0 ?_
 refine WX_seq (WX_region ?_)
 refine mv (vi x8) rfl <| op_v (pv_add rfl rfl) <| mva (vi (IntKind.i64.wrap (x8 + 1))) rfl (ops_nil ?_)
 refine WX_seq (WX_region ?_)
 refine mv (vi x14) rfl <| op_v (pv_sub rfl rfl) <| mva (vi (IntKind.i64.wrap (x14 - 1))) rfl (ops_nil ?_)
 refine WX_join (fun f w34 => ∃ x35 : Int, Agree f [(0, .slice a0.a a0.len a0.cap), (1, vi a1), (11, vi x35)] /\ sh_f101_j14 a0 a1 Q x35 w34) ?_ ?_
 refine WX_block ?_
 obtain ⟨I3, ⟨m, h0⟩, hB5⟩ := h
 refine WX_loop (fun m f w20 => ∃ x19 : Int, ∃ x20 : Int, Agree f [(0, .slice a0.a a0.len a0.cap), (1, vi a1), (10, vi x19), (11, vi x20)] /\ I3 m x19 x20 w20) ⟨m, (IntKind.i64.wrap (x8 + 1)), (IntKind.i64.wrap (x14 - 1)), ⟨rfl, rfl, rfl, rfl, trivial⟩, h0⟩ ?_
 clear h0 m
 rintro m f w20 ⟨x19, x20, ha, h⟩
 obtain ⟨g11, rfl⟩ := canon ha
 replace h := hB5 m x19 x20 w20 h
 clear hB5
 generalize hn_nxt3 : (fun (y0 : Int) (y1 : Int) (w : World) => ∃ m2, m2 < m /\ I3 m2 y0 y1 w) = nxt3 at h
 refine WX_block ?_
 refine WX_join (fun f w25 => ∃ x26 : Int, Agree f [(0, .slice a0.a a0.len a0.cap), (1, vi a1), (10, vi x26), (11, vi x20)] /\ sh_f101_j10 a0 a1 Q x20 nxt3 x26 w25) ?_ ?_
 refine WX_block ?_
 obtain ⟨I4, ⟨m, h0⟩, hB3⟩ := h
 refine WX_loop (fun m f w21 => ∃ x21 : Int, Agree f [(0, .slice a0.a a0.len a0.cap), (1, vi a1), (10, vi x21), (11, vi x20)] /\ I4 m x21 w21) ⟨m, x19, ⟨rfl, rfl, rfl, rfl, trivial⟩, h0⟩ ?_
 clear h0 m
 rintro m f w21 ⟨x21, ha, h⟩
 obtain ⟨g6, rfl⟩ := canon ha
 replace h := hB3 m x21 w21 h
 clear hB3
 generalize hn_nxt4 : (fun (y0 : Int) (w : World) => ∃ m2, m2 < m /\ I4 m2 y0 w) = nxt4 at h
 refine WX_seq ?_
 refine WX_join (fun f w24 => ∃ x25 : Bool, Agree f [(0, .slice a0.a a0.len a0.cap), (1, vi a1), (10, vi x21), (11, vi x20), (112, vb x25)] /\ sh_f101_j9 a0 a1 Q x20 nxt3 x21 nxt4 x25 w24) ?_ ?_
 obtain ⟨w22, hw12, h⟩ := dwe h
 refine dr_split (b := decide (x21 <= x20)) (fun hb6 => ?_) (fun hb6 => ?_)
 have h := h.1 hb6
 obtain ⟨b17, o17, hi49, hi50, hi51, x22, hx22, b18, o18, hi52, hi53, hi54, x23, hx23, h⟩ := h
 refine WX_dr [12] [0,1,2,3,4,5,6,8,9,10,13] [⟨[],[0,1,2,3,4,5,6,8,9,10],[7,11],[(12,[12,13],1)]⟩,⟨[12],[13],[],[]⟩] [vi x21, vi x20, vb true, vb true, .slice a0.a a0.len a0.cap, vi x21, vp b17 (o17 + (x21).toNat * 1), vu x22, .slice a0.a a0.len a0.cap, vi a1, vp b18 (o18 + (a1).toNat * 1), vu x23, un, un] 2 mixed (by kernel_rfl) hw12 ?_
 refine draw_go rfl (pu rfl (pv_move rfl) (pu rfl (pv_move rfl) (pu rfl (pv_cmp (v := true) rfl rfl rfl (by exact hb6)) (pu rfl (pv_move (by first | rfl | exact congrArg Value.bool hb6)) (pu rfl (pv_move rfl) (pu rfl (pv_move rfl) (pu rfl (pv_ix (s := a0) ez_24 rfl rfl hi49 hi50 hi51) (pu rfl (pv_move rfl) (pu rfl (pv_move rfl) (pu rfl (pv_ix (s := a0) ez_24 rfl rfl hi52 hi53 hi54) ap0)))))))))) (ro rfl (pv_ld ty_36 rfl hx22) (ro rfl (pv_ld ty_36 rfl hx23) ao0)) rfl ?_
 refine cy rfl rfl ?_
 refine pw_call co_99 rfl (cm h ?_)
 rintro v3 w23 ⟨x24, rfl, h⟩
 refine nx [vb x24] rfl nl rfl ?_
 refine draw_end rfl (pu rfl (pv_pick (b := true) (v := vb x24) rfl rfl) ap0) ao0 ?_
 exact ⟨x24, ⟨rfl, rfl, rfl, rfl, rfl, trivial⟩, h⟩
 have h := h.2 hb6
 refine WX_dr [12] [0,1,2,3,4,5,6,8,9,10,13] [⟨[],[0,1,2,3,4,5,6,8,9,10],[7,11],[(12,[12,13],1)]⟩,⟨[12],[13],[],[]⟩] [vi x21, vi x20, vb false, vb false, un, un, un, un, un, un, un, un, un, un] 2 mixed (by kernel_rfl) hw12 ?_
 refine draw_go rfl (pu rfl (pv_move rfl) (pu rfl (pv_move rfl) (pu rfl (pv_cmp (v := false) rfl rfl rfl (by exact hb6)) (pu rfl (pv_move (by first | rfl | exact congrArg Value.bool hb6)) (pn (pn (pn (pn (pn (pn ap0)))))))))) (rn (rn ao0)) rfl ?_
 refine ch_no [vb false] rfl rfl rfl nl rfl ?_ ch0
 refine draw_end rfl (pu rfl (pv_pick (b := false) (v := vb false) rfl rfl) ap0) ao0 ?_
 exact ⟨false, ⟨rfl, rfl, rfl, rfl, rfl, trivial⟩, h⟩
 rintro f w24 ⟨x25, ha, h⟩
 obtain ⟨g5, rfl⟩ := canon ha
 refine WX_cond (b := x25) rfl (fun hb7 => ?_) (fun hb7 => ?_)
 have h := h.1 hb7
 refine WX_skip ?_
 refine WX_block ?_
 refine WX_region ?_
 refine mv (vi x21) rfl <| op_v (pv_add rfl rfl) <| mva (vi (IntKind.i64.wrap (x21 + 1))) rfl (ops_nil ?_)
 subst hn_nxt4
 obtain ⟨m2, hm2, h⟩ := h
 exact ⟨m2, hm2, (IntKind.i64.wrap (x21 + 1)), ⟨rfl, rfl, rfl, rfl, trivial⟩, h⟩
 have h := h.2 hb7
 refine WX_exit0 ?_
 exact ⟨x21, ⟨rfl, rfl, rfl, rfl, trivial⟩, h⟩
 rintro f w25 ⟨x26, ha, h⟩
 obtain ⟨g10, rfl⟩ := canon ha
 refine WX_join (fun f w30 => ∃ x32 : Int, Agree f [(0, .slice a0.a a0.len a0.cap), (1, vi a1), (10, vi x26), (11, vi x32)] /\ sh_f101_j13 a0 a1 Q nxt3 x26 x32 w30) ?_ ?_
 refine WX_block ?_
 obtain ⟨I5, ⟨m, h0⟩, hB4⟩ := h
 refine WX_loop (fun m f w26 => ∃ x27 : Int, Agree f [(0, .slice a0.a a0.len a0.cap), (1, vi a1), (10, vi x26), (11, vi x27)] /\ I5 m x27 w26) ⟨m, x20, ⟨rfl, rfl, rfl, rfl, trivial⟩, h0⟩ ?_
 clear h0 m
 rintro m f w26 ⟨x27, ha, h⟩
 obtain ⟨g8, rfl⟩ := canon ha
 replace h := hB4 m x27 w26 h
 clear hB4
 generalize hn_nxt5 : (fun (y0 : Int) (w : World) => ∃ m2, m2 < m /\ I5 m2 y0 w) = nxt5 at h
 refine WX_seq ?_
 refine WX_join (fun f w29 => ∃ x31 : Bool, Agree f [(0, .slice a0.a a0.len a0.cap), (1, vi a1), (10, vi x26), (11, vi x27), (129, vb x31)] /\ sh_f101_j12 a0 a1 Q nxt3 x26 x27 nxt5 x31 w29) ?_ ?_
 obtain ⟨w27, hw13, h⟩ := dwe h
 refine dr_split (b := decide (x26 <= x27)) (fun hb8 => ?_) (fun hb8 => ?_)
 have h := h.1 hb8
 obtain ⟨b19, o19, hi55, hi56, hi57, x28, hx28, b20, o20, hi58, hi59, hi60, x29, hx29, h⟩ := h
 refine WX_dr [12] [0,1,2,3,4,5,6,8,9,10,13,14] [⟨[],[0,1,2,3,4,5,6,8,9,10],[7,11],[(12,[12,13,14],1)]⟩,⟨[12],[13,14],[],[]⟩] [vi x26, vi x27, vb true, vb true, .slice a0.a a0.len a0.cap, vi x27, vp b19 (o19 + (x27).toNat * 1), vu x28, .slice a0.a a0.len a0.cap, vi a1, vp b20 (o20 + (a1).toNat * 1), vu x29, un, un, un] 2 mixed (by kernel_rfl) hw13 ?_
 refine draw_go rfl (pu rfl (pv_move rfl) (pu rfl (pv_move rfl) (pu rfl (pv_cmp (v := true) rfl rfl rfl (by exact hb8)) (pu rfl (pv_move (by first | rfl | exact congrArg Value.bool hb8)) (pu rfl (pv_move rfl) (pu rfl (pv_move rfl) (pu rfl (pv_ix (s := a0) ez_24 rfl rfl hi55 hi56 hi57) (pu rfl (pv_move rfl) (pu rfl (pv_move rfl) (pu rfl (pv_ix (s := a0) ez_24 rfl rfl hi58 hi59 hi60) ap0)))))))))) (ro rfl (pv_ld ty_36 rfl hx28) (ro rfl (pv_ld ty_36 rfl hx29) ao0)) rfl ?_
 refine cy rfl rfl ?_
 refine pw_call co_99 rfl (cm h ?_)
 rintro v4 w28 ⟨x30, rfl, h⟩
 refine nx [vb (!x30), vb (!x30)] rfl nl rfl ?_
 refine draw_end rfl (pu rfl (pv_not rfl) (pu rfl (pv_pick (b := true) (v := vb (!x30)) rfl rfl) ap0)) ao0 ?_
 exact ⟨(!x30), ⟨rfl, rfl, rfl, rfl, rfl, trivial⟩, h⟩
 have h := h.2 hb8
 refine WX_dr [12] [0,1,2,3,4,5,6,8,9,10,13,14] [⟨[],[0,1,2,3,4,5,6,8,9,10],[7,11],[(12,[12,13,14],1)]⟩,⟨[12],[13,14],[],[]⟩] [vi x26, vi x27, vb false, vb false, un, un, un, un, un, un, un, un, un, un, un] 2 mixed (by kernel_rfl) hw13 ?_
 refine draw_go rfl (pu rfl (pv_move rfl) (pu rfl (pv_move rfl) (pu rfl (pv_cmp (v := false) rfl rfl rfl (by exact hb8)) (pu rfl (pv_move (by first | rfl | exact congrArg Value.bool hb8)) (pn (pn (pn (pn (pn (pn ap0)))))))))) (rn (rn ao0)) rfl ?_
 refine ch_no [un, vb false] rfl rfl rfl nl rfl ?_ ch0
 refine draw_end rfl (pn (pu rfl (pv_pick (b := false) (v := vb false) rfl rfl) ap0)) ao0 ?_
 exact ⟨false, ⟨rfl, rfl, rfl, rfl, rfl, trivial⟩, h⟩
 rintro f w29 ⟨x31, ha, h⟩
 obtain ⟨g7, rfl⟩ := canon ha
 refine WX_cond (b := x31) rfl (fun hb9 => ?_) (fun hb9 => ?_)
 have h := h.1 hb9
 refine WX_skip ?_
 refine WX_block ?_
 refine WX_region ?_
 refine mv (vi x27) rfl <| op_v (pv_sub rfl rfl) <| mva (vi (IntKind.i64.wrap (x27 - 1))) rfl (ops_nil ?_)
 subst hn_nxt5
 obtain ⟨m2, hm2, h⟩ := h
 exact ⟨m2, hm2, (IntKind.i64.wrap (x27 - 1)), ⟨rfl, rfl, rfl, rfl, trivial⟩, h⟩
 have h := h.2 hb9
 refine WX_exit0 ?_
 exact ⟨x27, ⟨rfl, rfl, rfl, rfl, trivial⟩, h⟩
 rintro f w30 ⟨x32, ha, h⟩
 obtain ⟨g9, rfl⟩ := canon ha
 refine WX_seq ?_
 refine WX_seq (WX_region ?_)
 refine mv (vi x26) rfl <| mv (vi x32) rfl <| op_v (pv_cmp (v := decide (x26 > x32)) rfl rfl rfl rfl) (ops_nil ?_)
 refine WX_cond (b := decide (x26 > x32)) rfl (fun hb10 => ?_) (fun hb10 => ?_)
 have h := h.1 hb10
 refine WX_exit1 ?_
 exact ⟨x32, ⟨rfl, rfl, rfl, trivial⟩, h⟩
 have h := h.2 hb10
 refine WX_skip <| WX_seq ?_
 obtain ⟨w31, hw14, h⟩ := dwe h
 obtain ⟨b21, o21, hi61, hi62, hi63, x33, hx33, b22, o22, hi64, hi65, hi66, x34, hx34, b23, o23, hi67, hi68, hi69, h⟩ := h
 refine WX_dr [13,15] [0,1,2,3,4,5,6,8,9,10,12,14] [⟨[],[0,1,2,3,4,5,6,8,9,10,12],[7,11],[(13,[13,14],1)]⟩,⟨[13],[14],[],[(15,[15],2)]⟩,⟨[15,13],[],[],[]⟩] [.slice a0.a a0.len a0.cap, vi x26, .slice a0.a a0.len a0.cap, vi x32, .slice a0.a a0.len a0.cap, vi x32, vp b21 (o21 + (x32).toNat * 1), vu x33, .slice a0.a a0.len a0.cap, vi x26, vp b22 (o22 + (x26).toNat * 1), vu x34, vp b23 (o23 + (x26).toNat * 1), un, un, un] 3 mixed (by kernel_rfl) hw14 ?_
 refine draw_go rfl (pu rfl (pv_move rfl) (pu rfl (pv_move rfl) (pu rfl (pv_move rfl) (pu rfl (pv_move rfl) (pu rfl (pv_move rfl) (pu rfl (pv_move rfl) (pu rfl (pv_ix (s := a0) ez_24 rfl rfl hi61 hi62 hi63) (pu rfl (pv_move rfl) (pu rfl (pv_move rfl) (pu rfl (pv_ix (s := a0) ez_24 rfl rfl hi64 hi65 hi66) (pu rfl (pv_ix (s := a0) ez_24 rfl rfl hi67 hi68 hi69) ap0))))))))))) (ro rfl (pv_ld ty_36 rfl hx33) (ro rfl (pv_ld ty_36 rfl hx34) ao0)) rfl ?_
 refine cy rfl rfl ?_
 refine pw_st (x := x33) ty_36 rfl rfl h.1 ?_
 intro w32 hw15
 replace h := h.2 w32 hw15
 obtain ⟨b24, o24, hi70, hi71, hi72, h⟩ := h
 refine nx [vp b24 (o24 + (x32).toNat * 1)] rfl nl rfl ?_
 refine draw_go rfl (pu rfl (pv_ix (s := a0) ez_24 rfl rfl hi70 hi71 hi72) ap0) ao0 rfl ?_
 refine cy rfl rfl ?_
 refine pw_st (x := x34) ty_36 rfl rfl h.1 ?_
 intro w33 hw16
 replace h := h.2 w33 hw16
 refine nx [] rfl nl rfl ?_
 refine draw_end rfl ap0 ao0 ?_
 refine WX_seq (WX_region ?_)
 refine mv (vi x26) rfl <| op_v (pv_add rfl rfl) <| mva (vi (IntKind.i64.wrap (x26 + 1))) rfl (ops_nil ?_)
 refine WX_region ?_
 refine mv (vi x32) rfl <| op_v (pv_sub rfl rfl) <| mva (vi (IntKind.i64.wrap (x32 - 1))) rfl (ops_nil ?_)
 subst hn_nxt3
 obtain ⟨m2, hm2, h⟩ := h
 exact ⟨m2, hm2, (IntKind.i64.wrap (x26 + 1)), (IntKind.i64.wrap (x32 - 1)), ⟨rfl, rfl, rfl, rfl, trivial⟩, h⟩
 rintro f w34 ⟨x35, ha, h⟩
 obtain ⟨g12, rfl⟩ := canon ha
 refine WX_seq ?_
 obtain ⟨w35, hw17, h⟩ := dwe h
 obtain ⟨b25, o25, hi73, hi74, hi75, x36, hx36, b26, o26, hi76, hi77, hi78, x37, hx37, b27, o27, hi79, hi80, hi81, h⟩ := h
 refine WX_dr [13,15] [0,1,2,3,4,5,6,8,9,10,12,14] [⟨[],[0,1,2,3,4,5,6,8,9,10,12],[7,11],[(13,[13,14],1)]⟩,⟨[13],[14],[],[(15,[15],2)]⟩,⟨[15,13],[],[],[]⟩] [.slice a0.a a0.len a0.cap, vi x35, .slice a0.a a0.len a0.cap, vi a1, .slice a0.a a0.len a0.cap, vi a1, vp b25 (o25 + (a1).toNat * 1), vu x36, .slice a0.a a0.len a0.cap, vi x35, vp b26 (o26 + (x35).toNat * 1), vu x37, vp b27 (o27 + (x35).toNat * 1), un, un, un] 3 mixed (by kernel_rfl) hw17 ?_
 refine draw_go rfl (pu rfl (pv_move rfl) (pu rfl (pv_move rfl) (pu rfl (pv_move rfl) (pu rfl (pv_move rfl) (pu rfl (pv_move rfl) (pu rfl (pv_move rfl) (pu rfl (pv_ix (s := a0) ez_24 rfl rfl hi73 hi74 hi75) (pu rfl (pv_move rfl) (pu rfl (pv_move rfl) (pu rfl (pv_ix (s := a0) ez_24 rfl rfl hi76 hi77 hi78) (pu rfl (pv_ix (s := a0) ez_24 rfl rfl hi79 hi80 hi81) ap0))))))))))) (ro rfl (pv_ld ty_36 rfl hx36) (ro rfl (pv_ld ty_36 rfl hx37) ao0)) rfl ?_
 refine cy rfl rfl ?_
 refine pw_st (x := x36) ty_36 rfl rfl h.1 ?_
 intro w36 hw18
 replace h := h.2 w36 hw18
 obtain ⟨b28, o28, hi82, hi83, hi84, h⟩ := h
 refine nx [vp b28 (o28 + (a1).toNat * 1)] rfl nl rfl ?_
 refine draw_go rfl (pu rfl (pv_ix (s := a0) ez_24 rfl rfl hi82 hi83 hi84) ap0) ao0 rfl ?_
 refine cy rfl rfl ?_
 refine pw_st (x := x37) ty_36 rfl rfl h.1 ?_
 intro w37 hw19
 replace h := h.2 w37 hw19
 refine nx [] rfl nl rfl ?_
 refine draw_end rfl ap0 ao0 ?_
 refine WX_seq (WX_region ?_)
 refine mv (vi x35) rfl <| mva (vi x35) rfl <| mva (vb false) rfl (ops_nil ?_)
 refine WX_ret ?_
 exact fin_of [vi x35, vb false] rfl ⟨rfl, ⟨rfl, trivial⟩⟩ h
def sh_f102_j3 (a0 : Sl) (a3 : Int) (Q : QW) (x1 : Int) (nxt1 : Int -> World -> Prop) (x6 : Int) (w5 : World) : Prop :=
  dw w5 fun w6 => ixs a0 (IntKind.i64.wrap (a3 + x1)) fun b3 o3 => ld tU64 w6 b3 (o3 + ((IntKind.i64.wrap (a3 + x1))).toNat * 1) fun x7 => ixs a0 (IntKind.i64.wrap (a3 + x6)) fun b4 o4 => ld tU64 w6 b4 (o4 + ((IntKind.i64.wrap (a3 + x6))).toNat * 1) fun x8 => CallsR PP n_f99 #[.int .u64 x7, .int .u64 x8] (fun v2 w7 => ∃ x9 : Bool, v2 = .bool x9 /\ (br (!x9) (Q (.tuple #[]) w7) (dw w7 fun w8 => ixs a0 (IntKind.i64.wrap (a3 + x6)) fun b5 o5 => ld tU64 w8 b5 (o5 + ((IntKind.i64.wrap (a3 + x6))).toNat * 1) fun x10 => ixs a0 (IntKind.i64.wrap (a3 + x1)) fun b6 o6 => ld tU64 w8 b6 (o6 + ((IntKind.i64.wrap (a3 + x1))).toNat * 1) fun x11 => ixs a0 (IntKind.i64.wrap (a3 + x1)) fun b7 o7 => st tU64 w8 b7 (o7 + ((IntKind.i64.wrap (a3 + x1))).toNat * 1) x10 fun w9 => ixs a0 (IntKind.i64.wrap (a3 + x6)) fun b8 o8 => st tU64 w9 b8 (o8 + ((IntKind.i64.wrap (a3 + x6))).toNat * 1) x11 fun w10 => nxt1 x6 w10))) w6
def sh_f102_j2 (a0 : Sl) (a3 : Int) (Q : QW) (x1 : Int) (nxt1 : Int -> World -> Prop) (x5 : Bool) (w4 : World) : Prop :=
  br x5 ((sh_f102_j3 a0 a3 Q x1 nxt1 (IntKind.i64.wrap ((IntKind.i64.wrap ((IntKind.i64.wrap (2 * x1)) + 1)) + 1)) w4)) ((sh_f102_j3 a0 a3 Q x1 nxt1 (IntKind.i64.wrap ((IntKind.i64.wrap (2 * x1)) + 1)) w4))
def sh_f102_b1 (a0 : Sl) (a2 : Int) (a3 : Int) (Q : QW) (x1 : Int) (w1 : World) (nxt1 : Int -> World -> Prop) : Prop :=
  br (decide ((IntKind.i64.wrap ((IntKind.i64.wrap (2 * x1)) + 1)) ≥ a2)) (Q (.tuple #[]) w1) (dw w1 fun w2 => br (decide ((IntKind.i64.wrap ((IntKind.i64.wrap ((IntKind.i64.wrap (2 * x1)) + 1)) + 1)) < a2)) (ixs a0 (IntKind.i64.wrap (a3 + (IntKind.i64.wrap ((IntKind.i64.wrap (2 * x1)) + 1)))) fun b1 o1 => ld tU64 w2 b1 (o1 + ((IntKind.i64.wrap (a3 + (IntKind.i64.wrap ((IntKind.i64.wrap (2 * x1)) + 1))))).toNat * 1) fun x2 => ixs a0 (IntKind.i64.wrap ((IntKind.i64.wrap (a3 + (IntKind.i64.wrap ((IntKind.i64.wrap (2 * x1)) + 1)))) + 1)) fun b2 o2 => ld tU64 w2 b2 (o2 + ((IntKind.i64.wrap ((IntKind.i64.wrap (a3 + (IntKind.i64.wrap ((IntKind.i64.wrap (2 * x1)) + 1)))) + 1))).toNat * 1) fun x3 => CallsR PP n_f99 #[.int .u64 x2, .int .u64 x3] (fun v1 w3 => ∃ x4 : Bool, v1 = .bool x4 /\ ((sh_f102_j2 a0 a3 Q x1 nxt1 x4 w3))) w2) ((sh_f102_j2 a0 a3 Q x1 nxt1 false w2)))
def sh_f102 (a0 : Sl) (a1 : Int) (a2 : Int) (a3 : Int) (Q : QW) (w0 : World) : Prop :=
  (∃ I1 : Nat -> Int -> World -> Prop, (∃ m, I1 m a1 w0) /\ ∀ m x1 w1, I1 m x1 w1 -> sh_f102_b1 a0 a2 a3 Q x1 w1 (fun y0 w => ∃ m2, m2 < m /\ I1 m2 y0 w))
theorem so_f102 {a0 : Sl} {a1 : Int} {a2 : Int} {a3 : Int} (Q : QW) (w0 : World) (h : sh_f102 a0 a1 a2 a3 Q w0) : CallsR PP n_f102 #[.slice a0.a a0.len a0.cap, .int .i64 a1, .int .i64 a2, .int .i64 a3] Q w0 := by
 refine callsR_of_WX (args := [.slice a0.a a0.len a0.cap, vi a1, vi a2, vi a3]) Try.func102 rfl Try.ntmps102 nl ?_
 refine WX_seq (WX_region ?_)
 refine mv (vi a1) rfl <| mva (vi a1) rfl (ops_nil ?_)
 refine WX_block ?_
 obtain ⟨I1, ⟨m, h0⟩, hB1⟩ := h
 refine WX_loop (fun m f w1 => ∃ x1 : Int, Agree f [(0, .slice a0.a a0.len a0.cap), (2, vi a2), (3, vi a3), (8, vi x1)] /\ I1 m x1 w1) ⟨m, a1, ⟨rfl, rfl, rfl, rfl, trivial⟩, h0⟩ ?_
 clear h0 m
 rintro m f w1 ⟨x1, ha, h⟩
 obtain ⟨g3, rfl⟩ := canon ha
 replace h := hB1 m x1 w1 h
 clear hB1
 generalize hn_nxt1 : (fun (y0 : Int) (w : World) => ∃ m2, m2 < m /\ I1 m2 y0 w) = nxt1 at h
 refine WX_block ?_
 refine WX_seq (WX_region ?_)
 refine mv (vi x1) rfl <| op_v (pv_mul rfl rfl) <| op_v (pv_add rfl rfl) <| mva (vi (IntKind.i64.wrap ((IntKind.i64.wrap (2 * x1)) + 1))) rfl (ops_nil ?_)
 refine WX_seq ?_
 refine WX_seq (WX_region ?_)
 refine mv (vi (IntKind.i64.wrap ((IntKind.i64.wrap (2 * x1)) + 1))) rfl <| mv (vi a2) rfl ?_
 refine op_v (pv_cmp (v := decide ((IntKind.i64.wrap ((IntKind.i64.wrap (2 * x1)) + 1)) ≥ a2)) rfl rfl rfl rfl) (ops_nil ?_)
 refine WX_cond (b := decide ((IntKind.i64.wrap ((IntKind.i64.wrap (2 * x1)) + 1)) ≥ a2)) rfl (fun hb1 => ?_) (fun hb1 => ?_)
 have h := h.1 hb1
 refine WX_exit1 ?_
 exact fin_of [] rfl trivial h
 have h := h.2 hb1
 refine WX_skip ?_
 refine WX_join (fun f w5 => ∃ x6 : Int, Agree f [(0, .slice a0.a a0.len a0.cap), (2, vi a2), (3, vi a3), (8, vi x1), (9, vi x6)] /\ sh_f102_j3 a0 a3 Q x1 nxt1 x6 w5) ?_ ?_
 refine WX_join (fun f w4 => ∃ x5 : Bool, Agree f [(0, .slice a0.a a0.len a0.cap), (2, vi a2), (3, vi a3), (8, vi x1), (9, vi (IntKind.i64.wrap ((IntKind.i64.wrap (2 * x1)) + 1))), (36, vb x5)] /\ sh_f102_j2 a0 a3 Q x1 nxt1 x5 w4) ?_ ?_
 obtain ⟨w2, hw1, h⟩ := dwe h
 refine dr_split (b := decide ((IntKind.i64.wrap ((IntKind.i64.wrap ((IntKind.i64.wrap (2 * x1)) + 1)) + 1)) < a2)) (fun hb2 => ?_) (fun hb2 => ?_)
 have h := h.1 hb2
 obtain ⟨b1, o1, hi1, hi2, hi3, x2, hx2, b2, o2, hi4, hi5, hi6, x3, hx3, h⟩ := h
 refine WX_dr [18] [0,1,2,3,4,5,6,7,8,9,11,12,13,14,15,16,19] [⟨[],[0,1,2,3,4,5,6,7,8,9,11,12,13,14,15,16],[10,17],[(18,[18,19],1)]⟩,⟨[18],[19],[],[]⟩] [vi (IntKind.i64.wrap ((IntKind.i64.wrap (2 * x1)) + 1)), vi (IntKind.i64.wrap ((IntKind.i64.wrap ((IntKind.i64.wrap (2 * x1)) + 1)) + 1)), vi a2, vb true, vb true, .slice a0.a a0.len a0.cap, vi a3, vi (IntKind.i64.wrap ((IntKind.i64.wrap (2 * x1)) + 1)), vi (IntKind.i64.wrap (a3 + (IntKind.i64.wrap ((IntKind.i64.wrap (2 * x1)) + 1)))), vp b1 (o1 + ((IntKind.i64.wrap (a3 + (IntKind.i64.wrap ((IntKind.i64.wrap (2 * x1)) + 1))))).toNat * 1), vu x2, .slice a0.a a0.len a0.cap, vi a3, vi (IntKind.i64.wrap ((IntKind.i64.wrap (2 * x1)) + 1)), vi (IntKind.i64.wrap (a3 + (IntKind.i64.wrap ((IntKind.i64.wrap (2 * x1)) + 1)))), vi (IntKind.i64.wrap ((IntKind.i64.wrap (a3 + (IntKind.i64.wrap ((IntKind.i64.wrap (2 * x1)) + 1)))) + 1)), vp b2 (o2 + ((IntKind.i64.wrap ((IntKind.i64.wrap (a3 + (IntKind.i64.wrap ((IntKind.i64.wrap (2 * x1)) + 1)))) + 1))).toNat * 1), vu x3, un, un] 2 mixed (by kernel_rfl) hw1 ?_
 refine draw_go rfl (pu rfl (pv_move rfl) (pu rfl (pv_add rfl rfl) (pu rfl (pv_move rfl) (pu rfl (pv_cmp (v := true) rfl rfl rfl (by exact hb2)) (pu rfl (pv_move (by first | rfl | exact congrArg Value.bool hb2)) (pu rfl (pv_move rfl) (pu rfl (pv_move rfl) (pu rfl (pv_move rfl) (pu rfl (pv_add rfl rfl) (pu rfl (pv_ix (s := a0) ez_24 rfl rfl hi1 hi2 hi3) (pu rfl (pv_move rfl) (pu rfl (pv_move rfl) (pu rfl (pv_move rfl) (pu rfl (pv_add rfl rfl) (pu rfl (pv_add rfl rfl) (pu rfl (pv_ix (s := a0) ez_24 rfl rfl hi4 hi5 hi6) ap0)))))))))))))))) (ro rfl (pv_ld ty_36 rfl hx2) (ro rfl (pv_ld ty_36 rfl hx3) ao0)) rfl ?_
 refine cy rfl rfl ?_
 refine pw_call co_99 rfl (cm h ?_)
 rintro v1 w3 ⟨x4, rfl, h⟩
 refine nx [vb x4] rfl nl rfl ?_
 refine draw_end rfl (pu rfl (pv_pick (b := true) (v := vb x4) rfl rfl) ap0) ao0 ?_
 exact ⟨x4, ⟨rfl, rfl, rfl, rfl, rfl, rfl, trivial⟩, h⟩
 have h := h.2 hb2
 refine WX_dr [18] [0,1,2,3,4,5,6,7,8,9,11,12,13,14,15,16,19] [⟨[],[0,1,2,3,4,5,6,7,8,9,11,12,13,14,15,16],[10,17],[(18,[18,19],1)]⟩,⟨[18],[19],[],[]⟩] [vi (IntKind.i64.wrap ((IntKind.i64.wrap (2 * x1)) + 1)), vi (IntKind.i64.wrap ((IntKind.i64.wrap ((IntKind.i64.wrap (2 * x1)) + 1)) + 1)), vi a2, vb false, vb false, un, un, un, un, un, un, un, un, un, un, un, un, un, un, un] 2 mixed (by kernel_rfl) hw1 ?_
 refine draw_go rfl (pu rfl (pv_move rfl) (pu rfl (pv_add rfl rfl) (pu rfl (pv_move rfl) (pu rfl (pv_cmp (v := false) rfl rfl rfl (by exact hb2)) (pu rfl (pv_move (by first | rfl | exact congrArg Value.bool hb2)) (pn (pn (pn (pn (pn (pn (pn (pn (pn (pn (pn ap0)))))))))))))))) (rn (rn ao0)) rfl ?_
 refine ch_no [vb false] rfl rfl rfl nl rfl ?_ ch0
 refine draw_end rfl (pu rfl (pv_pick (b := false) (v := vb false) rfl rfl) ap0) ao0 ?_
 exact ⟨false, ⟨rfl, rfl, rfl, rfl, rfl, rfl, trivial⟩, h⟩
 rintro f w4 ⟨x5, ha, h⟩
 obtain ⟨g1, rfl⟩ := canon ha
 refine WX_cond (b := x5) rfl (fun hb3 => ?_) (fun hb3 => ?_)
 have h := h.1 hb3
 refine WX_region ?_
 refine mv (vi (IntKind.i64.wrap ((IntKind.i64.wrap (2 * x1)) + 1))) rfl <| op_v (pv_add rfl rfl) ?_
 refine mva (vi (IntKind.i64.wrap ((IntKind.i64.wrap ((IntKind.i64.wrap (2 * x1)) + 1)) + 1))) rfl (ops_nil ?_)
 exact ⟨(IntKind.i64.wrap ((IntKind.i64.wrap ((IntKind.i64.wrap (2 * x1)) + 1)) + 1)), ⟨rfl, rfl, rfl, rfl, rfl, trivial⟩, h⟩
 have h := h.2 hb3
 refine WX_skip ?_
 exact ⟨(IntKind.i64.wrap ((IntKind.i64.wrap (2 * x1)) + 1)), ⟨rfl, rfl, rfl, rfl, rfl, trivial⟩, h⟩
 rintro f w5 ⟨x6, ha, h⟩
 obtain ⟨g2, rfl⟩ := canon ha
 refine WX_seq ?_
 refine WX_seq ?_
 obtain ⟨w6, hw2, h⟩ := dwe h
 obtain ⟨b3, o3, hi7, hi8, hi9, x7, hx7, b4, o4, hi10, hi11, hi12, x8, hx8, h⟩ := h
 refine WX_dr [12] [0,1,2,3,4,6,7,8,9,10,13] [⟨[],[0,1,2,3,4,6,7,8,9,10],[5,11],[(12,[12,13],1)]⟩,⟨[12],[13],[],[]⟩] [.slice a0.a a0.len a0.cap, vi a3, vi x1, vi (IntKind.i64.wrap (a3 + x1)), vp b3 (o3 + ((IntKind.i64.wrap (a3 + x1))).toNat * 1), vu x7, .slice a0.a a0.len a0.cap, vi a3, vi x6, vi (IntKind.i64.wrap (a3 + x6)), vp b4 (o4 + ((IntKind.i64.wrap (a3 + x6))).toNat * 1), vu x8, un, un] 2 mixed (by kernel_rfl) hw2 ?_
 refine draw_go rfl (pu rfl (pv_move rfl) (pu rfl (pv_move rfl) (pu rfl (pv_move rfl) (pu rfl (pv_add rfl rfl) (pu rfl (pv_ix (s := a0) ez_24 rfl rfl hi7 hi8 hi9) (pu rfl (pv_move rfl) (pu rfl (pv_move rfl) (pu rfl (pv_move rfl) (pu rfl (pv_add rfl rfl) (pu rfl (pv_ix (s := a0) ez_24 rfl rfl hi10 hi11 hi12) ap0)))))))))) (ro rfl (pv_ld ty_36 rfl hx7) (ro rfl (pv_ld ty_36 rfl hx8) ao0)) rfl ?_
 refine cy rfl rfl ?_
 refine pw_call co_99 rfl (cm h ?_)
 rintro v2 w7 ⟨x9, rfl, h⟩
 refine nx [vb (!x9)] rfl nl rfl ?_
 refine draw_end rfl (pu rfl (pv_not rfl) ap0) ao0 ?_
 refine WX_cond (b := (!x9)) rfl (fun hb4 => ?_) (fun hb4 => ?_)
 have h := h.1 hb4
 refine WX_ret ?_
 exact fin_of [] rfl trivial h
 have h := h.2 hb4
 refine WX_skip <| WX_seq ?_
 obtain ⟨w8, hw3, h⟩ := dwe h
 obtain ⟨b5, o5, hi13, hi14, hi15, x10, hx10, b6, o6, hi16, hi17, hi18, x11, hx11, b7, o7, hi19, hi20, hi21, h⟩ := h
 refine WX_dr [21,23] [0,1,2,3,4,5,6,7,8,9,10,11,12,14,15,16,17,18,20,22] [⟨[],[0,1,2,3,4,5,6,7,8,9,10,11,12,14,15,16,17,18,20],[13,19],[(21,[21,22],1)]⟩,⟨[21],[22],[],[(23,[23],2)]⟩,⟨[23,21],[],[],[]⟩] [.slice a0.a a0.len a0.cap, vi a3, vi x1, vi (IntKind.i64.wrap (a3 + x1)), .slice a0.a a0.len a0.cap, vi a3, vi x6, vi (IntKind.i64.wrap (a3 + x6)), .slice a0.a a0.len a0.cap, vi a3, vi x6, vi (IntKind.i64.wrap (a3 + x6)), vp b5 (o5 + ((IntKind.i64.wrap (a3 + x6))).toNat * 1), vu x10, .slice a0.a a0.len a0.cap, vi a3, vi x1, vi (IntKind.i64.wrap (a3 + x1)), vp b6 (o6 + ((IntKind.i64.wrap (a3 + x1))).toNat * 1), vu x11, vp b7 (o7 + ((IntKind.i64.wrap (a3 + x1))).toNat * 1), un, un, un] 3 mixed (by kernel_rfl) hw3 ?_
 refine draw_go rfl (pu rfl (pv_move rfl) (pu rfl (pv_move rfl) (pu rfl (pv_move rfl) (pu rfl (pv_add rfl rfl) (pu rfl (pv_move rfl) (pu rfl (pv_move rfl) (pu rfl (pv_move rfl) (pu rfl (pv_add rfl rfl) (pu rfl (pv_move rfl) (pu rfl (pv_move rfl) (pu rfl (pv_move rfl) (pu rfl (pv_add rfl rfl) (pu rfl (pv_ix (s := a0) ez_24 rfl rfl hi13 hi14 hi15) (pu rfl (pv_move rfl) (pu rfl (pv_move rfl) (pu rfl (pv_move rfl) (pu rfl (pv_add rfl rfl) (pu rfl (pv_ix (s := a0) ez_24 rfl rfl hi16 hi17 hi18) (pu rfl (pv_ix (s := a0) ez_24 rfl rfl hi19 hi20 hi21) ap0))))))))))))))))))) (ro rfl (pv_ld ty_36 rfl hx10) (ro rfl (pv_ld ty_36 rfl hx11) ao0)) rfl ?_
 refine cy rfl rfl ?_
 refine pw_st (x := x10) ty_36 rfl rfl h.1 ?_
 intro w9 hw4
 replace h := h.2 w9 hw4
 obtain ⟨b8, o8, hi22, hi23, hi24, h⟩ := h
 refine nx [vp b8 (o8 + ((IntKind.i64.wrap (a3 + x6))).toNat * 1)] rfl nl rfl ?_
 refine draw_go rfl (pu rfl (pv_ix (s := a0) ez_24 rfl rfl hi22 hi23 hi24) ap0) ao0 rfl ?_
 refine cy rfl rfl ?_
 refine pw_st (x := x11) ty_36 rfl rfl h.1 ?_
 intro w10 hw5
 replace h := h.2 w10 hw5
 refine nx [] rfl nl rfl ?_
 refine draw_end rfl ap0 ao0 ?_
 refine WX_region ?_
 refine mv (vi x6) rfl <| mva (vi x6) rfl (ops_nil ?_)
 subst hn_nxt1
 obtain ⟨m2, hm2, h⟩ := h
 exact ⟨m2, hm2, x6, ⟨rfl, rfl, rfl, rfl, trivial⟩, h⟩
end Go.Proofs.Ytdefmgkicdhmkaa
namespace Go.Proofs.Ytdefmgkicdhmkaa
open Go Go.Sx
set_option linter.unusedVariables false
set_option maxRecDepth 100000
set_option maxHeartbeats 2000000
def sh_f103 (a0 : Sl) (a1 : Int) (a2 : Option Addr) (Q : QW) (w0 : World) : Prop :=
  CallsR PP n_f104 #[.slice a0.a a0.len a0.cap, .int .i64 (IntKind.i64.wrap (a1 - 1)), .int .i64 a1, .int .i64 (IntKind.i64.wrap (a1 + 1)), .pointer a2] (fun v1 w1 => ∃ x1 : Int, v1 = .int .i64 x1 /\ (Q (.int .i64 x1) w1)) w0
theorem so_f103 {a0 : Sl} {a1 : Int} {a2 : Option Addr} (Q : QW) (w0 : World) (h : sh_f103 a0 a1 a2 Q w0) : CallsR PP n_f103 #[.slice a0.a a0.len a0.cap, .int .i64 a1, .pointer a2] Q w0 := by
 refine callsR_of_WX (args := [.slice a0.a a0.len a0.cap, vi a1, .pointer a2]) Try.func103 rfl Try.ntmps103 nl ?_
 refine WX_seq (WX_region ?_)
 refine mva (vi 0) rfl (ops_nil ?_)
 refine WX_seq (WX_region ?_)
 refine mv (.slice a0.a a0.len a0.cap) rfl <| mv (vi a1) rfl <| op_v (pv_sub rfl rfl) <| mv (vi a1) rfl <| mv (vi a1) rfl <| op_v (pv_add rfl rfl) ?_
 refine mv (.pointer a2) rfl <| op_w (pw_call co_104 rfl (CallsR.mono h ?_))
 rintro v1 w1 ⟨x1, rfl, h⟩
 refine mva (vi x1) rfl (ops_nil ?_)
 refine WX_ret ?_
 exact fin_of [vi x1] rfl ⟨rfl, trivial⟩ h
def sh_f104 (a0 : Sl) (a1 : Int) (a2 : Int) (a3 : Int) (a4 : Option Addr) (Q : QW) (w0 : World) : Prop :=
  CallsR PP n_f106 #[.slice a0.a a0.len a0.cap, .int .i64 a1, .int .i64 a2, .pointer a4] (fun v1 w1 => ∃ x1 : Int, ∃ x2 : Int, v1 = .tuple #[.int .i64 x1, .int .i64 x2] /\ (CallsR PP n_f106 #[.slice a0.a a0.len a0.cap, .int .i64 x2, .int .i64 a3, .pointer a4] (fun v2 w2 => ∃ x3 : Int, ∃ x4 : Int, v2 = .tuple #[.int .i64 x3, .int .i64 x4] /\ (CallsR PP n_f106 #[.slice a0.a a0.len a0.cap, .int .i64 x1, .int .i64 x3, .pointer a4] (fun v3 w3 => ∃ x5 : Int, ∃ x6 : Int, v3 = .tuple #[.int .i64 x5, .int .i64 x6] /\ (Q (.int .i64 x6) w3)) w2)) w1)) w0
theorem so_f104 {a0 : Sl} {a1 : Int} {a2 : Int} {a3 : Int} {a4 : Option Addr} (Q : QW) (w0 : World) (h : sh_f104 a0 a1 a2 a3 a4 Q w0) : CallsR PP n_f104 #[.slice a0.a a0.len a0.cap, .int .i64 a1, .int .i64 a2, .int .i64 a3, .pointer a4] Q w0 := by
 refine callsR_of_WX (args := [.slice a0.a a0.len a0.cap, vi a1, vi a2, vi a3, .pointer a4]) Try.func104 rfl Try.ntmps104 nl ?_
 refine WX_seq (WX_region ?_)
 refine mva (vi 0) rfl (ops_nil ?_)
 refine WX_seq (WX_region ?_)
 refine mv (.slice a0.a a0.len a0.cap) rfl <| mv (vi a1) rfl <| mv (vi a2) rfl <| mv (.pointer a4) rfl <| op_w (pw_call co_106 rfl (CallsR.mono h ?_))
 rintro v1 w1 ⟨x1, x2, rfl, h⟩
 refine mv (.tuple #[vi x1, vi x2]) rfl <| op_v (pv_extract (vs := [vi x1, vi x2]) (v := vi x1) rfl rfl) ?_
 refine op_v (pv_extract (vs := [vi x1, vi x2]) (v := vi x2) rfl rfl) <| mva (vi x1) rfl <| mva (vi x2) rfl (ops_nil ?_)
 refine WX_seq (WX_region ?_)
 refine mv (.slice a0.a a0.len a0.cap) rfl <| mv (vi x2) rfl <| mv (vi a3) rfl <| mv (.pointer a4) rfl <| op_w (pw_call co_106 rfl (CallsR.mono h ?_))
 rintro v2 w2 ⟨x3, x4, rfl, h⟩
 refine mv (.tuple #[vi x3, vi x4]) rfl <| op_v (pv_extract (vs := [vi x3, vi x4]) (v := vi x3) rfl rfl) ?_
 refine op_v (pv_extract (vs := [vi x3, vi x4]) (v := vi x4) rfl rfl) <| mva (vi x3) rfl <| mva (vi x4) rfl (ops_nil ?_)
 refine WX_seq (WX_region ?_)
 refine mv (.slice a0.a a0.len a0.cap) rfl <| mv (vi x1) rfl <| mv (vi x3) rfl <| mv (.pointer a4) rfl <| op_w (pw_call co_106 rfl (CallsR.mono h ?_))
 rintro v3 w3 ⟨x5, x6, rfl, h⟩
 refine mv (.tuple #[vi x5, vi x6]) rfl <| op_v (pv_extract (vs := [vi x5, vi x6]) (v := vi x5) rfl rfl) ?_
 refine op_v (pv_extract (vs := [vi x5, vi x6]) (v := vi x6) rfl rfl) <| mva (vi x5) rfl <| mva (vi x6) rfl (ops_nil ?_)
 refine WX_seq (WX_region ?_)
 refine mv (vi x6) rfl <| mva (vi x6) rfl (ops_nil ?_)
 refine WX_ret ?_
 exact fin_of [vi x6] rfl ⟨rfl, trivial⟩ h
def sh_f105 (a0 : Int) (Q : QW) (w0 : World) : Prop :=
  Q (.bool (a0 != a0)) w0
theorem so_f105 {a0 : Int} (Q : QW) (w0 : World) (h : sh_f105 a0 Q w0) : CallsR PP n_f105 #[.int .u64 a0] Q w0 := by
 refine callsR_of_WX (args := [vu a0]) Try.func105 rfl Try.ntmps105 nl ?_
 refine WX_seq (WX_region ?_)
 refine mva (vb false) rfl (ops_nil ?_)
 refine WX_seq (WX_region ?_)
 refine mv (vu a0) rfl <| mv (vu a0) rfl <| op_v (pv_cmp (v := (a0 != a0)) rfl rfl rfl rfl) <| mva (vb (a0 != a0)) rfl (ops_nil ?_)
 refine WX_ret ?_
 exact fin_of [vb (a0 != a0)] rfl ⟨rfl, trivial⟩ h
def sh_f106 (a0 : Sl) (a1 : Int) (a2 : Int) (a3 : Option Addr) (Q : QW) (w0 : World) : Prop :=
  nc a3 fun b1 o1 => dw w0 fun w1 => ixs a0 a2 fun b2 o2 => ld tU64 w1 b2 (o2 + (a2).toNat * 1) fun x1 => ixs a0 a1 fun b3 o3 => ld tU64 w1 b3 (o3 + (a1).toNat * 1) fun x2 => CallsR PP n_f99 #[.int .u64 x1, .int .u64 x2] (fun v1 w2 => ∃ x3 : Bool, v1 = .bool x3 /\ (br x3 (ld tI64 w2 b1 o1 fun x4 => st tI64 w2 b1 o1 (IntKind.i64.wrap (x4 + 1)) fun w3 => Q (.tuple #[.int .i64 a2, .int .i64 a1]) w3) (Q (.tuple #[.int .i64 a1, .int .i64 a2]) w2))) w1
theorem so_f106 {a0 : Sl} {a1 : Int} {a2 : Int} {a3 : Option Addr} (Q : QW) (w0 : World) (h : sh_f106 a0 a1 a2 a3 Q w0) : CallsR PP n_f106 #[.slice a0.a a0.len a0.cap, .int .i64 a1, .int .i64 a2, .pointer a3] Q w0 := by
 refine callsR_of_WX (args := [.slice a0.a a0.len a0.cap, vi a1, vi a2, .pointer a3]) Try.func106 rfl Try.ntmps106 nl ?_
 obtain ⟨b1, o1, hp1, h⟩ := h
 refine WX_seq (WX_region ?_)
 refine mva (vi 0) rfl <| mva (vi 0) rfl (ops_nil ?_)
 refine WX_seq ?_
 refine WX_seq ?_
 obtain ⟨w1, hw1, h⟩ := dwe h
 obtain ⟨b2, o2, hi1, hi2, hi3, x1, hx1, b3, o3, hi4, hi5, hi6, x2, hx2, h⟩ := h
 refine WX_dr [8] [0,1,2,4,5,6] [⟨[],[0,1,2,4,5,6],[3,7],[(8,[8],1)]⟩,⟨[8],[],[],[]⟩] [.slice a0.a a0.len a0.cap, vi a2, vp b2 (o2 + (a2).toNat * 1), vu x1, .slice a0.a a0.len a0.cap, vi a1, vp b3 (o3 + (a1).toNat * 1), vu x2, un] 2 mixed (by kernel_rfl) hw1 ?_
 refine draw_go rfl (pu rfl (pv_move rfl) (pu rfl (pv_move rfl) (pu rfl (pv_ix (s := a0) ez_24 rfl rfl hi1 hi2 hi3) (pu rfl (pv_move rfl) (pu rfl (pv_move rfl) (pu rfl (pv_ix (s := a0) ez_24 rfl rfl hi4 hi5 hi6) ap0)))))) (ro rfl (pv_ld ty_36 rfl hx1) (ro rfl (pv_ld ty_36 rfl hx2) ao0)) rfl ?_
 refine cy rfl rfl ?_
 refine pw_call co_99 rfl (cm h ?_)
 rintro v1 w2 ⟨x3, rfl, h⟩
 refine nx [] rfl nl rfl ?_
 refine draw_end rfl ap0 ao0 ?_
 refine WX_cond (b := x3) rfl (fun hb1 => ?_) (fun hb1 => ?_)
 have h := h.1 hb1
 refine WX_seq (WX_region ?_)
 refine mv (.pointer a3) rfl <| op_v (pv_nilh rfl hp1) ?_
 obtain ⟨x4, hx4, h⟩ := h
 refine op_v (pv_ld ty_3 rfl hx4) <| op_v (pv_add rfl rfl) <| op_v (pv_nilh rfl hp1) ?_
 refine op_w (pw_st (x := (IntKind.i64.wrap (x4 + 1))) ty_3 rfl rfl h.1 ?_)
 intro w3 hw2
 replace h := h.2 w3 hw2
 refine ops_nil ?_
 refine WX_seq (WX_region ?_)
 refine mv (vi a2) rfl <| mv (vi a1) rfl <| mva (vi a2) rfl <| mva (vi a1) rfl (ops_nil ?_)
 refine WX_ret ?_
 exact fin_of [vi a2, vi a1] rfl ⟨rfl, ⟨rfl, trivial⟩⟩ h
 have h := h.2 hb1
 refine WX_skip <| WX_seq (WX_region ?_)
 refine mv (vi a1) rfl <| mv (vi a2) rfl <| mva (vi a1) rfl <| mva (vi a2) rfl (ops_nil ?_)
 refine WX_ret ?_
 exact fin_of [vi a1, vi a2] rfl ⟨rfl, ⟨rfl, trivial⟩⟩ h
end Go.Proofs.Ytdefmgkicdhmkaa
