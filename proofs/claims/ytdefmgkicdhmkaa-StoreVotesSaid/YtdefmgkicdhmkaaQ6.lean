/- What the functions do, part 6; for every memory. -/
import Derived.Test.YtdefmgkicdhmkaaQ5
namespace Go.Proofs.Ytdefmgkicdhmkaa
open Go Go.Sx
set_option linter.unusedVariables false
set_option maxRecDepth 100000
set_option maxHeartbeats 2000000
def sh_f50_j3 (x16 : Int) (nxt1 : Int -> World -> Prop) (w19 : World) : Prop :=
  nxt1 (IntKind.i64.wrap (x16 + 1)) w19
def sh_f50_j5 (Q : QW) (b2 : Nat) (b5 : Nat) (w26 : World) : Prop :=
  ld t_api_Vote w26 b5 0 fun x22 => st t_api_Vote w26 b2 0 x22 fun w27 => ld t_api_Vote w27 b2 0 fun x23 => Q (t_api_Vote.val x23) w27
def sh_f50_j4 (a0 : Option Addr) (Q : QW) (b2 : Nat) (b5 : Nat) (w20 : World) : Prop :=
  CallsR PP n_f48 #[.pointer a0, .int .i64 12] (fun v6 w21 => ∃ x19 : Int, v6 = .int .i64 x19 /\ (br (x19 == 10) (CallsR PP n_f48 #[.pointer a0, .int .i64 3] (fun v7 w22 => ∃ x20 : Int, v7 = .int .i64 x20 /\ (st t_api_Point w22 b5 2 (⟨x20, 1⟩ : G_api_Point) fun w23 => (sh_f50_j5 Q b2 b5 w23))) w21) (br (x19 == 11) (CallsR PP n_f49 #[.pointer a0] (fun v8 w24 => ∃ x21 : Int, v8 = .int .u64 x21 /\ (st tU64 w24 b5 5 x21 fun w25 => (sh_f50_j5 Q b2 b5 w25))) w21) ((sh_f50_j5 Q b2 b5 w21))))) w20
def sh_f50_b2 (a0 : Option Addr) (Q : QW) (b2 : Nat) (b5 : Nat) (x14 : Int) (x15 : Sl) (x16 : Int) (w15 : World) (nxt1 : Int -> World -> Prop) : Prop :=
  br (decide (x16 < (x15.len : Int))) (chkp (0 <= x16) <| br ((IntKind.i64.wrap ((BitVec.ofInt IntKind.i64.bits x14 &&& BitVec.ofInt IntKind.i64.bits (IntKind.i64.wrap (1 * 2 ^ (min (x16 : Int).toNat IntKind.i64.bits)))).toNat : Int)) != 0) (ld tSl w15 b5 6 fun x17 => alr 3 w15 (tI64.enc x16) fun b8 w16 => app 3 1 8 w16 x17 (Sl.mk (some ⟨b8, 0, none⟩) 1 1) fun x18 w17 => st tSl w17 b5 6 x18 fun w18 => (sh_f50_j3 x16 nxt1 w18)) ((sh_f50_j3 x16 nxt1 w15))) ((sh_f50_j4 a0 Q b2 b5 w15))
def sh_f50_j1 (a0 : Option Addr) (Q : QW) (b2 : Nat) (b4 : Nat) (b5 : Nat) (x14 : Int) (w14 : World) : Prop :=
  ld tSl w14 b4 0 fun x15 => (∃ I1 : Nat -> Int -> World -> Prop, (∃ m, I1 m 0 w14) /\ ∀ m x16 w15, I1 m x16 w15 -> sh_f50_b2 a0 Q b2 b5 x14 x15 x16 w15 (fun y0 w => ∃ m2, m2 < m /\ I1 m2 y0 w))
def sh_f50 (a0 : Option Addr) (a1 : Int) (a2 : Int) (Q : QW) (w0 : World) : Prop :=
  nc a0 fun b1 o1 => al t_api_Vote 53 w0 (⟨0, 0, (⟨0, 0⟩ : G_api_Point), (⟨0, 0⟩ : G_api_Point), nilSl⟩ : G_api_Vote) fun b2 w1 => ld tPtr w1 b1 (o1 + 0) fun x1 => nc x1 fun b3 o2 => ld t_api_Config w1 b3 (o2 + 0) fun x2 => al t_api_Config 26 w1 (⟨nilSl, 0, 0⟩ : G_api_Config) fun b4 w2 => st t_api_Config w2 b4 0 x2 fun w3 => al t_api_Vote 53 w3 (⟨0, 0, (⟨0, 0⟩ : G_api_Point), (⟨0, 0⟩ : G_api_Point), nilSl⟩ : G_api_Vote) fun b5 w4 => st t_api_Vote w4 b5 0 (⟨a2, a1, (⟨0, 0⟩ : G_api_Point), (⟨0, 0⟩ : G_api_Point), nilSl⟩ : G_api_Vote) fun w5 => ld tI64 w5 b4 1 fun x3 => CallsR PP n_f41 #[.int .i64 a2, .int .i64 x3] (fun v1 w6 => ∃ x4 : Int, v1 = .int .i64 x4 /\ (dw w6 fun w7 => ld tPtr w7 b1 (o1 + 0) fun x5 => nc x5 fun b6 o3 => ld tPtr w7 b6 (o3 + 3) fun x6 => ld tI64 w7 b4 1 fun x7 => CallsR PP n_f53 #[.int .i64 x4, .int .i64 x7] (fun v2 w8 => ∃ x8 : Int, v2 = .int .i64 x8 /\ (chk tPtr w8 b1 (o1 + 0) x5 <| chk tPtr w8 b6 (o3 + 3) x6 <| CallsR PP n_f20 #[.pointer x6, .int .u64 a1, .int .i64 x8] (fun v3 w9 => ∃ x9 : Int, v3 = .int .u64 x9 /\ (st t_api_Point w9 b5 4 (⟨x4, x9⟩ : G_api_Point) fun w10 => ld tPtr w10 b1 (o1 + 0) fun x10 => nc x10 fun b7 o4 => ld t_api_Point w10 b7 (o4 + 7) fun x11 => st t_api_Point w10 b5 2 x11 fun w11 => CallsR PP n_f48 #[.pointer a0, .int .i64 64] (fun v4 w12 => ∃ x12 : Int, v4 = .int .i64 x12 /\ (CallsR PP n_f48 #[.pointer a0, .int .i64 4] (fun v5 w13 => ∃ x13 : Int, v5 = .int .i64 x13 /\ (br (decide (x13 > 0)) ((sh_f50_j1 a0 Q b2 b4 b5 (IntKind.i64.wrap (63 - (Int.tmod x12 3))) w13)) ((sh_f50_j1 a0 Q b2 b4 b5 x12 w13)))) w12)) w11)) w8)) w7)) w5
theorem so_f50 {a0 : Option Addr} {a1 : Int} {a2 : Int} (Q : QW) (w0 : World) (h : sh_f50 a0 a1 a2 Q w0) : CallsR PP n_f50 #[.pointer a0, .int .u64 a1, .int .i64 a2] Q w0 := by
 refine callsR_of_WX (args := [.pointer a0, vu a1, vi a2]) Try.func50 rfl Try.ntmps50 nl ?_
 obtain ⟨b1, o1, hp1, h⟩ := h
 refine WX_seq (WX_region ?_)
 refine op_w (pw_alloc ty_53 tz_53 ?_)
 intro b2 w1 hw1 hw2
 replace h := h b2 w1 hw1 hw2
 refine ops_nil ?_
 refine WX_seq (WX_region ?_)
 refine mv (.pointer a0) rfl <| op_v (pv_nilh rfl hp1) <| op_v (pv_fld fo_99_0 rfl) ?_
 obtain ⟨x1, hx1, h⟩ := h
 refine op_v (pv_ld ty_28 rfl hx1) ?_
 obtain ⟨b3, o2, hp2, h⟩ := h
 refine op_v (pv_nilh rfl hp2) <| op_v (pv_fld fo_43_0 rfl) ?_
 obtain ⟨x2, hx2, h⟩ := h
 refine op_v (pv_ld ty_26 rfl hx2) <| op_w (pw_alloc ty_26 tz_26 ?_)
 intro b4 w2 hw3 hw4
 replace h := h b4 w2 hw3 hw4
 refine op_w (pw_st (x := x2) ty_26 rfl rfl h.1 ?_)
 intro w3 hw5
 replace h := h.2 w3 hw5
 refine ops_nil ?_
 refine WX_seq (WX_region ?_)
 refine mv (vi a2) rfl <| mv (vu a1) rfl ?_
 refine op_v (pv_build (cs := t_api_Vote.enc (⟨a2, a1, (⟨0, 0⟩ : G_api_Point), (⟨0, 0⟩ : G_api_Point), nilSl⟩ : G_api_Vote)) (vs := [(0, vi a2), (1, vu a1)]) rfl (by kernel_rfl)) ?_
 refine op_w (pw_alloc ty_53 tz_53 ?_)
 intro b5 w4 hw6 hw7
 replace h := h b5 w4 hw6 hw7
 refine op_w (pw_st (x := (⟨a2, a1, (⟨0, 0⟩ : G_api_Point), (⟨0, 0⟩ : G_api_Point), nilSl⟩ : G_api_Vote)) ty_53 rfl rfl h.1 ?_)
 intro w5 hw8
 replace h := h.2 w5 hw8
 refine ops_nil ?_
 refine WX_seq (WX_region ?_)
 refine mv (vi a2) rfl <| op_v (pv_fld fo_26_1 rfl) ?_
 obtain ⟨x3, hx3, h⟩ := h
 refine op_v (pv_ld ty_3 rfl hx3) <| op_w (pw_call co_41 rfl (CallsR.mono h ?_))
 rintro v1 w6 ⟨x4, rfl, h⟩
 refine mva (vi x4) rfl (ops_nil ?_)
 refine WX_seq ?_
 obtain ⟨w7, hw9, h⟩ := dwe h
 obtain ⟨x5, hx5, b6, o3, hp3, x6, hx6, x7, hx7, h⟩ := h
 refine WX_dr [12,13,16] [0,1,2,3,5,6,8,9,10,14,15] [⟨[],[0,1,2,3,5,6,8,9,10],[4,7,11],[(12,[12],1)]⟩,⟨[12],[],[4,7],[(13,[13,14,15],2)]⟩,⟨[13,12],[14,15],[],[(16,[16],3)]⟩,⟨[16,13,12],[],[],[]⟩] [vi x4, .pointer a0, vp b1 o1, vp b1 (o1 + 0), .pointer x5, vp b6 o3, vp b6 (o3 + 3), .pointer x6, vu a1, vi x4, vp b4 1, vi x7, un, un, un, un, un] 4 mixed (by kernel_rfl) hw9 ?_
 refine draw_go rfl (pu rfl (pv_move rfl) (pu rfl (pv_move rfl) (pu rfl (pv_nilh rfl hp1) (pu rfl (pv_fld fo_99_0 rfl) (pu rfl (pv_nilh rfl hp3) (pu rfl (pv_fld fo_43_1 rfl) (pu rfl (pv_move rfl) (pu rfl (pv_move rfl) (pu rfl (pv_fld fo_26_1 rfl) ap0))))))))) (ro rfl (pv_ld ty_28 rfl hx5) (ro rfl (pv_ld ty_33 rfl hx6) (ro rfl (pv_ld ty_3 rfl hx7) ao0))) rfl ?_
 refine cy rfl rfl ?_
 refine pw_call co_53 rfl (cm h ?_)
 rintro v2 w8 ⟨x8, rfl, h⟩
 obtain ⟨hc1, hc2, h⟩ := h
 refine nx [] rfl nl rfl ?_
 refine draw_go rfl ap0 (ro rfl (pv_ld ty_28 rfl hc1) (ro rfl (pv_ld ty_33 rfl hc2) ao0)) rfl ?_
 refine cy rfl rfl ?_
 refine pw_call co_20 rfl (cm h ?_)
 rintro v3 w9 ⟨x9, rfl, h⟩
 refine nx [t_api_Point.val (⟨x4, x9⟩ : G_api_Point), vp b5 4] rfl nl rfl ?_
 refine draw_go rfl (pu rfl (pv_build (cs := t_api_Point.enc (⟨x4, x9⟩ : G_api_Point)) (vs := [(0, vi x4), (1, vu x9)]) rfl (by kernel_rfl)) (pu rfl (pv_fld fo_53_3 rfl) ap0)) ao0 rfl ?_
 refine cy rfl rfl ?_
 refine pw_st (x := (⟨x4, x9⟩ : G_api_Point)) ty_38 rfl rfl h.1 ?_
 intro w10 hw10
 replace h := h.2 w10 hw10
 refine nx [] rfl nl rfl ?_
 dsimp only [putV, List.set]
 refine draw_end rfl ap0 ao0 ?_
 refine WX_seq (WX_region ?_)
 refine mv (.pointer a0) rfl <| op_v (pv_nilh rfl hp1) <| op_v (pv_fld fo_99_0 rfl) ?_
 obtain ⟨x10, hx10, h⟩ := h
 refine op_v (pv_ld ty_28 rfl hx10) ?_
 obtain ⟨b7, o4, hp4, h⟩ := h
 refine op_v (pv_nilh rfl hp4) <| op_v (pv_fld fo_43_5 rfl) ?_
 obtain ⟨x11, hx11, h⟩ := h
 refine op_v (pv_ld ty_38 rfl hx11) <| op_v (pv_fld fo_53_2 rfl) <| op_w (pw_st (x := x11) ty_38 rfl rfl h.1 ?_)
 intro w11 hw11
 replace h := h.2 w11 hw11
 refine ops_nil ?_
 refine WX_seq (WX_region ?_)
 refine mv (.pointer a0) rfl <| op_w (pw_call co_48 rfl (CallsR.mono h ?_))
 rintro v4 w12 ⟨x12, rfl, h⟩
 refine mva (vi x12) rfl (ops_nil ?_)
 refine WX_join (fun f w14 => ∃ x14 : Int, Agree f [(0, .pointer a0), (6, vp b2 0), (7, vp b4 0), (8, vp b5 0), (10, vi x14)] /\ sh_f50_j1 a0 Q b2 b4 b5 x14 w14) ?_ ?_
 refine WX_seq (WX_region ?_)
 refine mv (.pointer a0) rfl <| op_w (pw_call co_48 rfl (CallsR.mono h ?_))
 rintro v5 w13 ⟨x13, rfl, h⟩
 refine op_v (pv_cmp (v := decide (x13 > 0)) rfl rfl rfl rfl) (ops_nil ?_)
 refine WX_cond (b := decide (x13 > 0)) rfl (fun hb1 => ?_) (fun hb1 => ?_)
 have h := h.1 hb1
 refine WX_region ?_
 refine mv (vi x12) rfl <| op_v (pv_rem rfl rfl (by decide)) <| op_v (pv_sub rfl rfl) ?_
 refine mva (vi (IntKind.i64.wrap (63 - (Int.tmod x12 3)))) rfl (ops_nil ?_)
 exact ⟨(IntKind.i64.wrap (63 - (Int.tmod x12 3))), ⟨rfl, rfl, rfl, rfl, rfl, trivial⟩, h⟩
 have h := h.2 hb1
 refine WX_skip ?_
 exact ⟨x12, ⟨rfl, rfl, rfl, rfl, rfl, trivial⟩, h⟩
 rintro f w14 ⟨x14, ha, h⟩
 obtain ⟨g5, rfl⟩ := canon ha
 refine WX_join (fun f w20 => Agree f [(0, .pointer a0), (6, vp b2 0), (8, vp b5 0)] /\ sh_f50_j4 a0 Q b2 b5 w20) ?_ ?_
 refine WX_seq (WX_region ?_)
 refine op_v (pv_fld fo_26_0 rfl) ?_
 obtain ⟨x15, hx15, h⟩ := h
 refine op_v (pv_ld ty_24 rfl hx15) <| op_v (pv_lenS (s := x15) is_24 rfl) <| mv (vi 0) rfl (ops_nil ?_)
 refine WX_block ?_
 obtain ⟨I1, ⟨m, h0⟩, hB1⟩ := h
 refine WX_loop (fun m f w15 => ∃ x16 : Int, Agree f [(0, .pointer a0), (6, vp b2 0), (8, vp b5 0), (10, vi x14), (60, vi (x15.len : Int)), (61, vi x16)] /\ I1 m x16 w15) ⟨m, 0, ⟨rfl, rfl, rfl, rfl, rfl, rfl, trivial⟩, h0⟩ ?_
 clear h0 m
 rintro m f w15 ⟨x16, ha, h⟩
 obtain ⟨g2, rfl⟩ := canon ha
 replace h := hB1 m x16 w15 h
 clear hB1
 generalize hn_nxt1 : (fun (y0 : Int) (w : World) => ∃ m2, m2 < m /\ I1 m2 y0 w) = nxt1 at h
 refine WX_seq (WX_region ?_)
 refine op_v (pv_cmp (v := decide (x16 < (x15.len : Int))) rfl rfl rfl rfl) (ops_nil ?_)
 refine WX_seq ?_
 refine WX_cond (b := decide (x16 < (x15.len : Int))) rfl (fun hb2 => ?_) (fun hb2 => ?_)
 have h := h.1 hb2
 refine WX_skip ?_
 refine WX_join (fun f w19 => Agree f [(0, .pointer a0), (6, vp b2 0), (8, vp b5 0), (10, vi x14), (60, vi (x15.len : Int)), (61, vi x16)] /\ sh_f50_j3 x16 nxt1 w19) ?_ ?_
 refine WX_block ?_
 refine WX_seq (WX_region ?_)
 refine mv (vi x16) rfl <| mva (vi x16) rfl (ops_nil ?_)
 refine WX_seq (WX_region ?_)
 refine mv (vi x14) rfl <| mv (vi x16) rfl ?_
 obtain ⟨hz1, h⟩ := h
 refine op_v (pv_shl rfl rfl hz1) ?_
 refine op_v (pv_bits (r := (IntKind.i64.wrap ((BitVec.ofInt IntKind.i64.bits x14 &&& BitVec.ofInt IntKind.i64.bits (IntKind.i64.wrap (1 * 2 ^ (min (x16 : Int).toNat IntKind.i64.bits)))).toNat : Int))) rfl rfl rfl) ?_
 refine op_v (pv_cmp (v := ((IntKind.i64.wrap ((BitVec.ofInt IntKind.i64.bits x14 &&& BitVec.ofInt IntKind.i64.bits (IntKind.i64.wrap (1 * 2 ^ (min (x16 : Int).toNat IntKind.i64.bits)))).toNat : Int)) != 0)) rfl rfl rfl rfl) (ops_nil ?_)
 refine WX_cond (b := ((IntKind.i64.wrap ((BitVec.ofInt IntKind.i64.bits x14 &&& BitVec.ofInt IntKind.i64.bits (IntKind.i64.wrap (1 * 2 ^ (min (x16 : Int).toNat IntKind.i64.bits)))).toNat : Int)) != 0)) rfl (fun hb3 => ?_) (fun hb3 => ?_)
 have h := h.1 hb3
 refine WX_region ?_
 refine op_v (pv_fld fo_53_4 rfl) ?_
 obtain ⟨x17, hx17, h⟩ := h
 refine op_v (pv_ld ty_51 rfl hx17) <| mv (vi x16) rfl <| op_w (pw_buildSlice (e := 3) (cs := tI64.enc x16) (vs := [(0, vi x16)]) rfl (by kernel_rfl) ?_)
 intro b8 w16 hw12 hw13
 replace h := h b8 w16 hw12 hw13
 obtain ⟨ol1, ne1, ha1, ha2, ha3, ha4, ha5, h⟩ := h
 refine op_w (pw_append (s := x17) (r := (Sl.mk (some ⟨b8, 0, none⟩) 1 1)) eo_51 is_51 rfl rfl ha1 ha2 ha3 ha4 ha5 ?_)
 intro x18 w17 ha6
 replace h := h x18 w17 ha6
 refine op_v (pv_fld fo_53_4 rfl) <| op_w (pw_st (x := x18) ty_51 rfl rfl h.1 ?_)
 intro w18 hw14
 replace h := h.2 w18 hw14
 refine ops_nil ?_
 exact ⟨⟨rfl, rfl, rfl, rfl, rfl, rfl, trivial⟩, h⟩
 have h := h.2 hb3
 refine WX_skip ?_
 exact ⟨⟨rfl, rfl, rfl, rfl, rfl, rfl, trivial⟩, h⟩
 rintro f w19 ⟨ha, h⟩
 obtain ⟨g1, rfl⟩ := canon ha
 refine WX_region ?_
 refine op_v (pv_add rfl rfl) <| mv (vi (IntKind.i64.wrap (x16 + 1))) rfl (ops_nil ?_)
 subst hn_nxt1
 obtain ⟨m2, hm2, h⟩ := h
 exact ⟨m2, hm2, (IntKind.i64.wrap (x16 + 1)), ⟨rfl, rfl, rfl, rfl, rfl, rfl, trivial⟩, h⟩
 have h := h.2 hb2
 refine WX_exit0 ?_
 exact ⟨⟨rfl, rfl, rfl, trivial⟩, h⟩
 rintro f w20 ⟨ha, h⟩
 obtain ⟨g4, rfl⟩ := canon ha
 refine WX_join (fun f w26 => Agree f [(6, vp b2 0), (8, vp b5 0)] /\ sh_f50_j5 Q b2 b5 w26) ?_ ?_
 refine WX_seq (WX_region ?_)
 refine mv (.pointer a0) rfl <| op_w (pw_call co_48 rfl (CallsR.mono h ?_))
 rintro v6 w21 ⟨x19, rfl, h⟩
 refine ops_nil ?_
 refine WX_block ?_
 refine WX_seq (WX_region ?_)
 refine op_v (pv_cmp (v := (x19 == 10)) rfl rfl rfl rfl) <| mva (vb (x19 == 10)) rfl (ops_nil ?_)
 refine WX_cond (b := (x19 == 10)) rfl (fun hb5 => ?_) (fun hb5 => ?_)
 have h := h.1 hb5
 refine WX_region ?_
 refine mv (.pointer a0) rfl <| op_w (pw_call co_48 rfl (CallsR.mono h ?_))
 rintro v7 w22 ⟨x20, rfl, h⟩
 refine op_v (pv_build (cs := t_api_Point.enc (⟨x20, 1⟩ : G_api_Point)) (vs := [(0, vi x20), (1, vu 1)]) rfl (by kernel_rfl)) ?_
 refine op_v (pv_fld fo_53_2 rfl) <| op_w (pw_st (x := (⟨x20, 1⟩ : G_api_Point)) ty_38 rfl rfl h.1 ?_)
 intro w23 hw15
 replace h := h.2 w23 hw15
 refine ops_nil ?_
 exact ⟨⟨rfl, rfl, trivial⟩, h⟩
 have h := h.2 hb5
 refine WX_seq (WX_region ?_)
 refine op_v (pv_cmp (v := (x19 == 11)) rfl rfl rfl rfl) <| mva (vb (x19 == 11)) rfl (ops_nil ?_)
 refine WX_cond (b := (x19 == 11)) rfl (fun hb4 => ?_) (fun hb4 => ?_)
 have h := h.1 hb4
 refine WX_region ?_
 refine mv (.pointer a0) rfl <| op_w (pw_call co_49 rfl (CallsR.mono h ?_))
 rintro v8 w24 ⟨x21, rfl, h⟩
 refine op_v (pv_fld fo_53_3 rfl) <| op_v (pv_fld fo_38_1 rfl) <| op_w (pw_st (x := x21) ty_36 rfl rfl h.1 ?_)
 intro w25 hw16
 replace h := h.2 w25 hw16
 refine ops_nil ?_
 exact ⟨⟨rfl, rfl, trivial⟩, h⟩
 have h := h.2 hb4
 refine WX_skip ?_
 exact ⟨⟨rfl, rfl, trivial⟩, h⟩
 rintro f w26 ⟨ha, h⟩
 obtain ⟨g3, rfl⟩ := canon ha
 refine WX_seq (WX_region ?_)
 obtain ⟨x22, hx22, h⟩ := h
 refine op_v (pv_ld ty_53 rfl hx22) <| op_w (pw_st (x := x22) ty_53 rfl rfl h.1 ?_)
 intro w27 hw17
 replace h := h.2 w27 hw17
 refine ops_nil ?_
 refine WX_ret ?_
 obtain ⟨x23, hx23, h⟩ := h
 exact fin_of [t_api_Vote.val x23] rfl ⟨⟨_, _, rfl, run_loadVar ty_53 hx23⟩, trivial⟩ h
def sh_f51 (a0 : Option Addr) (a1 : Int) (a2 : Int) (a3 : Int) (Q : QW) (w0 : World) : Prop :=
  nc a0 fun b1 o1 => ld tMap w0 b1 (o1 + 1) fun x1 => lkp t_tree_node w0 x1 a2 fun x2 => al t_tree_node 109 w0 (⟨0, 0, 0⟩ : G_tree_node) fun b2 w1 => st t_tree_node w1 b2 0 (x2.getD (⟨0, 0, 0⟩ : G_tree_node)) fun w2 => CallsR PP n_f15 #[.pointer a0, .int .u64 a1] (fun v1 w3 => ∃ x3 : Bool, v1 = .bool x3 /\ (br x3 (Q (.iface 94 (.int .i64 6)) w3) (br (!x2.isSome) (Q (.iface 94 (.int .i64 5)) w3) (ld tI64 w3 b2 1 fun x4 => br (decide (a3 <= x4)) (Q (.iface 94 (.int .i64 7)) w3) (ld tMap w3 b1 (o1 + 1) fun x5 => mlen t_tree_node w3 x5 fun x6 => br (decide ((x6 : Int) ≥ 1024)) (Q (.iface 94 (.int .i64 12)) w3) (dw w3 fun w4 => ld tMap w4 b1 (o1 + 1) fun x7 => ld tI64 w4 b2 2 fun x8 => mset t_tree_node w4 x7 a1 (⟨a2, a3, (IntKind.i64.wrap (x8 + 1))⟩ : G_tree_node) fun w5 => Q (.nilIface) w5)))))) w2
theorem so_f51 {a0 : Option Addr} {a1 : Int} {a2 : Int} {a3 : Int} (Q : QW) (w0 : World) (h : sh_f51 a0 a1 a2 a3 Q w0) : CallsR PP n_f51 #[.pointer a0, .int .u64 a1, .int .u64 a2, .int .i64 a3] Q w0 := by
 refine callsR_of_WX (args := [.pointer a0, vu a1, vu a2, vi a3]) Try.func51 rfl Try.ntmps51 nl ?_
 obtain ⟨b1, o1, hp1, h⟩ := h
 refine WX_seq (WX_region ?_)
 refine mva .nilIface rfl (ops_nil ?_)
 refine WX_seq (WX_region ?_)
 refine mv (.pointer a0) rfl <| op_v (pv_nilh rfl hp1) <| op_v (pv_fld fo_113_1 rfl) ?_
 obtain ⟨x1, hx1, h⟩ := h
 refine op_v (pv_ld ty_111 rfl hx1) <| mv (vu a2) rfl ?_
 obtain ⟨es1, hm1, h⟩ := h
 obtain ⟨x2, hq1⟩ : ∃ x, mget es1 a2 = x := ⟨_, rfl⟩
 replace h := hq1 ▸ h
 refine op_v (pv_lookupOkE (T := t_tree_node) mu_111 tz_109 rfl rfl hm1 hq1) ?_
 refine mv (.tuple #[t_tree_node.val (x2.getD (⟨0, 0, 0⟩ : G_tree_node)), vb x2.isSome]) rfl ?_
 refine op_v (pv_extract (vs := [t_tree_node.val (x2.getD (⟨0, 0, 0⟩ : G_tree_node)), vb x2.isSome]) (v := t_tree_node.val (x2.getD (⟨0, 0, 0⟩ : G_tree_node))) rfl rfl) ?_
 refine op_v (pv_extract (vs := [t_tree_node.val (x2.getD (⟨0, 0, 0⟩ : G_tree_node)), vb x2.isSome]) (v := vb x2.isSome) rfl rfl) ?_
 refine op_w (pw_alloc ty_109 tz_109 ?_)
 intro b2 w1 hw1 hw2
 replace h := h b2 w1 hw1 hw2
 refine op_w (pw_st (x := (x2.getD (⟨0, 0, 0⟩ : G_tree_node))) ty_109 rfl rfl h.1 ?_)
 intro w2 hw3
 replace h := h.2 w2 hw3
 refine mva (vb x2.isSome) rfl (ops_nil ?_)
 refine WX_seq ?_
 refine WX_block ?_
 refine WX_seq (WX_region ?_)
 refine mv (.pointer a0) rfl <| mv (vu a1) rfl <| op_w (pw_call co_15 rfl (CallsR.mono h ?_))
 rintro v1 w3 ⟨x3, rfl, h⟩
 refine mva (vb x3) rfl (ops_nil ?_)
 refine WX_cond (b := x3) rfl (fun hb4 => ?_) (fun hb4 => ?_)
 have h := h.1 hb4
 refine WX_seq (WX_region ?_)
 refine op_v (pv_iface (v := vi 6) ni_94 rfl) <| mva (.iface 94 (vi 6)) rfl (ops_nil ?_)
 refine WX_ret ?_
 exact fin_of [.iface 94 (vi 6)] rfl ⟨rfl, trivial⟩ h
 have h := h.2 hb4
 refine WX_seq (WX_region ?_)
 refine mv (vb x2.isSome) rfl <| op_v (pv_not rfl) <| mva (vb (!x2.isSome)) rfl (ops_nil ?_)
 refine WX_cond (b := (!x2.isSome)) rfl (fun hb3 => ?_) (fun hb3 => ?_)
 have h := h.1 hb3
 refine WX_seq (WX_region ?_)
 refine op_v (pv_iface (v := vi 5) ni_94 rfl) <| mva (.iface 94 (vi 5)) rfl (ops_nil ?_)
 refine WX_ret ?_
 exact fin_of [.iface 94 (vi 5)] rfl ⟨rfl, trivial⟩ h
 have h := h.2 hb3
 refine WX_seq (WX_region ?_)
 refine mv (vi a3) rfl <| op_v (pv_fld fo_109_1 rfl) ?_
 obtain ⟨x4, hx4, h⟩ := h
 refine op_v (pv_ld ty_3 rfl hx4) <| op_v (pv_cmp (v := decide (a3 <= x4)) rfl rfl rfl rfl) <| mva (vb (decide (a3 <= x4))) rfl (ops_nil ?_)
 refine WX_cond (b := decide (a3 <= x4)) rfl (fun hb2 => ?_) (fun hb2 => ?_)
 have h := h.1 hb2
 refine WX_seq (WX_region ?_)
 refine op_v (pv_iface (v := vi 7) ni_94 rfl) <| mva (.iface 94 (vi 7)) rfl (ops_nil ?_)
 refine WX_ret ?_
 exact fin_of [.iface 94 (vi 7)] rfl ⟨rfl, trivial⟩ h
 have h := h.2 hb2
 refine WX_seq (WX_region ?_)
 refine mv (.pointer a0) rfl <| op_v (pv_nilh rfl hp1) <| op_v (pv_fld fo_113_1 rfl) ?_
 obtain ⟨x5, hx5, h⟩ := h
 refine op_v (pv_ld ty_111 rfl hx5) ?_
 obtain ⟨es2, hm2, h⟩ := h
 obtain ⟨x6, hq2⟩ : ∃ x, es2.length = x := ⟨_, rfl⟩
 replace h := hq2 ▸ h
 refine op_v (pv_lenME (T := t_tree_node) mv_111 rfl hm2 hq2) <| op_v (pv_cmp (v := decide ((x6 : Int) ≥ 1024)) rfl rfl rfl rfl) ?_
 refine mva (vb (decide ((x6 : Int) ≥ 1024))) rfl (ops_nil ?_)
 refine WX_cond (b := decide ((x6 : Int) ≥ 1024)) rfl (fun hb1 => ?_) (fun hb1 => ?_)
 have h := h.1 hb1
 refine WX_seq (WX_region ?_)
 refine op_v (pv_iface (v := vi 12) ni_94 rfl) <| mva (.iface 94 (vi 12)) rfl (ops_nil ?_)
 refine WX_ret ?_
 exact fin_of [.iface 94 (vi 12)] rfl ⟨rfl, trivial⟩ h
 have h := h.2 hb1
 refine WX_skip <| WX_seq ?_
 obtain ⟨w4, hw4, h⟩ := dwe h
 obtain ⟨x7, hx7, x8, hx8, h⟩ := h
 refine WX_dr [11] [0,1,2,4,5,6,7,9,10] [⟨[],[0,1,2,4,5,6,7,9,10],[3,8],[(11,[11],1)]⟩,⟨[11],[],[],[]⟩] [.pointer a0, vp b1 o1, vp b1 (o1 + 1), .map x7, vu a1, vu a2, vi a3, vp b2 2, vi x8, vi (IntKind.i64.wrap (x8 + 1)), t_tree_node.val (⟨a2, a3, (IntKind.i64.wrap (x8 + 1))⟩ : G_tree_node), un] 2 mixed (by kernel_rfl) hw4 ?_
 refine draw_go rfl (pu rfl (pv_move rfl) (pu rfl (pv_nilh rfl hp1) (pu rfl (pv_fld fo_113_1 rfl) (pu rfl (pv_move rfl) (pu rfl (pv_move rfl) (pu rfl (pv_move rfl) (pu rfl (pv_fld fo_109_2 rfl) (pu rfl (pv_add rfl rfl) (pu rfl (pv_build (cs := t_tree_node.enc (⟨a2, a3, (IntKind.i64.wrap (x8 + 1))⟩ : G_tree_node)) (vs := [(0, vu a2), (1, vi a3), (2, vi (IntKind.i64.wrap (x8 + 1)))]) rfl (by kernel_rfl)) ap0))))))))) (ro rfl (pv_ld ty_111 rfl hx7) (ro rfl (pv_ld ty_3 rfl hx8) ao0)) rfl ?_
 refine cy rfl rfl ?_
 obtain ⟨r1, es3, hr1, hm3, h⟩ := h
 refine pw_mapSet (T := t_tree_node) (x := (⟨a2, a3, (IntKind.i64.wrap (x8 + 1))⟩ : G_tree_node)) mu_111 (congrArg Value.map hr1) rfl rfl hm3 ?_
 intro ob1 ho1
 replace h := h ob1 ho1
 clear ho1
 generalize setB w4 r1 ob1 = w5 at h ⊢
 refine nx [] rfl nl rfl ?_
 refine draw_end rfl ap0 ao0 ?_
 refine WX_seq (WX_region ?_)
 refine mva .nilIface rfl (ops_nil ?_)
 refine WX_ret ?_
 exact fin_of [.nilIface] rfl ⟨rfl, trivial⟩ h
def sh_f52_j6 (Q : QW) (b1 : Nat) (o1 : Nat) (b3 : Nat) (w22 : World) : Prop :=
  dw w22 fun w23 => ld tSl w23 b1 (o1 + 13) fun x31 => ld tU64 w23 b3 1 fun x32 => alr 66 w23 (t_store_Change.enc (⟨3, x32, 0, 0, 0, false⟩ : G_store_Change)) fun b5 w24 => chk tSl w24 b1 (o1 + 13) x31 <| app 66 6 48 w24 x31 (Sl.mk (some ⟨b5, 0, none⟩) 1 1) fun x33 w25 => st tSl w25 b1 (o1 + 13) x33 fun w26 => Q (.tuple #[]) w26
def sh_f52_j5 (Q : QW) (b1 : Nat) (o1 : Nat) (b3 : Nat) (w18 : World) : Prop :=
  dw w18 fun w19 => ld tPtr w19 b1 (o1 + 3) fun x28 => ld tU64 w19 b1 (o1 + 6) fun x29 => CallsR PP n_f15 #[.pointer x28, .int .u64 x29] (fun v5 w20 => ∃ x30 : Bool, v5 = .bool x30 /\ (br (!x30) (st tU64 w20 b1 (o1 + 6) 0 fun w21 => (sh_f52_j6 Q b1 o1 b3 w21)) ((sh_f52_j6 Q b1 o1 b3 w20)))) w19
def sh_f52_b4 (Q : QW) (b1 : Nat) (o1 : Nat) (b3 : Nat) (x23 : Sl) (x24 : Int) (w15 : World) (nxt1 : Int -> World -> Prop) : Prop :=
  br (decide (x24 < (x23.len : Int))) (ixs x23 x24 fun b4 o2 => ld tU64 w15 b4 (o2 + (x24).toNat * 1) fun x25 => ld tMap w15 b1 (o1 + 11) fun x26 => mdl t_ledger_State w15 x26 x25 fun w16 => ld tMap w16 b1 (o1 + 12) fun x27 => mset tBool w16 x27 x25 true fun w17 => nxt1 (IntKind.i64.wrap (x24 + 1)) w17) ((sh_f52_j5 Q b1 o1 b3 w15))
def sh_f52_j3 (Q : QW) (b1 : Nat) (o1 : Nat) (b3 : Nat) (x19 : Bool) (w11 : World) : Prop :=
  br x19 (Q (.tuple #[]) w11) (ld t_api_Point w11 b3 0 fun x20 => st t_api_Point w11 b1 (o1 + 9) x20 fun w12 => dw w12 fun w13 => ld tPtr w13 b1 (o1 + 3) fun x21 => ld tU64 w13 b3 1 fun x22 => CallsR PP n_f62 #[.pointer x21, .int .u64 x22] (fun v4 w14 => ∃ x23 : Sl, v4 = .slice x23.a x23.len x23.cap /\ ((∃ I1 : Nat -> Int -> World -> Prop, (∃ m, I1 m 0 w14) /\ ∀ m x24 w15, I1 m x24 w15 -> sh_f52_b4 Q b1 o1 b3 x23 x24 w15 (fun y0 w => ∃ m2, m2 < m /\ I1 m2 y0 w)))) w13)
def sh_f52_j2 (Q : QW) (b1 : Nat) (o1 : Nat) (b3 : Nat) (w7 : World) : Prop :=
  dw w7 fun w8 => ld tI64 w8 b3 0 fun x9 => ld tI64 w8 b1 ((o1 + 9) + 0) fun x10 => br (decide (x9 <= x10)) ((sh_f52_j3 Q b1 o1 b3 true w8)) (ld tPtr w8 b1 (o1 + 3) fun x11 => ld tU64 w8 b3 1 fun x12 => ld tU64 w8 b1 ((o1 + 9) + 1) fun x13 => CallsR PP n_f17 #[.pointer x11, .int .u64 x12, .int .u64 x13] (fun v2 w9 => ∃ x14 : Bool, v2 = .bool x14 /\ (br (!x14) ((sh_f52_j3 Q b1 o1 b3 true w9)) (ld tPtr w9 b1 (o1 + 3) fun x15 => ld tU64 w9 b1 ((o1 + 7) + 1) fun x16 => ld tU64 w9 b3 1 fun x17 => CallsR PP n_f17 #[.pointer x15, .int .u64 x16, .int .u64 x17] (fun v3 w10 => ∃ x18 : Bool, v3 = .bool x18 /\ ((sh_f52_j3 Q b1 o1 b3 (!x18) w10))) w9))) w8)
def sh_f52_j1 (Q : QW) (b1 : Nat) (o1 : Nat) (b2 : Nat) (b3 : Nat) (x7 : Bool) (w5 : World) : Prop :=
  br x7 (ld t_api_Point w5 b2 0 fun x8 => st t_api_Point w5 b1 (o1 + 7) x8 fun w6 => (sh_f52_j2 Q b1 o1 b3 w6)) ((sh_f52_j2 Q b1 o1 b3 w5))
def sh_f52 (a0 : Option Addr) (a1 : G_api_Point) (a2 : G_api_Point) (Q : QW) (w0 : World) : Prop :=
  nc a0 fun b1 o1 => al t_api_Point 38 w0 a1 fun b2 w1 => al t_api_Point 38 w1 a2 fun b3 w2 => dw w2 fun w3 => ld tI64 w3 b2 0 fun x1 => ld tI64 w3 b1 ((o1 + 7) + 0) fun x2 => br (decide (x1 > x2)) (ld tPtr w3 b1 (o1 + 3) fun x3 => ld tU64 w3 b2 1 fun x4 => ld tU64 w3 b1 ((o1 + 9) + 1) fun x5 => CallsR PP n_f17 #[.pointer x3, .int .u64 x4, .int .u64 x5] (fun v1 w4 => ∃ x6 : Bool, v1 = .bool x6 /\ ((sh_f52_j1 Q b1 o1 b2 b3 x6 w4))) w3) ((sh_f52_j1 Q b1 o1 b2 b3 false w3))
theorem so_f52 {a0 : Option Addr} {a1 : G_api_Point} {a2 : G_api_Point} (Q : QW) (w0 : World) (h : sh_f52 a0 a1 a2 Q w0) : CallsR PP n_f52 #[.pointer a0, t_api_Point.val a1, t_api_Point.val a2] Q w0 := by
 refine callsR_of_WX (args := [.pointer a0, t_api_Point.val a1, t_api_Point.val a2]) Try.func52 rfl Try.ntmps52 nl ?_
 obtain ⟨b1, o1, hp1, h⟩ := h
 refine WX_seq (WX_region ?_)
 refine op_w (pw_box (v := a1) ty_38 rfl ?_)
 intro b2 w1 hw1 hw2
 replace h := h b2 w1 hw1 hw2
 refine op_w (pw_box (v := a2) ty_38 rfl ?_)
 intro b3 w2 hw3 hw4
 replace h := h b3 w2 hw3 hw4
 refine ops_nil ?_
 refine WX_join (fun f w7 => Agree f [(0, .pointer a0), (5, vp b3 0)] /\ sh_f52_j2 Q b1 o1 b3 w7) ?_ ?_
 refine WX_join (fun f w5 => ∃ x7 : Bool, Agree f [(0, .pointer a0), (4, vp b2 0), (5, vp b3 0), (30, vb x7)] /\ sh_f52_j1 Q b1 o1 b2 b3 x7 w5) ?_ ?_
 obtain ⟨w3, hw5, h⟩ := dwe h
 obtain ⟨x1, hx1, x2, hx2, h⟩ := h
 refine dr_split (b := decide (x1 > x2)) (fun hb1 => ?_) (fun hb1 => ?_)
 have h := h.1 hb1
 obtain ⟨x3, hx3, x4, hx4, x5, hx5, h⟩ := h
 refine WX_dr [20] [0,2,3,4,5,7,8,9,10,11,13,15,16,17,18,21] [⟨[],[0,2,3,4,5,7,8,9,10,11,13,15,16,17,18],[1,6,12,14,19],[(20,[20,21],1)]⟩,⟨[20],[21],[],[]⟩] [vp b2 0, vi x1, .pointer a0, vp b1 o1, vp b1 (o1 + 7), vp b1 ((o1 + 7) + 0), vi x2, vb true, vb true, .pointer a0, vp b1 o1, vp b1 (o1 + 3), .pointer x3, vp b2 1, vu x4, .pointer a0, vp b1 o1, vp b1 (o1 + 9), vp b1 ((o1 + 9) + 1), vu x5, un, un] 2 mixed (by kernel_rfl) hw5 ?_
 refine draw_go rfl (pu rfl (pv_fld fo_38_0 rfl) (pu rfl (pv_move rfl) (pu rfl (pv_nilh rfl hp1) (pu rfl (pv_fld fo_43_5 rfl) (pu rfl (pv_fld fo_38_0 rfl) (pu rfl (pv_cmp (v := true) rfl rfl rfl (by exact hb1)) (pu rfl (pv_move (by first | rfl | exact congrArg Value.bool hb1)) (pu rfl (pv_move rfl) (pu rfl (pv_nilh rfl hp1) (pu rfl (pv_fld fo_43_1 rfl) (pu rfl (pv_fld fo_38_1 rfl) (pu rfl (pv_move rfl) (pu rfl (pv_nilh rfl hp1) (pu rfl (pv_fld fo_43_6 rfl) (pu rfl (pv_fld fo_38_1 rfl) ap0))))))))))))))) (ro rfl (pv_ld ty_3 rfl hx1) (ro rfl (pv_ld ty_3 rfl hx2) (ro rfl (pv_ld ty_33 rfl hx3) (ro rfl (pv_ld ty_36 rfl hx4) (ro rfl (pv_ld ty_36 rfl hx5) ao0))))) rfl ?_
 refine cy rfl rfl ?_
 refine pw_call co_17 rfl (cm h ?_)
 rintro v1 w4 ⟨x6, rfl, h⟩
 refine nx [vb x6] rfl nl rfl ?_
 refine draw_end rfl (pu rfl (pv_pick (b := true) (v := vb x6) rfl rfl) ap0) ao0 ?_
 exact ⟨x6, ⟨rfl, rfl, rfl, rfl, trivial⟩, h⟩
 have h := h.2 hb1
 refine WX_dr [20] [0,2,3,4,5,7,8,9,10,11,13,15,16,17,18,21] [⟨[],[0,2,3,4,5,7,8,9,10,11,13,15,16,17,18],[1,6,12,14,19],[(20,[20,21],1)]⟩,⟨[20],[21],[],[]⟩] [vp b2 0, vi x1, .pointer a0, vp b1 o1, vp b1 (o1 + 7), vp b1 ((o1 + 7) + 0), vi x2, vb false, vb false, un, un, un, un, un, un, un, un, un, un, un, un, un] 2 mixed (by kernel_rfl) hw5 ?_
 refine draw_go rfl (pu rfl (pv_fld fo_38_0 rfl) (pu rfl (pv_move rfl) (pu rfl (pv_nilh rfl hp1) (pu rfl (pv_fld fo_43_5 rfl) (pu rfl (pv_fld fo_38_0 rfl) (pu rfl (pv_cmp (v := false) rfl rfl rfl (by exact hb1)) (pu rfl (pv_move (by first | rfl | exact congrArg Value.bool hb1)) (pn (pn (pn (pn (pn (pn (pn (pn ap0))))))))))))))) (ro rfl (pv_ld ty_3 rfl hx1) (ro rfl (pv_ld ty_3 rfl hx2) (rn (rn (rn ao0))))) rfl ?_
 refine ch_no [vb false] rfl rfl rfl nl rfl ?_ ch0
 refine draw_end rfl (pu rfl (pv_pick (b := false) (v := vb false) rfl rfl) ap0) ao0 ?_
 exact ⟨false, ⟨rfl, rfl, rfl, rfl, trivial⟩, h⟩
 rintro f w5 ⟨x7, ha, h⟩
 obtain ⟨g1, rfl⟩ := canon ha
 refine WX_cond (b := x7) rfl (fun hb2 => ?_) (fun hb2 => ?_)
 have h := h.1 hb2
 refine WX_region ?_
 refine mv (.pointer a0) rfl ?_
 obtain ⟨x8, hx8, h⟩ := h
 refine op_v (pv_ld ty_38 rfl hx8) <| op_v (pv_nilh rfl hp1) <| op_v (pv_fld fo_43_5 rfl) <| op_w (pw_st (x := x8) ty_38 rfl rfl h.1 ?_)
 intro w6 hw6
 replace h := h.2 w6 hw6
 refine ops_nil ?_
 exact ⟨⟨rfl, rfl, trivial⟩, h⟩
 have h := h.2 hb2
 refine WX_skip ?_
 exact ⟨⟨rfl, rfl, trivial⟩, h⟩
 rintro f w7 ⟨ha, h⟩
 obtain ⟨g6, rfl⟩ := canon ha
 refine WX_seq ?_
 refine WX_join (fun f w11 => ∃ x19 : Bool, Agree f [(0, .pointer a0), (5, vp b3 0), (72, vb x19)] /\ sh_f52_j3 Q b1 o1 b3 x19 w11) ?_ ?_
 obtain ⟨w8, hw7, h⟩ := dwe h
 obtain ⟨x9, hx9, x10, hx10, h⟩ := h
 refine dr_split (b := decide (x9 <= x10)) (fun hb3 => ?_) (fun hb3 => ?_)
 have h := h.1 hb3
 refine WX_dr [20,35] [0,2,3,4,5,7,8,9,10,11,13,15,16,17,18,21,22,23,24,25,26,28,29,30,31,33,36,37] [⟨[],[0,2,3,4,5,7,8,9,10,11,13,15,16,17,18],[1,6,12,14,19],[(20,[20,21,22,23,24,25,26,27,28,29,30,31,32,33,34],1)]⟩,⟨[20],[21,22,23,24,25,26,28,29,30,31,33],[27,32,34],[(35,[35,36,37],2)]⟩,⟨[35,20],[36,37],[],[]⟩] [vp b3 0, vi x9, .pointer a0, vp b1 o1, vp b1 (o1 + 9), vp b1 ((o1 + 9) + 0), vi x10, vb true, vb true, un, un, un, un, un, un, un, un, un, un, un, un, un, un, un, un, un, un, un, un, un, un, un, un, un, un, un, un, un] 3 mixed (by kernel_rfl) hw7 ?_
 refine draw_go rfl (pu rfl (pv_fld fo_38_0 rfl) (pu rfl (pv_move rfl) (pu rfl (pv_nilh rfl hp1) (pu rfl (pv_fld fo_43_6 rfl) (pu rfl (pv_fld fo_38_0 rfl) (pu rfl (pv_cmp (v := true) rfl rfl rfl (by exact hb3)) (pu rfl (pv_move (by first | rfl | exact congrArg Value.bool hb3)) (pn (pn (pn (pn (pn (pn (pn (pn ap0))))))))))))))) (ro rfl (pv_ld ty_3 rfl hx9) (ro rfl (pv_ld ty_3 rfl hx10) (rn (rn (rn ao0))))) rfl ?_
 refine ch_no [un, vb true, vb true, un, un, un, un, un, un, un, un, un, un, un] rfl rfl rfl nl rfl ?_ ch0
 dsimp only [putV, List.set]
 refine draw_go rfl (pn (pu rfl (pv_pick (b := true) (v := vb true) rfl rfl) (pu rfl (pv_move rfl) (pn (pn (pn (pn (pn (pn (pn (pn ap0))))))))))) (rn (rn (rn ao0))) rfl ?_
 refine ch_no [un, vb true] rfl rfl rfl nl rfl ?_ ch0
 refine draw_end rfl (pn (pu rfl (pv_pick (b := true) (v := vb true) rfl rfl) ap0)) ao0 ?_
 exact ⟨true, ⟨rfl, rfl, rfl, trivial⟩, h⟩
 have h := h.2 hb3
 obtain ⟨x11, hx11, x12, hx12, x13, hx13, h⟩ := h
 refine WX_dr [20,35] [0,2,3,4,5,7,8,9,10,11,13,15,16,17,18,21,22,23,24,25,26,28,29,30,31,33,36,37] [⟨[],[0,2,3,4,5,7,8,9,10,11,13,15,16,17,18],[1,6,12,14,19],[(20,[20,21,22,23,24,25,26,27,28,29,30,31,32,33,34],1)]⟩,⟨[20],[21,22,23,24,25,26,28,29,30,31,33],[27,32,34],[(35,[35,36,37],2)]⟩,⟨[35,20],[36,37],[],[]⟩] [vp b3 0, vi x9, .pointer a0, vp b1 o1, vp b1 (o1 + 9), vp b1 ((o1 + 9) + 0), vi x10, vb false, vb false, .pointer a0, vp b1 o1, vp b1 (o1 + 3), .pointer x11, vp b3 1, vu x12, .pointer a0, vp b1 o1, vp b1 (o1 + 9), vp b1 ((o1 + 9) + 1), vu x13, un, un, un, un, un, un, un, un, un, un, un, un, un, un, un, un, un, un] 3 mixed (by kernel_rfl) hw7 ?_
 refine draw_go rfl (pu rfl (pv_fld fo_38_0 rfl) (pu rfl (pv_move rfl) (pu rfl (pv_nilh rfl hp1) (pu rfl (pv_fld fo_43_6 rfl) (pu rfl (pv_fld fo_38_0 rfl) (pu rfl (pv_cmp (v := false) rfl rfl rfl (by exact hb3)) (pu rfl (pv_move (by first | rfl | exact congrArg Value.bool hb3)) (pu rfl (pv_move rfl) (pu rfl (pv_nilh rfl hp1) (pu rfl (pv_fld fo_43_1 rfl) (pu rfl (pv_fld fo_38_1 rfl) (pu rfl (pv_move rfl) (pu rfl (pv_nilh rfl hp1) (pu rfl (pv_fld fo_43_6 rfl) (pu rfl (pv_fld fo_38_1 rfl) ap0))))))))))))))) (ro rfl (pv_ld ty_3 rfl hx9) (ro rfl (pv_ld ty_3 rfl hx10) (ro rfl (pv_ld ty_33 rfl hx11) (ro rfl (pv_ld ty_36 rfl hx12) (ro rfl (pv_ld ty_36 rfl hx13) ao0))))) rfl ?_
 refine cy rfl rfl ?_
 refine pw_call co_17 rfl (cm h ?_)
 rintro v2 w9 ⟨x14, rfl, h⟩
 refine dr_split (b := (!x14)) (fun hb4 => ?_) (fun hb4 => ?_)
 have h := h.1 hb4
 refine nx [vb true, vb true, vb true, un, un, un, un, un, un, un, un, un, un, un] rfl nl rfl ?_
 dsimp only [putV, List.set]
 refine draw_go rfl (pu rfl (pv_notE rfl (by exact hb4)) (pu rfl (pv_pick (b := false) (v := vb true) rfl rfl) (pu rfl (pv_move (by first | rfl | exact congrArg Value.bool hb4)) (pn (pn (pn (pn (pn (pn (pn (pn ap0))))))))))) (rn (rn (rn ao0))) rfl ?_
 refine ch_no [un, vb true] rfl rfl rfl nl rfl ?_ ch0
 refine draw_end rfl (pn (pu rfl (pv_pick (b := true) (v := vb true) rfl rfl) ap0)) ao0 ?_
 exact ⟨true, ⟨rfl, rfl, rfl, trivial⟩, h⟩
 have h := h.2 hb4
 obtain ⟨x15, hx15, x16, hx16, x17, hx17, h⟩ := h
 refine nx [vb false, vb false, vb false, .pointer a0, vp b1 o1, vp b1 (o1 + 3), .pointer x15, .pointer a0, vp b1 o1, vp b1 (o1 + 7), vp b1 ((o1 + 7) + 1), vu x16, vp b3 1, vu x17] rfl nl rfl ?_
 dsimp only [putV, List.set]
 refine draw_go rfl (pu rfl (pv_notE rfl (by exact hb4)) (pu rfl (pv_pick (b := false) (v := vb false) rfl rfl) (pu rfl (pv_move (by first | rfl | exact congrArg Value.bool hb4)) (pu rfl (pv_move rfl) (pu rfl (pv_nilh rfl hp1) (pu rfl (pv_fld fo_43_1 rfl) (pu rfl (pv_move rfl) (pu rfl (pv_nilh rfl hp1) (pu rfl (pv_fld fo_43_5 rfl) (pu rfl (pv_fld fo_38_1 rfl) (pu rfl (pv_fld fo_38_1 rfl) ap0))))))))))) (ro rfl (pv_ld ty_33 rfl hx15) (ro rfl (pv_ld ty_36 rfl hx16) (ro rfl (pv_ld ty_36 rfl hx17) ao0))) rfl ?_
 refine cy rfl rfl ?_
 refine pw_call co_17 rfl (cm h ?_)
 rintro v3 w10 ⟨x18, rfl, h⟩
 refine nx [vb (!x18), vb (!x18)] rfl nl rfl ?_
 refine draw_end rfl (pu rfl (pv_not rfl) (pu rfl (pv_pick (b := false) (v := vb (!x18)) rfl rfl) ap0)) ao0 ?_
 exact ⟨(!x18), ⟨rfl, rfl, rfl, trivial⟩, h⟩
 rintro f w11 ⟨x19, ha, h⟩
 obtain ⟨g2, rfl⟩ := canon ha
 refine WX_cond (b := x19) rfl (fun hb5 => ?_) (fun hb5 => ?_)
 have h := h.1 hb5
 refine WX_ret ?_
 exact fin_of [] rfl trivial h
 have h := h.2 hb5
 refine WX_skip <| WX_seq (WX_region ?_)
 refine mv (.pointer a0) rfl ?_
 obtain ⟨x20, hx20, h⟩ := h
 refine op_v (pv_ld ty_38 rfl hx20) <| op_v (pv_nilh rfl hp1) <| op_v (pv_fld fo_43_6 rfl) <| op_w (pw_st (x := x20) ty_38 rfl rfl h.1 ?_)
 intro w12 hw8
 replace h := h.2 w12 hw8
 refine ops_nil ?_
 refine WX_seq ?_
 obtain ⟨w13, hw9, h⟩ := dwe h
 obtain ⟨x21, hx21, x22, hx22, h⟩ := h
 refine WX_dr [6] [0,1,2,4,7] [⟨[],[0,1,2,4],[3,5],[(6,[6,7],1)]⟩,⟨[6],[7],[],[]⟩] [.pointer a0, vp b1 o1, vp b1 (o1 + 3), .pointer x21, vp b3 1, vu x22, un, un] 2 mixed (by kernel_rfl) hw9 ?_
 refine draw_go rfl (pu rfl (pv_move rfl) (pu rfl (pv_nilh rfl hp1) (pu rfl (pv_fld fo_43_1 rfl) (pu rfl (pv_fld fo_38_1 rfl) ap0)))) (ro rfl (pv_ld ty_33 rfl hx21) (ro rfl (pv_ld ty_36 rfl hx22) ao0)) rfl ?_
 refine cy rfl rfl ?_
 refine pw_call co_62 rfl (cm h ?_)
 rintro v4 w14 ⟨x23, rfl, h⟩
 refine nx [.slice x23.a x23.len x23.cap] rfl nl rfl ?_
 refine draw_end rfl (pu rfl (pv_assign rfl) ap0) ao0 ?_
 refine WX_join (fun f w18 => Agree f [(0, .pointer a0), (5, vp b3 0)] /\ sh_f52_j5 Q b1 o1 b3 w18) ?_ ?_
 refine WX_seq (WX_region ?_)
 refine mv (.slice x23.a x23.len x23.cap) rfl <| op_v (pv_lenS (s := x23) is_24 rfl) <| mv (vi 0) rfl (ops_nil ?_)
 refine WX_block ?_
 obtain ⟨I1, ⟨m, h0⟩, hB1⟩ := h
 refine WX_loop (fun m f w15 => ∃ x24 : Int, Agree f [(0, .pointer a0), (5, vp b3 0), (84, .slice x23.a x23.len x23.cap), (85, vi (x23.len : Int)), (86, vi x24)] /\ I1 m x24 w15) ⟨m, 0, ⟨rfl, rfl, rfl, rfl, rfl, trivial⟩, h0⟩ ?_
 clear h0 m
 rintro m f w15 ⟨x24, ha, h⟩
 obtain ⟨g3, rfl⟩ := canon ha
 replace h := hB1 m x24 w15 h
 clear hB1
 generalize hn_nxt1 : (fun (y0 : Int) (w : World) => ∃ m2, m2 < m /\ I1 m2 y0 w) = nxt1 at h
 refine WX_seq (WX_region ?_)
 refine op_v (pv_cmp (v := decide (x24 < (x23.len : Int))) rfl rfl rfl rfl) (ops_nil ?_)
 refine WX_seq ?_
 refine WX_cond (b := decide (x24 < (x23.len : Int))) rfl (fun hb6 => ?_) (fun hb6 => ?_)
 have h := h.1 hb6
 refine WX_skip <| WX_seq ?_
 refine WX_block ?_
 refine WX_seq (WX_region ?_)
 obtain ⟨b4, o2, hi1, hi2, hi3, h⟩ := h
 refine op_v (pv_ix (s := x23) ez_24 rfl rfl hi1 hi2 hi3) ?_
 obtain ⟨x25, hx25, h⟩ := h
 refine op_v (pv_ld ty_36 rfl hx25) <| mva (vu x25) rfl (ops_nil ?_)
 refine WX_seq (WX_region ?_)
 refine mv (.pointer a0) rfl <| op_v (pv_nilh rfl hp1) <| op_v (pv_fld fo_43_7 rfl) ?_
 obtain ⟨x26, hx26, h⟩ := h
 refine op_v (pv_ld ty_39 rfl hx26) <| mv (vu x25) rfl ?_
 obtain ⟨r1, es1, hr1, hm1, h⟩ := h
 refine op_w (pw_mapDel (T := t_ledger_State) mu_39 (congrArg Value.map hr1) rfl hm1 ?_)
 intro ob1 ho1
 replace h := h ob1 ho1
 clear ho1
 generalize setB w15 r1 ob1 = w16 at h ⊢
 refine ops_nil ?_
 refine WX_region ?_
 refine mv (.pointer a0) rfl <| op_v (pv_nilh rfl hp1) <| op_v (pv_fld fo_43_8 rfl) ?_
 obtain ⟨x27, hx27, h⟩ := h
 refine op_v (pv_ld ty_40 rfl hx27) <| mv (vu x25) rfl ?_
 obtain ⟨r2, es2, hr2, hm2, h⟩ := h
 refine op_w (pw_mapSet (T := tBool) (x := true) mu_40 (congrArg Value.map hr2) rfl rfl hm2 ?_)
 intro ob2 ho2
 replace h := h ob2 ho2
 clear ho2
 generalize setB w16 r2 ob2 = w17 at h ⊢
 refine ops_nil ?_
 refine WX_region ?_
 refine op_v (pv_add rfl rfl) <| mv (vi (IntKind.i64.wrap (x24 + 1))) rfl (ops_nil ?_)
 subst hn_nxt1
 obtain ⟨m2, hm2, h⟩ := h
 exact ⟨m2, hm2, (IntKind.i64.wrap (x24 + 1)), ⟨rfl, rfl, rfl, rfl, rfl, trivial⟩, h⟩
 have h := h.2 hb6
 refine WX_exit0 ?_
 exact ⟨⟨rfl, rfl, trivial⟩, h⟩
 rintro f w18 ⟨ha, h⟩
 obtain ⟨g5, rfl⟩ := canon ha
 refine WX_join (fun f w22 => Agree f [(0, .pointer a0), (5, vp b3 0)] /\ sh_f52_j6 Q b1 o1 b3 w22) ?_ ?_
 refine WX_seq ?_
 obtain ⟨w19, hw10, h⟩ := dwe h
 obtain ⟨x28, hx28, x29, hx29, h⟩ := h
 refine WX_dr [8] [0,1,2,4,5,6,9] [⟨[],[0,1,2,4,5,6],[3,7],[(8,[8,9],1)]⟩,⟨[8],[9],[],[]⟩] [.pointer a0, vp b1 o1, vp b1 (o1 + 3), .pointer x28, .pointer a0, vp b1 o1, vp b1 (o1 + 6), vu x29, un, un] 2 mixed (by kernel_rfl) hw10 ?_
 refine draw_go rfl (pu rfl (pv_move rfl) (pu rfl (pv_nilh rfl hp1) (pu rfl (pv_fld fo_43_1 rfl) (pu rfl (pv_move rfl) (pu rfl (pv_nilh rfl hp1) (pu rfl (pv_fld fo_43_4 rfl) ap0)))))) (ro rfl (pv_ld ty_33 rfl hx28) (ro rfl (pv_ld ty_36 rfl hx29) ao0)) rfl ?_
 refine cy rfl rfl ?_
 refine pw_call co_15 rfl (cm h ?_)
 rintro v5 w20 ⟨x30, rfl, h⟩
 refine nx [vb (!x30)] rfl nl rfl ?_
 refine draw_end rfl (pu rfl (pv_not rfl) ap0) ao0 ?_
 refine WX_cond (b := (!x30)) rfl (fun hb7 => ?_) (fun hb7 => ?_)
 have h := h.1 hb7
 refine WX_region ?_
 refine mv (.pointer a0) rfl <| op_v (pv_nilh rfl hp1) <| op_v (pv_fld fo_43_4 rfl) <| op_w (pw_st (x := 0) ty_36 rfl rfl h.1 ?_)
 intro w21 hw11
 replace h := h.2 w21 hw11
 refine ops_nil ?_
 exact ⟨⟨rfl, rfl, trivial⟩, h⟩
 have h := h.2 hb7
 refine WX_skip ?_
 exact ⟨⟨rfl, rfl, trivial⟩, h⟩
 rintro f w22 ⟨ha, h⟩
 obtain ⟨g4, rfl⟩ := canon ha
 obtain ⟨w23, hw12, h⟩ := dwe h
 obtain ⟨x31, hx31, x32, hx32, h⟩ := h
 refine WX_dr [8,9,12] [0,1,2,3,5,7,10,11] [⟨[],[0,1,2,3,5,7],[4,6],[(8,[8],1)]⟩,⟨[8],[],[4],[(9,[9,10,11],2)]⟩,⟨[9,8],[10,11],[],[(12,[12],3)]⟩,⟨[12,9,8],[],[],[]⟩] [.pointer a0, .pointer a0, vp b1 o1, vp b1 (o1 + 13), .slice x31.a x31.len x31.cap, vp b3 1, vu x32, t_store_Change.val (⟨3, x32, 0, 0, 0, false⟩ : G_store_Change), un, un, un, un, un] 4 mixed (by kernel_rfl) hw12 ?_
 refine draw_go rfl (pu rfl (pv_move rfl) (pu rfl (pv_move rfl) (pu rfl (pv_nilh rfl hp1) (pu rfl (pv_fld fo_43_9 rfl) (pu rfl (pv_fld fo_38_1 rfl) (pu rfl (pv_build (cs := t_store_Change.enc (⟨3, x32, 0, 0, 0, false⟩ : G_store_Change)) (vs := [(0, vi 3), (1, vu x32)]) rfl (by kernel_rfl)) ap0)))))) (ro rfl (pv_ld ty_41 rfl hx31) (ro rfl (pv_ld ty_36 rfl hx32) ao0)) rfl ?_
 refine cy rfl rfl ?_
 refine pw_buildSlice (e := 66) (cs := t_store_Change.enc (⟨3, x32, 0, 0, 0, false⟩ : G_store_Change)) (vs := [(0, t_store_Change.val (⟨3, x32, 0, 0, 0, false⟩ : G_store_Change))]) rfl (by kernel_rfl) ?_
 intro b5 w24 hw13 hw14
 replace h := h b5 w24 hw13 hw14
 obtain ⟨hc1, h⟩ := h
 refine nx [] rfl nl rfl ?_
 refine draw_go rfl ap0 (ro rfl (pv_ld ty_41 rfl hc1) ao0) rfl ?_
 refine cy rfl rfl ?_
 obtain ⟨ol1, ne1, ha1, ha2, ha3, ha4, ha5, h⟩ := h
 refine pw_append (s := x31) (r := (Sl.mk (some ⟨b5, 0, none⟩) 1 1)) eo_41 is_41 rfl rfl ha1 ha2 ha3 ha4 ha5 ?_
 intro x33 w25 ha6
 replace h := h x33 w25 ha6
 refine nx [vp b1 o1, vp b1 (o1 + 13)] rfl nl rfl ?_
 refine draw_go rfl (pu rfl (pv_nilh rfl hp1) (pu rfl (pv_fld fo_43_9 rfl) ap0)) ao0 rfl ?_
 refine cy rfl rfl ?_
 refine pw_st (x := x33) ty_41 rfl rfl h.1 ?_
 intro w26 hw15
 replace h := h.2 w26 hw15
 refine nx [] rfl nl rfl ?_
 dsimp only [putV, List.set]
 refine draw_end rfl ap0 ao0 ?_
 exact fin_of [] rfl trivial h
def sh_f53 (a0 : Int) (a1 : Int) (Q : QW) (w0 : World) : Prop :=
  Q (.int .i64 (IntKind.i64.wrap ((if a0 > 0 then a0 else 0) * (if a1 > 1 then a1 else 1)))) w0
theorem so_f53 {a0 : Int} {a1 : Int} (Q : QW) (w0 : World) (h : sh_f53 a0 a1 Q w0) : CallsR PP n_f53 #[.int .i64 a0, .int .i64 a1] Q w0 := by
 refine callsR_of_WX (args := [vi a0, vi a1]) Try.func53 rfl Try.ntmps53 nl ?_
 refine WX_seq (WX_region ?_)
 refine mva (vi 0) rfl (ops_nil ?_)
 refine WX_seq (WX_region ?_)
 refine mv (vi a0) rfl <| op_v (pv_max rfl rfl) <| mv (vi a1) rfl <| op_v (pv_max rfl rfl) <| op_v (pv_mul rfl rfl) ?_
 refine mva (vi (IntKind.i64.wrap ((if a0 > 0 then a0 else 0) * (if a1 > 1 then a1 else 1)))) rfl (ops_nil ?_)
 refine WX_ret ?_
 exact fin_of [vi (IntKind.i64.wrap ((if a0 > 0 then a0 else 0) * (if a1 > 1 then a1 else 1)))] rfl ⟨rfl, trivial⟩ h
end Go.Proofs.Ytdefmgkicdhmkaa
namespace Go.Proofs.Ytdefmgkicdhmkaa
open Go Go.Sx
set_option linter.unusedVariables false
set_option maxRecDepth 100000
set_option maxHeartbeats 2000000
def sh_f54_j1 (a0 : Sl) (a1 : Int) (a2 : Int) (a3 : Int) (Q : QW) (x4 : Bool) (w1 : World) : Prop :=
  br x4 (Q (.bool false) w1) (ixs a0 a1 fun b4 o4 => st t_latest_Entry w1 b4 (o4 + (a1).toNat * 4) (⟨true, a2, a3, false⟩ : G_latest_Entry) fun w2 => Q (.bool true) w2)
def sh_f54 (a0 : Sl) (a1 : Int) (a2 : Int) (a3 : Int) (Q : QW) (w0 : World) : Prop :=
  br (decide (a1 < 0)) ((sh_f54_j1 a0 a1 a2 a3 Q true w0)) (br (decide (a1 ≥ (a0.len : Int))) ((sh_f54_j1 a0 a1 a2 a3 Q true w0)) (ixs a0 a1 fun b1 o1 => ld tBool w0 b1 ((o1 + (a1).toNat * 4) + 3) fun x1 => br x1 ((sh_f54_j1 a0 a1 a2 a3 Q true w0)) (ixs a0 a1 fun b2 o2 => ld tBool w0 b2 ((o2 + (a1).toNat * 4) + 0) fun x2 => br x2 (ixs a0 a1 fun b3 o3 => ld tI64 w0 b3 ((o3 + (a1).toNat * 4) + 1) fun x3 => (sh_f54_j1 a0 a1 a2 a3 Q (decide (a2 <= x3)) w0)) ((sh_f54_j1 a0 a1 a2 a3 Q false w0)))))
theorem so_f54 {a0 : Sl} {a1 : Int} {a2 : Int} {a3 : Int} (Q : QW) (w0 : World) (h : sh_f54 a0 a1 a2 a3 Q w0) : CallsR PP n_f54 #[.slice a0.a a0.len a0.cap, .int .i64 a1, .int .i64 a2, .int .u64 a3] Q w0 := by
 refine callsR_of_WX (args := [.slice a0.a a0.len a0.cap, vi a1, vi a2, vu a3]) Try.func54 rfl Try.ntmps54 nl ?_
 refine WX_seq (WX_region ?_)
 refine mva (vb false) rfl (ops_nil ?_)
 refine WX_seq ?_
 refine WX_join (fun f w1 => ∃ x4 : Bool, Agree f [(0, .slice a0.a a0.len a0.cap), (1, vi a1), (2, vi a2), (3, vu a3), (39, vb x4)] /\ sh_f54_j1 a0 a1 a2 a3 Q x4 w1) ?_ ?_
 refine WX_region ?_
 refine mv (vi a1) rfl <| op_v (pv_cmp (v := decide (a1 < 0)) rfl rfl rfl rfl) <| mv (vb (decide (a1 < 0))) rfl ?_
 refine ops_split 11 (b := decide (a1 < 0)) rfl (fun hb1 => ?_) (fun hb1 => ?_)
 have h := h.1 hb1
 iterate 4 refine opg_no ?_
 refine op_v (pv_pick (b := true) (v := vb true) rfl rfl) <| mv (vb true) rfl ?_
 iterate 5 refine opg_no ?_
 refine op_v (pv_pick (b := true) (v := vb true) rfl rfl) <| mv (vb true) rfl ?_
 iterate 14 refine opg_no ?_
 refine op_v (pv_pick (b := true) (v := vb true) rfl rfl) (ops_nil ?_)
 exact ⟨true, ⟨rfl, rfl, rfl, rfl, rfl, trivial⟩, h⟩
 have h := h.2 hb1
 refine opg_v (pv_move (v := vi a1) rfl) <| opg_v (pv_move (v := .slice a0.a a0.len a0.cap) rfl) <| opg_v (pv_lenS (s := a0) is_35 rfl) ?_
 refine opg_v (pv_cmp (v := decide (a1 ≥ (a0.len : Int))) rfl rfl rfl rfl) ?_
 refine op_v (pv_pick (b := false) (v := vb (decide (a1 ≥ (a0.len : Int)))) rfl rfl) <| mv (vb (decide (a1 ≥ (a0.len : Int)))) rfl ?_
 refine ops_split 17 (b := decide (a1 ≥ (a0.len : Int))) rfl (fun hb2 => ?_) (fun hb2 => ?_)
 have h := h.1 hb2
 iterate 5 refine opg_no ?_
 refine op_v (pv_pick (b := true) (v := vb true) rfl rfl) <| mv (vb true) rfl ?_
 iterate 14 refine opg_no ?_
 refine op_v (pv_pick (b := true) (v := vb true) rfl rfl) (ops_nil ?_)
 exact ⟨true, ⟨rfl, rfl, rfl, rfl, rfl, trivial⟩, h⟩
 have h := h.2 hb2
 refine opg_v (pv_move (v := .slice a0.a a0.len a0.cap) rfl) <| opg_v (pv_move (v := vi a1) rfl) ?_
 obtain ⟨b1, o1, hi1, hi2, hi3, h⟩ := h
 refine opg_v (pv_ix (s := a0) ez_35 rfl rfl hi1 hi2 hi3) <| opg_v (pv_fld fo_68_3 rfl) ?_
 obtain ⟨x1, hx1, h⟩ := h
 refine opg_v (pv_ld ty_4 rfl hx1) <| op_v (pv_pick (b := false) (v := vb x1) rfl rfl) <| mv (vb x1) rfl ?_
 refine ops_split 24 (b := x1) rfl (fun hb3 => ?_) (fun hb3 => ?_)
 have h := h.1 hb3
 iterate 14 refine opg_no ?_
 refine op_v (pv_pick (b := true) (v := vb true) rfl rfl) (ops_nil ?_)
 exact ⟨true, ⟨rfl, rfl, rfl, rfl, rfl, trivial⟩, h⟩
 have h := h.2 hb3
 refine opg_v (pv_move (v := .slice a0.a a0.len a0.cap) rfl) <| opg_v (pv_move (v := vi a1) rfl) ?_
 obtain ⟨b2, o2, hi4, hi5, hi6, h⟩ := h
 refine opg_v (pv_ix (s := a0) ez_35 rfl rfl hi4 hi5 hi6) <| opg_v (pv_fld fo_68_0 rfl) ?_
 obtain ⟨x2, hx2, h⟩ := h
 refine opg_v (pv_ld ty_4 rfl hx2) <| opg_v (pv_move (v := vb x2) rfl) <| ops_split 30 (b := x2) rfl (fun hb4 => ?_) (fun hb4 => ?_)
 have h := h.1 hb4
 refine opg_v (pv_move (v := vi a2) rfl) <| opg_v (pv_move (v := .slice a0.a a0.len a0.cap) rfl) <| opg_v (pv_move (v := vi a1) rfl) ?_
 obtain ⟨b3, o3, hi7, hi8, hi9, h⟩ := h
 refine opg_v (pv_ix (s := a0) ez_35 rfl rfl hi7 hi8 hi9) <| opg_v (pv_fld fo_68_1 rfl) ?_
 obtain ⟨x3, hx3, h⟩ := h
 refine opg_v (pv_ld ty_3 rfl hx3) <| opg_v (pv_cmp (v := decide (a2 <= x3)) rfl rfl rfl rfl) ?_
 refine opg_v (pv_pick (b := true) (v := vb (decide (a2 <= x3))) rfl rfl) <| op_v (pv_pick (b := false) (v := vb (decide (a2 <= x3))) rfl rfl) (ops_nil ?_)
 exact ⟨decide (a2 <= x3), ⟨rfl, rfl, rfl, rfl, rfl, trivial⟩, h⟩
 have h := h.2 hb4
 iterate 7 refine opg_no ?_
 refine opg_v (pv_pick (b := false) (v := vb false) rfl rfl) <| op_v (pv_pick (b := false) (v := vb false) rfl rfl) (ops_nil ?_)
 exact ⟨false, ⟨rfl, rfl, rfl, rfl, rfl, trivial⟩, h⟩
 rintro f w1 ⟨x4, ha, h⟩
 obtain ⟨g1, rfl⟩ := canon ha
 refine WX_cond (b := x4) rfl (fun hb5 => ?_) (fun hb5 => ?_)
 have h := h.1 hb5
 refine WX_seq (WX_region ?_)
 refine mva (vb false) rfl (ops_nil ?_)
 refine WX_ret ?_
 exact fin_of [vb false] rfl ⟨rfl, trivial⟩ h
 have h := h.2 hb5
 refine WX_skip <| WX_seq (WX_region ?_)
 refine mv (.slice a0.a a0.len a0.cap) rfl <| mv (vi a1) rfl <| mv (vi a2) rfl <| mv (vu a3) rfl ?_
 refine op_v (pv_build (cs := t_latest_Entry.enc (⟨true, a2, a3, false⟩ : G_latest_Entry)) (vs := [(0, vb true), (1, vi a2), (2, vu a3)]) rfl (by kernel_rfl)) ?_
 obtain ⟨b4, o4, hi10, hi11, hi12, h⟩ := h
 refine op_v (pv_ix (s := a0) ez_35 rfl rfl hi10 hi11 hi12) <| op_w (pw_st (x := (⟨true, a2, a3, false⟩ : G_latest_Entry)) ty_68 rfl rfl h.1 ?_)
 intro w2 hw1
 replace h := h.2 w2 hw1
 refine ops_nil ?_
 refine WX_seq (WX_region ?_)
 refine mva (vb true) rfl (ops_nil ?_)
 refine WX_ret ?_
 exact fin_of [vb true] rfl ⟨rfl, trivial⟩ h
def sh_f55_j1 (a0 : Sl) (a1 : Int) (Q : QW) (x2 : Bool) (w1 : World) : Prop :=
  br x2 (Q (.bool false) w1) (ixs a0 a1 fun b2 o2 => st tBool w1 b2 ((o2 + (a1).toNat * 4) + 3) true fun w2 => Q (.bool true) w2)
def sh_f55 (a0 : Sl) (a1 : Int) (Q : QW) (w0 : World) : Prop :=
  br (decide (a1 < 0)) ((sh_f55_j1 a0 a1 Q true w0)) (br (decide (a1 ≥ (a0.len : Int))) ((sh_f55_j1 a0 a1 Q true w0)) (ixs a0 a1 fun b1 o1 => ld tBool w0 b1 ((o1 + (a1).toNat * 4) + 3) fun x1 => (sh_f55_j1 a0 a1 Q x1 w0)))
theorem so_f55 {a0 : Sl} {a1 : Int} (Q : QW) (w0 : World) (h : sh_f55 a0 a1 Q w0) : CallsR PP n_f55 #[.slice a0.a a0.len a0.cap, .int .i64 a1] Q w0 := by
 refine callsR_of_WX (args := [.slice a0.a a0.len a0.cap, vi a1]) Try.func55 rfl Try.ntmps55 nl ?_
 refine WX_seq (WX_region ?_)
 refine mva (vb false) rfl (ops_nil ?_)
 refine WX_seq ?_
 refine WX_join (fun f w1 => ∃ x2 : Bool, Agree f [(0, .slice a0.a a0.len a0.cap), (1, vi a1), (19, vb x2)] /\ sh_f55_j1 a0 a1 Q x2 w1) ?_ ?_
 refine WX_region ?_
 refine mv (vi a1) rfl <| op_v (pv_cmp (v := decide (a1 < 0)) rfl rfl rfl rfl) <| mv (vb (decide (a1 < 0))) rfl ?_
 refine ops_split 7 (b := decide (a1 < 0)) rfl (fun hb1 => ?_) (fun hb1 => ?_)
 have h := h.1 hb1
 iterate 4 refine opg_no ?_
 refine op_v (pv_pick (b := true) (v := vb true) rfl rfl) <| mv (vb true) rfl ?_
 iterate 5 refine opg_no ?_
 refine op_v (pv_pick (b := true) (v := vb true) rfl rfl) (ops_nil ?_)
 exact ⟨true, ⟨rfl, rfl, rfl, trivial⟩, h⟩
 have h := h.2 hb1
 refine opg_v (pv_move (v := vi a1) rfl) <| opg_v (pv_move (v := .slice a0.a a0.len a0.cap) rfl) <| opg_v (pv_lenS (s := a0) is_35 rfl) ?_
 refine opg_v (pv_cmp (v := decide (a1 ≥ (a0.len : Int))) rfl rfl rfl rfl) ?_
 refine op_v (pv_pick (b := false) (v := vb (decide (a1 ≥ (a0.len : Int)))) rfl rfl) <| mv (vb (decide (a1 ≥ (a0.len : Int)))) rfl ?_
 refine ops_split 13 (b := decide (a1 ≥ (a0.len : Int))) rfl (fun hb2 => ?_) (fun hb2 => ?_)
 have h := h.1 hb2
 iterate 5 refine opg_no ?_
 refine op_v (pv_pick (b := true) (v := vb true) rfl rfl) (ops_nil ?_)
 exact ⟨true, ⟨rfl, rfl, rfl, trivial⟩, h⟩
 have h := h.2 hb2
 refine opg_v (pv_move (v := .slice a0.a a0.len a0.cap) rfl) <| opg_v (pv_move (v := vi a1) rfl) ?_
 obtain ⟨b1, o1, hi1, hi2, hi3, h⟩ := h
 refine opg_v (pv_ix (s := a0) ez_35 rfl rfl hi1 hi2 hi3) <| opg_v (pv_fld fo_68_3 rfl) ?_
 obtain ⟨x1, hx1, h⟩ := h
 refine opg_v (pv_ld ty_4 rfl hx1) <| op_v (pv_pick (b := false) (v := vb x1) rfl rfl) (ops_nil ?_)
 exact ⟨x1, ⟨rfl, rfl, rfl, trivial⟩, h⟩
 rintro f w1 ⟨x2, ha, h⟩
 obtain ⟨g1, rfl⟩ := canon ha
 refine WX_cond (b := x2) rfl (fun hb3 => ?_) (fun hb3 => ?_)
 have h := h.1 hb3
 refine WX_seq (WX_region ?_)
 refine mva (vb false) rfl (ops_nil ?_)
 refine WX_ret ?_
 exact fin_of [vb false] rfl ⟨rfl, trivial⟩ h
 have h := h.2 hb3
 refine WX_skip <| WX_seq (WX_region ?_)
 refine mv (.slice a0.a a0.len a0.cap) rfl <| mv (vi a1) rfl ?_
 obtain ⟨b2, o2, hi4, hi5, hi6, h⟩ := h
 refine op_v (pv_ix (s := a0) ez_35 rfl rfl hi4 hi5 hi6) <| op_v (pv_fld fo_68_3 rfl) <| op_w (pw_st (x := true) ty_4 rfl rfl h.1 ?_)
 intro w2 hw1
 replace h := h.2 w2 hw1
 refine ops_nil ?_
 refine WX_seq (WX_region ?_)
 refine mva (vb true) rfl (ops_nil ?_)
 refine WX_ret ?_
 exact fin_of [vb true] rfl ⟨rfl, trivial⟩ h
def sh_f56_j1 (Q : QW) (x6 : Bool) (w4 : World) : Prop :=
  Q (.bool x6) w4
def sh_f56 (a0 : G_api_Vote) (a1 : G_api_Vote) (Q : QW) (w0 : World) : Prop :=
  al t_api_Vote 53 w0 a0 fun b1 w1 => al t_api_Vote 53 w1 a1 fun b2 w2 => ld tI64 w2 b1 4 fun x1 => ld tI64 w2 b2 4 fun x2 => br (x1 == x2) (ld t_api_Vote w2 b1 0 fun x3 => ld t_api_Vote w2 b2 0 fun x4 => CallsR PP n_f63 #[t_api_Vote.val x3, t_api_Vote.val x4] (fun v1 w3 => ∃ x5 : Bool, v1 = .bool x5 /\ ((sh_f56_j1 Q (!x5) w3))) w2) ((sh_f56_j1 Q false w2))
theorem so_f56 {a0 : G_api_Vote} {a1 : G_api_Vote} (Q : QW) (w0 : World) (h : sh_f56 a0 a1 Q w0) : CallsR PP n_f56 #[t_api_Vote.val a0, t_api_Vote.val a1] Q w0 := by
 refine callsR_of_WX (args := [t_api_Vote.val a0, t_api_Vote.val a1]) Try.func56 rfl Try.ntmps56 nl ?_
 refine WX_seq (WX_region ?_)
 refine op_w (pw_box (v := a0) ty_53 rfl ?_)
 intro b1 w1 hw1 hw2
 replace h := h b1 w1 hw1 hw2
 refine op_w (pw_box (v := a1) ty_53 rfl ?_)
 intro b2 w2 hw3 hw4
 replace h := h b2 w2 hw3 hw4
 refine mva (vb false) rfl (ops_nil ?_)
 refine WX_join (fun f w4 => ∃ x6 : Bool, Agree f [(4, vb x6)] /\ sh_f56_j1 Q x6 w4) ?_ ?_
 refine WX_region ?_
 refine op_v (pv_fld fo_53_3 rfl) <| op_v (pv_fld fo_38_0 rfl) ?_
 obtain ⟨x1, hx1, h⟩ := h
 refine op_v (pv_ld ty_3 rfl hx1) <| op_v (pv_fld fo_53_3 rfl) <| op_v (pv_fld fo_38_0 rfl) ?_
 obtain ⟨x2, hx2, h⟩ := h
 refine op_v (pv_ld ty_3 rfl hx2) <| op_v (pv_cmp (v := (x1 == x2)) rfl rfl rfl rfl) <| mv (vb (x1 == x2)) rfl ?_
 refine ops_split 12 (b := (x1 == x2)) rfl (fun hb1 => ?_) (fun hb1 => ?_)
 have h := h.1 hb1
 obtain ⟨x3, hx3, h⟩ := h
 refine opg_v (pv_ld ty_53 rfl hx3) ?_
 obtain ⟨x4, hx4, h⟩ := h
 refine opg_v (pv_ld ty_53 rfl hx4) <| opg_w (pw_call co_63 rfl (CallsR.mono h ?_))
 rintro v1 w3 ⟨x5, rfl, h⟩
 refine opg_v (pv_not rfl) <| op_v (pv_pick (b := true) (v := vb (!x5)) rfl rfl) <| mva (vb (!x5)) rfl (ops_nil ?_)
 exact ⟨(!x5), ⟨rfl, trivial⟩, h⟩
 have h := h.2 hb1
 iterate 4 refine opg_no ?_
 refine op_v (pv_pick (b := false) (v := vb false) rfl rfl) <| mva (vb false) rfl (ops_nil ?_)
 exact ⟨false, ⟨rfl, trivial⟩, h⟩
 rintro f w4 ⟨x6, ha, h⟩
 obtain ⟨g1, rfl⟩ := canon ha
 refine WX_ret ?_
 exact fin_of [vb x6] rfl ⟨rfl, trivial⟩ h
def sh_f57_j1 (Q : QW) (x5 : Bool) (w3 : World) : Prop :=
  Q (.bool x5) w3
def sh_f57 (a0 : G_api_Vote) (a1 : G_api_Vote) (Q : QW) (w0 : World) : Prop :=
  al t_api_Vote 53 w0 a0 fun b1 w1 => al t_api_Vote 53 w1 a1 fun b2 w2 => ld tI64 w2 b1 2 fun x1 => ld tI64 w2 b2 2 fun x2 => br (decide (x1 < x2)) (ld tI64 w2 b2 4 fun x3 => ld tI64 w2 b1 4 fun x4 => (sh_f57_j1 Q (decide (x3 < x4)) w2)) ((sh_f57_j1 Q false w2))
theorem so_f57 {a0 : G_api_Vote} {a1 : G_api_Vote} (Q : QW) (w0 : World) (h : sh_f57 a0 a1 Q w0) : CallsR PP n_f57 #[t_api_Vote.val a0, t_api_Vote.val a1] Q w0 := by
 refine callsR_of_WX (args := [t_api_Vote.val a0, t_api_Vote.val a1]) Try.func57 rfl Try.ntmps57 nl ?_
 refine WX_seq (WX_region ?_)
 refine op_w (pw_box (v := a0) ty_53 rfl ?_)
 intro b1 w1 hw1 hw2
 replace h := h b1 w1 hw1 hw2
 refine op_w (pw_box (v := a1) ty_53 rfl ?_)
 intro b2 w2 hw3 hw4
 replace h := h b2 w2 hw3 hw4
 refine mva (vb false) rfl (ops_nil ?_)
 refine WX_join (fun f w3 => ∃ x5 : Bool, Agree f [(4, vb x5)] /\ sh_f57_j1 Q x5 w3) ?_ ?_
 refine WX_region ?_
 refine op_v (pv_fld fo_53_2 rfl) <| op_v (pv_fld fo_38_0 rfl) ?_
 obtain ⟨x1, hx1, h⟩ := h
 refine op_v (pv_ld ty_3 rfl hx1) <| op_v (pv_fld fo_53_2 rfl) <| op_v (pv_fld fo_38_0 rfl) ?_
 obtain ⟨x2, hx2, h⟩ := h
 refine op_v (pv_ld ty_3 rfl hx2) <| op_v (pv_cmp (v := decide (x1 < x2)) rfl rfl rfl rfl) <| mv (vb (decide (x1 < x2))) rfl ?_
 refine ops_split 12 (b := decide (x1 < x2)) rfl (fun hb1 => ?_) (fun hb1 => ?_)
 have h := h.1 hb1
 refine opg_v (pv_fld fo_53_3 rfl) <| opg_v (pv_fld fo_38_0 rfl) ?_
 obtain ⟨x3, hx3, h⟩ := h
 refine opg_v (pv_ld ty_3 rfl hx3) <| opg_v (pv_fld fo_53_3 rfl) <| opg_v (pv_fld fo_38_0 rfl) ?_
 obtain ⟨x4, hx4, h⟩ := h
 refine opg_v (pv_ld ty_3 rfl hx4) <| opg_v (pv_cmp (v := decide (x3 < x4)) rfl rfl rfl rfl) ?_
 refine op_v (pv_pick (b := true) (v := vb (decide (x3 < x4))) rfl rfl) <| mva (vb (decide (x3 < x4))) rfl (ops_nil ?_)
 exact ⟨decide (x3 < x4), ⟨rfl, trivial⟩, h⟩
 have h := h.2 hb1
 iterate 7 refine opg_no ?_
 refine op_v (pv_pick (b := false) (v := vb false) rfl rfl) <| mva (vb false) rfl (ops_nil ?_)
 exact ⟨false, ⟨rfl, trivial⟩, h⟩
 rintro f w3 ⟨x5, ha, h⟩
 obtain ⟨g1, rfl⟩ := canon ha
 refine WX_ret ?_
 exact fin_of [vb x5] rfl ⟨rfl, trivial⟩ h
def sh_f58 (a0 : Sl) (a1 : Int) (Q : QW) (w0 : World) : Prop :=
  CallsR PP n_f64 #[.slice a0.a a0.len a0.cap, .int .i64 a1] (fun v1 w1 => ∃ x1 : Int, v1 = .int .i64 x1 /\ (Q (.bool (decide (x1 ≥ 0))) w1)) w0
theorem so_f58 {a0 : Sl} {a1 : Int} (Q : QW) (w0 : World) (h : sh_f58 a0 a1 Q w0) : CallsR PP n_f58 #[.slice a0.a a0.len a0.cap, .int .i64 a1] Q w0 := by
 refine callsR_of_WX (args := [.slice a0.a a0.len a0.cap, vi a1]) Try.func58 rfl Try.ntmps58 nl ?_
 refine WX_seq (WX_region ?_)
 refine mva (vb false) rfl (ops_nil ?_)
 refine WX_seq (WX_region ?_)
 refine mv (.slice a0.a a0.len a0.cap) rfl <| mv (vi a1) rfl <| op_w (pw_call co_64 rfl (CallsR.mono h ?_))
 rintro v1 w1 ⟨x1, rfl, h⟩
 refine op_v (pv_cmp (v := decide (x1 ≥ 0)) rfl rfl rfl rfl) <| mva (vb (decide (x1 ≥ 0))) rfl (ops_nil ?_)
 refine WX_ret ?_
 exact fin_of [vb (decide (x1 ≥ 0))] rfl ⟨rfl, trivial⟩ h
def sh_f59 (a0 : Sl) (Q : QW) (w0 : World) : Prop :=
  CallsR PP n_f66 #[.int .u64 (IntKind.u64.wrap (a0.len : Int))] (fun v1 w1 => ∃ x1 : Int, v1 = .int .i64 x1 /\ (CallsR PP n_f65 #[.slice a0.a a0.len a0.cap, .int .i64 0, .int .i64 (a0.len : Int), .int .i64 x1] (fun v2 w2 => Q (.tuple #[]) w2) w1)) w0
theorem so_f59 {a0 : Sl} (Q : QW) (w0 : World) (h : sh_f59 a0 Q w0) : CallsR PP n_f59 #[.slice a0.a a0.len a0.cap] Q w0 := by
 refine callsR_of_WX (args := [.slice a0.a a0.len a0.cap]) Try.func59 rfl Try.ntmps59 nl ?_
 refine WX_seq (WX_region ?_)
 refine mv (.slice a0.a a0.len a0.cap) rfl <| op_v (pv_lenS (s := a0) is_51 rfl) <| mva (vi (a0.len : Int)) rfl (ops_nil ?_)
 refine WX_region ?_
 refine mv (.slice a0.a a0.len a0.cap) rfl <| mv (vi (a0.len : Int)) rfl <| mv (vi (a0.len : Int)) rfl <| op_v (pv_conv us_3 uk_136 rfl) ?_
 refine op_w (pw_call co_66 rfl (cm h ?_))
 rintro v1 w1 ⟨x1, rfl, h⟩
 refine op_w (pw_call co_65 rfl (cm h ?_))
 intro v2 w2 h
 refine ops_nil ?_
 exact fin_of [] rfl trivial h
def sh_f60 (a0 : Int) (a1 : Option Addr) (a2 : Option Addr) (Q : QW) (w0 : World) : Prop :=
  nc a1 fun b1 o1 => nc a2 fun b2 o2 => dw w0 fun w1 => ld tPtr w1 b1 o1 fun x1 => nc x1 fun b3 o3 => ld tPtr w1 b3 (o3 + 3) fun x2 => ld tU64 w1 b2 o2 fun x3 => CallsR PP n_f20 #[.pointer x2, .int .u64 x3, .int .i64 a0] (fun v1 w2 => ∃ x4 : Int, v1 = .int .u64 x4 /\ (Q (.int .u64 x4) w2)) w1
theorem so_f60 {a0 : Int} {a1 : Option Addr} {a2 : Option Addr} (Q : QW) (w0 : World) (h : sh_f60 a0 a1 a2 Q w0) : CallsR PP n_f60 #[.int .i64 a0, .pointer a1, .pointer a2] Q w0 := by
 refine callsR_of_WX (args := [vi a0, .pointer a1, .pointer a2]) Try.func60 rfl Try.ntmps60 nl ?_
 obtain ⟨b1, o1, hp1, b2, o2, hp2, h⟩ := h
 refine WX_seq (WX_region ?_)
 refine mva (vu 0) rfl (ops_nil ?_)
 refine WX_seq ?_
 obtain ⟨w1, hw1, h⟩ := dwe h
 obtain ⟨x1, hx1, b3, o3, hp3, x2, hx2, x3, hx3, h⟩ := h
 refine WX_dr [6] [1,2,5,7] [⟨[],[1,2,5],[0,3,4],[(6,[6,7],1)]⟩,⟨[6],[7],[],[]⟩] [.pointer x1, vp b3 o3, vp b3 (o3 + 3), .pointer x2, vu x3, vi a0, un, un] 2 mixed (by kernel_rfl) hw1 ?_
 refine draw_go rfl (pu rfl (pv_nilh rfl hp3) (pu rfl (pv_fld fo_43_1 rfl) (pu rfl (pv_move rfl) ap0))) (ro rfl (pv_ld ty_28 (congrArg Value.pointer hp1) hx1) (ro rfl (pv_ld ty_33 rfl hx2) (ro rfl (pv_ld ty_36 (congrArg Value.pointer hp2) hx3) ao0))) rfl ?_
 refine cy rfl rfl ?_
 refine pw_call co_20 rfl (cm h ?_)
 rintro v1 w2 ⟨x4, rfl, h⟩
 refine nx [vu x4] rfl nl rfl ?_
 refine draw_end rfl (pu rfl (pv_assign rfl) ap0) ao0 ?_
 refine WX_ret ?_
 exact fin_of [vu x4] rfl ⟨rfl, trivial⟩ h
def sh_f61_j2 (a0 : Int) (Q : QW) (b1 : Nat) (w4 : World) : Prop :=
  Q (.slice (some ⟨b1, 0, none⟩) (a0).toNat (a0).toNat) w4
def sh_f61_b1 (a0 : Int) (Q : QW) (b1 : Nat) (x1 : Int) (w2 : World) (nxt1 : Int -> World -> Prop) : Prop :=
  br (decide (x1 < ((Sl.mk (some ⟨b1, 0, none⟩) (a0).toNat (a0).toNat).len : Int))) (ixs (Sl.mk (some ⟨b1, 0, none⟩) (a0).toNat (a0).toNat) x1 fun b2 o1 => st tI64 w2 b2 (o1 + (x1).toNat * 1) x1 fun w3 => nxt1 (IntKind.i64.wrap (x1 + 1)) w3) ((sh_f61_j2 a0 Q b1 w2))
def sh_f61 (a0 : Int) (Q : QW) (w0 : World) : Prop :=
  mks 3 ((tI64.val 0).cells) 1 8 w0 a0 fun b1 w1 => (∃ I1 : Nat -> Int -> World -> Prop, (∃ m, I1 m 0 w1) /\ ∀ m x1 w2, I1 m x1 w2 -> sh_f61_b1 a0 Q b1 x1 w2 (fun y0 w => ∃ m2, m2 < m /\ I1 m2 y0 w))
theorem so_f61 {a0 : Int} (Q : QW) (w0 : World) (h : sh_f61 a0 Q w0) : CallsR PP n_f61 #[.int .i64 a0] Q w0 := by
 refine callsR_of_WX (args := [vi a0]) Try.func61 rfl Try.ntmps61 nl ?_
 refine WX_seq (WX_region ?_)
 refine mva (.slice none 0 0) rfl (ops_nil ?_)
 refine WX_seq (WX_region ?_)
 refine mv (vi a0) rfl <| op_w (pw_makeSlice eo_51 tz_3 rfl rfl h.1 h.2.1 ?_)
 intro b1 w1 hw1 hw2
 replace h := h.2.2 b1 w1 hw1 hw2
 refine mva (.slice (some ⟨b1, 0, none⟩) (a0).toNat (a0).toNat) rfl (ops_nil ?_)
 refine WX_join (fun f w4 => Agree f [(3, .slice (some ⟨b1, 0, none⟩) (a0).toNat (a0).toNat)] /\ sh_f61_j2 a0 Q b1 w4) ?_ ?_
 refine WX_seq (WX_region ?_)
 refine mv (.slice (some ⟨b1, 0, none⟩) (a0).toNat (a0).toNat) rfl ?_
 refine op_v (pv_lenS (s := (Sl.mk (some ⟨b1, 0, none⟩) (a0).toNat (a0).toNat)) is_51 rfl) <| mv (vi 0) rfl (ops_nil ?_)
 refine WX_block ?_
 obtain ⟨I1, ⟨m, h0⟩, hB1⟩ := h
 refine WX_loop (fun m f w2 => ∃ x1 : Int, Agree f [(3, .slice (some ⟨b1, 0, none⟩) (a0).toNat (a0).toNat), (8, vi ((Sl.mk (some ⟨b1, 0, none⟩) (a0).toNat (a0).toNat).len : Int)), (9, vi x1)] /\ I1 m x1 w2) ⟨m, 0, ⟨rfl, rfl, rfl, trivial⟩, h0⟩ ?_
 clear h0 m
 rintro m f w2 ⟨x1, ha, h⟩
 obtain ⟨g1, rfl⟩ := canon ha
 replace h := hB1 m x1 w2 h
 clear hB1
 generalize hn_nxt1 : (fun (y0 : Int) (w : World) => ∃ m2, m2 < m /\ I1 m2 y0 w) = nxt1 at h
 refine WX_seq (WX_region ?_)
 refine op_v (pv_cmp (v := decide (x1 < ((Sl.mk (some ⟨b1, 0, none⟩) (a0).toNat (a0).toNat).len : Int))) rfl rfl rfl rfl) (ops_nil ?_)
 refine WX_seq ?_
 refine WX_cond (b := decide (x1 < ((Sl.mk (some ⟨b1, 0, none⟩) (a0).toNat (a0).toNat).len : Int))) rfl (fun hb1 => ?_) (fun hb1 => ?_)
 have h := h.1 hb1
 refine WX_skip <| WX_seq ?_
 refine WX_block ?_
 refine WX_seq (WX_region ?_)
 refine mv (vi x1) rfl <| mva (vi x1) rfl (ops_nil ?_)
 refine WX_region ?_
 refine mv (.slice (some ⟨b1, 0, none⟩) (a0).toNat (a0).toNat) rfl <| mv (vi x1) rfl <| mv (vi x1) rfl ?_
 obtain ⟨b2, o1, hi1, hi2, hi3, h⟩ := h
 refine op_v (pv_ix (s := (Sl.mk (some ⟨b1, 0, none⟩) (a0).toNat (a0).toNat)) ez_51 rfl rfl hi1 hi2 hi3) <| op_w (pw_st (x := x1) ty_3 rfl rfl h.1 ?_)
 intro w3 hw3
 replace h := h.2 w3 hw3
 refine ops_nil ?_
 refine WX_region ?_
 refine op_v (pv_add rfl rfl) <| mv (vi (IntKind.i64.wrap (x1 + 1))) rfl (ops_nil ?_)
 subst hn_nxt1
 obtain ⟨m2, hm2, h⟩ := h
 exact ⟨m2, hm2, (IntKind.i64.wrap (x1 + 1)), ⟨rfl, rfl, rfl, trivial⟩, h⟩
 have h := h.2 hb1
 refine WX_exit0 ?_
 exact ⟨⟨rfl, trivial⟩, h⟩
 rintro f w4 ⟨ha, h⟩
 obtain ⟨g2, rfl⟩ := canon ha
 refine WX_seq (WX_region ?_)
 refine mv (.slice (some ⟨b1, 0, none⟩) (a0).toNat (a0).toNat) rfl <| mva (.slice (some ⟨b1, 0, none⟩) (a0).toNat (a0).toNat) rfl (ops_nil ?_)
 refine WX_ret ?_
 exact fin_of [.slice (some ⟨b1, 0, none⟩) (a0).toNat (a0).toNat] rfl ⟨rfl, trivial⟩ h
def sh_f62_j2 (x6 : Int) (nxt1 : Sl -> Int -> World -> Prop) (x14 : Sl) (w12 : World) : Prop :=
  nxt1 x14 (IntKind.i64.wrap (x6 + 1)) w12
def sh_f62_j3 (a1 : Int) (Q : QW) (b1 : Nat) (o1 : Nat) (b2 : Nat) (x15 : Sl) (w13 : World) : Prop :=
  lkp t_tree_node w13 (some b2) a1 fun x16 => al t_tree_node 109 w13 (⟨0, 0, 0⟩ : G_tree_node) fun b6 w14 => st t_tree_node w14 b6 0 (x16.getD (⟨0, 0, 0⟩ : G_tree_node)) fun w15 => st tU64 w15 b6 0 a1 fun w16 => ld t_tree_node w16 b6 0 fun x17 => mset t_tree_node w16 (some b2) a1 x17 fun w17 => st tU64 w17 b1 (o1 + 0) a1 fun w18 => st tMap w18 b1 (o1 + 1) (some b2) fun w19 => Q (.slice x15.a x15.len x15.cap) w19
def sh_f62_b1 (a0 : Option Addr) (a1 : Int) (Q : QW) (b1 : Nat) (o1 : Nat) (x3 : Option G_tree_node) (b2 : Nat) (x4 : Sl) (x5 : Sl) (x6 : Int) (w4 : World) (nxt1 : Sl -> Int -> World -> Prop) : Prop :=
  br (decide (x6 < (x4.len : Int))) (ixs x4 x6 fun b3 o2 => ld tU64 w4 b3 (o2 + (x6).toNat * 1) fun x7 => ld tMap w4 b1 (o1 + 1) fun x8 => lkp t_tree_node w4 x8 x7 fun x9 => al t_tree_node 109 w4 (⟨0, 0, 0⟩ : G_tree_node) fun b4 w5 => st t_tree_node w5 b4 0 (x9.getD (⟨0, 0, 0⟩ : G_tree_node)) fun w6 => CallsR PP n_f17 #[.pointer a0, .int .u64 x7, .int .u64 a1] (fun v3 w7 => ∃ x10 : Bool, v3 = .bool x10 /\ (br x10 (ld tI64 w7 b4 2 fun x11 => st tI64 w7 b4 2 (IntKind.i64.wrap (x11 - (x3.getD (⟨0, 0, 0⟩ : G_tree_node)).height)) fun w8 => ld t_tree_node w8 b4 0 fun x12 => mset t_tree_node w8 (some b2) x7 x12 fun w9 => (sh_f62_j2 x6 nxt1 x5 w9)) (alr 36 w7 (tU64.enc x7) fun b5 w10 => app 36 1 8 w10 x5 (Sl.mk (some ⟨b5, 0, none⟩) 1 1) fun x13 w11 => (sh_f62_j2 x6 nxt1 x13 w11)))) w6) ((sh_f62_j3 a1 Q b1 o1 b2 x5 w4))
def sh_f62 (a0 : Option Addr) (a1 : Int) (Q : QW) (w0 : World) : Prop :=
  nc a0 fun b1 o1 => CallsR PP n_f15 #[.pointer a0, .int .u64 a1] (fun v1 w1 => ∃ x1 : Bool, v1 = .bool x1 /\ (br (!x1) (Q (.slice none 0 0) w1) (ld tMap w1 b1 (o1 + 1) fun x2 => lkp t_tree_node w1 x2 a1 fun x3 => mkm w1 fun b2 w2 => CallsR PP n_f67 #[.pointer a0] (fun v2 w3 => ∃ x4 : Sl, v2 = .slice x4.a x4.len x4.cap /\ ((∃ I1 : Nat -> Sl -> Int -> World -> Prop, (∃ m, I1 m nilSl 0 w3) /\ ∀ m x5 x6 w4, I1 m x5 x6 w4 -> sh_f62_b1 a0 a1 Q b1 o1 x3 b2 x4 x5 x6 w4 (fun y0 y1 w => ∃ m2, m2 < m /\ I1 m2 y0 y1 w)))) w2))) w0
theorem so_f62 {a0 : Option Addr} {a1 : Int} (Q : QW) (w0 : World) (h : sh_f62 a0 a1 Q w0) : CallsR PP n_f62 #[.pointer a0, .int .u64 a1] Q w0 := by
 refine callsR_of_WX (args := [.pointer a0, vu a1]) Try.func62 rfl Try.ntmps62 nl ?_
 obtain ⟨b1, o1, hp1, h⟩ := h
 refine WX_seq (WX_region ?_)
 refine mva (.slice none 0 0) rfl (ops_nil ?_)
 refine WX_seq ?_
 refine WX_seq (WX_region ?_)
 refine mv (.pointer a0) rfl <| mv (vu a1) rfl <| op_w (pw_call co_15 rfl (CallsR.mono h ?_))
 rintro v1 w1 ⟨x1, rfl, h⟩
 refine op_v (pv_not rfl) (ops_nil ?_)
 refine WX_cond (b := (!x1)) rfl (fun hb1 => ?_) (fun hb1 => ?_)
 have h := h.1 hb1
 refine WX_seq (WX_region ?_)
 refine mva (.slice none 0 0) rfl (ops_nil ?_)
 refine WX_ret ?_
 exact fin_of [.slice none 0 0] rfl ⟨rfl, trivial⟩ h
 have h := h.2 hb1
 refine WX_skip <| WX_seq (WX_region ?_)
 refine mv (.pointer a0) rfl <| op_v (pv_nilh rfl hp1) <| op_v (pv_fld fo_113_1 rfl) ?_
 obtain ⟨x2, hx2, h⟩ := h
 refine op_v (pv_ld ty_111 rfl hx2) <| mv (vu a1) rfl ?_
 obtain ⟨es1, hm1, h⟩ := h
 obtain ⟨x3, hq1⟩ : ∃ x, mget es1 a1 = x := ⟨_, rfl⟩
 replace h := hq1 ▸ h
 refine op_v (pv_lookupE (T := t_tree_node) mu_111 tz_109 rfl rfl hm1 hq1) ?_
 refine op_v (pv_part (cs := (t_tree_node.enc (x3.getD (⟨0, 0, 0⟩ : G_tree_node))).toArray) (v := vi ((x3.getD (⟨0, 0, 0⟩ : G_tree_node)).height)) rfl (by kernel_rfl)) ?_
 refine mva (vi ((x3.getD (⟨0, 0, 0⟩ : G_tree_node)).height)) rfl (ops_nil ?_)
 refine WX_seq (WX_region ?_)
 refine mva (.slice none 0 0) rfl (ops_nil ?_)
 refine WX_seq (WX_region ?_)
 refine op_w (pw_makeMap ?_)
 intro b2 w2 hw1 hw2
 replace h := h b2 w2 hw1 hw2
 refine mva (.map (some b2)) rfl (ops_nil ?_)
 refine WX_join (fun f w13 => ∃ x15 : Sl, Agree f [(0, .pointer a0), (1, vu a1), (6, .slice x15.a x15.len x15.cap), (7, .map (some b2))] /\ sh_f62_j3 a1 Q b1 o1 b2 x15 w13) ?_ ?_
 refine WX_seq (WX_region ?_)
 refine mv (.pointer a0) rfl <| op_w (pw_call co_67 rfl (CallsR.mono h ?_))
 rintro v2 w3 ⟨x4, rfl, h⟩
 refine op_v (pv_lenS (s := x4) is_24 rfl) <| mv (vi 0) rfl (ops_nil ?_)
 refine WX_block ?_
 obtain ⟨I1, ⟨m, h0⟩, hB1⟩ := h
 refine WX_loop (fun m f w4 => ∃ x5 : Sl, ∃ x6 : Int, Agree f [(0, .pointer a0), (1, vu a1), (5, vi ((x3.getD (⟨0, 0, 0⟩ : G_tree_node)).height)), (6, .slice x5.a x5.len x5.cap), (7, .map (some b2)), (25, .slice x4.a x4.len x4.cap), (26, vi (x4.len : Int)), (27, vi x6)] /\ I1 m x5 x6 w4) ⟨m, nilSl, 0, ⟨rfl, rfl, rfl, rfl, rfl, rfl, rfl, rfl, trivial⟩, h0⟩ ?_
 clear h0 m
 rintro m f w4 ⟨x5, x6, ha, h⟩
 obtain ⟨g2, rfl⟩ := canon ha
 replace h := hB1 m x5 x6 w4 h
 clear hB1
 generalize hn_nxt1 : (fun (y0 : Sl) (y1 : Int) (w : World) => ∃ m2, m2 < m /\ I1 m2 y0 y1 w) = nxt1 at h
 refine WX_seq (WX_region ?_)
 refine op_v (pv_cmp (v := decide (x6 < (x4.len : Int))) rfl rfl rfl rfl) (ops_nil ?_)
 refine WX_seq ?_
 refine WX_cond (b := decide (x6 < (x4.len : Int))) rfl (fun hb2 => ?_) (fun hb2 => ?_)
 have h := h.1 hb2
 refine WX_skip ?_
 refine WX_join (fun f w12 => ∃ x14 : Sl, Agree f [(0, .pointer a0), (1, vu a1), (5, vi ((x3.getD (⟨0, 0, 0⟩ : G_tree_node)).height)), (6, .slice x14.a x14.len x14.cap), (7, .map (some b2)), (25, .slice x4.a x4.len x4.cap), (26, vi (x4.len : Int)), (27, vi x6)] /\ sh_f62_j2 x6 nxt1 x14 w12) ?_ ?_
 refine WX_block ?_
 refine WX_seq (WX_region ?_)
 obtain ⟨b3, o2, hi1, hi2, hi3, h⟩ := h
 refine op_v (pv_ix (s := x4) ez_24 rfl rfl hi1 hi2 hi3) ?_
 obtain ⟨x7, hx7, h⟩ := h
 refine op_v (pv_ld ty_36 rfl hx7) <| mva (vu x7) rfl (ops_nil ?_)
 refine WX_seq (WX_region ?_)
 refine mv (.pointer a0) rfl <| op_v (pv_nilh rfl hp1) <| op_v (pv_fld fo_113_1 rfl) ?_
 obtain ⟨x8, hx8, h⟩ := h
 refine op_v (pv_ld ty_111 rfl hx8) <| mv (vu x7) rfl ?_
 obtain ⟨es2, hm2, h⟩ := h
 obtain ⟨x9, hq2⟩ : ∃ x, mget es2 x7 = x := ⟨_, rfl⟩
 replace h := hq2 ▸ h
 refine op_v (pv_lookupE (T := t_tree_node) mu_111 tz_109 rfl rfl hm2 hq2) <| op_w (pw_alloc ty_109 tz_109 ?_)
 intro b4 w5 hw3 hw4
 replace h := h b4 w5 hw3 hw4
 refine op_w (pw_st (x := (x9.getD (⟨0, 0, 0⟩ : G_tree_node))) ty_109 rfl rfl h.1 ?_)
 intro w6 hw5
 replace h := h.2 w6 hw5
 refine ops_nil ?_
 refine WX_seq (WX_region ?_)
 refine mv (.pointer a0) rfl <| mv (vu x7) rfl <| mv (vu a1) rfl <| op_w (pw_call co_17 rfl (CallsR.mono h ?_))
 rintro v3 w7 ⟨x10, rfl, h⟩
 refine ops_nil ?_
 refine WX_cond (b := x10) rfl (fun hb3 => ?_) (fun hb3 => ?_)
 have h := h.1 hb3
 refine WX_seq (WX_region ?_)
 refine op_v (pv_fld fo_109_2 rfl) ?_
 obtain ⟨x11, hx11, h⟩ := h
 refine op_v (pv_ld ty_3 rfl hx11) <| mv (vi ((x3.getD (⟨0, 0, 0⟩ : G_tree_node)).height)) rfl <| op_v (pv_sub rfl rfl) <| op_v (pv_fld fo_109_2 rfl) ?_
 refine op_w (pw_st (x := (IntKind.i64.wrap (x11 - (x3.getD (⟨0, 0, 0⟩ : G_tree_node)).height))) ty_3 rfl rfl h.1 ?_)
 intro w8 hw6
 replace h := h.2 w8 hw6
 refine ops_nil ?_
 refine WX_region ?_
 refine mv (.map (some b2)) rfl <| mv (vu x7) rfl ?_
 obtain ⟨x12, hx12, h⟩ := h
 refine op_v (pv_ld ty_109 rfl hx12) ?_
 obtain ⟨r1, es3, hr1, hm3, h⟩ := h
 refine op_w (pw_mapSet (T := t_tree_node) (x := x12) mu_111 (congrArg Value.map hr1) rfl rfl hm3 ?_)
 intro ob1 ho1
 replace h := h ob1 ho1
 clear ho1
 generalize setB w8 r1 ob1 = w9 at h ⊢
 refine ops_nil ?_
 exact ⟨x5, ⟨rfl, rfl, rfl, rfl, rfl, rfl, rfl, rfl, trivial⟩, h⟩
 have h := h.2 hb3
 refine WX_region ?_
 refine mv (.slice x5.a x5.len x5.cap) rfl <| mv (vu x7) rfl ?_
 refine op_w (pw_buildSlice (e := 36) (cs := tU64.enc x7) (vs := [(0, vu x7)]) rfl (by kernel_rfl) ?_)
 intro b5 w10 hw7 hw8
 replace h := h b5 w10 hw7 hw8
 obtain ⟨ol1, ne1, ha1, ha2, ha3, ha4, ha5, h⟩ := h
 refine op_w (pw_append (s := x5) (r := (Sl.mk (some ⟨b5, 0, none⟩) 1 1)) eo_24 is_24 rfl rfl ha1 ha2 ha3 ha4 ha5 ?_)
 intro x13 w11 ha6
 replace h := h x13 w11 ha6
 refine mva (.slice x13.a x13.len x13.cap) rfl (ops_nil ?_)
 exact ⟨x13, ⟨rfl, rfl, rfl, rfl, rfl, rfl, rfl, rfl, trivial⟩, h⟩
 rintro f w12 ⟨x14, ha, h⟩
 obtain ⟨g1, rfl⟩ := canon ha
 refine WX_region ?_
 refine op_v (pv_add rfl rfl) <| mv (vi (IntKind.i64.wrap (x6 + 1))) rfl (ops_nil ?_)
 subst hn_nxt1
 obtain ⟨m2, hm2, h⟩ := h
 exact ⟨m2, hm2, x14, (IntKind.i64.wrap (x6 + 1)), ⟨rfl, rfl, rfl, rfl, rfl, rfl, rfl, rfl, trivial⟩, h⟩
 have h := h.2 hb2
 refine WX_exit0 ?_
 exact ⟨x5, ⟨rfl, rfl, rfl, rfl, trivial⟩, h⟩
 rintro f w13 ⟨x15, ha, h⟩
 obtain ⟨g3, rfl⟩ := canon ha
 refine WX_seq (WX_region ?_)
 refine mv (.map (some b2)) rfl <| mv (vu a1) rfl ?_
 obtain ⟨es4, hm4, h⟩ := h
 obtain ⟨x16, hq3⟩ : ∃ x, mget es4 a1 = x := ⟨_, rfl⟩
 replace h := hq3 ▸ h
 refine op_v (pv_lookupE (T := t_tree_node) mu_111 tz_109 rfl rfl hm4 hq3) <| op_w (pw_alloc ty_109 tz_109 ?_)
 intro b6 w14 hw9 hw10
 replace h := h b6 w14 hw9 hw10
 refine op_w (pw_st (x := (x16.getD (⟨0, 0, 0⟩ : G_tree_node))) ty_109 rfl rfl h.1 ?_)
 intro w15 hw11
 replace h := h.2 w15 hw11
 refine ops_nil ?_
 refine WX_seq (WX_region ?_)
 refine mv (vu a1) rfl <| op_v (pv_fld fo_109_0 rfl) <| op_w (pw_st (x := a1) ty_36 rfl rfl h.1 ?_)
 intro w16 hw12
 replace h := h.2 w16 hw12
 refine ops_nil ?_
 refine WX_seq (WX_region ?_)
 refine mv (.map (some b2)) rfl <| mv (vu a1) rfl ?_
 obtain ⟨x17, hx17, h⟩ := h
 refine op_v (pv_ld ty_109 rfl hx17) ?_
 obtain ⟨r2, es5, hr2, hm5, h⟩ := h
 refine op_w (pw_mapSet (T := t_tree_node) (x := x17) mu_111 (congrArg Value.map hr2) rfl rfl hm5 ?_)
 intro ob2 ho2
 replace h := h ob2 ho2
 clear ho2
 generalize setB w16 r2 ob2 = w17 at h ⊢
 refine ops_nil ?_
 refine WX_seq (WX_region ?_)
 refine mv (.pointer a0) rfl <| mv (.pointer a0) rfl <| mv (vu a1) rfl <| mv (.map (some b2)) rfl <| op_v (pv_nilh rfl hp1) ?_
 refine op_v (pv_fld fo_113_0 rfl) <| op_w (pw_st (x := a1) ty_36 rfl rfl h.1 ?_)
 intro w18 hw13
 replace h := h.2 w18 hw13
 refine op_v (pv_nilh rfl hp1) <| op_v (pv_fld fo_113_1 rfl) <| op_w (pw_st (x := (some b2)) ty_111 rfl rfl h.1 ?_)
 intro w19 hw14
 replace h := h.2 w19 hw14
 refine ops_nil ?_
 refine WX_seq (WX_region ?_)
 refine mv (.slice x15.a x15.len x15.cap) rfl <| mva (.slice x15.a x15.len x15.cap) rfl (ops_nil ?_)
 refine WX_ret ?_
 exact fin_of [.slice x15.a x15.len x15.cap] rfl ⟨rfl, trivial⟩ h
def sh_f63_j1 (Q : QW) (x9 : Bool) (w3 : World) : Prop :=
  Q (.bool x9) w3
def sh_f63 (a0 : G_api_Vote) (a1 : G_api_Vote) (Q : QW) (w0 : World) : Prop :=
  al t_api_Vote 53 w0 a0 fun b1 w1 => al t_api_Vote 53 w1 a1 fun b2 w2 => ld tI64 w2 b1 0 fun x1 => ld tI64 w2 b2 0 fun x2 => br (x1 == x2) (ld tU64 w2 b1 1 fun x3 => ld tU64 w2 b2 1 fun x4 => br (x3 == x4) (ld t_api_Point w2 b1 2 fun x5 => ld t_api_Point w2 b2 2 fun x6 => br (eq_api_Point x5 x6) (ld t_api_Point w2 b1 4 fun x7 => ld t_api_Point w2 b2 4 fun x8 => (sh_f63_j1 Q (eq_api_Point x7 x8) w2)) ((sh_f63_j1 Q false w2))) ((sh_f63_j1 Q false w2))) ((sh_f63_j1 Q false w2))
theorem so_f63 {a0 : G_api_Vote} {a1 : G_api_Vote} (Q : QW) (w0 : World) (h : sh_f63 a0 a1 Q w0) : CallsR PP n_f63 #[t_api_Vote.val a0, t_api_Vote.val a1] Q w0 := by
 refine callsR_of_WX (args := [t_api_Vote.val a0, t_api_Vote.val a1]) Try.func63 rfl Try.ntmps63 nl ?_
 refine WX_seq (WX_region ?_)
 refine op_w (pw_box (v := a0) ty_53 rfl ?_)
 intro b1 w1 hw1 hw2
 replace h := h b1 w1 hw1 hw2
 refine op_w (pw_box (v := a1) ty_53 rfl ?_)
 intro b2 w2 hw3 hw4
 replace h := h b2 w2 hw3 hw4
 refine mva (vb false) rfl (ops_nil ?_)
 refine WX_join (fun f w3 => ∃ x9 : Bool, Agree f [(4, vb x9)] /\ sh_f63_j1 Q x9 w3) ?_ ?_
 refine WX_region ?_
 refine op_v (pv_fld fo_53_0 rfl) ?_
 obtain ⟨x1, hx1, h⟩ := h
 refine op_v (pv_ld ty_3 rfl hx1) <| op_v (pv_fld fo_53_0 rfl) ?_
 obtain ⟨x2, hx2, h⟩ := h
 refine op_v (pv_ld ty_3 rfl hx2) <| op_v (pv_cmp (v := (x1 == x2)) rfl rfl rfl rfl) <| mv (vb (x1 == x2)) rfl ?_
 refine ops_split 10 (b := (x1 == x2)) rfl (fun hb1 => ?_) (fun hb1 => ?_)
 have h := h.1 hb1
 refine opg_v (pv_fld fo_53_1 rfl) ?_
 obtain ⟨x3, hx3, h⟩ := h
 refine opg_v (pv_ld ty_36 rfl hx3) <| opg_v (pv_fld fo_53_1 rfl) ?_
 obtain ⟨x4, hx4, h⟩ := h
 refine opg_v (pv_ld ty_36 rfl hx4) <| opg_v (pv_cmp (v := (x3 == x4)) rfl rfl rfl rfl) <| op_v (pv_pick (b := true) (v := vb (x3 == x4)) rfl rfl) ?_
 refine mv (vb (x3 == x4)) rfl <| ops_split 17 (b := (x3 == x4)) rfl (fun hb2 => ?_) (fun hb2 => ?_)
 have h := h.1 hb2
 refine opg_v (pv_fld fo_53_2 rfl) ?_
 obtain ⟨x5, hx5, h⟩ := h
 refine opg_v (pv_ld ty_38 rfl hx5) <| opg_v (pv_fld fo_53_2 rfl) ?_
 obtain ⟨x6, hx6, h⟩ := h
 refine opg_v (pv_ld ty_38 rfl hx6) <| opg_v (pv_eqS (v := (eq_api_Point x5 x6)) eqk_38 (eqf_38 x5 x6) rfl rfl rfl) ?_
 refine op_v (pv_pick (b := true) (v := vb (eq_api_Point x5 x6)) rfl rfl) <| mv (vb (eq_api_Point x5 x6)) rfl ?_
 refine ops_split 24 (b := (eq_api_Point x5 x6)) rfl (fun hb3 => ?_) (fun hb3 => ?_)
 have h := h.1 hb3
 refine opg_v (pv_fld fo_53_3 rfl) ?_
 obtain ⟨x7, hx7, h⟩ := h
 refine opg_v (pv_ld ty_38 rfl hx7) <| opg_v (pv_fld fo_53_3 rfl) ?_
 obtain ⟨x8, hx8, h⟩ := h
 refine opg_v (pv_ld ty_38 rfl hx8) <| opg_v (pv_eqS (v := (eq_api_Point x7 x8)) eqk_38 (eqf_38 x7 x8) rfl rfl rfl) ?_
 refine op_v (pv_pick (b := true) (v := vb (eq_api_Point x7 x8)) rfl rfl) <| mva (vb (eq_api_Point x7 x8)) rfl (ops_nil ?_)
 exact ⟨(eq_api_Point x7 x8), ⟨rfl, trivial⟩, h⟩
 have h := h.2 hb3
 iterate 5 refine opg_no ?_
 refine op_v (pv_pick (b := false) (v := vb false) rfl rfl) <| mva (vb false) rfl (ops_nil ?_)
 exact ⟨false, ⟨rfl, trivial⟩, h⟩
 have h := h.2 hb2
 iterate 5 refine opg_no ?_
 refine op_v (pv_pick (b := false) (v := vb false) rfl rfl) <| mv (vb false) rfl ?_
 iterate 5 refine opg_no ?_
 refine op_v (pv_pick (b := false) (v := vb false) rfl rfl) <| mva (vb false) rfl (ops_nil ?_)
 exact ⟨false, ⟨rfl, trivial⟩, h⟩
 have h := h.2 hb1
 iterate 5 refine opg_no ?_
 refine op_v (pv_pick (b := false) (v := vb false) rfl rfl) <| mv (vb false) rfl ?_
 iterate 5 refine opg_no ?_
 refine op_v (pv_pick (b := false) (v := vb false) rfl rfl) <| mv (vb false) rfl ?_
 iterate 5 refine opg_no ?_
 refine op_v (pv_pick (b := false) (v := vb false) rfl rfl) <| mva (vb false) rfl (ops_nil ?_)
 exact ⟨false, ⟨rfl, trivial⟩, h⟩
 rintro f w3 ⟨x9, ha, h⟩
 obtain ⟨g1, rfl⟩ := canon ha
 refine WX_ret ?_
 exact fin_of [vb x9] rfl ⟨rfl, trivial⟩ h
def sh_f64_j2 (Q : QW) (w2 : World) : Prop :=
  Q (.int .i64 (-1)) w2
def sh_f64_b1 (a0 : Sl) (a1 : Int) (Q : QW) (x1 : Int) (w1 : World) (nxt1 : Int -> World -> Prop) : Prop :=
  br (decide (x1 < (a0.len : Int))) (ixs a0 x1 fun b1 o1 => ld tI64 w1 b1 (o1 + (x1).toNat * 1) fun x2 => br (a1 == x2) (Q (.int .i64 x1) w1) (nxt1 (IntKind.i64.wrap (x1 + 1)) w1)) ((sh_f64_j2 Q w1))
def sh_f64 (a0 : Sl) (a1 : Int) (Q : QW) (w0 : World) : Prop :=
  (∃ I1 : Nat -> Int -> World -> Prop, (∃ m, I1 m 0 w0) /\ ∀ m x1 w1, I1 m x1 w1 -> sh_f64_b1 a0 a1 Q x1 w1 (fun y0 w => ∃ m2, m2 < m /\ I1 m2 y0 w))
theorem so_f64 {a0 : Sl} {a1 : Int} (Q : QW) (w0 : World) (h : sh_f64 a0 a1 Q w0) : CallsR PP n_f64 #[.slice a0.a a0.len a0.cap, .int .i64 a1] Q w0 := by
 refine callsR_of_WX (args := [.slice a0.a a0.len a0.cap, vi a1]) Try.func64 rfl Try.ntmps64 nl ?_
 refine WX_seq (WX_region ?_)
 refine mva (vi 0) rfl (ops_nil ?_)
 refine WX_join (fun f w2 => Agree f [] /\ sh_f64_j2 Q w2) ?_ ?_
 refine WX_seq (WX_region ?_)
 refine mv (.slice a0.a a0.len a0.cap) rfl <| op_v (pv_lenS (s := a0) is_51 rfl) <| mv (vi 0) rfl (ops_nil ?_)
 refine WX_block ?_
 obtain ⟨I1, ⟨m, h0⟩, hB1⟩ := h
 refine WX_loop (fun m f w1 => ∃ x1 : Int, Agree f [(0, .slice a0.a a0.len a0.cap), (1, vi a1), (7, vi (a0.len : Int)), (8, vi x1)] /\ I1 m x1 w1) ⟨m, 0, ⟨rfl, rfl, rfl, rfl, trivial⟩, h0⟩ ?_
 clear h0 m
 rintro m f w1 ⟨x1, ha, h⟩
 obtain ⟨g1, rfl⟩ := canon ha
 replace h := hB1 m x1 w1 h
 clear hB1
 generalize hn_nxt1 : (fun (y0 : Int) (w : World) => ∃ m2, m2 < m /\ I1 m2 y0 w) = nxt1 at h
 refine WX_seq (WX_region ?_)
 refine op_v (pv_cmp (v := decide (x1 < (a0.len : Int))) rfl rfl rfl rfl) (ops_nil ?_)
 refine WX_seq ?_
 refine WX_cond (b := decide (x1 < (a0.len : Int))) rfl (fun hb1 => ?_) (fun hb1 => ?_)
 have h := h.1 hb1
 refine WX_skip <| WX_seq ?_
 refine WX_block ?_
 refine WX_seq (WX_region ?_)
 refine mv (vi x1) rfl <| mva (vi x1) rfl (ops_nil ?_)
 refine WX_seq (WX_region ?_)
 refine mv (vi a1) rfl <| mv (.slice a0.a a0.len a0.cap) rfl <| mv (vi x1) rfl ?_
 obtain ⟨b1, o1, hi1, hi2, hi3, h⟩ := h
 refine op_v (pv_ix (s := a0) ez_51 rfl rfl hi1 hi2 hi3) ?_
 obtain ⟨x2, hx2, h⟩ := h
 refine op_v (pv_ld ty_3 rfl hx2) <| op_v (pv_cmp (v := (a1 == x2)) rfl rfl rfl rfl) (ops_nil ?_)
 refine WX_cond (b := (a1 == x2)) rfl (fun hb2 => ?_) (fun hb2 => ?_)
 have h := h.1 hb2
 refine WX_seq (WX_region ?_)
 refine mv (vi x1) rfl <| mva (vi x1) rfl (ops_nil ?_)
 refine WX_ret ?_
 exact fin_of [vi x1] rfl ⟨rfl, trivial⟩ h
 have h := h.2 hb2
 refine WX_skip ?_
 refine WX_region ?_
 refine op_v (pv_add rfl rfl) <| mv (vi (IntKind.i64.wrap (x1 + 1))) rfl (ops_nil ?_)
 subst hn_nxt1
 obtain ⟨m2, hm2, h⟩ := h
 exact ⟨m2, hm2, (IntKind.i64.wrap (x1 + 1)), ⟨rfl, rfl, rfl, rfl, trivial⟩, h⟩
 have h := h.2 hb1
 refine WX_exit0 ?_
 exact ⟨ag0, h⟩
 rintro f w2 ⟨ha, h⟩
 obtain ⟨g2, rfl⟩ := canon ha
 refine WX_seq (WX_region ?_)
 refine mva (vi (-1)) rfl (ops_nil ?_)
 refine WX_ret ?_
 exact fin_of [vi (-1)] rfl ⟨rfl, trivial⟩ h
end Go.Proofs.Ytdefmgkicdhmkaa
namespace Go.Proofs.Ytdefmgkicdhmkaa
open Go Go.Sx
set_option linter.unusedVariables false
set_option maxRecDepth 100000
set_option maxHeartbeats 2000000
def sh_f65_j6 (a0 : Sl) (x1 : Int) (x2 : Int) (x4 : Bool) (x5 : Bool) (nxt1 : Int -> Int -> Int -> Bool -> Bool -> World -> Prop) (x6 : Int) (x9 : Int) (x16 : Bool) (w14 : World) : Prop :=
  br x16 (CallsR PP n_f75 #[.slice a0.a a0.len a0.cap, .int .i64 x1, .int .i64 x2, .int .i64 x9] (fun v8 w15 => ∃ x17 : Int, v8 = .int .i64 x17 /\ (nxt1 x17 x2 x6 x4 x5 w15)) w14) (CallsR PP n_f76 #[.slice a0.a a0.len a0.cap, .int .i64 x1, .int .i64 x2, .int .i64 x9] (fun v9 w16 => ∃ x18 : Int, ∃ x19 : Bool, v9 = .tuple #[.int .i64 x18, .bool x19] /\ (br (decide ((IntKind.i64.wrap (x18 - x1)) < (IntKind.i64.wrap (x2 - x18)))) (CallsR PP n_f65 #[.slice a0.a a0.len a0.cap, .int .i64 x1, .int .i64 x18, .int .i64 x6] (fun v10 w17 => nxt1 (IntKind.i64.wrap (x18 + 1)) x2 x6 (decide ((IntKind.i64.wrap (x18 - x1)) ≥ (IntKind.i64.wrap (Int.tdiv (IntKind.i64.wrap (x2 - x1)) 8)))) x19 w17) w16) (CallsR PP n_f65 #[.slice a0.a a0.len a0.cap, .int .i64 (IntKind.i64.wrap (x18 + 1)), .int .i64 x2, .int .i64 x6] (fun v11 w18 => nxt1 x1 x18 x6 (decide ((IntKind.i64.wrap (x2 - x18)) ≥ (IntKind.i64.wrap (Int.tdiv (IntKind.i64.wrap (x2 - x1)) 8)))) x19 w18) w16))) w14)
def sh_f65_j5 (a0 : Sl) (x1 : Int) (x2 : Int) (x4 : Bool) (x5 : Bool) (nxt1 : Int -> Int -> Int -> Bool -> Bool -> World -> Prop) (x6 : Int) (x9 : Int) (w11 : World) : Prop :=
  dw w11 fun w12 => br (decide (x1 > 0)) (ixs a0 (IntKind.i64.wrap (x1 - 1)) fun b1 o1 => ld tI64 w12 b1 (o1 + ((IntKind.i64.wrap (x1 - 1))).toNat * 1) fun x13 => ixs a0 x9 fun b2 o2 => ld tI64 w12 b2 (o2 + (x9).toNat * 1) fun x14 => CallsR PP n_f74 #[.int .i64 x13, .int .i64 x14] (fun v7 w13 => ∃ x15 : Bool, v7 = .bool x15 /\ ((sh_f65_j6 a0 x1 x2 x4 x5 nxt1 x6 x9 (!x15) w13))) w12) ((sh_f65_j6 a0 x1 x2 x4 x5 nxt1 x6 x9 false w12))
def sh_f65_j4 (a0 : Sl) (Q : QW) (x1 : Int) (x2 : Int) (x4 : Bool) (x5 : Bool) (nxt1 : Int -> Int -> Int -> Bool -> Bool -> World -> Prop) (x6 : Int) (x9 : Int) (x11 : Bool) (w9 : World) : Prop :=
  br x11 (CallsR PP n_f73 #[.slice a0.a a0.len a0.cap, .int .i64 x1, .int .i64 x2] (fun v6 w10 => ∃ x12 : Bool, v6 = .bool x12 /\ (br x12 (Q (.tuple #[]) w10) ((sh_f65_j5 a0 x1 x2 x4 x5 nxt1 x6 x9 w10)))) w9) ((sh_f65_j5 a0 x1 x2 x4 x5 nxt1 x6 x9 w9))
def sh_f65_j3 (a0 : Sl) (Q : QW) (x1 : Int) (x2 : Int) (x4 : Bool) (x5 : Bool) (nxt1 : Int -> Int -> Int -> Bool -> Bool -> World -> Prop) (x6 : Int) (x9 : Int) (x10 : Int) (w8 : World) : Prop :=
  br x4 (br x5 ((sh_f65_j4 a0 Q x1 x2 x4 x5 nxt1 x6 x9 (x10 == 1) w8)) ((sh_f65_j4 a0 Q x1 x2 x4 x5 nxt1 x6 x9 false w8))) ((sh_f65_j4 a0 Q x1 x2 x4 x5 nxt1 x6 x9 false w8))
def sh_f65_j2 (a0 : Sl) (Q : QW) (x1 : Int) (x2 : Int) (x4 : Bool) (x5 : Bool) (nxt1 : Int -> Int -> Int -> Bool -> Bool -> World -> Prop) (x6 : Int) (w5 : World) : Prop :=
  CallsR PP n_f71 #[.slice a0.a a0.len a0.cap, .int .i64 x1, .int .i64 x2] (fun v4 w6 => ∃ x7 : Int, ∃ x8 : Int, v4 = .tuple #[.int .i64 x7, .int .i64 x8] /\ (br (x8 == 2) (CallsR PP n_f72 #[.slice a0.a a0.len a0.cap, .int .i64 x1, .int .i64 x2] (fun v5 w7 => (sh_f65_j3 a0 Q x1 x2 x4 x5 nxt1 x6 (IntKind.i64.wrap ((IntKind.i64.wrap (x2 - 1)) - (IntKind.i64.wrap (x7 - x1)))) 1 w7)) w6) ((sh_f65_j3 a0 Q x1 x2 x4 x5 nxt1 x6 x7 x8 w6)))) w5
def sh_f65_b1 (a0 : Sl) (Q : QW) (x1 : Int) (x2 : Int) (x3 : Int) (x4 : Bool) (x5 : Bool) (w1 : World) (nxt1 : Int -> Int -> Int -> Bool -> Bool -> World -> Prop) : Prop :=
  br (decide ((IntKind.i64.wrap (x2 - x1)) <= 12)) (CallsR PP n_f68 #[.slice a0.a a0.len a0.cap, .int .i64 x1, .int .i64 x2] (fun v1 w2 => Q (.tuple #[]) w2) w1) (br (x3 == 0) (CallsR PP n_f69 #[.slice a0.a a0.len a0.cap, .int .i64 x1, .int .i64 x2] (fun v2 w3 => Q (.tuple #[]) w3) w1) (br (!x4) (CallsR PP n_f70 #[.slice a0.a a0.len a0.cap, .int .i64 x1, .int .i64 x2] (fun v3 w4 => (sh_f65_j2 a0 Q x1 x2 x4 x5 nxt1 (IntKind.i64.wrap (x3 - 1)) w4)) w1) ((sh_f65_j2 a0 Q x1 x2 x4 x5 nxt1 x3 w1))))
def sh_f65 (a0 : Sl) (a1 : Int) (a2 : Int) (a3 : Int) (Q : QW) (w0 : World) : Prop :=
  (∃ I1 : Nat -> Int -> Int -> Int -> Bool -> Bool -> World -> Prop, (∃ m, I1 m a1 a2 a3 true true w0) /\ ∀ m x1 x2 x3 x4 x5 w1, I1 m x1 x2 x3 x4 x5 w1 -> sh_f65_b1 a0 Q x1 x2 x3 x4 x5 w1 (fun y0 y1 y2 y3 y4 w => ∃ m2, m2 < m /\ I1 m2 y0 y1 y2 y3 y4 w))
theorem so_f65 {a0 : Sl} {a1 : Int} {a2 : Int} {a3 : Int} (Q : QW) (w0 : World) (h : sh_f65 a0 a1 a2 a3 Q w0) : CallsR PP n_f65 #[.slice a0.a a0.len a0.cap, .int .i64 a1, .int .i64 a2, .int .i64 a3] Q w0 := by
 refine callsR_of_WX (args := [.slice a0.a a0.len a0.cap, vi a1, vi a2, vi a3]) Try.func65 rfl Try.ntmps65 nl ?_
 refine WX_seq (WX_region ?_)
 refine mva (vb true) rfl (ops_nil ?_)
 refine WX_seq (WX_region ?_)
 refine mva (vb true) rfl (ops_nil ?_)
 refine WX_block ?_
 obtain ⟨I1, ⟨m, h0⟩, hB1⟩ := h
 refine WX_loop (fun m f w1 => ∃ x1 : Int, ∃ x2 : Int, ∃ x3 : Int, ∃ x4 : Bool, ∃ x5 : Bool, Agree f [(0, .slice a0.a a0.len a0.cap), (1, vi x1), (2, vi x2), (3, vi x3), (8, vb x4), (9, vb x5)] /\ I1 m x1 x2 x3 x4 x5 w1) ⟨m, a1, a2, a3, true, true, ⟨rfl, rfl, rfl, rfl, rfl, rfl, trivial⟩, h0⟩ ?_
 clear h0 m
 rintro m f w1 ⟨x1, x2, x3, x4, x5, ha, h⟩
 obtain ⟨g6, rfl⟩ := canon ha
 replace h := hB1 m x1 x2 x3 x4 x5 w1 h
 clear hB1
 generalize hn_nxt1 : (fun (y0 : Int) (y1 : Int) (y2 : Int) (y3 : Bool) (y4 : Bool) (w : World) => ∃ m2, m2 < m /\ I1 m2 y0 y1 y2 y3 y4 w) = nxt1 at h
 refine WX_block ?_
 refine WX_seq (WX_region ?_)
 refine mv (vi x2) rfl <| mv (vi x1) rfl <| op_v (pv_sub rfl rfl) <| mva (vi (IntKind.i64.wrap (x2 - x1))) rfl (ops_nil ?_)
 refine WX_seq ?_
 refine WX_seq (WX_region ?_)
 refine mv (vi (IntKind.i64.wrap (x2 - x1))) rfl <| op_v (pv_cmp (v := decide ((IntKind.i64.wrap (x2 - x1)) <= 12)) rfl rfl rfl rfl) (ops_nil ?_)
 refine WX_cond (b := decide ((IntKind.i64.wrap (x2 - x1)) <= 12)) rfl (fun hb1 => ?_) (fun hb1 => ?_)
 have h := h.1 hb1
 refine WX_seq (WX_region ?_)
 refine mv (.slice a0.a a0.len a0.cap) rfl <| mv (vi x1) rfl <| mv (vi x2) rfl <| op_w (pw_call co_68 rfl (CallsR.mono h ?_))
 intro v1 w2 h
 refine ops_nil ?_
 refine WX_ret ?_
 exact fin_of [] rfl trivial h
 have h := h.2 hb1
 refine WX_skip <| WX_seq <| WX_seq (WX_region ?_)
 refine mv (vi x3) rfl <| op_v (pv_cmp (v := (x3 == 0)) rfl rfl rfl rfl) (ops_nil ?_)
 refine WX_cond (b := (x3 == 0)) rfl (fun hb2 => ?_) (fun hb2 => ?_)
 have h := h.1 hb2
 refine WX_seq (WX_region ?_)
 refine mv (.slice a0.a a0.len a0.cap) rfl <| mv (vi x1) rfl <| mv (vi x2) rfl <| op_w (pw_call co_69 rfl (CallsR.mono h ?_))
 intro v2 w3 h
 refine ops_nil ?_
 refine WX_ret ?_
 exact fin_of [] rfl trivial h
 have h := h.2 hb2
 refine WX_skip ?_
 refine WX_join (fun f w5 => ∃ x6 : Int, Agree f [(0, .slice a0.a a0.len a0.cap), (1, vi x1), (2, vi x2), (3, vi x6), (8, vb x4), (9, vb x5), (10, vi (IntKind.i64.wrap (x2 - x1)))] /\ sh_f65_j2 a0 Q x1 x2 x4 x5 nxt1 x6 w5) ?_ ?_
 refine WX_seq (WX_region ?_)
 refine mv (vb x4) rfl <| op_v (pv_not rfl) (ops_nil ?_)
 refine WX_cond (b := (!x4)) rfl (fun hb3 => ?_) (fun hb3 => ?_)
 have h := h.1 hb3
 refine WX_seq (WX_region ?_)
 refine mv (.slice a0.a a0.len a0.cap) rfl <| mv (vi x1) rfl <| mv (vi x2) rfl <| op_w (pw_call co_70 rfl (CallsR.mono h ?_))
 intro v3 w4 h
 refine ops_nil ?_
 refine WX_region ?_
 refine mv (vi x3) rfl <| op_v (pv_sub rfl rfl) <| mva (vi (IntKind.i64.wrap (x3 - 1))) rfl (ops_nil ?_)
 exact ⟨(IntKind.i64.wrap (x3 - 1)), ⟨rfl, rfl, rfl, rfl, rfl, rfl, rfl, trivial⟩, h⟩
 have h := h.2 hb3
 refine WX_skip ?_
 exact ⟨x3, ⟨rfl, rfl, rfl, rfl, rfl, rfl, rfl, trivial⟩, h⟩
 rintro f w5 ⟨x6, ha, h⟩
 obtain ⟨g5, rfl⟩ := canon ha
 refine WX_seq (WX_region ?_)
 refine mv (.slice a0.a a0.len a0.cap) rfl <| mv (vi x1) rfl <| mv (vi x2) rfl <| op_w (pw_call co_71 rfl (CallsR.mono h ?_))
 rintro v4 w6 ⟨x7, x8, rfl, h⟩
 refine mv (.tuple #[vi x7, vi x8]) rfl <| op_v (pv_extract (vs := [vi x7, vi x8]) (v := vi x7) rfl rfl) ?_
 refine op_v (pv_extract (vs := [vi x7, vi x8]) (v := vi x8) rfl rfl) <| mva (vi x7) rfl <| mva (vi x8) rfl (ops_nil ?_)
 refine WX_join (fun f w8 => ∃ x9 : Int, ∃ x10 : Int, Agree f [(0, .slice a0.a a0.len a0.cap), (1, vi x1), (2, vi x2), (3, vi x6), (8, vb x4), (9, vb x5), (10, vi (IntKind.i64.wrap (x2 - x1))), (11, vi x9), (12, vi x10)] /\ sh_f65_j3 a0 Q x1 x2 x4 x5 nxt1 x6 x9 x10 w8) ?_ ?_
 refine WX_seq (WX_region ?_)
 refine mv (vi x8) rfl <| op_v (pv_cmp (v := (x8 == 2)) rfl rfl rfl rfl) (ops_nil ?_)
 refine WX_cond (b := (x8 == 2)) rfl (fun hb4 => ?_) (fun hb4 => ?_)
 have h := h.1 hb4
 refine WX_seq (WX_region ?_)
 refine mv (.slice a0.a a0.len a0.cap) rfl <| mv (vi x1) rfl <| mv (vi x2) rfl <| op_w (pw_call co_72 rfl (CallsR.mono h ?_))
 intro v5 w7 h
 refine ops_nil ?_
 refine WX_seq (WX_region ?_)
 refine mv (vi x2) rfl <| op_v (pv_sub rfl rfl) <| mv (vi x7) rfl <| mv (vi x1) rfl <| op_v (pv_sub rfl rfl) <| op_v (pv_sub rfl rfl) ?_
 refine mva (vi (IntKind.i64.wrap ((IntKind.i64.wrap (x2 - 1)) - (IntKind.i64.wrap (x7 - x1))))) rfl (ops_nil ?_)
 refine WX_region ?_
 refine mva (vi 1) rfl (ops_nil ?_)
 exact ⟨(IntKind.i64.wrap ((IntKind.i64.wrap (x2 - 1)) - (IntKind.i64.wrap (x7 - x1)))), 1, ⟨rfl, rfl, rfl, rfl, rfl, rfl, rfl, rfl, rfl, trivial⟩, h⟩
 have h := h.2 hb4
 refine WX_skip ?_
 exact ⟨x7, x8, ⟨rfl, rfl, rfl, rfl, rfl, rfl, rfl, rfl, rfl, trivial⟩, h⟩
 rintro f w8 ⟨x9, x10, ha, h⟩
 obtain ⟨g4, rfl⟩ := canon ha
 refine WX_join (fun f w11 => Agree f [(0, .slice a0.a a0.len a0.cap), (1, vi x1), (2, vi x2), (3, vi x6), (8, vb x4), (9, vb x5), (10, vi (IntKind.i64.wrap (x2 - x1))), (11, vi x9)] /\ sh_f65_j5 a0 x1 x2 x4 x5 nxt1 x6 x9 w11) ?_ ?_
 refine WX_join (fun f w9 => ∃ x11 : Bool, Agree f [(0, .slice a0.a a0.len a0.cap), (1, vi x1), (2, vi x2), (3, vi x6), (8, vb x4), (9, vb x5), (10, vi (IntKind.i64.wrap (x2 - x1))), (11, vi x9), (68, vb x11)] /\ sh_f65_j4 a0 Q x1 x2 x4 x5 nxt1 x6 x9 x11 w9) ?_ ?_
 refine WX_region ?_
 refine mv (vb x4) rfl <| mv (vb x4) rfl <| ops_split 62 (b := x4) rfl (fun hb5 => ?_) (fun hb5 => ?_)
 have h := h.1 hb5
 refine opg_v (pv_move (v := vb x5) rfl) <| op_v (pv_pick (b := true) (v := vb x5) rfl rfl) <| mv (vb x5) rfl ?_
 refine ops_split 65 (b := x5) rfl (fun hb6 => ?_) (fun hb6 => ?_)
 have h := h.1 hb6
 refine opg_v (pv_move (v := vi x10) rfl) <| opg_v (pv_cmp (v := (x10 == 1)) rfl rfl rfl rfl) ?_
 refine op_v (pv_pick (b := true) (v := vb (x10 == 1)) rfl rfl) (ops_nil ?_)
 exact ⟨(x10 == 1), ⟨rfl, rfl, rfl, rfl, rfl, rfl, rfl, rfl, rfl, trivial⟩, h⟩
 have h := h.2 hb6
 iterate 2 refine opg_no ?_
 refine op_v (pv_pick (b := false) (v := vb false) rfl rfl) (ops_nil ?_)
 exact ⟨false, ⟨rfl, rfl, rfl, rfl, rfl, rfl, rfl, rfl, rfl, trivial⟩, h⟩
 have h := h.2 hb5
 refine opg_no ?_
 refine op_v (pv_pick (b := false) (v := vb false) rfl rfl) <| mv (vb false) rfl ?_
 iterate 2 refine opg_no ?_
 refine op_v (pv_pick (b := false) (v := vb false) rfl rfl) (ops_nil ?_)
 exact ⟨false, ⟨rfl, rfl, rfl, rfl, rfl, rfl, rfl, rfl, rfl, trivial⟩, h⟩
 rintro f w9 ⟨x11, ha, h⟩
 obtain ⟨g1, rfl⟩ := canon ha
 refine WX_cond (b := x11) rfl (fun hb8 => ?_) (fun hb8 => ?_)
 have h := h.1 hb8
 refine WX_seq (WX_region ?_)
 refine mv (.slice a0.a a0.len a0.cap) rfl <| mv (vi x1) rfl <| mv (vi x2) rfl <| op_w (pw_call co_73 rfl (CallsR.mono h ?_))
 rintro v6 w10 ⟨x12, rfl, h⟩
 refine ops_nil ?_
 refine WX_cond (b := x12) rfl (fun hb7 => ?_) (fun hb7 => ?_)
 have h := h.1 hb7
 refine WX_ret ?_
 exact fin_of [] rfl trivial h
 have h := h.2 hb7
 refine WX_skip ?_
 exact ⟨⟨rfl, rfl, rfl, rfl, rfl, rfl, rfl, rfl, trivial⟩, h⟩
 have h := h.2 hb8
 refine WX_skip ?_
 exact ⟨⟨rfl, rfl, rfl, rfl, rfl, rfl, rfl, rfl, trivial⟩, h⟩
 rintro f w11 ⟨ha, h⟩
 obtain ⟨g3, rfl⟩ := canon ha
 refine WX_seq ?_
 refine WX_join (fun f w14 => ∃ x16 : Bool, Agree f [(0, .slice a0.a a0.len a0.cap), (1, vi x1), (2, vi x2), (3, vi x6), (8, vb x4), (9, vb x5), (10, vi (IntKind.i64.wrap (x2 - x1))), (11, vi x9), (87, vb x16)] /\ sh_f65_j6 a0 x1 x2 x4 x5 nxt1 x6 x9 x16 w14) ?_ ?_
 obtain ⟨w12, hw1, h⟩ := dwe h
 refine dr_split (b := decide (x1 > 0)) (fun hb9 => ?_) (fun hb9 => ?_)
 have h := h.1 hb9
 obtain ⟨b1, o1, hi1, hi2, hi3, x13, hx13, b2, o2, hi4, hi5, hi6, x14, hx14, h⟩ := h
 refine WX_dr [12] [0,1,2,3,4,5,6,8,9,10,13,14] [⟨[],[0,1,2,3,4,5,6,8,9,10],[7,11],[(12,[12,13,14],1)]⟩,⟨[12],[13,14],[],[]⟩] [vi x1, vb true, vb true, .slice a0.a a0.len a0.cap, vi x1, vi (IntKind.i64.wrap (x1 - 1)), vp b1 (o1 + ((IntKind.i64.wrap (x1 - 1))).toNat * 1), vi x13, .slice a0.a a0.len a0.cap, vi x9, vp b2 (o2 + (x9).toNat * 1), vi x14, un, un, un] 2 mixed (by kernel_rfl) hw1 ?_
 refine draw_go rfl (pu rfl (pv_move rfl) (pu rfl (pv_cmp (v := true) rfl rfl rfl (by exact hb9)) (pu rfl (pv_move (by first | rfl | exact congrArg Value.bool hb9)) (pu rfl (pv_move rfl) (pu rfl (pv_move rfl) (pu rfl (pv_sub rfl rfl) (pu rfl (pv_ix (s := a0) ez_51 rfl rfl hi1 hi2 hi3) (pu rfl (pv_move rfl) (pu rfl (pv_move rfl) (pu rfl (pv_ix (s := a0) ez_51 rfl rfl hi4 hi5 hi6) ap0)))))))))) (ro rfl (pv_ld ty_3 rfl hx13) (ro rfl (pv_ld ty_3 rfl hx14) ao0)) rfl ?_
 refine cy rfl rfl ?_
 refine pw_call co_74 rfl (cm h ?_)
 rintro v7 w13 ⟨x15, rfl, h⟩
 refine nx [vb (!x15), vb (!x15)] rfl nl rfl ?_
 refine draw_end rfl (pu rfl (pv_not rfl) (pu rfl (pv_pick (b := true) (v := vb (!x15)) rfl rfl) ap0)) ao0 ?_
 exact ⟨(!x15), ⟨rfl, rfl, rfl, rfl, rfl, rfl, rfl, rfl, rfl, trivial⟩, h⟩
 have h := h.2 hb9
 refine WX_dr [12] [0,1,2,3,4,5,6,8,9,10,13,14] [⟨[],[0,1,2,3,4,5,6,8,9,10],[7,11],[(12,[12,13,14],1)]⟩,⟨[12],[13,14],[],[]⟩] [vi x1, vb false, vb false, un, un, un, un, un, un, un, un, un, un, un, un] 2 mixed (by kernel_rfl) hw1 ?_
 refine draw_go rfl (pu rfl (pv_move rfl) (pu rfl (pv_cmp (v := false) rfl rfl rfl (by exact hb9)) (pu rfl (pv_move (by first | rfl | exact congrArg Value.bool hb9)) (pn (pn (pn (pn (pn (pn (pn ap0)))))))))) (rn (rn ao0)) rfl ?_
 refine ch_no [un, vb false] rfl rfl rfl nl rfl ?_ ch0
 refine draw_end rfl (pn (pu rfl (pv_pick (b := false) (v := vb false) rfl rfl) ap0)) ao0 ?_
 exact ⟨false, ⟨rfl, rfl, rfl, rfl, rfl, rfl, rfl, rfl, rfl, trivial⟩, h⟩
 rintro f w14 ⟨x16, ha, h⟩
 obtain ⟨g2, rfl⟩ := canon ha
 refine WX_cond (b := x16) rfl (fun hb10 => ?_) (fun hb10 => ?_)
 have h := h.1 hb10
 refine WX_seq (WX_region ?_)
 refine mv (.slice a0.a a0.len a0.cap) rfl <| mv (vi x1) rfl <| mv (vi x2) rfl <| mv (vi x9) rfl <| op_w (pw_call co_75 rfl (CallsR.mono h ?_))
 rintro v8 w15 ⟨x17, rfl, h⟩
 refine mva (vi x17) rfl (ops_nil ?_)
 refine WX_seq (WX_region ?_)
 refine mv (vi x17) rfl <| mva (vi x17) rfl (ops_nil ?_)
 refine WX_exit0 ?_
 subst hn_nxt1
 obtain ⟨m2, hm2, h⟩ := h
 exact ⟨m2, hm2, x17, x2, x6, x4, x5, ⟨rfl, rfl, rfl, rfl, rfl, rfl, trivial⟩, h⟩
 have h := h.2 hb10
 refine WX_skip <| WX_seq (WX_region ?_)
 refine mv (.slice a0.a a0.len a0.cap) rfl <| mv (vi x1) rfl <| mv (vi x2) rfl <| mv (vi x9) rfl <| op_w (pw_call co_76 rfl (CallsR.mono h ?_))
 rintro v9 w16 ⟨x18, x19, rfl, h⟩
 refine mv (.tuple #[vi x18, vb x19]) rfl <| op_v (pv_extract (vs := [vi x18, vb x19]) (v := vi x18) rfl rfl) ?_
 refine op_v (pv_extract (vs := [vi x18, vb x19]) (v := vb x19) rfl rfl) <| mva (vi x18) rfl <| mva (vb x19) rfl (ops_nil ?_)
 refine WX_seq (WX_region ?_)
 refine mv (vb x19) rfl <| mva (vb x19) rfl (ops_nil ?_)
 refine WX_seq (WX_region ?_)
 refine mv (vi x18) rfl <| mv (vi x1) rfl <| op_v (pv_sub rfl rfl) <| mv (vi x2) rfl <| mv (vi x18) rfl <| op_v (pv_sub rfl rfl) ?_
 refine mva (vi (IntKind.i64.wrap (x18 - x1))) rfl <| mva (vi (IntKind.i64.wrap (x2 - x18))) rfl (ops_nil ?_)
 refine WX_seq (WX_region ?_)
 refine mv (vi (IntKind.i64.wrap (x2 - x1))) rfl <| op_v (pv_quo rfl rfl (by decide)) ?_
 refine mva (vi (IntKind.i64.wrap (Int.tdiv (IntKind.i64.wrap (x2 - x1)) 8))) rfl (ops_nil ?_)
 refine WX_seq (WX_region ?_)
 refine mv (vi (IntKind.i64.wrap (x18 - x1))) rfl <| mv (vi (IntKind.i64.wrap (x2 - x18))) rfl ?_
 refine op_v (pv_cmp (v := decide ((IntKind.i64.wrap (x18 - x1)) < (IntKind.i64.wrap (x2 - x18)))) rfl rfl rfl rfl) (ops_nil ?_)
 refine WX_cond (b := decide ((IntKind.i64.wrap (x18 - x1)) < (IntKind.i64.wrap (x2 - x18)))) rfl (fun hb11 => ?_) (fun hb11 => ?_)
 have h := h.1 hb11
 refine WX_seq (WX_region ?_)
 refine mv (vi (IntKind.i64.wrap (x18 - x1))) rfl <| mv (vi (IntKind.i64.wrap (Int.tdiv (IntKind.i64.wrap (x2 - x1)) 8))) rfl ?_
 refine op_v (pv_cmp (v := decide ((IntKind.i64.wrap (x18 - x1)) ≥ (IntKind.i64.wrap (Int.tdiv (IntKind.i64.wrap (x2 - x1)) 8)))) rfl rfl rfl rfl) ?_
 refine mva (vb (decide ((IntKind.i64.wrap (x18 - x1)) ≥ (IntKind.i64.wrap (Int.tdiv (IntKind.i64.wrap (x2 - x1)) 8))))) rfl (ops_nil ?_)
 refine WX_seq (WX_region ?_)
 refine mv (.slice a0.a a0.len a0.cap) rfl <| mv (vi x1) rfl <| mv (vi x18) rfl <| mv (vi x6) rfl <| op_w (pw_call co_65 rfl (CallsR.mono h ?_))
 intro v10 w17 h
 refine ops_nil ?_
 refine WX_region ?_
 refine mv (vi x18) rfl <| op_v (pv_add rfl rfl) <| mva (vi (IntKind.i64.wrap (x18 + 1))) rfl (ops_nil ?_)
 subst hn_nxt1
 obtain ⟨m2, hm2, h⟩ := h
 exact ⟨m2, hm2, (IntKind.i64.wrap (x18 + 1)), x2, x6, decide ((IntKind.i64.wrap (x18 - x1)) ≥ (IntKind.i64.wrap (Int.tdiv (IntKind.i64.wrap (x2 - x1)) 8))), x19, ⟨rfl, rfl, rfl, rfl, rfl, rfl, trivial⟩, h⟩
 have h := h.2 hb11
 refine WX_seq (WX_region ?_)
 refine mv (vi (IntKind.i64.wrap (x2 - x18))) rfl <| mv (vi (IntKind.i64.wrap (Int.tdiv (IntKind.i64.wrap (x2 - x1)) 8))) rfl ?_
 refine op_v (pv_cmp (v := decide ((IntKind.i64.wrap (x2 - x18)) ≥ (IntKind.i64.wrap (Int.tdiv (IntKind.i64.wrap (x2 - x1)) 8)))) rfl rfl rfl rfl) ?_
 refine mva (vb (decide ((IntKind.i64.wrap (x2 - x18)) ≥ (IntKind.i64.wrap (Int.tdiv (IntKind.i64.wrap (x2 - x1)) 8))))) rfl (ops_nil ?_)
 refine WX_seq (WX_region ?_)
 refine mv (.slice a0.a a0.len a0.cap) rfl <| mv (vi x18) rfl <| op_v (pv_add rfl rfl) <| mv (vi x2) rfl <| mv (vi x6) rfl ?_
 refine op_w (pw_call co_65 rfl (cm h ?_))
 intro v11 w18 h
 refine ops_nil ?_
 refine WX_region ?_
 refine mv (vi x18) rfl <| mva (vi x18) rfl (ops_nil ?_)
 subst hn_nxt1
 obtain ⟨m2, hm2, h⟩ := h
 exact ⟨m2, hm2, x1, x18, x6, decide ((IntKind.i64.wrap (x2 - x18)) ≥ (IntKind.i64.wrap (Int.tdiv (IntKind.i64.wrap (x2 - x1)) 8))), x19, ⟨rfl, rfl, rfl, rfl, rfl, rfl, trivial⟩, h⟩
def sh_f66 (a0 : Int) (Q : QW) (w0 : World) : Prop :=
  CallsR PP n_f78 #[.int .u64 a0] (fun v1 w1 => ∃ x1 : Int, v1 = .int .i64 x1 /\ (Q (.int .i64 x1) w1)) w0
theorem so_f66 {a0 : Int} (Q : QW) (w0 : World) (h : sh_f66 a0 Q w0) : CallsR PP n_f66 #[.int .u64 a0] Q w0 := by
 refine callsR_of_WX (args := [vu a0]) Try.func66 rfl Try.ntmps66 nl ?_
 refine WX_seq (WX_region ?_)
 refine mva (vi 0) rfl (ops_nil ?_)
 refine WX_seq ?_
 refine WX_condF rfl ?_
 refine WX_skip <| WX_seq (WX_region ?_)
 refine mv (vu a0) rfl <| op_w (pw_call co_78 rfl (CallsR.mono h ?_))
 rintro v1 w1 ⟨x1, rfl, h⟩
 refine mva (vi x1) rfl (ops_nil ?_)
 refine WX_ret ?_
 exact fin_of [vi x1] rfl ⟨rfl, trivial⟩ h
def sh_f67 (a0 : Option Addr) (Q : QW) (w0 : World) : Prop :=
  nc a0 fun b1 o1 => ld tMap w0 b1 (o1 + 1) fun x1 => CallsR PP n_f80 #[.map x1] (fun v1 w1 => ∃ x2 : Fv, v1 = x2.v /\ (CallsR PP n_f79 #[x2.v] (fun v2 w2 => ∃ x3 : Sl, v2 = .slice x3.a x3.len x3.cap /\ (Q (.slice x3.a x3.len x3.cap) w2)) w1)) w0
theorem so_f67 {a0 : Option Addr} (Q : QW) (w0 : World) (h : sh_f67 a0 Q w0) : CallsR PP n_f67 #[.pointer a0] Q w0 := by
 refine callsR_of_WX (args := [.pointer a0]) Try.func67 rfl Try.ntmps67 nl ?_
 obtain ⟨b1, o1, hp1, h⟩ := h
 refine WX_seq (WX_region ?_)
 refine mva (.slice none 0 0) rfl (ops_nil ?_)
 refine WX_seq (WX_region ?_)
 refine mv (.pointer a0) rfl <| op_v (pv_nilh rfl hp1) <| op_v (pv_fld fo_113_1 rfl) ?_
 obtain ⟨x1, hx1, h⟩ := h
 refine op_v (pv_ld ty_111 rfl hx1) <| op_w (pw_call co_80 rfl (CallsR.mono h ?_))
 rintro v1 w1 ⟨x2, rfl, h⟩
 refine op_w (pw_call co_79 rfl (cm h ?_))
 rintro v2 w2 ⟨x3, rfl, h⟩
 refine mva (.slice x3.a x3.len x3.cap) rfl (ops_nil ?_)
 refine WX_ret ?_
 exact fin_of [.slice x3.a x3.len x3.cap] rfl ⟨rfl, trivial⟩ h
def sh_f68_j4 (x1 : Int) (nxt1 : Int -> World -> Prop) (w9 : World) : Prop :=
  nxt1 (IntKind.i64.wrap (x1 + 1)) w9
def sh_f68_j3 (a0 : Sl) (x1 : Int) (nxt1 : Int -> World -> Prop) (x2 : Int) (nxt2 : Int -> World -> Prop) (x6 : Bool) (w5 : World) : Prop :=
  br x6 (dw w5 fun w6 => ixs a0 (IntKind.i64.wrap (x2 - 1)) fun b3 o3 => ld tI64 w6 b3 (o3 + ((IntKind.i64.wrap (x2 - 1))).toNat * 1) fun x7 => ixs a0 x2 fun b4 o4 => ld tI64 w6 b4 (o4 + (x2).toNat * 1) fun x8 => ixs a0 x2 fun b5 o5 => st tI64 w6 b5 (o5 + (x2).toNat * 1) x7 fun w7 => ixs a0 (IntKind.i64.wrap (x2 - 1)) fun b6 o6 => st tI64 w7 b6 (o6 + ((IntKind.i64.wrap (x2 - 1))).toNat * 1) x8 fun w8 => nxt2 (IntKind.i64.wrap (x2 - 1)) w8) ((sh_f68_j4 x1 nxt1 w5))
def sh_f68_b2 (a0 : Sl) (a1 : Int) (x1 : Int) (nxt1 : Int -> World -> Prop) (x2 : Int) (w2 : World) (nxt2 : Int -> World -> Prop) : Prop :=
  dw w2 fun w3 => br (decide (x2 > a1)) (ixs a0 x2 fun b1 o1 => ld tI64 w3 b1 (o1 + (x2).toNat * 1) fun x3 => ixs a0 (IntKind.i64.wrap (x2 - 1)) fun b2 o2 => ld tI64 w3 b2 (o2 + ((IntKind.i64.wrap (x2 - 1))).toNat * 1) fun x4 => CallsR PP n_f74 #[.int .i64 x3, .int .i64 x4] (fun v1 w4 => ∃ x5 : Bool, v1 = .bool x5 /\ ((sh_f68_j3 a0 x1 nxt1 x2 nxt2 x5 w4))) w3) ((sh_f68_j3 a0 x1 nxt1 x2 nxt2 false w3))
def sh_f68_b1 (a0 : Sl) (a1 : Int) (a2 : Int) (Q : QW) (x1 : Int) (w1 : World) (nxt1 : Int -> World -> Prop) : Prop :=
  br (decide (x1 < a2)) ((∃ I2 : Nat -> Int -> World -> Prop, (∃ m, I2 m x1 w1) /\ ∀ m x2 w2, I2 m x2 w2 -> sh_f68_b2 a0 a1 x1 nxt1 x2 w2 (fun y0 w => ∃ m2, m2 < m /\ I2 m2 y0 w))) (Q (.tuple #[]) w1)
def sh_f68 (a0 : Sl) (a1 : Int) (a2 : Int) (Q : QW) (w0 : World) : Prop :=
  (∃ I1 : Nat -> Int -> World -> Prop, (∃ m, I1 m (IntKind.i64.wrap (a1 + 1)) w0) /\ ∀ m x1 w1, I1 m x1 w1 -> sh_f68_b1 a0 a1 a2 Q x1 w1 (fun y0 w => ∃ m2, m2 < m /\ I1 m2 y0 w))
theorem so_f68 {a0 : Sl} {a1 : Int} {a2 : Int} (Q : QW) (w0 : World) (h : sh_f68 a0 a1 a2 Q w0) : CallsR PP n_f68 #[.slice a0.a a0.len a0.cap, .int .i64 a1, .int .i64 a2] Q w0 := by
 refine callsR_of_WX (args := [.slice a0.a a0.len a0.cap, vi a1, vi a2]) Try.func68 rfl Try.ntmps68 nl ?_
 refine WX_seq (WX_region ?_)
 refine mv (vi a1) rfl <| op_v (pv_add rfl rfl) <| mva (vi (IntKind.i64.wrap (a1 + 1))) rfl (ops_nil ?_)
 refine WX_block ?_
 obtain ⟨I1, ⟨m, h0⟩, hB2⟩ := h
 refine WX_loop (fun m f w1 => ∃ x1 : Int, Agree f [(0, .slice a0.a a0.len a0.cap), (1, vi a1), (2, vi a2), (6, vi x1)] /\ I1 m x1 w1) ⟨m, (IntKind.i64.wrap (a1 + 1)), ⟨rfl, rfl, rfl, rfl, trivial⟩, h0⟩ ?_
 clear h0 m
 rintro m f w1 ⟨x1, ha, h⟩
 obtain ⟨g4, rfl⟩ := canon ha
 replace h := hB2 m x1 w1 h
 clear hB2
 generalize hn_nxt1 : (fun (y0 : Int) (w : World) => ∃ m2, m2 < m /\ I1 m2 y0 w) = nxt1 at h
 refine WX_seq ?_
 refine WX_seq (WX_region ?_)
 refine mv (vi x1) rfl <| mv (vi a2) rfl <| op_v (pv_cmp (v := decide (x1 < a2)) rfl rfl rfl rfl) (ops_nil ?_)
 refine WX_cond (b := decide (x1 < a2)) rfl (fun hb1 => ?_) (fun hb1 => ?_)
 have h := h.1 hb1
 refine WX_skip ?_
 refine WX_join (fun f w9 => Agree f [(0, .slice a0.a a0.len a0.cap), (1, vi a1), (2, vi a2), (6, vi x1)] /\ sh_f68_j4 x1 nxt1 w9) ?_ ?_
 refine WX_block ?_
 refine WX_seq (WX_region ?_)
 refine mv (vi x1) rfl <| mva (vi x1) rfl (ops_nil ?_)
 refine WX_block ?_
 obtain ⟨I2, ⟨m, h0⟩, hB1⟩ := h
 refine WX_loop (fun m f w2 => ∃ x2 : Int, Agree f [(0, .slice a0.a a0.len a0.cap), (1, vi a1), (2, vi a2), (6, vi x1), (7, vi x2)] /\ I2 m x2 w2) ⟨m, x1, ⟨rfl, rfl, rfl, rfl, rfl, trivial⟩, h0⟩ ?_
 clear h0 m
 rintro m f w2 ⟨x2, ha, h⟩
 obtain ⟨g2, rfl⟩ := canon ha
 replace h := hB1 m x2 w2 h
 clear hB1
 generalize hn_nxt2 : (fun (y0 : Int) (w : World) => ∃ m2, m2 < m /\ I2 m2 y0 w) = nxt2 at h
 refine WX_seq ?_
 refine WX_join (fun f w5 => ∃ x6 : Bool, Agree f [(0, .slice a0.a a0.len a0.cap), (1, vi a1), (2, vi a2), (6, vi x1), (7, vi x2), (30, vb x6)] /\ sh_f68_j3 a0 x1 nxt1 x2 nxt2 x6 w5) ?_ ?_
 obtain ⟨w3, hw1, h⟩ := dwe h
 refine dr_split (b := decide (x2 > a1)) (fun hb2 => ?_) (fun hb2 => ?_)
 have h := h.1 hb2
 obtain ⟨b1, o1, hi1, hi2, hi3, x3, hx3, b2, o2, hi4, hi5, hi6, x4, hx4, h⟩ := h
 refine WX_dr [13] [0,1,2,3,4,5,6,8,9,10,11,14] [⟨[],[0,1,2,3,4,5,6,8,9,10,11],[7,12],[(13,[13,14],1)]⟩,⟨[13],[14],[],[]⟩] [vi x2, vi a1, vb true, vb true, .slice a0.a a0.len a0.cap, vi x2, vp b1 (o1 + (x2).toNat * 1), vi x3, .slice a0.a a0.len a0.cap, vi x2, vi (IntKind.i64.wrap (x2 - 1)), vp b2 (o2 + ((IntKind.i64.wrap (x2 - 1))).toNat * 1), vi x4, un, un] 2 mixed (by kernel_rfl) hw1 ?_
 refine draw_go rfl (pu rfl (pv_move rfl) (pu rfl (pv_move rfl) (pu rfl (pv_cmp (v := true) rfl rfl rfl (by exact hb2)) (pu rfl (pv_move (by first | rfl | exact congrArg Value.bool hb2)) (pu rfl (pv_move rfl) (pu rfl (pv_move rfl) (pu rfl (pv_ix (s := a0) ez_51 rfl rfl hi1 hi2 hi3) (pu rfl (pv_move rfl) (pu rfl (pv_move rfl) (pu rfl (pv_sub rfl rfl) (pu rfl (pv_ix (s := a0) ez_51 rfl rfl hi4 hi5 hi6) ap0))))))))))) (ro rfl (pv_ld ty_3 rfl hx3) (ro rfl (pv_ld ty_3 rfl hx4) ao0)) rfl ?_
 refine cy rfl rfl ?_
 refine pw_call co_74 rfl (cm h ?_)
 rintro v1 w4 ⟨x5, rfl, h⟩
 refine nx [vb x5] rfl nl rfl ?_
 refine draw_end rfl (pu rfl (pv_pick (b := true) (v := vb x5) rfl rfl) ap0) ao0 ?_
 exact ⟨x5, ⟨rfl, rfl, rfl, rfl, rfl, rfl, trivial⟩, h⟩
 have h := h.2 hb2
 refine WX_dr [13] [0,1,2,3,4,5,6,8,9,10,11,14] [⟨[],[0,1,2,3,4,5,6,8,9,10,11],[7,12],[(13,[13,14],1)]⟩,⟨[13],[14],[],[]⟩] [vi x2, vi a1, vb false, vb false, un, un, un, un, un, un, un, un, un, un, un] 2 mixed (by kernel_rfl) hw1 ?_
 refine draw_go rfl (pu rfl (pv_move rfl) (pu rfl (pv_move rfl) (pu rfl (pv_cmp (v := false) rfl rfl rfl (by exact hb2)) (pu rfl (pv_move (by first | rfl | exact congrArg Value.bool hb2)) (pn (pn (pn (pn (pn (pn (pn ap0))))))))))) (rn (rn ao0)) rfl ?_
 refine ch_no [vb false] rfl rfl rfl nl rfl ?_ ch0
 refine draw_end rfl (pu rfl (pv_pick (b := false) (v := vb false) rfl rfl) ap0) ao0 ?_
 exact ⟨false, ⟨rfl, rfl, rfl, rfl, rfl, rfl, trivial⟩, h⟩
 rintro f w5 ⟨x6, ha, h⟩
 obtain ⟨g1, rfl⟩ := canon ha
 refine WX_cond (b := x6) rfl (fun hb3 => ?_) (fun hb3 => ?_)
 have h := h.1 hb3
 refine WX_skip <| WX_seq ?_
 refine WX_block ?_
 obtain ⟨w6, hw2, h⟩ := dwe h
 obtain ⟨b3, o3, hi7, hi8, hi9, x7, hx7, b4, o4, hi10, hi11, hi12, x8, hx8, b5, o5, hi13, hi14, hi15, h⟩ := h
 refine WX_dr [15,17] [0,1,2,3,4,5,6,7,8,10,11,12,14,16] [⟨[],[0,1,2,3,4,5,6,7,8,10,11,12,14],[9,13],[(15,[15,16],1)]⟩,⟨[15],[16],[],[(17,[17],2)]⟩,⟨[17,15],[],[],[]⟩] [.slice a0.a a0.len a0.cap, vi x2, .slice a0.a a0.len a0.cap, vi x2, vi (IntKind.i64.wrap (x2 - 1)), .slice a0.a a0.len a0.cap, vi x2, vi (IntKind.i64.wrap (x2 - 1)), vp b3 (o3 + ((IntKind.i64.wrap (x2 - 1))).toNat * 1), vi x7, .slice a0.a a0.len a0.cap, vi x2, vp b4 (o4 + (x2).toNat * 1), vi x8, vp b5 (o5 + (x2).toNat * 1), un, un, un] 3 mixed (by kernel_rfl) hw2 ?_
 refine draw_go rfl (pu rfl (pv_move rfl) (pu rfl (pv_move rfl) (pu rfl (pv_move rfl) (pu rfl (pv_move rfl) (pu rfl (pv_sub rfl rfl) (pu rfl (pv_move rfl) (pu rfl (pv_move rfl) (pu rfl (pv_sub rfl rfl) (pu rfl (pv_ix (s := a0) ez_51 rfl rfl hi7 hi8 hi9) (pu rfl (pv_move rfl) (pu rfl (pv_move rfl) (pu rfl (pv_ix (s := a0) ez_51 rfl rfl hi10 hi11 hi12) (pu rfl (pv_ix (s := a0) ez_51 rfl rfl hi13 hi14 hi15) ap0))))))))))))) (ro rfl (pv_ld ty_3 rfl hx7) (ro rfl (pv_ld ty_3 rfl hx8) ao0)) rfl ?_
 refine cy rfl rfl ?_
 refine pw_st (x := x7) ty_3 rfl rfl h.1 ?_
 intro w7 hw3
 replace h := h.2 w7 hw3
 obtain ⟨b6, o6, hi16, hi17, hi18, h⟩ := h
 refine nx [vp b6 (o6 + ((IntKind.i64.wrap (x2 - 1))).toNat * 1)] rfl nl rfl ?_
 refine draw_go rfl (pu rfl (pv_ix (s := a0) ez_51 rfl rfl hi16 hi17 hi18) ap0) ao0 rfl ?_
 refine cy rfl rfl ?_
 refine pw_st (x := x8) ty_3 rfl rfl h.1 ?_
 intro w8 hw4
 replace h := h.2 w8 hw4
 refine nx [] rfl nl rfl ?_
 refine draw_end rfl ap0 ao0 ?_
 refine WX_region ?_
 refine mv (vi x2) rfl <| op_v (pv_sub rfl rfl) <| mva (vi (IntKind.i64.wrap (x2 - 1))) rfl (ops_nil ?_)
 subst hn_nxt2
 obtain ⟨m2, hm2, h⟩ := h
 exact ⟨m2, hm2, (IntKind.i64.wrap (x2 - 1)), ⟨rfl, rfl, rfl, rfl, rfl, trivial⟩, h⟩
 have h := h.2 hb3
 refine WX_exit0 ?_
 exact ⟨⟨rfl, rfl, rfl, rfl, trivial⟩, h⟩
 rintro f w9 ⟨ha, h⟩
 obtain ⟨g3, rfl⟩ := canon ha
 refine WX_region ?_
 refine mv (vi x1) rfl <| op_v (pv_add rfl rfl) <| mva (vi (IntKind.i64.wrap (x1 + 1))) rfl (ops_nil ?_)
 subst hn_nxt1
 obtain ⟨m2, hm2, h⟩ := h
 exact ⟨m2, hm2, (IntKind.i64.wrap (x1 + 1)), ⟨rfl, rfl, rfl, rfl, trivial⟩, h⟩
 have h := h.2 hb1
 refine WX_exit0 ?_
 exact fin_of [] rfl trivial h
end Go.Proofs.Ytdefmgkicdhmkaa
namespace Go.Proofs.Ytdefmgkicdhmkaa
open Go Go.Sx
set_option linter.unusedVariables false
set_option maxRecDepth 100000
set_option maxHeartbeats 2000000
end Go.Proofs.Ytdefmgkicdhmkaa
namespace Go.Proofs.Ytdefmgkicdhmkaa
open Go Go.Sx
set_option linter.unusedVariables false
set_option maxRecDepth 100000
set_option maxHeartbeats 2000000
def sh_f74_j1 (Q : QW) (x3 : Bool) (w3 : World) : Prop :=
  Q (.bool x3) w3
def sh_f74 (a0 : Int) (a1 : Int) (Q : QW) (w0 : World) : Prop :=
  CallsR PP n_f86 #[.int .i64 a0] (fun v1 w1 => ∃ x1 : Bool, v1 = .bool x1 /\ (br x1 (CallsR PP n_f86 #[.int .i64 a1] (fun v2 w2 => ∃ x2 : Bool, v2 = .bool x2 /\ (br (!x2) ((sh_f74_j1 Q true w2)) ((sh_f74_j1 Q (decide (a0 < a1)) w2)))) w1) ((sh_f74_j1 Q (decide (a0 < a1)) w1)))) w0
theorem so_f74 {a0 : Int} {a1 : Int} (Q : QW) (w0 : World) (h : sh_f74 a0 a1 Q w0) : CallsR PP n_f74 #[.int .i64 a0, .int .i64 a1] Q w0 := by
 refine callsR_of_WX (args := [vi a0, vi a1]) Try.func74 rfl Try.ntmps74 nl ?_
 refine WX_seq (WX_region ?_)
 refine mva (vb false) rfl (ops_nil ?_)
 refine WX_join (fun f w3 => ∃ x3 : Bool, Agree f [(4, vb x3)] /\ sh_f74_j1 Q x3 w3) ?_ ?_
 refine WX_region ?_
 refine mv (vi a0) rfl <| op_w (pw_call co_86 rfl (CallsR.mono h ?_))
 rintro v1 w1 ⟨x1, rfl, h⟩
 refine mv (vb x1) rfl <| ops_split 7 (b := x1) rfl (fun hb1 => ?_) (fun hb1 => ?_)
 have h := h.1 hb1
 refine opg_v (pv_move (v := vi a1) rfl) <| opg_w (pw_call co_86 rfl (CallsR.mono h ?_))
 rintro v2 w2 ⟨x2, rfl, h⟩
 refine opg_v (pv_not rfl) <| op_v (pv_pick (b := true) (v := vb (!x2)) rfl rfl) <| mv (vb (!x2)) rfl ?_
 refine ops_split 12 (b := (!x2)) rfl (fun hb2 => ?_) (fun hb2 => ?_)
 have h := h.1 hb2
 iterate 3 refine opg_no ?_
 refine op_v (pv_pick (b := true) (v := vb true) rfl rfl) <| mva (vb true) rfl (ops_nil ?_)
 exact ⟨true, ⟨rfl, trivial⟩, h⟩
 have h := h.2 hb2
 refine opg_v (pv_move (v := vi a0) rfl) <| opg_v (pv_move (v := vi a1) rfl) <| opg_v (pv_cmp (v := decide (a0 < a1)) rfl rfl rfl rfl) ?_
 refine op_v (pv_pick (b := false) (v := vb (decide (a0 < a1))) rfl rfl) <| mva (vb (decide (a0 < a1))) rfl (ops_nil ?_)
 exact ⟨decide (a0 < a1), ⟨rfl, trivial⟩, h⟩
 have h := h.2 hb1
 iterate 3 refine opg_no ?_
 refine op_v (pv_pick (b := false) (v := vb false) rfl rfl) <| mv (vb false) rfl <| opg_v (pv_move (v := vi a0) rfl) ?_
 refine opg_v (pv_move (v := vi a1) rfl) <| opg_v (pv_cmp (v := decide (a0 < a1)) rfl rfl rfl rfl) ?_
 refine op_v (pv_pick (b := false) (v := vb (decide (a0 < a1))) rfl rfl) <| mva (vb (decide (a0 < a1))) rfl (ops_nil ?_)
 exact ⟨decide (a0 < a1), ⟨rfl, trivial⟩, h⟩
 rintro f w3 ⟨x3, ha, h⟩
 obtain ⟨g1, rfl⟩ := canon ha
 refine WX_ret ?_
 exact fin_of [vb x3] rfl ⟨rfl, trivial⟩ h
end Go.Proofs.Ytdefmgkicdhmkaa
namespace Go.Proofs.Ytdefmgkicdhmkaa
open Go Go.Sx
set_option linter.unusedVariables false
set_option maxRecDepth 100000
set_option maxHeartbeats 2000000
end Go.Proofs.Ytdefmgkicdhmkaa
