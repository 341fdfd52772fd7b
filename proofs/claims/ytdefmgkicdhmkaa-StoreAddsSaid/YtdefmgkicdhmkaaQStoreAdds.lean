/- A block that is taken is told first, and is there, unless it was cut off at once; what is cut is told last: at every input. The walk. -/
import Derived.Test.YtdefmgkicdhmkaaQ14
namespace Go.Proofs.Ytdefmgkicdhmkaa
open Go Go.Sx
set_option linter.unusedVariables false
set_option maxRecDepth 100000
set_option maxHeartbeats 2000000
def sh_f5_j7 (x10 : Int) (nxt1 : Int -> World -> Prop) (w21 : World) : Prop :=
  nxt1 (IntKind.i64.wrap (x10 + 1)) w21
def sh_f5_j4 (Q : QW) (x10 : Int) (nxt1 : Int -> World -> Prop) (x20 : Bool) (w15 : World) : Prop :=
  br x20 (Q (.bool false) w15) ((sh_f5_j7 x10 nxt1 w15))
def sh_f5_j6 (Q : QW) (x10 : Int) (nxt1 : Int -> World -> Prop) (x33 : Bool) (w20 : World) : Prop :=
  br x33 (Q (.bool false) w20) ((sh_f5_j7 x10 nxt1 w20))
def sh_f5_j5 (Q : QW) (x10 : Int) (nxt1 : Int -> World -> Prop) (b5 : Nat) (o3 : Nat) (b6 : Nat) (x14 : Sl) (x27 : Bool) (w18 : World) : Prop :=
  br x27 (Q (.bool false) w18) (ixs x14 (IntKind.i64.wrap ((x14.len : Int) - 1)) fun b10 o7 => ld tI64 w18 b10 ((o7 + ((IntKind.i64.wrap ((x14.len : Int) - 1))).toNat * 6) + 0) fun x28 => dw w18 fun w19 => ld t_api_Point w19 b5 (o3 + 9) fun x29 => ld t_api_Point w19 b6 0 fun x30 => br (!((x28 == 3) == (!eq_api_Point x29 x30))) ((sh_f5_j6 Q x10 nxt1 true w19)) (br (x28 == 3) (ixs x14 (IntKind.i64.wrap ((x14.len : Int) - 1)) fun b11 o8 => ld tU64 w19 b11 ((o8 + ((IntKind.i64.wrap ((x14.len : Int) - 1))).toNat * 6) + 1) fun x31 => ld tU64 w19 b5 ((o3 + 9) + 1) fun x32 => (sh_f5_j6 Q x10 nxt1 (x31 != x32) w19)) ((sh_f5_j6 Q x10 nxt1 false w19))))
def sh_f5_j3 (Q : QW) (x10 : Int) (nxt1 : Int -> World -> Prop) (b4 : Nat) (b5 : Nat) (o3 : Nat) (b6 : Nat) (x14 : Sl) (x17 : Bool) (w14 : World) : Prop :=
  br x17 (br (decide ((x14.len : Int) > 0)) (ixs x14 0 fun b7 o4 => ld tI64 w14 b7 ((o4 + (0 : Int).toNat * 6) + 0) fun x18 => br (x18 == 0) ((sh_f5_j4 Q x10 nxt1 true w14)) (ixs x14 0 fun b8 o5 => ld tI64 w14 b8 ((o5 + (0 : Int).toNat * 6) + 0) fun x19 => (sh_f5_j4 Q x10 nxt1 (x19 == 3) w14))) ((sh_f5_j4 Q x10 nxt1 false w14))) (dw w14 fun w16 => br ((x14.len : Int) == 0) ((sh_f5_j5 Q x10 nxt1 b5 o3 b6 x14 true w16)) (ixs x14 0 fun b9 o6 => ld t_store_Change w16 b9 (o6 + (0 : Int).toNat * 6) fun x21 => ld tU64 w16 b4 2 fun x22 => ld tU64 w16 b4 3 fun x23 => br (!eq_store_Change x21 (⟨0, x22, x23, 0, 0, false⟩ : G_store_Change)) ((sh_f5_j5 Q x10 nxt1 b5 o3 b6 x14 true w16)) (ld tPtr w16 b5 (o3 + 3) fun x24 => ld tU64 w16 b4 2 fun x25 => CallsR PP n_f15 #[.pointer x24, .int .u64 x25] (fun v6 w17 => ∃ x26 : Bool, v6 = .bool x26 /\ ((sh_f5_j5 Q x10 nxt1 b5 o3 b6 x14 (!x26) w17))) w16)))
def sh_f5_j8 (Q : QW) (w22 : World) : Prop :=
  Q (.bool true) w22
def sh_f5_b2 (Q : QW) (x4 : Option Addr) (x9 : Sl) (x10 : Int) (w8 : World) (nxt1 : Int -> World -> Prop) : Prop :=
  br (decide (x10 < (x9.len : Int))) (ixs x9 x10 fun b3 o2 => ld t_api_Event w8 b3 (o2 + (x10).toNat * 28) fun x11 => al t_api_Event 57 w8 (⟨0, 0, (⟨0, 0, 0, nilSl, nilSl⟩ : G_api_Block), (⟨0, 0, (⟨0, 0⟩ : G_api_Point), (⟨0, 0⟩ : G_api_Point), nilSl⟩ : G_api_Vote), (⟨(⟨0, 0, (⟨0, 0⟩ : G_api_Point), (⟨0, 0⟩ : G_api_Point), nilSl⟩ : G_api_Vote), (⟨0, 0, (⟨0, 0⟩ : G_api_Point), (⟨0, 0⟩ : G_api_Point), nilSl⟩ : G_api_Vote)⟩ : G_api_Proof)⟩ : G_api_Event) fun b4 w9 => st t_api_Event w9 b4 0 x11 fun w10 => nc x4 fun b5 o3 => ld t_api_Point w10 b5 (o3 + 9) fun x12 => al t_api_Point 38 w10 (⟨0, 0⟩ : G_api_Point) fun b6 w11 => st t_api_Point w11 b6 0 x12 fun w12 => ld t_api_Event w12 b4 0 fun x13 => CallsR PP n_f12 #[.pointer x4, t_api_Event.val x13] (fun v5 w13 => ∃ x14 : Sl, ∃ x15 : Ifc, v5 = .tuple #[.slice x14.a x14.len x14.cap, x15.v] /\ (br (!x15.isNil) ((sh_f5_j3 Q x10 nxt1 b4 b5 o3 b6 x14 true w13)) (ld tI64 w13 b4 0 fun x16 => (sh_f5_j3 Q x10 nxt1 b4 b5 o3 b6 x14 (x16 != 1) w13)))) w12) ((sh_f5_j8 Q w8))
def sh_f5_j1 (a0 : Sl) (Q : QW) (b1 : Nat) (x4 : Option Addr) (x7 : Bool) (w6 : World) : Prop :=
  br x7 (Q (.bool false) w6) (ld t_api_Config w6 b1 0 fun x8 => CallsR PP n_f11 #[t_api_Config.val x8, .slice a0.a a0.len a0.cap] (fun v4 w7 => ∃ x9 : Sl, v4 = .slice x9.a x9.len x9.cap /\ ((∃ I1 : Nat -> Int -> World -> Prop, (∃ m, I1 m 0 w7) /\ ∀ m x10 w8, I1 m x10 w8 -> sh_f5_b2 Q x4 x9 x10 w8 (fun y0 w => ∃ m2, m2 < m /\ I1 m2 y0 w)))) w6)
def sh_f5 (a0 : Sl) (a1 : Sl) (a2 : Int) (Q : QW) (w0 : World) : Prop :=
  CallsR PP n_f8 #[] (fun v1 w1 => ∃ x1 : Bool, v1 = .bool x1 /\ (br (!x1) (Q (.bool false) w1) (CallsR PP n_f9 #[.slice a1.a a1.len a1.cap, .int .u8 a2, .int .u8 40] (fun v2 w2 => ∃ x2 : G_api_Config, v2 = t_api_Config.val x2 /\ (al t_api_Config 26 w2 (⟨nilSl, 0, 0⟩ : G_api_Config) fun b1 w3 => st t_api_Config w3 b1 0 x2 fun w4 => ld t_api_Config w4 b1 0 fun x3 => CallsR PP n_f10 #[t_api_Config.val x3] (fun v3 w5 => ∃ x4 : Option Addr, ∃ x5 : Ifc, v3 = .tuple #[.pointer x4, x5.v] /\ (br (!x5.isNil) ((sh_f5_j1 a0 Q b1 x4 true w5)) (br x4.isNone ((sh_f5_j1 a0 Q b1 x4 true w5)) (nc x4 fun b2 o1 => ld tPtr w5 b2 (o1 + 3) fun x6 => (sh_f5_j1 a0 Q b1 x4 x6.isNone w5))))) w4)) w1))) w0
theorem so_f5 {a0 : Sl} {a1 : Sl} {a2 : Int} (Q : QW) (w0 : World) (h : sh_f5 a0 a1 a2 Q w0) : CallsR PP n_f5 #[.slice a0.a a0.len a0.cap, .slice a1.a a1.len a1.cap, .int .u8 a2] Q w0 := by
 refine callsR_of_WX (args := [.slice a0.a a0.len a0.cap, .slice a1.a a1.len a1.cap, .int .u8 a2]) Try.func5 rfl Try.ntmps5 nl ?_
 refine WX_seq (WX_region ?_)
 refine mva (vb false) rfl (ops_nil ?_)
 refine WX_seq ?_
 refine WX_seq (WX_region ?_)
 refine op_w (pw_call co_8 rfl (cm h ?_))
 rintro v1 w1 ⟨x1, rfl, h⟩
 refine op_v (pv_not rfl) (ops_nil ?_)
 refine WX_cond (b := (!x1)) rfl (fun hb1 => ?_) (fun hb1 => ?_)
 have h := h.1 hb1
 refine WX_seq (WX_region ?_)
 refine mva (vb false) rfl (ops_nil ?_)
 refine WX_ret ?_
 exact fin_of [vb false] rfl ⟨rfl, trivial⟩ h
 have h := h.2 hb1
 refine WX_skip <| WX_seq (WX_region ?_)
 refine mv (.slice a1.a a1.len a1.cap) rfl <| mv (.int .u8 a2) rfl <| op_w (pw_call co_9 rfl (CallsR.mono h ?_))
 rintro v2 w2 ⟨x2, rfl, h⟩
 refine op_w (pw_alloc ty_26 tz_26 ?_)
 intro b1 w3 hw1 hw2
 replace h := h b1 w3 hw1 hw2
 refine op_w (pw_st (x := x2) ty_26 rfl rfl h.1 ?_)
 intro w4 hw3
 replace h := h.2 w4 hw3
 refine ops_nil ?_
 refine WX_seq (WX_region ?_)
 obtain ⟨x3, hx3, h⟩ := h
 refine op_v (pv_ld ty_26 rfl hx3) <| op_w (pw_call co_10 rfl (CallsR.mono h ?_))
 rintro v3 w5 ⟨x4, x5, rfl, h⟩
 refine mv (.tuple #[.pointer x4, x5.v]) rfl <| op_v (pv_extract (vs := [.pointer x4, x5.v]) (v := .pointer x4) rfl rfl) ?_
 refine op_v (pv_extract (vs := [.pointer x4, x5.v]) (v := x5.v) rfl rfl) <| mva (.pointer x4) rfl <| mva x5.v rfl (ops_nil ?_)
 refine WX_seq ?_
 refine WX_join (fun f w6 => ∃ x7 : Bool, Agree f [(0, .slice a0.a a0.len a0.cap), (7, vp b1 0), (8, .pointer x4), (38, vb x7)] /\ sh_f5_j1 a0 Q b1 x4 x7 w6) ?_ ?_
 refine WX_region ?_
 refine mv x5.v rfl <| op_v (pv_ifnil (e := x5) (v := (!x5.isNil)) ii_30 rfl rfl) <| mv (vb (!x5.isNil)) rfl ?_
 refine ops_split 28 (b := (!x5.isNil)) rfl (fun hb2 => ?_) (fun hb2 => ?_)
 have h := h.1 hb2
 iterate 2 refine opg_no ?_
 refine op_v (pv_pick (b := true) (v := vb true) rfl rfl) <| mv (vb true) rfl ?_
 iterate 5 refine opg_no ?_
 refine op_v (pv_pick (b := true) (v := vb true) rfl rfl) (ops_nil ?_)
 exact ⟨true, ⟨rfl, rfl, rfl, rfl, trivial⟩, h⟩
 have h := h.2 hb2
 refine opg_v (pv_move (v := .pointer x4) rfl) <| opg_v (pv_ptrnil (p := x4) (v := x4.isNone) ip_28 rfl rfl) ?_
 refine op_v (pv_pick (b := false) (v := vb x4.isNone) rfl rfl) <| mv (vb x4.isNone) rfl ?_
 refine ops_split 32 (b := x4.isNone) rfl (fun hb3 => ?_) (fun hb3 => ?_)
 have h := h.1 hb3
 iterate 5 refine opg_no ?_
 refine op_v (pv_pick (b := true) (v := vb true) rfl rfl) (ops_nil ?_)
 exact ⟨true, ⟨rfl, rfl, rfl, rfl, trivial⟩, h⟩
 have h := h.2 hb3
 refine opg_v (pv_move (v := .pointer x4) rfl) ?_
 obtain ⟨b2, o1, hp1, h⟩ := h
 refine opg_v (pv_nilh rfl hp1) <| opg_v (pv_fld fo_43_1 rfl) ?_
 obtain ⟨x6, hx6, h⟩ := h
 refine opg_v (pv_ld ty_33 rfl hx6) <| opg_v (pv_ptrnil (p := x6) (v := x6.isNone) ip_33 rfl rfl) ?_
 refine op_v (pv_pick (b := false) (v := vb x6.isNone) rfl rfl) (ops_nil ?_)
 exact ⟨x6.isNone, ⟨rfl, rfl, rfl, rfl, trivial⟩, h⟩
 rintro f w6 ⟨x7, ha, h⟩
 obtain ⟨g1, rfl⟩ := canon ha
 refine WX_cond (b := x7) rfl (fun hb4 => ?_) (fun hb4 => ?_)
 have h := h.1 hb4
 refine WX_seq (WX_region ?_)
 refine mva (vb false) rfl (ops_nil ?_)
 refine WX_ret ?_
 exact fin_of [vb false] rfl ⟨rfl, trivial⟩ h
 have h := h.2 hb4
 refine WX_skip <| WX_join (fun f w22 => Agree f [] /\ sh_f5_j8 Q w22) ?_ ?_
 refine WX_seq (WX_region ?_)
 obtain ⟨x8, hx8, h⟩ := h
 refine op_v (pv_ld ty_26 rfl hx8) <| mv (.slice a0.a a0.len a0.cap) rfl <| op_w (pw_call co_11 rfl (CallsR.mono h ?_))
 rintro v4 w7 ⟨x9, rfl, h⟩
 refine op_v (pv_lenS (s := x9) is_44 rfl) <| mv (vi 0) rfl (ops_nil ?_)
 refine WX_block ?_
 obtain ⟨I1, ⟨m, h0⟩, hB1⟩ := h
 refine WX_loop (fun m f w8 => ∃ x10 : Int, Agree f [(8, .pointer x4), (41, .slice x9.a x9.len x9.cap), (42, vi (x9.len : Int)), (43, vi x10)] /\ I1 m x10 w8) ⟨m, 0, ⟨rfl, rfl, rfl, rfl, trivial⟩, h0⟩ ?_
 clear h0 m
 rintro m f w8 ⟨x10, ha, h⟩
 obtain ⟨g7, rfl⟩ := canon ha
 replace h := hB1 m x10 w8 h
 clear hB1
 generalize hn_nxt1 : (fun (y0 : Int) (w : World) => ∃ m2, m2 < m /\ I1 m2 y0 w) = nxt1 at h
 refine WX_seq (WX_region ?_)
 refine op_v (pv_cmp (v := decide (x10 < (x9.len : Int))) rfl rfl rfl rfl) (ops_nil ?_)
 refine WX_seq ?_
 refine WX_cond (b := decide (x10 < (x9.len : Int))) rfl (fun hb5 => ?_) (fun hb5 => ?_)
 have h := h.1 hb5
 refine WX_skip ?_
 refine WX_join (fun f w21 => Agree f [(8, .pointer x4), (41, .slice x9.a x9.len x9.cap), (42, vi (x9.len : Int)), (43, vi x10)] /\ sh_f5_j7 x10 nxt1 w21) ?_ ?_
 refine WX_block ?_
 refine WX_seq (WX_region ?_)
 obtain ⟨b3, o2, hi1, hi2, hi3, h⟩ := h
 refine op_v (pv_ix (s := x9) ez_44 rfl rfl hi1 hi2 hi3) ?_
 obtain ⟨x11, hx11, h⟩ := h
 refine op_v (pv_ld ty_57 rfl hx11) <| op_w (pw_alloc ty_57 tz_57 ?_)
 intro b4 w9 hw4 hw5
 replace h := h b4 w9 hw4 hw5
 refine op_w (pw_st (x := x11) ty_57 rfl rfl h.1 ?_)
 intro w10 hw6
 replace h := h.2 w10 hw6
 refine ops_nil ?_
 refine WX_seq (WX_region ?_)
 refine mv (.pointer x4) rfl ?_
 obtain ⟨b5, o3, hp2, h⟩ := h
 refine op_v (pv_nilh rfl hp2) <| op_v (pv_fld fo_43_6 rfl) ?_
 obtain ⟨x12, hx12, h⟩ := h
 refine op_v (pv_ld ty_38 rfl hx12) <| op_w (pw_alloc ty_38 tz_38 ?_)
 intro b6 w11 hw7 hw8
 replace h := h b6 w11 hw7 hw8
 refine op_w (pw_st (x := x12) ty_38 rfl rfl h.1 ?_)
 intro w12 hw9
 replace h := h.2 w12 hw9
 refine ops_nil ?_
 refine WX_seq (WX_region ?_)
 refine mv (.pointer x4) rfl ?_
 obtain ⟨x13, hx13, h⟩ := h
 refine op_v (pv_ld ty_57 rfl hx13) <| op_w (pw_call co_12 rfl (CallsR.mono h ?_))
 rintro v5 w13 ⟨x14, x15, rfl, h⟩
 refine mv (.tuple #[.slice x14.a x14.len x14.cap, x15.v]) rfl ?_
 refine op_v (pv_extract (vs := [.slice x14.a x14.len x14.cap, x15.v]) (v := .slice x14.a x14.len x14.cap) rfl rfl) ?_
 refine op_v (pv_extract (vs := [.slice x14.a x14.len x14.cap, x15.v]) (v := x15.v) rfl rfl) <| mva (.slice x14.a x14.len x14.cap) rfl ?_
 refine mva x15.v rfl (ops_nil ?_)
 refine WX_seq ?_
 refine WX_join (fun f w14 => ∃ x17 : Bool, Agree f [(8, .pointer x4), (11, vp b4 0), (12, vp b6 0), (13, .slice x14.a x14.len x14.cap), (41, .slice x9.a x9.len x9.cap), (42, vi (x9.len : Int)), (43, vi x10), (63, vb x17)] /\ sh_f5_j3 Q x10 nxt1 b4 b5 o3 b6 x14 x17 w14) ?_ ?_
 refine WX_region ?_
 refine mv x15.v rfl <| op_v (pv_ifnil (e := x15) (v := (!x15.isNil)) ii_30 rfl rfl) <| mv (vb (!x15.isNil)) rfl ?_
 refine ops_split 59 (b := (!x15.isNil)) rfl (fun hb6 => ?_) (fun hb6 => ?_)
 have h := h.1 hb6
 iterate 3 refine opg_no ?_
 refine op_v (pv_pick (b := true) (v := vb true) rfl rfl) (ops_nil ?_)
 exact ⟨true, ⟨rfl, rfl, rfl, rfl, rfl, rfl, rfl, rfl, trivial⟩, h⟩
 have h := h.2 hb6
 refine opg_v (pv_fld fo_57_0 rfl) ?_
 obtain ⟨x16, hx16, h⟩ := h
 refine opg_v (pv_ld ty_46 rfl hx16) <| opg_v (pv_cmp (v := (x16 != 1)) rfl rfl rfl rfl) ?_
 refine op_v (pv_pick (b := false) (v := vb (x16 != 1)) rfl rfl) (ops_nil ?_)
 exact ⟨(x16 != 1), ⟨rfl, rfl, rfl, rfl, rfl, rfl, rfl, rfl, trivial⟩, h⟩
 rintro f w14 ⟨x17, ha, h⟩
 obtain ⟨g3, rfl⟩ := canon ha
 refine WX_cond (b := x17) rfl (fun hb10 => ?_) (fun hb10 => ?_)
 have h := h.1 hb10
 refine WX_seq ?_
 refine WX_join (fun f w15 => ∃ x20 : Bool, Agree f [(8, .pointer x4), (41, .slice x9.a x9.len x9.cap), (42, vi (x9.len : Int)), (43, vi x10), (80, vb x20)] /\ sh_f5_j4 Q x10 nxt1 x20 w15) ?_ ?_
 refine WX_region ?_
 refine mv (.slice x14.a x14.len x14.cap) rfl <| op_v (pv_lenS (s := x14) is_41 rfl) ?_
 refine op_v (pv_cmp (v := decide ((x14.len : Int) > 0)) rfl rfl rfl rfl) <| mv (vb (decide ((x14.len : Int) > 0))) rfl ?_
 refine ops_split 67 (b := decide ((x14.len : Int) > 0)) rfl (fun hb7 => ?_) (fun hb7 => ?_)
 have h := h.1 hb7
 refine opg_v (pv_move (v := .slice x14.a x14.len x14.cap) rfl) ?_
 obtain ⟨b7, o4, hi4, hi5, hi6, h⟩ := h
 refine opg_v (pv_ix (s := x14) ez_41 rfl rfl hi4 hi5 hi6) <| opg_v (pv_fld fo_66_0 rfl) ?_
 obtain ⟨x18, hx18, h⟩ := h
 refine opg_v (pv_ld ty_64 rfl hx18) <| opg_v (pv_cmp (v := (x18 == 0)) rfl rfl rfl rfl) <| opg_v (pv_move (v := vb (x18 == 0)) rfl) ?_
 refine ops_split 73 (b := (x18 == 0)) rfl (fun hb8 => ?_) (fun hb8 => ?_)
 have h := h.1 hb8
 iterate 5 refine opg_no ?_
 refine opg_v (pv_pick (b := true) (v := vb true) rfl rfl) <| op_v (pv_pick (b := true) (v := vb true) rfl rfl) (ops_nil ?_)
 exact ⟨true, ⟨rfl, rfl, rfl, rfl, rfl, trivial⟩, h⟩
 have h := h.2 hb8
 refine opg_v (pv_move (v := .slice x14.a x14.len x14.cap) rfl) ?_
 obtain ⟨b8, o5, hi7, hi8, hi9, h⟩ := h
 refine opg_v (pv_ix (s := x14) ez_41 rfl rfl hi7 hi8 hi9) <| opg_v (pv_fld fo_66_0 rfl) ?_
 obtain ⟨x19, hx19, h⟩ := h
 refine opg_v (pv_ld ty_64 rfl hx19) <| opg_v (pv_cmp (v := (x19 == 3)) rfl rfl rfl rfl) <| opg_v (pv_pick (b := false) (v := vb (x19 == 3)) rfl rfl) ?_
 refine op_v (pv_pick (b := true) (v := vb (x19 == 3)) rfl rfl) (ops_nil ?_)
 exact ⟨(x19 == 3), ⟨rfl, rfl, rfl, rfl, rfl, trivial⟩, h⟩
 have h := h.2 hb7
 iterate 12 refine opg_no ?_
 refine op_v (pv_pick (b := false) (v := vb false) rfl rfl) (ops_nil ?_)
 exact ⟨false, ⟨rfl, rfl, rfl, rfl, rfl, trivial⟩, h⟩
 rintro f w15 ⟨x20, ha, h⟩
 obtain ⟨g2, rfl⟩ := canon ha
 refine WX_cond (b := x20) rfl (fun hb9 => ?_) (fun hb9 => ?_)
 have h := h.1 hb9
 refine WX_seq (WX_region ?_)
 refine mva (vb false) rfl (ops_nil ?_)
 refine WX_ret ?_
 exact fin_of [vb false] rfl ⟨rfl, trivial⟩ h
 have h := h.2 hb9
 refine WX_skip ?_
 refine WX_exit0 ?_
 exact ⟨⟨rfl, rfl, rfl, rfl, trivial⟩, h⟩
 have h := h.2 hb10
 refine WX_skip <| WX_seq ?_
 refine WX_join (fun f w18 => ∃ x27 : Bool, Agree f [(8, .pointer x4), (12, vp b6 0), (13, .slice x14.a x14.len x14.cap), (41, .slice x9.a x9.len x9.cap), (42, vi (x9.len : Int)), (43, vi x10), (107, vb x27)] /\ sh_f5_j5 Q x10 nxt1 b5 o3 b6 x14 x27 w18) ?_ ?_
 obtain ⟨w16, hw10, h⟩ := dwe h
 refine dr_split (b := ((x14.len : Int) == 0)) (fun hb11 => ?_) (fun hb11 => ?_)
 have h := h.1 hb11
 refine WX_dr [24] [0,1,2,3,4,5,7,8,10,11,13,14,15,16,17,18,19,21,22,25,26] [⟨[],[0,1,2,3,4,5,7,8,10,11,13,14,15,16,17,18,19,21,22],[6,9,12,20,23],[(24,[24,25,26],1)]⟩,⟨[24],[25,26],[],[]⟩] [.slice x14.a x14.len x14.cap, vi (x14.len : Int), vb true, vb true, un, un, un, un, un, un, un, un, un, un, un, vb true, vb true, un, un, un, un, un, un, un, un, un, un] 2 mixed (by kernel_rfl) hw10 ?_
 refine draw_go rfl (pu rfl (pv_move rfl) (pu rfl (pv_lenS (s := x14) is_41 rfl) (pu rfl (pv_cmp (v := true) rfl rfl rfl (by exact hb11)) (pu rfl (pv_move (by first | rfl | exact congrArg Value.bool hb11)) (pn (pn (pn (pn (pn (pn (pn (pn (pu rfl (pv_pick (b := true) (v := vb true) rfl rfl) (pu rfl (pv_move rfl) (pn (pn (pn (pn (pn ap0))))))))))))))))))) (rn (rn (rn (rn (rn ao0))))) rfl ?_
 refine ch_no [un, vb true] rfl rfl rfl nl rfl ?_ ch0
 refine draw_end rfl (pn (pu rfl (pv_pick (b := true) (v := vb true) rfl rfl) ap0)) ao0 ?_
 exact ⟨true, ⟨rfl, rfl, rfl, rfl, rfl, rfl, rfl, trivial⟩, h⟩
 have h := h.2 hb11
 obtain ⟨b9, o6, hi10, hi11, hi12, x21, hx21, x22, hx22, x23, hx23, h⟩ := h
 refine dr_split (b := (!eq_store_Change x21 (⟨0, x22, x23, 0, 0, false⟩ : G_store_Change))) (fun hb12 => ?_) (fun hb12 => ?_)
 have h := h.1 hb12
 refine WX_dr [24] [0,1,2,3,4,5,7,8,10,11,13,14,15,16,17,18,19,21,22,25,26] [⟨[],[0,1,2,3,4,5,7,8,10,11,13,14,15,16,17,18,19,21,22],[6,9,12,20,23],[(24,[24,25,26],1)]⟩,⟨[24],[25,26],[],[]⟩] [.slice x14.a x14.len x14.cap, vi (x14.len : Int), vb false, vb false, .slice x14.a x14.len x14.cap, vp b9 (o6 + (0 : Int).toNat * 6), t_store_Change.val x21, vp b4 2, vp b4 2, vu x22, vp b4 2, vp b4 3, vu x23, t_store_Change.val (⟨0, x22, x23, 0, 0, false⟩ : G_store_Change), vb true, vb true, vb true, un, un, un, un, un, un, un, un, un, un] 2 mixed (by kernel_rfl) hw10 ?_
 refine draw_go rfl (pu rfl (pv_move rfl) (pu rfl (pv_lenS (s := x14) is_41 rfl) (pu rfl (pv_cmp (v := false) rfl rfl rfl (by exact hb11)) (pu rfl (pv_move (by first | rfl | exact congrArg Value.bool hb11)) (pu rfl (pv_move rfl) (pu rfl (pv_ix (s := x14) ez_41 rfl rfl hi10 hi11 hi12) (pu rfl (pv_fld fo_57_2 rfl) (pu rfl (pv_fld fo_50_0 rfl) (pu rfl (pv_fld fo_57_2 rfl) (pu rfl (pv_fld fo_50_1 rfl) (pu rfl (pv_build (cs := t_store_Change.enc (⟨0, x22, x23, 0, 0, false⟩ : G_store_Change)) (vs := [(0, vi 0), (1, vu x22), (2, vu x23)]) rfl (by kernel_rfl)) (pu rfl (pv_eqS (v := true) eqk_66 (eqf_66 x21 (⟨0, x22, x23, 0, 0, false⟩ : G_store_Change)) rfl rfl (by exact congrArg some hb12)) (pu rfl (pv_pick (b := false) (v := vb true) rfl rfl) (pu rfl (pv_move (by first | rfl | exact congrArg Value.bool hb12)) (pn (pn (pn (pn (pn ap0))))))))))))))))))) (ro rfl (pv_ld ty_66 rfl hx21) (ro rfl (pv_ld ty_36 rfl hx22) (ro rfl (pv_ld ty_36 rfl hx23) (rn (rn ao0))))) rfl ?_
 refine ch_no [un, vb true] rfl rfl rfl nl rfl ?_ ch0
 refine draw_end rfl (pn (pu rfl (pv_pick (b := true) (v := vb true) rfl rfl) ap0)) ao0 ?_
 exact ⟨true, ⟨rfl, rfl, rfl, rfl, rfl, rfl, rfl, trivial⟩, h⟩
 have h := h.2 hb12
 obtain ⟨x24, hx24, x25, hx25, h⟩ := h
 refine WX_dr [24] [0,1,2,3,4,5,7,8,10,11,13,14,15,16,17,18,19,21,22,25,26] [⟨[],[0,1,2,3,4,5,7,8,10,11,13,14,15,16,17,18,19,21,22],[6,9,12,20,23],[(24,[24,25,26],1)]⟩,⟨[24],[25,26],[],[]⟩] [.slice x14.a x14.len x14.cap, vi (x14.len : Int), vb false, vb false, .slice x14.a x14.len x14.cap, vp b9 (o6 + (0 : Int).toNat * 6), t_store_Change.val x21, vp b4 2, vp b4 2, vu x22, vp b4 2, vp b4 3, vu x23, t_store_Change.val (⟨0, x22, x23, 0, 0, false⟩ : G_store_Change), vb false, vb false, vb false, .pointer x4, vp b5 o3, vp b5 (o3 + 3), .pointer x24, vp b4 2, vp b4 2, vu x25, un, un, un] 2 mixed (by kernel_rfl) hw10 ?_
 refine draw_go rfl (pu rfl (pv_move rfl) (pu rfl (pv_lenS (s := x14) is_41 rfl) (pu rfl (pv_cmp (v := false) rfl rfl rfl (by exact hb11)) (pu rfl (pv_move (by first | rfl | exact congrArg Value.bool hb11)) (pu rfl (pv_move rfl) (pu rfl (pv_ix (s := x14) ez_41 rfl rfl hi10 hi11 hi12) (pu rfl (pv_fld fo_57_2 rfl) (pu rfl (pv_fld fo_50_0 rfl) (pu rfl (pv_fld fo_57_2 rfl) (pu rfl (pv_fld fo_50_1 rfl) (pu rfl (pv_build (cs := t_store_Change.enc (⟨0, x22, x23, 0, 0, false⟩ : G_store_Change)) (vs := [(0, vi 0), (1, vu x22), (2, vu x23)]) rfl (by kernel_rfl)) (pu rfl (pv_eqS (v := false) eqk_66 (eqf_66 x21 (⟨0, x22, x23, 0, 0, false⟩ : G_store_Change)) rfl rfl (by exact congrArg some hb12)) (pu rfl (pv_pick (b := false) (v := vb false) rfl rfl) (pu rfl (pv_move (by first | rfl | exact congrArg Value.bool hb12)) (pu rfl (pv_move rfl) (pu rfl (pv_nilh rfl hp2) (pu rfl (pv_fld fo_43_1 rfl) (pu rfl (pv_fld fo_57_2 rfl) (pu rfl (pv_fld fo_50_0 rfl) ap0))))))))))))))))))) (ro rfl (pv_ld ty_66 rfl hx21) (ro rfl (pv_ld ty_36 rfl hx22) (ro rfl (pv_ld ty_36 rfl hx23) (ro rfl (pv_ld ty_33 rfl hx24) (ro rfl (pv_ld ty_36 rfl hx25) ao0))))) rfl ?_
 refine cy rfl rfl ?_
 refine pw_call co_15 rfl (cm h ?_)
 rintro v6 w17 ⟨x26, rfl, h⟩
 refine nx [vb (!x26), vb (!x26)] rfl nl rfl ?_
 refine draw_end rfl (pu rfl (pv_not rfl) (pu rfl (pv_pick (b := false) (v := vb (!x26)) rfl rfl) ap0)) ao0 ?_
 exact ⟨(!x26), ⟨rfl, rfl, rfl, rfl, rfl, rfl, rfl, trivial⟩, h⟩
 rintro f w18 ⟨x27, ha, h⟩
 obtain ⟨g4, rfl⟩ := canon ha
 refine WX_cond (b := x27) rfl (fun hb13 => ?_) (fun hb13 => ?_)
 have h := h.1 hb13
 refine WX_seq (WX_region ?_)
 refine mva (vb false) rfl (ops_nil ?_)
 refine WX_ret ?_
 exact fin_of [vb false] rfl ⟨rfl, trivial⟩ h
 have h := h.2 hb13
 refine WX_skip <| WX_seq (WX_region ?_)
 refine mv (.slice x14.a x14.len x14.cap) rfl <| mv (.slice x14.a x14.len x14.cap) rfl <| op_v (pv_lenS (s := x14) is_41 rfl) <| op_v (pv_sub rfl rfl) ?_
 obtain ⟨b10, o7, hi13, hi14, hi15, h⟩ := h
 refine op_v (pv_ix (s := x14) ez_41 rfl rfl hi13 hi14 hi15) <| op_v (pv_fld fo_66_0 rfl) ?_
 obtain ⟨x28, hx28, h⟩ := h
 refine op_v (pv_ld ty_64 rfl hx28) <| op_v (pv_cmp (v := (x28 == 3)) rfl rfl rfl rfl) <| mva (vb (x28 == 3)) rfl (ops_nil ?_)
 refine WX_join (fun f w20 => ∃ x33 : Bool, Agree f [(8, .pointer x4), (41, .slice x9.a x9.len x9.cap), (42, vi (x9.len : Int)), (43, vi x10), (141, vb x33)] /\ sh_f5_j6 Q x10 nxt1 x33 w20) ?_ ?_
 obtain ⟨w19, hw11, h⟩ := dwe h
 obtain ⟨x29, hx29, x30, hx30, h⟩ := h
 refine dr_split (b := (!((x28 == 3) == (!eq_api_Point x29 x30)))) (fun hb14 => ?_) (fun hb14 => ?_)
 have h := h.1 hb14
 refine WX_dr [] [0,1,2,3,6,7,8,9,10,11,12,13,14,15,16,18,19,20,21,23,24,25] [⟨[],[0,1,2,3,6,7,8,9,10,11,12,13,14,15,16,18,19,20,21,23,24,25],[4,5,17,22],[]⟩] [vb (x28 == 3), .pointer x4, vp b5 o3, vp b5 (o3 + 9), t_api_Point.val x29, t_api_Point.val x30, vb (!eq_api_Point x29 x30), vb true, vb true, un, un, un, un, un, un, un, un, un, un, un, un, un, un, un, un, vb true] 1 mixed (by kernel_rfl) hw11 ?_
 refine draw_end rfl (pu rfl (pv_move rfl) (pu rfl (pv_move rfl) (pu rfl (pv_nilh rfl hp2) (pu rfl (pv_fld fo_43_6 rfl) (pu rfl (pv_eqS (v := (!eq_api_Point x29 x30)) eqk_38 (eqf_38 x29 x30) rfl rfl rfl) (pu rfl (pv_eqB (v := true) ib_4 (a := (x28 == 3)) (b := (!eq_api_Point x29 x30)) rfl rfl (by exact congrArg some hb14)) (pu rfl (pv_move (by first | rfl | exact congrArg Value.bool hb14)) (pn (pn (pn (pn (pn (pn (pn (pn (pn (pn (pn (pn (pn (pn (pu rfl (pv_pick (b := true) (v := vb true) rfl rfl) ap0)))))))))))))))))))))) (ro rfl (pv_ld ty_38 rfl hx29) (ro rfl (pv_ld ty_38 rfl hx30) (rn (rn ao0)))) ?_
 exact ⟨true, ⟨rfl, rfl, rfl, rfl, rfl, trivial⟩, h⟩
 have h := h.2 hb14
 refine dr_split (b := (x28 == 3)) (fun hb15 => ?_) (fun hb15 => ?_)
 have h := h.1 hb15
 obtain ⟨b11, o8, hi16, hi17, hi18, x31, hx31, x32, hx32, h⟩ := h
 refine WX_dr [] [0,1,2,3,6,7,8,9,10,11,12,13,14,15,16,18,19,20,21,23,24,25] [⟨[],[0,1,2,3,6,7,8,9,10,11,12,13,14,15,16,18,19,20,21,23,24,25],[4,5,17,22],[]⟩] [vb true, .pointer x4, vp b5 o3, vp b5 (o3 + 9), t_api_Point.val x29, t_api_Point.val x30, vb (!eq_api_Point x29 x30), vb false, vb false, vb true, vb true, .slice x14.a x14.len x14.cap, .slice x14.a x14.len x14.cap, vi (x14.len : Int), vi (IntKind.i64.wrap ((x14.len : Int) - 1)), vp b11 (o8 + ((IntKind.i64.wrap ((x14.len : Int) - 1))).toNat * 6), vp b11 ((o8 + ((IntKind.i64.wrap ((x14.len : Int) - 1))).toNat * 6) + 1), vu x31, .pointer x4, vp b5 o3, vp b5 (o3 + 9), vp b5 ((o3 + 9) + 1), vu x32, vb (x31 != x32), vb (x31 != x32), vb (x31 != x32)] 1 mixed (by kernel_rfl) hw11 ?_
 refine draw_end rfl (pu rfl (pv_move (by first | rfl | exact congrArg Value.bool hb15)) (pu rfl (pv_move rfl) (pu rfl (pv_nilh rfl hp2) (pu rfl (pv_fld fo_43_6 rfl) (pu rfl (pv_eqS (v := (!eq_api_Point x29 x30)) eqk_38 (eqf_38 x29 x30) rfl rfl rfl) (pu rfl (pv_eqB (v := false) ib_4 (a := (x28 == 3)) (b := (!eq_api_Point x29 x30)) (congrArg Value.bool hb15.symm) rfl (by exact congrArg some hb14)) (pu rfl (pv_move (by first | rfl | exact congrArg Value.bool hb14)) (pu rfl (pv_move (by first | rfl | exact congrArg Value.bool hb15)) (pu rfl (pv_move (by first | rfl | exact congrArg Value.bool hb15)) (pu rfl (pv_move rfl) (pu rfl (pv_move rfl) (pu rfl (pv_lenS (s := x14) is_41 rfl) (pu rfl (pv_sub rfl rfl) (pu rfl (pv_ix (s := x14) ez_41 rfl rfl hi16 hi17 hi18) (pu rfl (pv_fld fo_66_1 rfl) (pu rfl (pv_move rfl) (pu rfl (pv_nilh rfl hp2) (pu rfl (pv_fld fo_43_6 rfl) (pu rfl (pv_fld fo_38_1 rfl) (pu rfl (pv_cmp (v := (x31 != x32)) rfl rfl rfl rfl) (pu rfl (pv_pick (b := true) (v := vb (x31 != x32)) rfl rfl) (pu rfl (pv_pick (b := false) (v := vb (x31 != x32)) rfl rfl) ap0)))))))))))))))))))))) (ro rfl (pv_ld ty_38 rfl hx29) (ro rfl (pv_ld ty_38 rfl hx30) (ro rfl (pv_ld ty_36 rfl hx31) (ro rfl (pv_ld ty_36 rfl hx32) ao0)))) ?_
 exact ⟨(x31 != x32), ⟨rfl, rfl, rfl, rfl, rfl, trivial⟩, h⟩
 have h := h.2 hb15
 refine WX_dr [] [0,1,2,3,6,7,8,9,10,11,12,13,14,15,16,18,19,20,21,23,24,25] [⟨[],[0,1,2,3,6,7,8,9,10,11,12,13,14,15,16,18,19,20,21,23,24,25],[4,5,17,22],[]⟩] [vb false, .pointer x4, vp b5 o3, vp b5 (o3 + 9), t_api_Point.val x29, t_api_Point.val x30, vb (!eq_api_Point x29 x30), vb false, vb false, vb false, vb false, un, un, un, un, un, un, un, un, un, un, un, un, un, vb false, vb false] 1 mixed (by kernel_rfl) hw11 ?_
 refine draw_end rfl (pu rfl (pv_move (by first | rfl | exact congrArg Value.bool hb15)) (pu rfl (pv_move rfl) (pu rfl (pv_nilh rfl hp2) (pu rfl (pv_fld fo_43_6 rfl) (pu rfl (pv_eqS (v := (!eq_api_Point x29 x30)) eqk_38 (eqf_38 x29 x30) rfl rfl rfl) (pu rfl (pv_eqB (v := false) ib_4 (a := (x28 == 3)) (b := (!eq_api_Point x29 x30)) (congrArg Value.bool hb15.symm) rfl (by exact congrArg some hb14)) (pu rfl (pv_move (by first | rfl | exact congrArg Value.bool hb14)) (pu rfl (pv_move (by first | rfl | exact congrArg Value.bool hb15)) (pu rfl (pv_move (by first | rfl | exact congrArg Value.bool hb15)) (pn (pn (pn (pn (pn (pn (pn (pn (pn (pn (pn (pu rfl (pv_pick (b := false) (v := vb false) rfl rfl) (pu rfl (pv_pick (b := false) (v := vb false) rfl rfl) ap0)))))))))))))))))))))) (ro rfl (pv_ld ty_38 rfl hx29) (ro rfl (pv_ld ty_38 rfl hx30) (rn (rn ao0)))) ?_
 exact ⟨false, ⟨rfl, rfl, rfl, rfl, rfl, trivial⟩, h⟩
 rintro f w20 ⟨x33, ha, h⟩
 obtain ⟨g5, rfl⟩ := canon ha
 refine WX_cond (b := x33) rfl (fun hb16 => ?_) (fun hb16 => ?_)
 have h := h.1 hb16
 refine WX_seq (WX_region ?_)
 refine mva (vb false) rfl (ops_nil ?_)
 refine WX_ret ?_
 exact fin_of [vb false] rfl ⟨rfl, trivial⟩ h
 have h := h.2 hb16
 refine WX_skip ?_
 exact ⟨⟨rfl, rfl, rfl, rfl, trivial⟩, h⟩
 rintro f w21 ⟨ha, h⟩
 obtain ⟨g6, rfl⟩ := canon ha
 refine WX_region ?_
 refine op_v (pv_add rfl rfl) <| mv (vi (IntKind.i64.wrap (x10 + 1))) rfl (ops_nil ?_)
 subst hn_nxt1
 obtain ⟨m2, hm2, h⟩ := h
 exact ⟨m2, hm2, (IntKind.i64.wrap (x10 + 1)), ⟨rfl, rfl, rfl, rfl, trivial⟩, h⟩
 have h := h.2 hb5
 refine WX_exit0 ?_
 exact ⟨ag0, h⟩
 rintro f w22 ⟨ha, h⟩
 obtain ⟨g8, rfl⟩ := canon ha
 refine WX_seq (WX_region ?_)
 refine mva (vb true) rfl (ops_nil ?_)
 refine WX_ret ?_
 exact fin_of [vb true] rfl ⟨rfl, trivial⟩ h
end Go.Proofs.Ytdefmgkicdhmkaa
set_option maxRecDepth 512
set_option maxHeartbeats 200000
namespace Go.Proofs.Ytdefmgkicdhmkaa
open Go Go.Sx
set_option linter.unusedVariables false
theorem other_told {s : AStore} {e : AEvent} (h : s.applyErr e ≠ 0 \/ e.kind ≠ 1) : ∀ c ∈ (s.apply e).1, c.Kind ≠ 0 /\ c.Kind ≠ 3 := by
 by_cases he : s.applyErr e = 0
 ·have hk := h.resolve_left (fun h => h he)
  unfold AStore.apply
  split
  ·intro c hc; simp at hc
  ·split
   ·intro c hc; rw [AStore.attest_kind c hc]; decide
   ·split
    ·intro c hc; rw [AStore.slash_kind c hc]; decide
    ·intro c hc; simp at hc
 ·rw [AStore.apply_err' he]; intro c hc; simp at hc
theorem propose_len {s : AStore} (h : s.Wf) {b : ABlock} (he : s.propErr b = 0) (hb : U64 b.root) : (s.propose b).1.length <= 1000000 := by
 obtain ⟨s2, s3, e2, _, _, e3, _, _, _, _, _, _, _, _, _, e5⟩ := AStore.propose_parts h he hb
 obtain ⟨_, _, hv, hp, _⟩ := AStore.propErr_ok he
 have hbal : (s.lay b).cfg.bal.length <= 4096 := Nat.le_trans (m := 12) h.bal.1 (by decide)
 have h1 := attAll_len b.votes (s.lay b) hbal
 have h2 := slashAll_len b.proofs (AStore.attAll b.votes (s.lay b)).2 (by rw [attAll_cfg]; exact hbal)
 have h3 := (AStore.raise_up (s2.boostB b) (s.newLed b).just.Current (s.newLed b).just.Final).2.2
 have h4 := (AStore.late_up s3 b (s.newLed b)).2.2
 have h3' : ((s2.boostB b).raise (s.newLed b).just.Current (s.newLed b).just.Final).1.length <= 1 := by
  rcases h3 with ⟨e, _⟩ | ⟨e, _⟩ <;> rw [e] <;> simp
 have h4' : (s3.late b (s.newLed b)).1.length <= 1 := by
  rcases h4 with ⟨e, _⟩ | ⟨e, _⟩ <;> rw [e] <;> simp
 rw [e5]
 simp only [List.length_cons, List.length_append]
 omega
theorem eq_point_iff {a b : G_api_Point} : eq_api_Point a b = true ↔ a = b := by
 obtain ⟨a1, a2⟩ := a; obtain ⟨b1, b2⟩ := b
 simp [eq_api_Point]
theorem c_StoreAdds {w : World} {a0 a1 : Sl} {a2 : Int} {xs0 xs1 : List Int} {D0 D1 : Nat -> Prop} {Q : QW} (h0 : SlIs tU8 D0 w a0 xs0) (h1 : SlIs tU8 D1 w a1 xs1) (r0 : ∀ x ∈ xs0, 0 <= x /\ x <= 255) (r1 : ∀ x ∈ xs1, 0 <= x /\ x <= 255) (r2 : 0 <= a2 /\ a2 <= 255)
  (hQ : ∀ w', Gr w w' -> Q (.bool true) w') : CallsR PP n_f5 #[.slice a0.a a0.len a0.cap, .slice a1.a a1.len a1.cap, .int .u8 a2] Q w := by
 refine so_f5 _ _ ?_
 unfold sh_f5
 refine law_go h0 h1 r0 r1 r2 (sh_f5_j1 a0 Q) (fun _ x4 x9 => sh_f5_b2 Q x4 x9)
  (fun _ x4 b4 x10 nxt1 w10 => nc x4 fun b5 o3 => ld t_api_Point w10 b5 (o3 + 9) fun x12 => al t_api_Point 38 w10 (⟨0, 0⟩ : G_api_Point) fun b6 w11 => st t_api_Point w11 b6 0 x12 fun w12 => ld t_api_Event w12 b4 0 fun x13 => CallsR PP n_f12 #[.pointer x4, t_api_Event.val x13] (fun v5 w13 => ∃ x14 : Sl, ∃ x15 : Ifc, v5 = .tuple #[.slice x14.a x14.len x14.cap, x15.v] /\ (br (!x15.isNil) ((sh_f5_j3 Q x10 nxt1 b4 b5 o3 b6 x14 true w13)) (ld tI64 w13 b4 0 fun x16 => (sh_f5_j3 Q x10 nxt1 b4 b5 o3 b6 x14 (x16 != 1) w13)))) w12)
  (fun b1 x4 w6 h => br_f rfl h) (fun b1 x4 x9 x10 w8 nxt h => h) hQ ?_
 intro w1 b1 sb b4 i nxt O I J gc A cs ge e v i0 i1 hb4 hO hnx
 have st := v.st
 obtain ⟨g, tb, tr, vb, lr, gr, gl, r⟩ := st
 have cF : CellsAt w1 sb 9 (t_api_Point.enc A.fin) := by rw [<- r.fin]; exact r.cells.sub 9 2
 refine ⟨sb, 0, rfl, ld_i cF (al_i fun b6 w11 e6 g6 c6 s6 => st_i s6 fun w12 e12 k12 c12 => ?_)⟩
 clear r cF
 have z6 := g6.size; have z12 := k12.size
 have l6 : b6 < w11.heap.size := cell_lt c6.1
 have l4 : b4 < w1.heap.size := cell_lt v.ecell.1
 have hOl := v.st.lt
 have G12 : Gr w1 w12 := Gr.local g6 k12 fun j e => by subst e; omega
 refine ld_i (v.ecell.gr G12) (c_Apply (v.st.grow G12) v.wf (v.ev.gr G12) (fun b hb => (v.JO b hb).1) fun w2 O' I' s' gw hI' st' hsl => ⟨s', errV (A.applyErr e), rfl, ?_⟩)
 have wf' := v.wf.apply v.ev.root
 obtain ⟨g', tb', tr', vb', lr', gr', gl', r'⟩ := id st'
 have ec : CellsAt w2 b4 0 (t_api_Event.enc ge) := (v.ecell.gr G12).keeps gw.1 v.O4
 have n6 : ¬ O b6 := fun e => by have := hOl _ e; omega
 have c6 : CellsAt w2 b6 0 (t_api_Point.enc A.fin) := c12.keeps gw.1 n6
 have cF : CellsAt w2 sb 9 (t_api_Point.enc (A.apply e).2.fin) := by rw [<- r'.fin]; exact r'.cells.sub 9 2
 have cT : CellsAt w2 sb 3 (tPtr.enc (some ⟨tb', 0, none⟩)) := by rw [<- r'.ptree]; exact r'.cells.sub 3 1
 have go : ∀ w', Gr w2 w' -> sh_f5_j7 i nxt w' := fun w' G => by
  have z2 := gw.1.size
  refine hnx w' O' I' _ (Keeps.local (Keeps.local (Gr.keeps G12) gw.1 fun j hb => .inr (.inl hb)) (Gr.keeps (S := fun _ => False) G) fun j f => f.elim) (fun b hb => ?_) (st'.grow G)
  rcases gw.2 b hb with h | h
  ·exact .inl h
  ·exact .inr (by omega)
 have hlen : s'.len = (A.apply e).1.length := hsl.1
 have other : A.applyErr e ≠ 0 \/ e.kind ≠ 1 -> sh_f5_j3 Q i nxt b4 sb 0 b6 s' true w2 := by
  intro hn
  have hk := other_told hn
  unfold sh_f5_j3
  refine br_t rfl ?_
  have J4 : sh_f5_j4 Q i nxt false w2 := br_f rfl (go w2 (Gr.refl _))
  refine br_i (fun q => ?_) (fun q => J4)
  have q := of_decide_eq_true q
  have hp : (0 : Int).toNat < (A.apply e).1.length := by show 0 < _; omega
  have hk0 := hk _ (List.getElem_mem hp)
  refine hsl.ixs 6 (fun _ => rfl) (by omega) hp fun b o _ hx => ld_i (hx.sub 0 1) (br_f (by simpa using hk0.1) (hsl.ixs 6 (fun _ => rfl) (by omega) hp fun b' o' _ hx' => ld_i (hx'.sub 0 1) ?_))
  rw [show (((A.apply e).1[(0:Int).toNat]'hp).Kind == 3) = false by simpa using hk0.2]
  exact J4
 rw [errV_nil]
 by_cases he : A.applyErr e = 0
 ·refine br_f (by rw [he]; rfl) (ld_i (x := ge.Kind) (ec.sub 0 1) ?_)
  by_cases hk : e.kind = 1
  ·have hkk : (ge.Kind != 1) = false := by rw [v.ev.kind, hk]; rfl
   rw [hkk]
   have hap : A.apply e = A.propose e.block := by unfold AStore.apply; rw [if_neg (by omega), if_pos hk]
   have hpe : A.propErr e.block = 0 := by unfold AStore.applyErr at he; rwa [if_neg (by omega), if_pos hk] at he
   obtain ⟨⟨rest, p1⟩, p2, _, _⟩ := AStore.propose_told v.wf hpe v.ev.root
   have phas : (A.propose e.block).2.tree.has e.block.root = true := by obtain ⟨_, _, _, _, _, _, _, _, _, _, _, _, _, _, h, _⟩ := AStore.propose_parts v.wf hpe v.ev.root; exact h
   rw [<- hap] at p1 p2 phas
   have hroot : ge.Block.Root = e.block.root := v.ev.block.root
   have hpar : ge.Block.Parent = e.block.parent := v.ev.block.parent
   unfold sh_f5_j3
   refine br_f rfl (dw_i fun w3 e3 g3 => br_f (by rw [hlen, p1]; simp; omega) ?_)
   have hsl3 := hsl.gr g3
   have hp : (0 : Int).toNat < (A.apply e).1.length := by rw [p1]; simp
   have h00 : (A.apply e).1[(0:Int).toNat]'hp = ⟨0, e.block.root, e.block.parent, 0, 0, false⟩ := by simp [p1]
   refine hsl3.ixs 6 (fun _ => rfl) (by omega) hp fun b o _ hx => ld_i (x := (A.apply e).1[(0:Int).toNat]'hp) hx (ld_i (x := ge.Block.Root) ((ec.gr g3).sub 2 1) (ld_i (x := ge.Block.Parent) ((ec.gr g3).sub 3 1) ?_))
   refine br_f (by rw [h00, hroot, hpar]; simp [eq_store_Change]) (ld_i (cT.gr g3) (ld_i (x := ge.Block.Root) ((ec.gr g3).sub 2 1) (c_tree_Has (r'.tree.gr g3) fun w4 g4 => ⟨_, rfl, ?_⟩)))
   rw [hroot, phas]
   have G4 := g3.trans g4
   have hsl4 := hsl.gr G4
   have hlen1 : 0 < (A.apply e).1.length := hp
   have hsm : s'.len <= s'.cap := hsl.2.1
   unfold sh_f5_j5
   have hcap : (A.apply e).1.length <= 1000000 := by rw [hap]; exact propose_len v.wf hpe v.ev.root
   rw [hlen, wrap_i64 (n := (((A.apply e).1.length : Nat) : Int) - 1) (by omega) (by omega)]
   have hq : (((A.apply e).1.length : Int) - 1).toNat < (A.apply e).1.length := by omega
   refine br_f rfl (hsl4.ixs 6 (fun _ => rfl) (by omega) hq fun b o _ hx => ld_i (hx.sub 0 1) (dw_i fun w5 e5 g5 => ?_))
   have G5 := G4.trans g5
   refine ld_i (cF.gr G5) (ld_i (c6.gr G5) ?_)
   have hlast : ∀ l c, (A.apply e).1 = l ++ [c] -> (A.apply e).1[(((A.apply e).1.length : Int) - 1).toNat]'hq = c := by
    intro l c hc
    have : (((A.apply e).1.length : Int) - 1).toNat = l.length := by rw [hc]; simp
    simp only [this]
    simp [hc]
   by_cases hf : (A.apply e).2.fin = A.fin
   ·have hk3 : ((A.apply e).1[(((A.apply e).1.length : Int) - 1).toNat]'hq).Kind ≠ 3 := p2.no hf _ (List.getElem_mem hq)
    have e1 : (((A.apply e).1[(((A.apply e).1.length : Int) - 1).toNat]'hq).Kind == 3) = false := by simpa using hk3
    have e2 : eq_api_Point (A.apply e).2.fin A.fin = true := eq_point_iff.2 hf
    rw [e1, e2]
    unfold sh_f5_j6
    exact br_f rfl (br_f rfl (br_f rfl (go w5 G5)))
   ·obtain ⟨l, hl⟩ := p2.yes hf
    have hl' := hlast _ _ hl
    have e1 : (((A.apply e).1[(((A.apply e).1.length : Int) - 1).toNat]'hq).Kind == 3) = true := by rw [hl']; rfl
    have e2 : eq_api_Point (A.apply e).2.fin A.fin = false := by
     cases hh : eq_api_Point (A.apply e).2.fin A.fin with
     | false => rfl
     | true => exact absurd (eq_point_iff.1 hh) hf
    rw [e1, e2]
    refine br_f rfl (br_t rfl ?_)
    refine (hsl.gr G5).ixs 6 (fun _ => rfl) (by omega) hq fun b o _ hx => ld_i (hx.sub 1 1) (ld_i (x := (A.apply e).2.fin.Root) ((cF.gr G5).sub 1 1) ?_)
    rw [hl']
    unfold sh_f5_j6
    exact br_f (by simp) (go w5 G5)
  ·have hkk : (ge.Kind != 1) = true := by rw [v.ev.kind]; simpa using hk
   rw [hkk]
   exact other (.inr hk)
 ·exact br_t (by simpa using he) (other (.inl he))
end Go.Proofs.Ytdefmgkicdhmkaa
