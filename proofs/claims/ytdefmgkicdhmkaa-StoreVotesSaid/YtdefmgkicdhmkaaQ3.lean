/- What the functions do, part 3; for every memory. -/
import Derived.Test.YtdefmgkicdhmkaaQ2
namespace Go.Proofs.Ytdefmgkicdhmkaa
open Go Go.Sx
set_option linter.unusedVariables false
set_option maxRecDepth 100000
set_option maxHeartbeats 2000000
def sh_f11_j5 (x6 : Sl) (nxt1 : Sl -> World -> Prop) (b5 : Nat) (w17 : World) : Prop :=
  ld t_api_Event w17 b5 0 fun x18 => alr 57 w17 (t_api_Event.enc x18) fun b7 w18 => app 57 28 304 w18 x6 (Sl.mk (some ⟨b7, 0, none⟩) 1 1) fun x19 w19 => nxt1 x19 w19
def sh_f11_j4 (b4 : Nat) (x6 : Sl) (nxt1 : Sl -> World -> Prop) (b5 : Nat) (x14 : Bool) (w12 : World) : Prop :=
  br x14 (dw w12 fun w13 => ld tSl w13 b4 2 fun x15 => ld tU64 w13 b5 2 fun x16 => alr 36 w13 (tU64.enc x16) fun b6 w14 => chk tSl w14 b4 2 x15 <| app 36 1 8 w14 x15 (Sl.mk (some ⟨b6, 0, none⟩) 1 1) fun x17 w15 => st tSl w15 b4 2 x17 fun w16 => (sh_f11_j5 x6 nxt1 b5 w16)) ((sh_f11_j5 x6 nxt1 b5 w12))
def sh_f11_j6 (Q : QW) (x20 : Sl) (w20 : World) : Prop :=
  Q (.slice x20.a x20.len x20.cap) w20
def sh_f11_j3 (Q : QW) (x2 : Option Addr) (b4 : Nat) (x6 : Sl) (nxt1 : Sl -> World -> Prop) (x8 : Bool) (w7 : World) : Prop :=
  br x8 (CallsR PP n_f31 #[.pointer (some ⟨b4, 0, none⟩)] (fun v2 w8 => ∃ x9 : G_api_Event, v2 = t_api_Event.val x9 /\ (al t_api_Event 57 w8 (⟨0, 0, (⟨0, 0, 0, nilSl, nilSl⟩ : G_api_Block), (⟨0, 0, (⟨0, 0⟩ : G_api_Point), (⟨0, 0⟩ : G_api_Point), nilSl⟩ : G_api_Vote), (⟨(⟨0, 0, (⟨0, 0⟩ : G_api_Point), (⟨0, 0⟩ : G_api_Point), nilSl⟩ : G_api_Vote), (⟨0, 0, (⟨0, 0⟩ : G_api_Point), (⟨0, 0⟩ : G_api_Point), nilSl⟩ : G_api_Vote)⟩ : G_api_Proof)⟩ : G_api_Event) fun b5 w9 => st t_api_Event w9 b5 0 x9 fun w10 => ld t_api_Event w10 b5 0 fun x10 => CallsR PP n_f12 #[.pointer x2, t_api_Event.val x10] (fun v3 w11 => ∃ x11 : Sl, ∃ x12 : Ifc, v3 = .tuple #[.slice x11.a x11.len x11.cap, x12.v] /\ (br x12.isNil (ld tI64 w11 b5 0 fun x13 => (sh_f11_j4 b4 x6 nxt1 b5 (x13 == 1) w11)) ((sh_f11_j4 b4 x6 nxt1 b5 false w11)))) w10)) w7) ((sh_f11_j6 Q x6 w7))
def sh_f11_b2 (Q : QW) (x2 : Option Addr) (b4 : Nat) (x6 : Sl) (w6 : World) (nxt1 : Sl -> World -> Prop) : Prop :=
  ld tSl w6 b4 1 fun x7 => br (decide ((x7.len : Int) > 0)) ((sh_f11_j3 Q x2 b4 x6 nxt1 (decide ((x6.len : Int) < 120)) w6)) ((sh_f11_j3 Q x2 b4 x6 nxt1 false w6))
def sh_f11_j1 (a1 : Sl) (Q : QW) (x2 : Option Addr) (x5 : Bool) (w3 : World) : Prop :=
  br x5 (Q (.slice none 0 0) w3) (alr 36 w3 (tU64.enc 1) fun b3 w4 => al t_psephoslaw14_maker 99 w4 (⟨x2, a1, (Sl.mk (some ⟨b3, 0, none⟩) 1 1)⟩ : G_psephoslaw14_maker) fun b4 w5 => (∃ I1 : Nat -> Sl -> World -> Prop, (∃ m, I1 m nilSl w5) /\ ∀ m x6 w6, I1 m x6 w6 -> sh_f11_b2 Q x2 b4 x6 w6 (fun y0 w => ∃ m2, m2 < m /\ I1 m2 y0 w)))
def sh_f11 (a0 : G_api_Config) (a1 : Sl) (Q : QW) (w0 : World) : Prop :=
  al t_api_Config 26 w0 a0 fun b1 w1 => ld t_api_Config w1 b1 0 fun x1 => CallsR PP n_f10 #[t_api_Config.val x1] (fun v1 w2 => ∃ x2 : Option Addr, ∃ x3 : Ifc, v1 = .tuple #[.pointer x2, x3.v] /\ (br (!x3.isNil) ((sh_f11_j1 a1 Q x2 true w2)) (br x2.isNone ((sh_f11_j1 a1 Q x2 true w2)) (nc x2 fun b2 o1 => ld tPtr w2 b2 (o1 + 3) fun x4 => (sh_f11_j1 a1 Q x2 x4.isNone w2))))) w1
theorem so_f11 {a0 : G_api_Config} {a1 : Sl} (Q : QW) (w0 : World) (h : sh_f11 a0 a1 Q w0) : CallsR PP n_f11 #[t_api_Config.val a0, .slice a1.a a1.len a1.cap] Q w0 := by
 refine callsR_of_WX (args := [t_api_Config.val a0, .slice a1.a a1.len a1.cap]) Try.func11 rfl Try.ntmps11 nl ?_
 refine WX_seq (WX_region ?_)
 refine op_w (pw_box (v := a0) ty_26 rfl ?_)
 intro b1 w1 hw1 hw2
 replace h := h b1 w1 hw1 hw2
 refine mva (.slice none 0 0) rfl (ops_nil ?_)
 refine WX_seq (WX_region ?_)
 obtain ⟨x1, hx1, h⟩ := h
 refine op_v (pv_ld ty_26 rfl hx1) <| op_w (pw_call co_10 rfl (CallsR.mono h ?_))
 rintro v1 w2 ⟨x2, x3, rfl, h⟩
 refine mv (.tuple #[.pointer x2, x3.v]) rfl <| op_v (pv_extract (vs := [.pointer x2, x3.v]) (v := .pointer x2) rfl rfl) ?_
 refine op_v (pv_extract (vs := [.pointer x2, x3.v]) (v := x3.v) rfl rfl) <| mva (.pointer x2) rfl <| mva x3.v rfl (ops_nil ?_)
 refine WX_seq ?_
 refine WX_join (fun f w3 => ∃ x5 : Bool, Agree f [(1, .slice a1.a a1.len a1.cap), (5, .pointer x2), (29, vb x5)] /\ sh_f11_j1 a1 Q x2 x5 w3) ?_ ?_
 refine WX_region ?_
 refine mv x3.v rfl <| op_v (pv_ifnil (e := x3) (v := (!x3.isNil)) ii_30 rfl rfl) <| mv (vb (!x3.isNil)) rfl ?_
 refine ops_split 19 (b := (!x3.isNil)) rfl (fun hb1 => ?_) (fun hb1 => ?_)
 have h := h.1 hb1
 iterate 2 refine opg_no ?_
 refine op_v (pv_pick (b := true) (v := vb true) rfl rfl) <| mv (vb true) rfl ?_
 iterate 5 refine opg_no ?_
 refine op_v (pv_pick (b := true) (v := vb true) rfl rfl) (ops_nil ?_)
 exact ⟨true, ⟨rfl, rfl, rfl, trivial⟩, h⟩
 have h := h.2 hb1
 refine opg_v (pv_move (v := .pointer x2) rfl) <| opg_v (pv_ptrnil (p := x2) (v := x2.isNone) ip_28 rfl rfl) ?_
 refine op_v (pv_pick (b := false) (v := vb x2.isNone) rfl rfl) <| mv (vb x2.isNone) rfl ?_
 refine ops_split 23 (b := x2.isNone) rfl (fun hb2 => ?_) (fun hb2 => ?_)
 have h := h.1 hb2
 iterate 5 refine opg_no ?_
 refine op_v (pv_pick (b := true) (v := vb true) rfl rfl) (ops_nil ?_)
 exact ⟨true, ⟨rfl, rfl, rfl, trivial⟩, h⟩
 have h := h.2 hb2
 refine opg_v (pv_move (v := .pointer x2) rfl) ?_
 obtain ⟨b2, o1, hp1, h⟩ := h
 refine opg_v (pv_nilh rfl hp1) <| opg_v (pv_fld fo_43_1 rfl) ?_
 obtain ⟨x4, hx4, h⟩ := h
 refine opg_v (pv_ld ty_33 rfl hx4) <| opg_v (pv_ptrnil (p := x4) (v := x4.isNone) ip_33 rfl rfl) ?_
 refine op_v (pv_pick (b := false) (v := vb x4.isNone) rfl rfl) (ops_nil ?_)
 exact ⟨x4.isNone, ⟨rfl, rfl, rfl, trivial⟩, h⟩
 rintro f w3 ⟨x5, ha, h⟩
 obtain ⟨g1, rfl⟩ := canon ha
 refine WX_cond (b := x5) rfl (fun hb3 => ?_) (fun hb3 => ?_)
 have h := h.1 hb3
 refine WX_seq (WX_region ?_)
 refine mva (.slice none 0 0) rfl (ops_nil ?_)
 refine WX_ret ?_
 exact fin_of [.slice none 0 0] rfl ⟨rfl, trivial⟩ h
 have h := h.2 hb3
 refine WX_skip <| WX_seq (WX_region ?_)
 refine mv (.pointer x2) rfl <| mv (.slice a1.a a1.len a1.cap) rfl ?_
 refine op_w (pw_buildSlice (e := 36) (cs := tU64.enc 1) (vs := [(0, vu 1)]) rfl (by kernel_rfl) ?_)
 intro b3 w4 hw3 hw4
 replace h := h b3 w4 hw3 hw4
 refine op_v (pv_build (cs := t_psephoslaw14_maker.enc (⟨x2, a1, (Sl.mk (some ⟨b3, 0, none⟩) 1 1)⟩ : G_psephoslaw14_maker)) (vs := [(0, .pointer x2), (1, .slice a1.a a1.len a1.cap), (2, .slice (some ⟨b3, 0, none⟩) 1 1)]) rfl (by kernel_rfl)) ?_
 refine op_w (pw_box (v := (⟨x2, a1, (Sl.mk (some ⟨b3, 0, none⟩) 1 1)⟩ : G_psephoslaw14_maker)) ty_99 rfl ?_)
 intro b4 w5 hw5 hw6
 replace h := h b4 w5 hw5 hw6
 refine mva (vp b4 0) rfl (ops_nil ?_)
 refine WX_seq (WX_region ?_)
 refine mva (.slice none 0 0) rfl (ops_nil ?_)
 refine WX_join (fun f w20 => ∃ x20 : Sl, Agree f [(8, .slice x20.a x20.len x20.cap)] /\ sh_f11_j6 Q x20 w20) ?_ ?_
 refine WX_block ?_
 obtain ⟨I1, ⟨m, h0⟩, hB1⟩ := h
 refine WX_loop (fun m f w6 => ∃ x6 : Sl, Agree f [(5, .pointer x2), (7, vp b4 0), (8, .slice x6.a x6.len x6.cap)] /\ I1 m x6 w6) ⟨m, nilSl, ⟨rfl, rfl, rfl, trivial⟩, h0⟩ ?_
 clear h0 m
 rintro m f w6 ⟨x6, ha, h⟩
 obtain ⟨g5, rfl⟩ := canon ha
 replace h := hB1 m x6 w6 h
 clear hB1
 generalize hn_nxt1 : (fun (y0 : Sl) (w : World) => ∃ m2, m2 < m /\ I1 m2 y0 w) = nxt1 at h
 refine WX_seq ?_
 refine WX_join (fun f w7 => ∃ x8 : Bool, Agree f [(5, .pointer x2), (7, vp b4 0), (8, .slice x6.a x6.len x6.cap), (45, vb x8)] /\ sh_f11_j3 Q x2 b4 x6 nxt1 x8 w7) ?_ ?_
 refine WX_region ?_
 refine mv (vp b4 0) rfl <| op_v (pv_nil rfl) <| op_v (pv_fld fo_99_1 rfl) ?_
 obtain ⟨x7, hx7, h⟩ := h
 refine op_v (pv_ld ty_22 rfl hx7) <| op_v (pv_lenS (s := x7) is_22 rfl) <| op_v (pv_cmp (v := decide ((x7.len : Int) > 0)) rfl rfl rfl rfl) ?_
 refine mv (vb (decide ((x7.len : Int) > 0))) rfl <| ops_split 41 (b := decide ((x7.len : Int) > 0)) rfl (fun hb4 => ?_) (fun hb4 => ?_)
 have h := h.1 hb4
 refine opg_v (pv_move (v := .slice x6.a x6.len x6.cap) rfl) <| opg_v (pv_lenS (s := x6) is_44 rfl) ?_
 refine opg_v (pv_cmp (v := decide ((x6.len : Int) < 120)) rfl rfl rfl rfl) ?_
 refine op_v (pv_pick (b := true) (v := vb (decide ((x6.len : Int) < 120))) rfl rfl) (ops_nil ?_)
 exact ⟨decide ((x6.len : Int) < 120), ⟨rfl, rfl, rfl, rfl, trivial⟩, h⟩
 have h := h.2 hb4
 iterate 3 refine opg_no ?_
 refine op_v (pv_pick (b := false) (v := vb false) rfl rfl) (ops_nil ?_)
 exact ⟨false, ⟨rfl, rfl, rfl, rfl, trivial⟩, h⟩
 rintro f w7 ⟨x8, ha, h⟩
 obtain ⟨g2, rfl⟩ := canon ha
 refine WX_cond (b := x8) rfl (fun hb5 => ?_) (fun hb5 => ?_)
 have h := h.1 hb5
 refine WX_skip ?_
 refine WX_block ?_
 refine WX_seq (WX_region ?_)
 refine mv (vp b4 0) rfl <| op_w (pw_call co_31 rfl (CallsR.mono h ?_))
 rintro v2 w8 ⟨x9, rfl, h⟩
 refine op_w (pw_alloc ty_57 tz_57 ?_)
 intro b5 w9 hw7 hw8
 replace h := h b5 w9 hw7 hw8
 refine op_w (pw_st (x := x9) ty_57 rfl rfl h.1 ?_)
 intro w10 hw9
 replace h := h.2 w10 hw9
 refine ops_nil ?_
 refine WX_join (fun f w17 => Agree f [(5, .pointer x2), (7, vp b4 0), (8, .slice x6.a x6.len x6.cap), (9, vp b5 0)] /\ sh_f11_j5 x6 nxt1 b5 w17) ?_ ?_
 refine WX_seq (WX_region ?_)
 refine mv (.pointer x2) rfl ?_
 obtain ⟨x10, hx10, h⟩ := h
 refine op_v (pv_ld ty_57 rfl hx10) <| op_w (pw_call co_12 rfl (CallsR.mono h ?_))
 rintro v3 w11 ⟨x11, x12, rfl, h⟩
 refine mv (.tuple #[.slice x11.a x11.len x11.cap, x12.v]) rfl ?_
 refine op_v (pv_extract (vs := [.slice x11.a x11.len x11.cap, x12.v]) (v := .slice x11.a x11.len x11.cap) rfl rfl) ?_
 refine op_v (pv_extract (vs := [.slice x11.a x11.len x11.cap, x12.v]) (v := x12.v) rfl rfl) <| mva (.slice x11.a x11.len x11.cap) rfl ?_
 refine mva x12.v rfl (ops_nil ?_)
 refine WX_join (fun f w12 => ∃ x14 : Bool, Agree f [(5, .pointer x2), (7, vp b4 0), (8, .slice x6.a x6.len x6.cap), (9, vp b5 0), (60, vb x14)] /\ sh_f11_j4 b4 x6 nxt1 b5 x14 w12) ?_ ?_
 refine WX_region ?_
 refine mv x12.v rfl <| op_v (pv_ifnil (e := x12) (v := x12.isNil) ii_30 rfl rfl) <| mv (vb x12.isNil) rfl ?_
 refine ops_split 56 (b := x12.isNil) rfl (fun hb6 => ?_) (fun hb6 => ?_)
 have h := h.1 hb6
 refine opg_v (pv_fld fo_57_0 rfl) ?_
 obtain ⟨x13, hx13, h⟩ := h
 refine opg_v (pv_ld ty_46 rfl hx13) <| opg_v (pv_cmp (v := (x13 == 1)) rfl rfl rfl rfl) ?_
 refine op_v (pv_pick (b := true) (v := vb (x13 == 1)) rfl rfl) (ops_nil ?_)
 exact ⟨(x13 == 1), ⟨rfl, rfl, rfl, rfl, rfl, trivial⟩, h⟩
 have h := h.2 hb6
 iterate 3 refine opg_no ?_
 refine op_v (pv_pick (b := false) (v := vb false) rfl rfl) (ops_nil ?_)
 exact ⟨false, ⟨rfl, rfl, rfl, rfl, rfl, trivial⟩, h⟩
 rintro f w12 ⟨x14, ha, h⟩
 obtain ⟨g3, rfl⟩ := canon ha
 refine WX_cond (b := x14) rfl (fun hb7 => ?_) (fun hb7 => ?_)
 have h := h.1 hb7
 obtain ⟨w13, hw10, h⟩ := dwe h
 obtain ⟨x15, hx15, x16, hx16, h⟩ := h
 refine WX_dr [8,9,12] [0,1,2,3,5,6,10,11] [⟨[],[0,1,2,3,5,6],[4,7],[(8,[8],1)]⟩,⟨[8],[],[4],[(9,[9,10,11],2)]⟩,⟨[9,8],[10,11],[],[(12,[12],3)]⟩,⟨[12,9,8],[],[],[]⟩] [vp b4 0, vp b4 0, vp b4 0, vp b4 2, .slice x15.a x15.len x15.cap, vp b5 2, vp b5 2, vu x16, un, un, un, un, un] 4 mixed (by kernel_rfl) hw10 ?_
 refine draw_go rfl (pu rfl (pv_move rfl) (pu rfl (pv_move rfl) (pu rfl (pv_nil rfl) (pu rfl (pv_fld fo_99_2 rfl) (pu rfl (pv_fld fo_57_2 rfl) (pu rfl (pv_fld fo_50_0 rfl) ap0)))))) (ro rfl (pv_ld ty_24 rfl hx15) (ro rfl (pv_ld ty_36 rfl hx16) ao0)) rfl ?_
 refine cy rfl rfl ?_
 refine pw_buildSlice (e := 36) (cs := tU64.enc x16) (vs := [(0, vu x16)]) rfl (by kernel_rfl) ?_
 intro b6 w14 hw11 hw12
 replace h := h b6 w14 hw11 hw12
 obtain ⟨hc1, h⟩ := h
 refine nx [] rfl nl rfl ?_
 refine draw_go rfl ap0 (ro rfl (pv_ld ty_24 rfl hc1) ao0) rfl ?_
 refine cy rfl rfl ?_
 obtain ⟨ol1, ne1, ha1, ha2, ha3, ha4, ha5, h⟩ := h
 refine pw_append (s := x15) (r := (Sl.mk (some ⟨b6, 0, none⟩) 1 1)) eo_24 is_24 rfl rfl ha1 ha2 ha3 ha4 ha5 ?_
 intro x17 w15 ha6
 replace h := h x17 w15 ha6
 refine nx [vp b4 0, vp b4 2] rfl nl rfl ?_
 refine draw_go rfl (pu rfl (pv_nil rfl) (pu rfl (pv_fld fo_99_2 rfl) ap0)) ao0 rfl ?_
 refine cy rfl rfl ?_
 refine pw_st (x := x17) ty_24 rfl rfl h.1 ?_
 intro w16 hw13
 replace h := h.2 w16 hw13
 refine nx [] rfl nl rfl ?_
 dsimp only [putV, List.set]
 refine draw_end rfl ap0 ao0 ?_
 exact ⟨⟨rfl, rfl, rfl, rfl, trivial⟩, h⟩
 have h := h.2 hb7
 refine WX_skip ?_
 exact ⟨⟨rfl, rfl, rfl, rfl, trivial⟩, h⟩
 rintro f w17 ⟨ha, h⟩
 obtain ⟨g4, rfl⟩ := canon ha
 refine WX_region ?_
 refine mv (.slice x6.a x6.len x6.cap) rfl ?_
 obtain ⟨x18, hx18, h⟩ := h
 refine op_v (pv_ld ty_57 rfl hx18) ?_
 refine op_w (pw_buildSlice (e := 57) (cs := t_api_Event.enc x18) (vs := [(0, t_api_Event.val x18)]) rfl (by kernel_rfl) ?_)
 intro b7 w18 hw14 hw15
 replace h := h b7 w18 hw14 hw15
 obtain ⟨ol2, ne2, ha7, ha8, ha9, ha10, ha11, h⟩ := h
 refine op_w (pw_append (s := x6) (r := (Sl.mk (some ⟨b7, 0, none⟩) 1 1)) eo_44 is_44 rfl rfl ha7 ha8 ha9 ha10 ha11 ?_)
 intro x19 w19 ha12
 replace h := h x19 w19 ha12
 refine mva (.slice x19.a x19.len x19.cap) rfl (ops_nil ?_)
 subst hn_nxt1
 obtain ⟨m2, hm2, h⟩ := h
 exact ⟨m2, hm2, x19, ⟨rfl, rfl, rfl, trivial⟩, h⟩
 have h := h.2 hb5
 refine WX_exit0 ?_
 exact ⟨x6, ⟨rfl, trivial⟩, h⟩
 rintro f w20 ⟨x20, ha, h⟩
 obtain ⟨g6, rfl⟩ := canon ha
 refine WX_seq (WX_region ?_)
 refine mv (.slice x20.a x20.len x20.cap) rfl <| mva (.slice x20.a x20.len x20.cap) rfl (ops_nil ?_)
 refine WX_ret ?_
 exact fin_of [.slice x20.a x20.len x20.cap] rfl ⟨rfl, trivial⟩ h
def sh_f12_j1 (Q : QW) (b1 : Nat) (o1 : Nat) (x10 : Ifc) (w7 : World) : Prop :=
  ld tSl w7 b1 (o1 + 13) fun x11 => Q (.tuple #[.slice x11.a x11.len x11.cap, x10.v]) w7
def sh_f12 (a0 : Option Addr) (a1 : G_api_Event) (Q : QW) (w0 : World) : Prop :=
  nc a0 fun b1 o1 => al t_api_Event 57 w0 a1 fun b2 w1 => st tSl w1 b1 (o1 + 13) nilSl fun w2 => ld tI64 w2 b2 0 fun x1 => br (x1 == 0) (ld tI64 w2 b2 1 fun x2 => CallsR PP n_f32 #[.pointer a0, .int .i64 x2] (fun v1 w3 => ∃ x3 : Ifc, v1 = x3.v /\ ((sh_f12_j1 Q b1 o1 x3 w3))) w2) (br (x1 == 1) (ld t_api_Block w2 b2 2 fun x4 => CallsR PP n_f33 #[.pointer a0, t_api_Block.val x4] (fun v2 w4 => ∃ x5 : Ifc, v2 = x5.v /\ ((sh_f12_j1 Q b1 o1 x5 w4))) w2) (br (x1 == 2) (ld t_api_Vote w2 b2 7 fun x6 => CallsR PP n_f34 #[.pointer a0, t_api_Vote.val x6, .bool false] (fun v3 w5 => ∃ x7 : Ifc, v3 = x7.v /\ ((sh_f12_j1 Q b1 o1 x7 w5))) w2) (br (x1 == 3) (ld t_api_Proof w2 b2 14 fun x8 => CallsR PP n_f35 #[.pointer a0, t_api_Proof.val x8] (fun v4 w6 => ∃ x9 : Ifc, v4 = x9.v /\ ((sh_f12_j1 Q b1 o1 x9 w6))) w2) ((sh_f12_j1 Q b1 o1 (Ifc.mk 94 (.int .i64 1)) w2)))))
theorem so_f12 {a0 : Option Addr} {a1 : G_api_Event} (Q : QW) (w0 : World) (h : sh_f12 a0 a1 Q w0) : CallsR PP n_f12 #[.pointer a0, t_api_Event.val a1] Q w0 := by
 refine callsR_of_WX (args := [.pointer a0, t_api_Event.val a1]) Try.func12 rfl Try.ntmps12 nl ?_
 obtain ⟨b1, o1, hp1, h⟩ := h
 refine WX_seq (WX_region ?_)
 refine op_w (pw_box (v := a1) ty_57 rfl ?_)
 intro b2 w1 hw1 hw2
 replace h := h b2 w1 hw1 hw2
 refine mva (.slice none 0 0) rfl <| mva .nilIface rfl (ops_nil ?_)
 refine WX_seq (WX_region ?_)
 refine mv (.pointer a0) rfl <| op_v (pv_nilh rfl hp1) <| op_v (pv_fld fo_43_9 rfl) <| op_w (pw_st (x := nilSl) ty_41 rfl rfl h.1 ?_)
 intro w2 hw3
 replace h := h.2 w2 hw3
 refine ops_nil ?_
 refine WX_seq (WX_region ?_)
 refine mva .nilIface rfl (ops_nil ?_)
 refine WX_join (fun f w7 => ∃ x10 : Ifc, Agree f [(0, .pointer a0), (6, x10.v)] /\ sh_f12_j1 Q b1 o1 x10 w7) ?_ ?_
 refine WX_seq (WX_region ?_)
 refine op_v (pv_fld fo_57_0 rfl) ?_
 obtain ⟨x1, hx1, h⟩ := h
 refine op_v (pv_ld ty_46 rfl hx1) (ops_nil ?_)
 refine WX_block ?_
 refine WX_seq (WX_region ?_)
 refine op_v (pv_cmp (v := (x1 == 0)) rfl rfl rfl rfl) <| mva (vb (x1 == 0)) rfl (ops_nil ?_)
 refine WX_cond (b := (x1 == 0)) rfl (fun hb4 => ?_) (fun hb4 => ?_)
 have h := h.1 hb4
 refine WX_region ?_
 refine mv (.pointer a0) rfl <| op_v (pv_fld fo_57_1 rfl) ?_
 obtain ⟨x2, hx2, h⟩ := h
 refine op_v (pv_ld ty_3 rfl hx2) <| op_w (pw_call co_32 rfl (CallsR.mono h ?_))
 rintro v1 w3 ⟨x3, rfl, h⟩
 refine mva x3.v rfl (ops_nil ?_)
 exact ⟨x3, ⟨rfl, rfl, trivial⟩, h⟩
 have h := h.2 hb4
 refine WX_seq (WX_region ?_)
 refine op_v (pv_cmp (v := (x1 == 1)) rfl rfl rfl rfl) <| mva (vb (x1 == 1)) rfl (ops_nil ?_)
 refine WX_cond (b := (x1 == 1)) rfl (fun hb3 => ?_) (fun hb3 => ?_)
 have h := h.1 hb3
 refine WX_region ?_
 refine mv (.pointer a0) rfl <| op_v (pv_fld fo_57_2 rfl) ?_
 obtain ⟨x4, hx4, h⟩ := h
 refine op_v (pv_ld ty_50 rfl hx4) <| op_w (pw_call co_33 rfl (CallsR.mono h ?_))
 rintro v2 w4 ⟨x5, rfl, h⟩
 refine mva x5.v rfl (ops_nil ?_)
 exact ⟨x5, ⟨rfl, rfl, trivial⟩, h⟩
 have h := h.2 hb3
 refine WX_seq (WX_region ?_)
 refine op_v (pv_cmp (v := (x1 == 2)) rfl rfl rfl rfl) <| mva (vb (x1 == 2)) rfl (ops_nil ?_)
 refine WX_cond (b := (x1 == 2)) rfl (fun hb2 => ?_) (fun hb2 => ?_)
 have h := h.1 hb2
 refine WX_region ?_
 refine mv (.pointer a0) rfl <| op_v (pv_fld fo_57_3 rfl) ?_
 obtain ⟨x6, hx6, h⟩ := h
 refine op_v (pv_ld ty_53 rfl hx6) <| op_w (pw_call co_34 rfl (CallsR.mono h ?_))
 rintro v3 w5 ⟨x7, rfl, h⟩
 refine mva x7.v rfl (ops_nil ?_)
 exact ⟨x7, ⟨rfl, rfl, trivial⟩, h⟩
 have h := h.2 hb2
 refine WX_seq (WX_region ?_)
 refine op_v (pv_cmp (v := (x1 == 3)) rfl rfl rfl rfl) <| mva (vb (x1 == 3)) rfl (ops_nil ?_)
 refine WX_cond (b := (x1 == 3)) rfl (fun hb1 => ?_) (fun hb1 => ?_)
 have h := h.1 hb1
 refine WX_region ?_
 refine mv (.pointer a0) rfl <| op_v (pv_fld fo_57_4 rfl) ?_
 obtain ⟨x8, hx8, h⟩ := h
 refine op_v (pv_ld ty_55 rfl hx8) <| op_w (pw_call co_35 rfl (CallsR.mono h ?_))
 rintro v4 w6 ⟨x9, rfl, h⟩
 refine mva x9.v rfl (ops_nil ?_)
 exact ⟨x9, ⟨rfl, rfl, trivial⟩, h⟩
 have h := h.2 hb1
 refine WX_region ?_
 refine op_v (pv_iface (v := vi 1) ni_94 rfl) <| mva (.iface 94 (vi 1)) rfl (ops_nil ?_)
 exact ⟨(Ifc.mk 94 (vi 1)), ⟨rfl, rfl, trivial⟩, h⟩
 rintro f w7 ⟨x10, ha, h⟩
 obtain ⟨g1, rfl⟩ := canon ha
 refine WX_seq (WX_region ?_)
 refine mv (.pointer a0) rfl <| op_v (pv_nilh rfl hp1) <| op_v (pv_fld fo_43_9 rfl) ?_
 obtain ⟨x11, hx11, h⟩ := h
 refine op_v (pv_ld ty_41 rfl hx11) <| mv x10.v rfl <| mva (.slice x11.a x11.len x11.cap) rfl <| mva x10.v rfl (ops_nil ?_)
 refine WX_ret ?_
 exact fin_of [.slice x11.a x11.len x11.cap, x10.v] rfl ⟨rfl, ⟨rfl, trivial⟩⟩ h
def sh_f13_j1 (Q : QW) (b2 : Nat) (x10 : Bool) (w6 : World) : Prop :=
  br x10 (Q (.tuple #[.slice none 0 0, .iface 94 (.int .i64 11)]) w6) (ld t_api_Vote w6 b2 0 fun x11 => ld t_api_Vote w6 b2 7 fun x12 => CallsR PP n_f38 #[t_api_Vote.val x11, t_api_Vote.val x12] (fun v4 w7 => ∃ x13 : Sl, v4 = .slice x13.a x13.len x13.cap /\ (br ((x13.len : Int) == 0) (Q (.tuple #[.slice none 0 0, .iface 94 (.int .i64 11)]) w7) (Q (.tuple #[.slice x13.a x13.len x13.cap, .nilIface]) w7))) w6)
def sh_f13 (a0 : G_api_Config) (a1 : G_api_Proof) (Q : QW) (w0 : World) : Prop :=
  al t_api_Config 26 w0 a0 fun b1 w1 => al t_api_Proof 55 w1 a1 fun b2 w2 => ld t_api_Config w2 b1 0 fun x1 => ld t_api_Vote w2 b2 0 fun x2 => CallsR PP n_f36 #[t_api_Config.val x1, t_api_Vote.val x2] (fun v1 w3 => ∃ x3 : Bool, v1 = .bool x3 /\ (br (!x3) ((sh_f13_j1 Q b2 true w3)) (ld t_api_Config w3 b1 0 fun x4 => ld t_api_Vote w3 b2 7 fun x5 => CallsR PP n_f36 #[t_api_Config.val x4, t_api_Vote.val x5] (fun v2 w4 => ∃ x6 : Bool, v2 = .bool x6 /\ (br (!x6) ((sh_f13_j1 Q b2 true w4)) (ld t_api_Vote w4 b2 0 fun x7 => ld t_api_Vote w4 b2 7 fun x8 => CallsR PP n_f37 #[t_api_Vote.val x7, t_api_Vote.val x8] (fun v3 w5 => ∃ x9 : Bool, v3 = .bool x9 /\ ((sh_f13_j1 Q b2 (!x9) w5))) w4))) w3))) w2
theorem so_f13 {a0 : G_api_Config} {a1 : G_api_Proof} (Q : QW) (w0 : World) (h : sh_f13 a0 a1 Q w0) : CallsR PP n_f13 #[t_api_Config.val a0, t_api_Proof.val a1] Q w0 := by
 refine callsR_of_WX (args := [t_api_Config.val a0, t_api_Proof.val a1]) Try.func13 rfl Try.ntmps13 nl ?_
 refine WX_seq (WX_region ?_)
 refine op_w (pw_box (v := a0) ty_26 rfl ?_)
 intro b1 w1 hw1 hw2
 replace h := h b1 w1 hw1 hw2
 refine op_w (pw_box (v := a1) ty_55 rfl ?_)
 intro b2 w2 hw3 hw4
 replace h := h b2 w2 hw3 hw4
 refine mva (.slice none 0 0) rfl <| mva .nilIface rfl (ops_nil ?_)
 refine WX_seq ?_
 refine WX_join (fun f w6 => ∃ x10 : Bool, Agree f [(3, vp b2 0), (26, vb x10)] /\ sh_f13_j1 Q b2 x10 w6) ?_ ?_
 refine WX_region ?_
 obtain ⟨x1, hx1, h⟩ := h
 refine op_v (pv_ld ty_26 rfl hx1) <| op_v (pv_fld fo_55_0 rfl) ?_
 obtain ⟨x2, hx2, h⟩ := h
 refine op_v (pv_ld ty_53 rfl hx2) <| op_w (pw_call co_36 rfl (CallsR.mono h ?_))
 rintro v1 w3 ⟨x3, rfl, h⟩
 refine op_v (pv_not rfl) <| mv (vb (!x3)) rfl <| ops_split 12 (b := (!x3)) rfl (fun hb1 => ?_) (fun hb1 => ?_)
 have h := h.1 hb1
 iterate 5 refine opg_no ?_
 refine op_v (pv_pick (b := true) (v := vb true) rfl rfl) <| mv (vb true) rfl ?_
 iterate 6 refine opg_no ?_
 refine op_v (pv_pick (b := true) (v := vb true) rfl rfl) (ops_nil ?_)
 exact ⟨true, ⟨rfl, rfl, trivial⟩, h⟩
 have h := h.2 hb1
 obtain ⟨x4, hx4, h⟩ := h
 refine opg_v (pv_ld ty_26 rfl hx4) <| opg_v (pv_fld fo_55_1 rfl) ?_
 obtain ⟨x5, hx5, h⟩ := h
 refine opg_v (pv_ld ty_53 rfl hx5) <| opg_w (pw_call co_36 rfl (CallsR.mono h ?_))
 rintro v2 w4 ⟨x6, rfl, h⟩
 refine opg_v (pv_not rfl) <| op_v (pv_pick (b := false) (v := vb (!x6)) rfl rfl) <| mv (vb (!x6)) rfl ?_
 refine ops_split 19 (b := (!x6)) rfl (fun hb2 => ?_) (fun hb2 => ?_)
 have h := h.1 hb2
 iterate 6 refine opg_no ?_
 refine op_v (pv_pick (b := true) (v := vb true) rfl rfl) (ops_nil ?_)
 exact ⟨true, ⟨rfl, rfl, trivial⟩, h⟩
 have h := h.2 hb2
 refine opg_v (pv_fld fo_55_0 rfl) ?_
 obtain ⟨x7, hx7, h⟩ := h
 refine opg_v (pv_ld ty_53 rfl hx7) <| opg_v (pv_fld fo_55_1 rfl) ?_
 obtain ⟨x8, hx8, h⟩ := h
 refine opg_v (pv_ld ty_53 rfl hx8) <| opg_w (pw_call co_37 rfl (CallsR.mono h ?_))
 rintro v3 w5 ⟨x9, rfl, h⟩
 refine opg_v (pv_not rfl) <| op_v (pv_pick (b := false) (v := vb (!x9)) rfl rfl) (ops_nil ?_)
 exact ⟨(!x9), ⟨rfl, rfl, trivial⟩, h⟩
 rintro f w6 ⟨x10, ha, h⟩
 obtain ⟨g1, rfl⟩ := canon ha
 refine WX_cond (b := x10) rfl (fun hb3 => ?_) (fun hb3 => ?_)
 have h := h.1 hb3
 refine WX_seq (WX_region ?_)
 refine op_v (pv_iface (v := vi 11) ni_94 rfl) <| mva (.slice none 0 0) rfl <| mva (.iface 94 (vi 11)) rfl (ops_nil ?_)
 refine WX_ret ?_
 exact fin_of [.slice none 0 0, .iface 94 (vi 11)] rfl ⟨rfl, ⟨rfl, trivial⟩⟩ h
 have h := h.2 hb3
 refine WX_skip <| WX_seq (WX_region ?_)
 refine op_v (pv_fld fo_55_0 rfl) ?_
 obtain ⟨x11, hx11, h⟩ := h
 refine op_v (pv_ld ty_53 rfl hx11) <| op_v (pv_fld fo_55_1 rfl) ?_
 obtain ⟨x12, hx12, h⟩ := h
 refine op_v (pv_ld ty_53 rfl hx12) <| op_w (pw_call co_38 rfl (CallsR.mono h ?_))
 rintro v4 w7 ⟨x13, rfl, h⟩
 refine mva (.slice x13.a x13.len x13.cap) rfl (ops_nil ?_)
 refine WX_seq ?_
 refine WX_seq (WX_region ?_)
 refine mv (.slice x13.a x13.len x13.cap) rfl <| op_v (pv_lenS (s := x13) is_51 rfl) ?_
 refine op_v (pv_cmp (v := ((x13.len : Int) == 0)) rfl rfl rfl rfl) (ops_nil ?_)
 refine WX_cond (b := ((x13.len : Int) == 0)) rfl (fun hb4 => ?_) (fun hb4 => ?_)
 have h := h.1 hb4
 refine WX_seq (WX_region ?_)
 refine op_v (pv_iface (v := vi 11) ni_94 rfl) <| mva (.slice none 0 0) rfl <| mva (.iface 94 (vi 11)) rfl (ops_nil ?_)
 refine WX_ret ?_
 exact fin_of [.slice none 0 0, .iface 94 (vi 11)] rfl ⟨rfl, ⟨rfl, trivial⟩⟩ h
 have h := h.2 hb4
 refine WX_skip <| WX_seq (WX_region ?_)
 refine mv (.slice x13.a x13.len x13.cap) rfl <| mva (.slice x13.a x13.len x13.cap) rfl <| mva .nilIface rfl (ops_nil ?_)
 refine WX_ret ?_
 exact fin_of [.slice x13.a x13.len x13.cap, .nilIface] rfl ⟨rfl, ⟨rfl, trivial⟩⟩ h
def sh_f14_j1 (a0 : Sl) (a1 : Int) (Q : QW) (x3 : Bool) (w1 : World) : Prop :=
  br x3 (Q (.tuple #[.int .u64 0, .bool false]) w1) (ixs a0 a1 fun b3 o3 => ld tU64 w1 b3 ((o3 + (a1).toNat * 4) + 2) fun x4 => Q (.tuple #[.int .u64 x4, .bool true]) w1)
def sh_f14 (a0 : Sl) (a1 : Int) (Q : QW) (w0 : World) : Prop :=
  br (decide (a1 < 0)) ((sh_f14_j1 a0 a1 Q true w0)) (br (decide (a1 ≥ (a0.len : Int))) ((sh_f14_j1 a0 a1 Q true w0)) (ixs a0 a1 fun b1 o1 => ld tBool w0 b1 ((o1 + (a1).toNat * 4) + 0) fun x1 => br (!x1) ((sh_f14_j1 a0 a1 Q true w0)) (ixs a0 a1 fun b2 o2 => ld tBool w0 b2 ((o2 + (a1).toNat * 4) + 3) fun x2 => (sh_f14_j1 a0 a1 Q x2 w0))))
theorem so_f14 {a0 : Sl} {a1 : Int} (Q : QW) (w0 : World) (h : sh_f14 a0 a1 Q w0) : CallsR PP n_f14 #[.slice a0.a a0.len a0.cap, .int .i64 a1] Q w0 := by
 refine callsR_of_WX (args := [.slice a0.a a0.len a0.cap, vi a1]) Try.func14 rfl Try.ntmps14 nl ?_
 refine WX_seq (WX_region ?_)
 refine mva (vu 0) rfl <| mva (vb false) rfl (ops_nil ?_)
 refine WX_seq ?_
 refine WX_join (fun f w1 => ∃ x3 : Bool, Agree f [(0, .slice a0.a a0.len a0.cap), (1, vi a1), (28, vb x3)] /\ sh_f14_j1 a0 a1 Q x3 w1) ?_ ?_
 refine WX_region ?_
 refine mv (vi a1) rfl <| op_v (pv_cmp (v := decide (a1 < 0)) rfl rfl rfl rfl) <| mv (vb (decide (a1 < 0))) rfl ?_
 refine ops_split 8 (b := decide (a1 < 0)) rfl (fun hb1 => ?_) (fun hb1 => ?_)
 have h := h.1 hb1
 iterate 4 refine opg_no ?_
 refine op_v (pv_pick (b := true) (v := vb true) rfl rfl) <| mv (vb true) rfl ?_
 iterate 6 refine opg_no ?_
 refine op_v (pv_pick (b := true) (v := vb true) rfl rfl) <| mv (vb true) rfl ?_
 iterate 5 refine opg_no ?_
 refine op_v (pv_pick (b := true) (v := vb true) rfl rfl) (ops_nil ?_)
 exact ⟨true, ⟨rfl, rfl, rfl, trivial⟩, h⟩
 have h := h.2 hb1
 refine opg_v (pv_move (v := vi a1) rfl) <| opg_v (pv_move (v := .slice a0.a a0.len a0.cap) rfl) <| opg_v (pv_lenS (s := a0) is_35 rfl) ?_
 refine opg_v (pv_cmp (v := decide (a1 ≥ (a0.len : Int))) rfl rfl rfl rfl) ?_
 refine op_v (pv_pick (b := false) (v := vb (decide (a1 ≥ (a0.len : Int)))) rfl rfl) <| mv (vb (decide (a1 ≥ (a0.len : Int)))) rfl ?_
 refine ops_split 14 (b := decide (a1 ≥ (a0.len : Int))) rfl (fun hb2 => ?_) (fun hb2 => ?_)
 have h := h.1 hb2
 iterate 6 refine opg_no ?_
 refine op_v (pv_pick (b := true) (v := vb true) rfl rfl) <| mv (vb true) rfl ?_
 iterate 5 refine opg_no ?_
 refine op_v (pv_pick (b := true) (v := vb true) rfl rfl) (ops_nil ?_)
 exact ⟨true, ⟨rfl, rfl, rfl, trivial⟩, h⟩
 have h := h.2 hb2
 refine opg_v (pv_move (v := .slice a0.a a0.len a0.cap) rfl) <| opg_v (pv_move (v := vi a1) rfl) ?_
 obtain ⟨b1, o1, hi1, hi2, hi3, h⟩ := h
 refine opg_v (pv_ix (s := a0) ez_35 rfl rfl hi1 hi2 hi3) <| opg_v (pv_fld fo_68_0 rfl) ?_
 obtain ⟨x1, hx1, h⟩ := h
 refine opg_v (pv_ld ty_4 rfl hx1) <| opg_v (pv_not rfl) <| op_v (pv_pick (b := false) (v := vb (!x1)) rfl rfl) <| mv (vb (!x1)) rfl ?_
 refine ops_split 22 (b := (!x1)) rfl (fun hb3 => ?_) (fun hb3 => ?_)
 have h := h.1 hb3
 iterate 5 refine opg_no ?_
 refine op_v (pv_pick (b := true) (v := vb true) rfl rfl) (ops_nil ?_)
 exact ⟨true, ⟨rfl, rfl, rfl, trivial⟩, h⟩
 have h := h.2 hb3
 refine opg_v (pv_move (v := .slice a0.a a0.len a0.cap) rfl) <| opg_v (pv_move (v := vi a1) rfl) ?_
 obtain ⟨b2, o2, hi4, hi5, hi6, h⟩ := h
 refine opg_v (pv_ix (s := a0) ez_35 rfl rfl hi4 hi5 hi6) <| opg_v (pv_fld fo_68_3 rfl) ?_
 obtain ⟨x2, hx2, h⟩ := h
 refine opg_v (pv_ld ty_4 rfl hx2) <| op_v (pv_pick (b := false) (v := vb x2) rfl rfl) (ops_nil ?_)
 exact ⟨x2, ⟨rfl, rfl, rfl, trivial⟩, h⟩
 rintro f w1 ⟨x3, ha, h⟩
 obtain ⟨g1, rfl⟩ := canon ha
 refine WX_cond (b := x3) rfl (fun hb4 => ?_) (fun hb4 => ?_)
 have h := h.1 hb4
 refine WX_seq (WX_region ?_)
 refine mva (vu 0) rfl <| mva (vb false) rfl (ops_nil ?_)
 refine WX_ret ?_
 exact fin_of [vu 0, vb false] rfl ⟨rfl, ⟨rfl, trivial⟩⟩ h
 have h := h.2 hb4
 refine WX_skip <| WX_seq (WX_region ?_)
 refine mv (.slice a0.a a0.len a0.cap) rfl <| mv (vi a1) rfl ?_
 obtain ⟨b3, o3, hi7, hi8, hi9, h⟩ := h
 refine op_v (pv_ix (s := a0) ez_35 rfl rfl hi7 hi8 hi9) <| op_v (pv_fld fo_68_2 rfl) ?_
 obtain ⟨x4, hx4, h⟩ := h
 refine op_v (pv_ld ty_36 rfl hx4) <| mva (vu x4) rfl <| mva (vb true) rfl (ops_nil ?_)
 refine WX_ret ?_
 exact fin_of [vu x4, vb true] rfl ⟨rfl, ⟨rfl, trivial⟩⟩ h
def sh_f15 (a0 : Option Addr) (a1 : Int) (Q : QW) (w0 : World) : Prop :=
  nc a0 fun b1 o1 => ld tMap w0 b1 (o1 + 1) fun x1 => lkp t_tree_node w0 x1 a1 fun x2 => al t_tree_node 109 w0 (⟨0, 0, 0⟩ : G_tree_node) fun b2 w1 => st t_tree_node w1 b2 0 (x2.getD (⟨0, 0, 0⟩ : G_tree_node)) fun w2 => Q (.bool x2.isSome) w2
theorem so_f15 {a0 : Option Addr} {a1 : Int} (Q : QW) (w0 : World) (h : sh_f15 a0 a1 Q w0) : CallsR PP n_f15 #[.pointer a0, .int .u64 a1] Q w0 := by
 refine callsR_of_WX (args := [.pointer a0, vu a1]) Try.func15 rfl Try.ntmps15 nl ?_
 obtain ⟨b1, o1, hp1, h⟩ := h
 refine WX_seq (WX_region ?_)
 refine mva (vb false) rfl (ops_nil ?_)
 refine WX_seq (WX_region ?_)
 refine mv (.pointer a0) rfl <| op_v (pv_nilh rfl hp1) <| op_v (pv_fld fo_113_1 rfl) ?_
 obtain ⟨x1, hx1, h⟩ := h
 refine op_v (pv_ld ty_111 rfl hx1) <| mv (vu a1) rfl ?_
 obtain ⟨es1, hm1, h⟩ := h
 obtain ⟨x2, hq1⟩ : ∃ x, mget es1 a1 = x := ⟨_, rfl⟩
 replace h := hq1 ▸ h
 refine op_v (pv_lookupOkE (T := t_tree_node) mu_111 tz_109 rfl rfl hm1 hq1) ?_
 refine mv (.tuple #[t_tree_node.val (x2.getD (⟨0, 0, 0⟩ : G_tree_node)), vb x2.isSome]) rfl ?_
 refine op_v (pv_extract (vs := [t_tree_node.val (x2.getD (⟨0, 0, 0⟩ : G_tree_node)), vb x2.isSome]) (v := t_tree_node.val (x2.getD (⟨0, 0, 0⟩ : G_tree_node))) rfl rfl) ?_
 refine op_v (pv_extract (vs := [t_tree_node.val (x2.getD (⟨0, 0, 0⟩ : G_tree_node)), vb x2.isSome]) (v := vb x2.isSome) rfl rfl) ?_
 refine op_w (pw_alloc ty_109 tz_109 ?_)
 intro b2 w1 hw1 hw2
 replace h := h b2 w1 hw1 hw2
 refine op_w (pw_st (x := (x2.getD (⟨0, 0, 0⟩ : G_tree_node))) ty_109 rfl rfl h.1 ?_)
 intro w2 hw3
 replace h := h.2 w2 hw3
 refine mva (vb x2.isSome) rfl (ops_nil ?_)
 refine WX_seq (WX_region ?_)
 refine mv (vb x2.isSome) rfl <| mva (vb x2.isSome) rfl (ops_nil ?_)
 refine WX_ret ?_
 exact fin_of [vb x2.isSome] rfl ⟨rfl, trivial⟩ h
def sh_f16 (a0 : Option Addr) (Q : QW) (w0 : World) : Prop :=
  nc a0 fun b1 o1 => ld tU64 w0 b1 (o1 + 0) fun x1 => Q (.int .u64 x1) w0
theorem so_f16 {a0 : Option Addr} (Q : QW) (w0 : World) (h : sh_f16 a0 Q w0) : CallsR PP n_f16 #[.pointer a0] Q w0 := by
 refine callsR_of_WX (args := [.pointer a0]) Try.func16 rfl Try.ntmps16 nl ?_
 obtain ⟨b1, o1, hp1, h⟩ := h
 refine WX_seq (WX_region ?_)
 refine mva (vu 0) rfl (ops_nil ?_)
 refine WX_seq (WX_region ?_)
 refine mv (.pointer a0) rfl <| op_v (pv_nilh rfl hp1) <| op_v (pv_fld fo_113_0 rfl) ?_
 obtain ⟨x1, hx1, h⟩ := h
 refine op_v (pv_ld ty_36 rfl hx1) <| mva (vu x1) rfl (ops_nil ?_)
 refine WX_ret ?_
 exact fin_of [vu x1] rfl ⟨rfl, trivial⟩ h
def sh_f17_j1 (Q : QW) (x6 : Bool) (w5 : World) : Prop :=
  Q (.bool x6) w5
def sh_f17 (a0 : Option Addr) (a1 : Int) (a2 : Int) (Q : QW) (w0 : World) : Prop :=
  nc a0 fun b1 o1 => ld tMap w0 b1 (o1 + 1) fun x1 => lkp t_tree_node w0 x1 a2 fun x2 => al t_tree_node 109 w0 (⟨0, 0, 0⟩ : G_tree_node) fun b2 w1 => st t_tree_node w1 b2 0 (x2.getD (⟨0, 0, 0⟩ : G_tree_node)) fun w2 => br x2.isSome (CallsR PP n_f15 #[.pointer a0, .int .u64 a1] (fun v1 w3 => ∃ x3 : Bool, v1 = .bool x3 /\ (br x3 (ld tI64 w3 b2 1 fun x4 => CallsR PP n_f20 #[.pointer a0, .int .u64 a1, .int .i64 x4] (fun v2 w4 => ∃ x5 : Int, v2 = .int .u64 x5 /\ ((sh_f17_j1 Q (x5 == a2) w4))) w3) ((sh_f17_j1 Q false w3)))) w2) ((sh_f17_j1 Q false w2))
theorem so_f17 {a0 : Option Addr} {a1 : Int} {a2 : Int} (Q : QW) (w0 : World) (h : sh_f17 a0 a1 a2 Q w0) : CallsR PP n_f17 #[.pointer a0, .int .u64 a1, .int .u64 a2] Q w0 := by
 refine callsR_of_WX (args := [.pointer a0, vu a1, vu a2]) Try.func17 rfl Try.ntmps17 nl ?_
 obtain ⟨b1, o1, hp1, h⟩ := h
 refine WX_seq (WX_region ?_)
 refine mva (vb false) rfl (ops_nil ?_)
 refine WX_seq (WX_region ?_)
 refine mv (.pointer a0) rfl <| op_v (pv_nilh rfl hp1) <| op_v (pv_fld fo_113_1 rfl) ?_
 obtain ⟨x1, hx1, h⟩ := h
 refine op_v (pv_ld ty_111 rfl hx1) <| mv (vu a2) rfl ?_
 obtain ⟨es1, hm1, h⟩ := h
 obtain ⟨x2, hq1⟩ : ∃ x, mget es1 a2 = x := ⟨_, rfl⟩
 replace h := hq1 ▸ h
 refine op_v (pv_lookupOkE (T := t_tree_node) mu_111 tz_109 rfl rfl hm1 hq1) ?_
 refine mv (.tuple #[t_tree_node.val (x2.getD (⟨0, 0, 0⟩ : G_tree_node)), vb x2.isSome]) rfl ?_
 refine op_v (pv_extract (vs := [t_tree_node.val (x2.getD (⟨0, 0, 0⟩ : G_tree_node)), vb x2.isSome]) (v := t_tree_node.val (x2.getD (⟨0, 0, 0⟩ : G_tree_node))) rfl rfl) ?_
 refine op_v (pv_extract (vs := [t_tree_node.val (x2.getD (⟨0, 0, 0⟩ : G_tree_node)), vb x2.isSome]) (v := vb x2.isSome) rfl rfl) ?_
 refine op_w (pw_alloc ty_109 tz_109 ?_)
 intro b2 w1 hw1 hw2
 replace h := h b2 w1 hw1 hw2
 refine op_w (pw_st (x := (x2.getD (⟨0, 0, 0⟩ : G_tree_node))) ty_109 rfl rfl h.1 ?_)
 intro w2 hw3
 replace h := h.2 w2 hw3
 refine mva (vb x2.isSome) rfl (ops_nil ?_)
 refine WX_join (fun f w5 => ∃ x6 : Bool, Agree f [(6, vb x6)] /\ sh_f17_j1 Q x6 w5) ?_ ?_
 refine WX_region ?_
 refine mv (vb x2.isSome) rfl <| mv (vb x2.isSome) rfl <| ops_split 19 (b := x2.isSome) rfl (fun hb1 => ?_) (fun hb1 => ?_)
 have h := h.1 hb1
 refine opg_v (pv_move (v := .pointer a0) rfl) <| opg_v (pv_move (v := vu a1) rfl) <| opg_w (pw_call co_15 rfl (CallsR.mono h ?_))
 rintro v1 w3 ⟨x3, rfl, h⟩
 refine op_v (pv_pick (b := true) (v := vb x3) rfl rfl) <| mv (vb x3) rfl <| ops_split 24 (b := x3) rfl (fun hb2 => ?_) (fun hb2 => ?_)
 have h := h.1 hb2
 refine opg_v (pv_move (v := .pointer a0) rfl) <| opg_v (pv_move (v := vu a1) rfl) <| opg_v (pv_fld fo_109_1 rfl) ?_
 obtain ⟨x4, hx4, h⟩ := h
 refine opg_v (pv_ld ty_3 rfl hx4) <| opg_w (pw_call co_20 rfl (CallsR.mono h ?_))
 rintro v2 w4 ⟨x5, rfl, h⟩
 refine opg_v (pv_move (v := vu a2) rfl) <| opg_v (pv_cmp (v := (x5 == a2)) rfl rfl rfl rfl) <| op_v (pv_pick (b := true) (v := vb (x5 == a2)) rfl rfl) ?_
 refine mva (vb (x5 == a2)) rfl (ops_nil ?_)
 exact ⟨(x5 == a2), ⟨rfl, trivial⟩, h⟩
 have h := h.2 hb2
 iterate 7 refine opg_no ?_
 refine op_v (pv_pick (b := false) (v := vb false) rfl rfl) <| mva (vb false) rfl (ops_nil ?_)
 exact ⟨false, ⟨rfl, trivial⟩, h⟩
 have h := h.2 hb1
 iterate 3 refine opg_no ?_
 refine op_v (pv_pick (b := false) (v := vb false) rfl rfl) <| mv (vb false) rfl ?_
 iterate 7 refine opg_no ?_
 refine op_v (pv_pick (b := false) (v := vb false) rfl rfl) <| mva (vb false) rfl (ops_nil ?_)
 exact ⟨false, ⟨rfl, trivial⟩, h⟩
 rintro f w5 ⟨x6, ha, h⟩
 obtain ⟨g1, rfl⟩ := canon ha
 refine WX_ret ?_
 exact fin_of [vb x6] rfl ⟨rfl, trivial⟩ h
def sh_f18_j1 (Q : QW) (b2 : Nat) (w12 : World) : Prop :=
  ld t_ledger_State w12 b2 0 fun x6 => Q (t_ledger_State.val x6) w12
def sh_f18 (a0 : G_api_Config) (a1 : Int) (Q : QW) (w0 : World) : Prop :=
  al t_api_Config 26 w0 a0 fun b1 w1 => al t_ledger_State 78 w1 (⟨(⟨(⟨false, false, false, false⟩ : G_Arr4_bool), (⟨0, 0⟩ : G_api_Point), (⟨0, 0⟩ : G_api_Point), (⟨0, 0⟩ : G_api_Point)⟩ : G_justify_State), 0, nilSl, nilSl⟩ : G_ledger_State) fun b2 w2 => al t_api_Point 38 w2 (⟨0, 0⟩ : G_api_Point) fun b3 w3 => st t_api_Point w3 b3 0 (⟨0, a1⟩ : G_api_Point) fun w4 => dw w4 fun w5 => ld t_api_Point w5 b3 0 fun x1 => ld t_api_Point w5 b3 0 fun x2 => ld t_api_Point w5 b3 0 fun x3 => ld tSl w5 b1 0 fun x4 => ld tSl w5 b1 0 fun x5 => ((mks 4 ((tBool.val false).cells) 1 1 w5 (x4.len : Int) fun b4 w6 => chk t_api_Point w6 b3 0 x1 <| chk t_api_Point w6 b3 0 x2 <| chk t_api_Point w6 b3 0 x3 <| chk tSl w6 b1 0 x5 <| mks 4 ((tBool.val false).cells) 1 1 w6 (x5.len : Int) fun b5 w7 => chk t_api_Point w7 b3 0 x1 <| chk t_api_Point w7 b3 0 x2 <| chk t_api_Point w7 b3 0 x3 <| st t_ledger_State w7 b2 0 (⟨(⟨(⟨false, false, false, false⟩ : G_Arr4_bool), x1, x2, x3⟩ : G_justify_State), 0, (Sl.mk (some ⟨b4, 0, none⟩) ((x4.len : Int)).toNat ((x4.len : Int)).toNat), (Sl.mk (some ⟨b5, 0, none⟩) ((x5.len : Int)).toNat ((x5.len : Int)).toNat)⟩ : G_ledger_State) fun w8 => (sh_f18_j1 Q b2 w8)) /\ (mks 4 ((tBool.val false).cells) 1 1 w5 (x5.len : Int) fun b6 w9 => chk t_api_Point w9 b3 0 x1 <| chk t_api_Point w9 b3 0 x2 <| chk t_api_Point w9 b3 0 x3 <| chk tSl w9 b1 0 x4 <| mks 4 ((tBool.val false).cells) 1 1 w9 (x4.len : Int) fun b7 w10 => chk t_api_Point w10 b3 0 x1 <| chk t_api_Point w10 b3 0 x2 <| chk t_api_Point w10 b3 0 x3 <| st t_ledger_State w10 b2 0 (⟨(⟨(⟨false, false, false, false⟩ : G_Arr4_bool), x1, x2, x3⟩ : G_justify_State), 0, (Sl.mk (some ⟨b7, 0, none⟩) ((x4.len : Int)).toNat ((x4.len : Int)).toNat), (Sl.mk (some ⟨b6, 0, none⟩) ((x5.len : Int)).toNat ((x5.len : Int)).toNat)⟩ : G_ledger_State) fun w11 => (sh_f18_j1 Q b2 w11)))
theorem so_f18 {a0 : G_api_Config} {a1 : Int} (Q : QW) (w0 : World) (h : sh_f18 a0 a1 Q w0) : CallsR PP n_f18 #[t_api_Config.val a0, .int .u64 a1] Q w0 := by
 refine callsR_of_WX (args := [t_api_Config.val a0, vu a1]) Try.func18 rfl Try.ntmps18 nl ?_
 refine WX_seq (WX_region ?_)
 refine op_w (pw_box (v := a0) ty_26 rfl ?_)
 intro b1 w1 hw1 hw2
 replace h := h b1 w1 hw1 hw2
 refine op_w (pw_alloc ty_78 tz_78 ?_)
 intro b2 w2 hw3 hw4
 replace h := h b2 w2 hw3 hw4
 refine ops_nil ?_
 refine WX_seq (WX_region ?_)
 refine mv (vu a1) rfl <| op_v (pv_build (cs := t_api_Point.enc (⟨0, a1⟩ : G_api_Point)) (vs := [(1, vu a1)]) rfl (by kernel_rfl)) ?_
 refine op_w (pw_alloc ty_38 tz_38 ?_)
 intro b3 w3 hw5 hw6
 replace h := h b3 w3 hw5 hw6
 refine op_w (pw_st (x := (⟨0, a1⟩ : G_api_Point)) ty_38 rfl rfl h.1 ?_)
 intro w4 hw7
 replace h := h.2 w4 hw7
 refine ops_nil ?_
 refine WX_join (fun f w12 => Agree f [(4, vp b2 0)] /\ sh_f18_j1 Q b2 w12) ?_ ?_
 obtain ⟨w5, hw8, h⟩ := dwe h
 obtain ⟨x1, hx1, x2, hx2, x3, hx3, x4, hx4, x5, hx5, h⟩ := h
 refine WX_dr [7,11,13] [3,4,6,8,10,12] [⟨[],[3,4,6,8,10],[0,1,2,5,9],[(7,[7],1),(11,[11],4)]⟩,⟨[7],[],[0,1,2,9],[(11,[11,12],2)]⟩,⟨[11,7],[12],[0,1,2],[(13,[13],3)]⟩,⟨[13,11,7],[],[],[]⟩,⟨[11],[],[0,1,2,5],[(7,[7,12],5)]⟩,⟨[7,11],[12],[0,1,2],[(13,[13],6)]⟩,⟨[13,7,11],[],[],[]⟩] [t_api_Point.val x1, t_api_Point.val x2, t_api_Point.val x3, t_justify_State.val (⟨(⟨false, false, false, false⟩ : G_Arr4_bool), x1, x2, x3⟩ : G_justify_State), vp b1 0, .slice x4.a x4.len x4.cap, vi (x4.len : Int), un, vp b1 0, .slice x5.a x5.len x5.cap, vi (x5.len : Int), un, un, un] 4 mixed (by kernel_rfl) hw8 ?_
 refine draw_go rfl (pu rfl (pv_build (cs := t_justify_State.enc (⟨(⟨false, false, false, false⟩ : G_Arr4_bool), x1, x2, x3⟩ : G_justify_State)) (vs := [(1, t_api_Point.val x1), (2, t_api_Point.val x2), (3, t_api_Point.val x3)]) rfl (by kernel_rfl)) (pu rfl (pv_fld fo_26_0 rfl) (pu rfl (pv_lenS (s := x4) is_24 rfl) (pu rfl (pv_fld fo_26_0 rfl) (pu rfl (pv_lenS (s := x5) is_24 rfl) ap0))))) (ro rfl (pv_ld ty_38 rfl hx1) (ro rfl (pv_ld ty_38 rfl hx2) (ro rfl (pv_ld ty_38 rfl hx3) (ro rfl (pv_ld ty_24 rfl hx4) (ro rfl (pv_ld ty_24 rfl hx5) ao0))))) rfl ?_
 refine ch_yes rfl rfl ?_ (ch_yes rfl rfl ?_ ch0)
 replace h := h.1
 refine pw_makeSlice eo_76 tz_4 rfl rfl h.1 h.2.1 ?_
 intro b4 w6 hw9 hw10
 replace h := h.2.2 b4 w6 hw9 hw10
 obtain ⟨hc1, hc2, hc3, hc4, h⟩ := h
 refine nx [] rfl nl rfl ?_
 refine draw_go rfl ap0 (ro rfl (pv_ld ty_38 rfl hc1) (ro rfl (pv_ld ty_38 rfl hc2) (ro rfl (pv_ld ty_38 rfl hc3) (ro rfl (pv_ld ty_24 rfl hc4) ao0)))) rfl ?_
 refine cy rfl rfl ?_
 refine pw_makeSlice eo_76 tz_4 rfl rfl h.1 h.2.1 ?_
 intro b5 w7 hw11 hw12
 replace h := h.2.2 b5 w7 hw11 hw12
 obtain ⟨hc5, hc6, hc7, h⟩ := h
 refine nx [t_ledger_State.val (⟨(⟨(⟨false, false, false, false⟩ : G_Arr4_bool), x1, x2, x3⟩ : G_justify_State), 0, (Sl.mk (some ⟨b4, 0, none⟩) ((x4.len : Int)).toNat ((x4.len : Int)).toNat), (Sl.mk (some ⟨b5, 0, none⟩) ((x5.len : Int)).toNat ((x5.len : Int)).toNat)⟩ : G_ledger_State)] rfl nl rfl ?_
 dsimp only [putV, List.set]
 refine draw_go rfl (pu rfl (pv_build (cs := t_ledger_State.enc (⟨(⟨(⟨false, false, false, false⟩ : G_Arr4_bool), x1, x2, x3⟩ : G_justify_State), 0, (Sl.mk (some ⟨b4, 0, none⟩) ((x4.len : Int)).toNat ((x4.len : Int)).toNat), (Sl.mk (some ⟨b5, 0, none⟩) ((x5.len : Int)).toNat ((x5.len : Int)).toNat)⟩ : G_ledger_State)) (vs := [(0, t_justify_State.val (⟨(⟨false, false, false, false⟩ : G_Arr4_bool), x1, x2, x3⟩ : G_justify_State)), (1, vi 0), (2, .slice (some ⟨b4, 0, none⟩) ((x4.len : Int)).toNat ((x4.len : Int)).toNat), (3, .slice (some ⟨b5, 0, none⟩) ((x5.len : Int)).toNat ((x5.len : Int)).toNat)]) rfl (by kernel_rfl)) ap0) (ro rfl (pv_ld ty_38 rfl hc5) (ro rfl (pv_ld ty_38 rfl hc6) (ro rfl (pv_ld ty_38 rfl hc7) ao0))) rfl ?_
 refine cy rfl rfl ?_
 refine pw_st (x := (⟨(⟨(⟨false, false, false, false⟩ : G_Arr4_bool), x1, x2, x3⟩ : G_justify_State), 0, (Sl.mk (some ⟨b4, 0, none⟩) ((x4.len : Int)).toNat ((x4.len : Int)).toNat), (Sl.mk (some ⟨b5, 0, none⟩) ((x5.len : Int)).toNat ((x5.len : Int)).toNat)⟩ : G_ledger_State)) ty_78 rfl rfl h.1 ?_
 intro w8 hw13
 replace h := h.2 w8 hw13
 refine nx [] rfl nl rfl ?_
 dsimp only [putV, List.set]
 refine draw_end rfl ap0 ao0 ?_
 exact ⟨⟨rfl, trivial⟩, h⟩
 replace h := h.2
 refine pw_makeSlice eo_76 tz_4 rfl rfl h.1 h.2.1 ?_
 intro b6 w9 hw14 hw15
 replace h := h.2.2 b6 w9 hw14 hw15
 obtain ⟨hc8, hc9, hc10, hc11, h⟩ := h
 refine nx [] rfl nl rfl ?_
 refine draw_go rfl ap0 (ro rfl (pv_ld ty_38 rfl hc8) (ro rfl (pv_ld ty_38 rfl hc9) (ro rfl (pv_ld ty_38 rfl hc10) (ro rfl (pv_ld ty_24 rfl hc11) ao0)))) rfl ?_
 refine cy rfl rfl ?_
 refine pw_makeSlice eo_76 tz_4 rfl rfl h.1 h.2.1 ?_
 intro b7 w10 hw16 hw17
 replace h := h.2.2 b7 w10 hw16 hw17
 obtain ⟨hc12, hc13, hc14, h⟩ := h
 refine nx [t_ledger_State.val (⟨(⟨(⟨false, false, false, false⟩ : G_Arr4_bool), x1, x2, x3⟩ : G_justify_State), 0, (Sl.mk (some ⟨b7, 0, none⟩) ((x4.len : Int)).toNat ((x4.len : Int)).toNat), (Sl.mk (some ⟨b6, 0, none⟩) ((x5.len : Int)).toNat ((x5.len : Int)).toNat)⟩ : G_ledger_State)] rfl nl rfl ?_
 dsimp only [putV, List.set]
 refine draw_go rfl (pu rfl (pv_build (cs := t_ledger_State.enc (⟨(⟨(⟨false, false, false, false⟩ : G_Arr4_bool), x1, x2, x3⟩ : G_justify_State), 0, (Sl.mk (some ⟨b7, 0, none⟩) ((x4.len : Int)).toNat ((x4.len : Int)).toNat), (Sl.mk (some ⟨b6, 0, none⟩) ((x5.len : Int)).toNat ((x5.len : Int)).toNat)⟩ : G_ledger_State)) (vs := [(0, t_justify_State.val (⟨(⟨false, false, false, false⟩ : G_Arr4_bool), x1, x2, x3⟩ : G_justify_State)), (1, vi 0), (2, .slice (some ⟨b7, 0, none⟩) ((x4.len : Int)).toNat ((x4.len : Int)).toNat), (3, .slice (some ⟨b6, 0, none⟩) ((x5.len : Int)).toNat ((x5.len : Int)).toNat)]) rfl (by kernel_rfl)) ap0) (ro rfl (pv_ld ty_38 rfl hc12) (ro rfl (pv_ld ty_38 rfl hc13) (ro rfl (pv_ld ty_38 rfl hc14) ao0))) rfl ?_
 refine cy rfl rfl ?_
 refine pw_st (x := (⟨(⟨(⟨false, false, false, false⟩ : G_Arr4_bool), x1, x2, x3⟩ : G_justify_State), 0, (Sl.mk (some ⟨b7, 0, none⟩) ((x4.len : Int)).toNat ((x4.len : Int)).toNat), (Sl.mk (some ⟨b6, 0, none⟩) ((x5.len : Int)).toNat ((x5.len : Int)).toNat)⟩ : G_ledger_State)) ty_78 rfl rfl h.1 ?_
 intro w11 hw18
 replace h := h.2 w11 hw18
 refine nx [] rfl nl rfl ?_
 dsimp only [putV, List.set]
 refine draw_end rfl ap0 ao0 ?_
 exact ⟨⟨rfl, trivial⟩, h⟩
 rintro f w12 ⟨ha, h⟩
 obtain ⟨g1, rfl⟩ := canon ha
 refine WX_ret ?_
 obtain ⟨x6, hx6, h⟩ := h
 exact fin_of [t_ledger_State.val x6] rfl ⟨⟨_, _, rfl, run_loadVar ty_78 hx6⟩, trivial⟩ h
end Go.Proofs.Ytdefmgkicdhmkaa
namespace Go.Proofs.Ytdefmgkicdhmkaa
open Go Go.Sx
set_option linter.unusedVariables false
set_option maxRecDepth 100000
set_option maxHeartbeats 2000000
def sh_f20_j3 (Q : QW) (x2 : Option G_tree_node) (x10 : Int) (w6 : World) : Prop :=
  br (!x2.isSome) (Q (.int .u64 0) w6) (Q (.int .u64 x10) w6)
def sh_f20_j2 (Q : QW) (b1 : Nat) (o1 : Nat) (x2 : Option G_tree_node) (b2 : Nat) (x3 : Int) (nxt1 : Int -> World -> Prop) (x6 : Bool) (w4 : World) : Prop :=
  br x6 (ld tU64 w4 b2 0 fun x7 => ld tMap w4 b1 (o1 + 1) fun x8 => lkp t_tree_node w4 x8 x7 fun x9 => st t_tree_node w4 b2 0 (x9.getD (⟨0, 0, 0⟩ : G_tree_node)) fun w5 => nxt1 x7 w5) ((sh_f20_j3 Q x2 x3 w4))
def sh_f20_b1 (a2 : Int) (Q : QW) (b1 : Nat) (o1 : Nat) (x2 : Option G_tree_node) (b2 : Nat) (x3 : Int) (w3 : World) (nxt1 : Int -> World -> Prop) : Prop :=
  br x2.isSome (ld tU64 w3 b1 (o1 + 0) fun x4 => br (x3 != x4) (ld tI64 w3 b2 1 fun x5 => (sh_f20_j2 Q b1 o1 x2 b2 x3 nxt1 (decide (x5 > a2)) w3)) ((sh_f20_j2 Q b1 o1 x2 b2 x3 nxt1 false w3))) ((sh_f20_j2 Q b1 o1 x2 b2 x3 nxt1 false w3))
def sh_f20 (a0 : Option Addr) (a1 : Int) (a2 : Int) (Q : QW) (w0 : World) : Prop :=
  nc a0 fun b1 o1 => ld tMap w0 b1 (o1 + 1) fun x1 => lkp t_tree_node w0 x1 a1 fun x2 => al t_tree_node 109 w0 (⟨0, 0, 0⟩ : G_tree_node) fun b2 w1 => st t_tree_node w1 b2 0 (x2.getD (⟨0, 0, 0⟩ : G_tree_node)) fun w2 => (∃ I1 : Nat -> Int -> World -> Prop, (∃ m, I1 m a1 w2) /\ ∀ m x3 w3, I1 m x3 w3 -> sh_f20_b1 a2 Q b1 o1 x2 b2 x3 w3 (fun y0 w => ∃ m2, m2 < m /\ I1 m2 y0 w))
theorem so_f20 {a0 : Option Addr} {a1 : Int} {a2 : Int} (Q : QW) (w0 : World) (h : sh_f20 a0 a1 a2 Q w0) : CallsR PP n_f20 #[.pointer a0, .int .u64 a1, .int .i64 a2] Q w0 := by
 refine callsR_of_WX (args := [.pointer a0, vu a1, vi a2]) Try.func20 rfl Try.ntmps20 nl ?_
 obtain ⟨b1, o1, hp1, h⟩ := h
 refine WX_seq (WX_region ?_)
 refine mva (vu 0) rfl (ops_nil ?_)
 refine WX_seq (WX_region ?_)
 refine mv (.pointer a0) rfl <| op_v (pv_nilh rfl hp1) <| op_v (pv_fld fo_113_1 rfl) ?_
 obtain ⟨x1, hx1, h⟩ := h
 refine op_v (pv_ld ty_111 rfl hx1) <| mv (vu a1) rfl ?_
 obtain ⟨es1, hm1, h⟩ := h
 obtain ⟨x2, hq1⟩ : ∃ x, mget es1 a1 = x := ⟨_, rfl⟩
 replace h := hq1 ▸ h
 refine op_v (pv_lookupOkE (T := t_tree_node) mu_111 tz_109 rfl rfl hm1 hq1) ?_
 refine mv (.tuple #[t_tree_node.val (x2.getD (⟨0, 0, 0⟩ : G_tree_node)), vb x2.isSome]) rfl ?_
 refine op_v (pv_extract (vs := [t_tree_node.val (x2.getD (⟨0, 0, 0⟩ : G_tree_node)), vb x2.isSome]) (v := t_tree_node.val (x2.getD (⟨0, 0, 0⟩ : G_tree_node))) rfl rfl) ?_
 refine op_v (pv_extract (vs := [t_tree_node.val (x2.getD (⟨0, 0, 0⟩ : G_tree_node)), vb x2.isSome]) (v := vb x2.isSome) rfl rfl) ?_
 refine op_w (pw_alloc ty_109 tz_109 ?_)
 intro b2 w1 hw1 hw2
 replace h := h b2 w1 hw1 hw2
 refine op_w (pw_st (x := (x2.getD (⟨0, 0, 0⟩ : G_tree_node))) ty_109 rfl rfl h.1 ?_)
 intro w2 hw3
 replace h := h.2 w2 hw3
 refine mva (vb x2.isSome) rfl (ops_nil ?_)
 refine WX_join (fun f w6 => ∃ x10 : Int, Agree f [(1, vu x10), (8, vb x2.isSome)] /\ sh_f20_j3 Q x2 x10 w6) ?_ ?_
 refine WX_block ?_
 obtain ⟨I1, ⟨m, h0⟩, hB1⟩ := h
 refine WX_loop (fun m f w3 => ∃ x3 : Int, Agree f [(0, .pointer a0), (1, vu x3), (2, vi a2), (7, vp b2 0), (8, vb x2.isSome)] /\ I1 m x3 w3) ⟨m, a1, ⟨rfl, rfl, rfl, rfl, rfl, trivial⟩, h0⟩ ?_
 clear h0 m
 rintro m f w3 ⟨x3, ha, h⟩
 obtain ⟨g2, rfl⟩ := canon ha
 replace h := hB1 m x3 w3 h
 clear hB1
 generalize hn_nxt1 : (fun (y0 : Int) (w : World) => ∃ m2, m2 < m /\ I1 m2 y0 w) = nxt1 at h
 refine WX_seq ?_
 refine WX_join (fun f w4 => ∃ x6 : Bool, Agree f [(0, .pointer a0), (1, vu x3), (2, vi a2), (7, vp b2 0), (8, vb x2.isSome), (32, vb x6)] /\ sh_f20_j2 Q b1 o1 x2 b2 x3 nxt1 x6 w4) ?_ ?_
 refine WX_region ?_
 refine mv (vb x2.isSome) rfl <| mv (vb x2.isSome) rfl <| ops_split 19 (b := x2.isSome) rfl (fun hb1 => ?_) (fun hb1 => ?_)
 have h := h.1 hb1
 refine opg_v (pv_move (v := vu x3) rfl) <| opg_v (pv_move (v := .pointer a0) rfl) <| opg_v (pv_nilh rfl hp1) <| opg_v (pv_fld fo_113_0 rfl) ?_
 obtain ⟨x4, hx4, h⟩ := h
 refine opg_v (pv_ld ty_36 rfl hx4) <| opg_v (pv_cmp (v := (x3 != x4)) rfl rfl rfl rfl) <| op_v (pv_pick (b := true) (v := vb (x3 != x4)) rfl rfl) ?_
 refine mv (vb (x3 != x4)) rfl <| ops_split 27 (b := (x3 != x4)) rfl (fun hb2 => ?_) (fun hb2 => ?_)
 have h := h.1 hb2
 refine opg_v (pv_fld fo_109_1 rfl) ?_
 obtain ⟨x5, hx5, h⟩ := h
 refine opg_v (pv_ld ty_3 rfl hx5) <| opg_v (pv_move (v := vi a2) rfl) <| opg_v (pv_cmp (v := decide (x5 > a2)) rfl rfl rfl rfl) ?_
 refine op_v (pv_pick (b := true) (v := vb (decide (x5 > a2))) rfl rfl) (ops_nil ?_)
 exact ⟨decide (x5 > a2), ⟨rfl, rfl, rfl, rfl, rfl, rfl, trivial⟩, h⟩
 have h := h.2 hb2
 iterate 4 refine opg_no ?_
 refine op_v (pv_pick (b := false) (v := vb false) rfl rfl) (ops_nil ?_)
 exact ⟨false, ⟨rfl, rfl, rfl, rfl, rfl, rfl, trivial⟩, h⟩
 have h := h.2 hb1
 iterate 6 refine opg_no ?_
 refine op_v (pv_pick (b := false) (v := vb false) rfl rfl) <| mv (vb false) rfl ?_
 iterate 4 refine opg_no ?_
 refine op_v (pv_pick (b := false) (v := vb false) rfl rfl) (ops_nil ?_)
 exact ⟨false, ⟨rfl, rfl, rfl, rfl, rfl, rfl, trivial⟩, h⟩
 rintro f w4 ⟨x6, ha, h⟩
 obtain ⟨g1, rfl⟩ := canon ha
 refine WX_cond (b := x6) rfl (fun hb3 => ?_) (fun hb3 => ?_)
 have h := h.1 hb3
 refine WX_skip ?_
 refine WX_block ?_
 refine WX_seq (WX_region ?_)
 refine op_v (pv_fld fo_109_0 rfl) ?_
 obtain ⟨x7, hx7, h⟩ := h
 refine op_v (pv_ld ty_36 rfl hx7) <| mva (vu x7) rfl (ops_nil ?_)
 refine WX_region ?_
 refine mv (.pointer a0) rfl <| op_v (pv_nilh rfl hp1) <| op_v (pv_fld fo_113_1 rfl) ?_
 obtain ⟨x8, hx8, h⟩ := h
 refine op_v (pv_ld ty_111 rfl hx8) <| mv (vu x7) rfl ?_
 obtain ⟨es2, hm2, h⟩ := h
 obtain ⟨x9, hq2⟩ : ∃ x, mget es2 x7 = x := ⟨_, rfl⟩
 replace h := hq2 ▸ h
 refine op_v (pv_lookupE (T := t_tree_node) mu_111 tz_109 rfl rfl hm2 hq2) ?_
 refine op_w (pw_st (x := (x9.getD (⟨0, 0, 0⟩ : G_tree_node))) ty_109 rfl rfl h.1 ?_)
 intro w5 hw4
 replace h := h.2 w5 hw4
 refine ops_nil ?_
 subst hn_nxt1
 obtain ⟨m2, hm2, h⟩ := h
 exact ⟨m2, hm2, x7, ⟨rfl, rfl, rfl, rfl, rfl, trivial⟩, h⟩
 have h := h.2 hb3
 refine WX_exit0 ?_
 exact ⟨x3, ⟨rfl, rfl, trivial⟩, h⟩
 rintro f w6 ⟨x10, ha, h⟩
 obtain ⟨g3, rfl⟩ := canon ha
 refine WX_seq ?_
 refine WX_seq (WX_region ?_)
 refine mv (vb x2.isSome) rfl <| op_v (pv_not rfl) (ops_nil ?_)
 refine WX_cond (b := (!x2.isSome)) rfl (fun hb4 => ?_) (fun hb4 => ?_)
 have h := h.1 hb4
 refine WX_seq (WX_region ?_)
 refine mva (vu 0) rfl (ops_nil ?_)
 refine WX_ret ?_
 exact fin_of [vu 0] rfl ⟨rfl, trivial⟩ h
 have h := h.2 hb4
 refine WX_skip <| WX_seq (WX_region ?_)
 refine mv (vu x10) rfl <| mva (vu x10) rfl (ops_nil ?_)
 refine WX_ret ?_
 exact fin_of [vu x10] rfl ⟨rfl, trivial⟩ h
def sh_f21_j2 (x5 : Int) (nxt1 : Int -> World -> Prop) (w18 : World) : Prop :=
  nxt1 (IntKind.i64.wrap (x5 + 1)) w18
def sh_f21_j3 (Q : QW) (b2 : Nat) (b3 : Nat) (w19 : World) : Prop :=
  ld t_ledger_State w19 b2 0 fun x16 => st t_ledger_State w19 b3 0 x16 fun w20 => ld t_ledger_State w20 b3 0 fun x17 => Q (t_ledger_State.val x17) w20
def sh_f21_b1 (a3 : Fv) (Q : QW) (b1 : Nat) (b2 : Nat) (b3 : Nat) (x4 : Sl) (x5 : Int) (w5 : World) (nxt1 : Int -> World -> Prop) : Prop :=
  br (decide (x5 < (x4.len : Int))) (ixs x4 x5 fun b4 o1 => ld tI64 w5 b4 (o1 + (x5).toNat * 1) fun x6 => dw w5 fun w6 => ld t_api_Config w6 b1 0 fun x7 => ld t_ledger_State w6 b2 0 fun x8 => ld tSl w6 b2 12 fun x9 => ld tSl w6 b1 0 fun x10 => ((CallsR PP n_f26 #[t_api_Config.val x7, t_ledger_State.val x8, a3.v] (fun v2 w7 => ∃ x11 : G_justify_State, v2 = t_justify_State.val x11 /\ (chk tSl w7 b2 12 x9 <| chk tSl w7 b1 0 x10 <| ((app 4 1 1 w7 nilSl x9 fun x12 w8 => chk tSl w8 b1 0 x10 <| mks 4 ((tBool.val false).cells) 1 1 w8 (x10.len : Int) fun b5 w9 => st t_ledger_State w9 b2 0 (⟨x11, (IntKind.i64.wrap (x6 + 1)), x12, (Sl.mk (some ⟨b5, 0, none⟩) ((x10.len : Int)).toNat ((x10.len : Int)).toNat)⟩ : G_ledger_State) fun w10 => (sh_f21_j2 x5 nxt1 w10)) /\ (mks 4 ((tBool.val false).cells) 1 1 w7 (x10.len : Int) fun b6 w11 => chk tSl w11 b2 12 x9 <| app 4 1 1 w11 nilSl x9 fun x13 w12 => st t_ledger_State w12 b2 0 (⟨x11, (IntKind.i64.wrap (x6 + 1)), x13, (Sl.mk (some ⟨b6, 0, none⟩) ((x10.len : Int)).toNat ((x10.len : Int)).toNat)⟩ : G_ledger_State) fun w13 => (sh_f21_j2 x5 nxt1 w13))))) w6) /\ (mks 4 ((tBool.val false).cells) 1 1 w6 (x10.len : Int) fun b7 w14 => chk t_api_Config w14 b1 0 x7 <| chk t_ledger_State w14 b2 0 x8 <| chk tSl w14 b2 12 x9 <| CallsR PP n_f26 #[t_api_Config.val x7, t_ledger_State.val x8, a3.v] (fun v3 w15 => ∃ x14 : G_justify_State, v3 = t_justify_State.val x14 /\ (chk tSl w15 b2 12 x9 <| app 4 1 1 w15 nilSl x9 fun x15 w16 => st t_ledger_State w16 b2 0 (⟨x14, (IntKind.i64.wrap (x6 + 1)), x15, (Sl.mk (some ⟨b7, 0, none⟩) ((x10.len : Int)).toNat ((x10.len : Int)).toNat)⟩ : G_ledger_State) fun w17 => (sh_f21_j2 x5 nxt1 w17))) w14))) ((sh_f21_j3 Q b2 b3 w5))
def sh_f21 (a0 : G_api_Config) (a1 : G_ledger_State) (a2 : Int) (a3 : Fv) (Q : QW) (w0 : World) : Prop :=
  al t_api_Config 26 w0 a0 fun b1 w1 => al t_ledger_State 78 w1 a1 fun b2 w2 => al t_ledger_State 78 w2 (⟨(⟨(⟨false, false, false, false⟩ : G_Arr4_bool), (⟨0, 0⟩ : G_api_Point), (⟨0, 0⟩ : G_api_Point), (⟨0, 0⟩ : G_api_Point)⟩ : G_justify_State), 0, nilSl, nilSl⟩ : G_ledger_State) fun b3 w3 => ld tI64 w3 b2 10 fun x1 => ld tI64 w3 b1 1 fun x2 => ld tI64 w3 b1 1 fun x3 => CallsR PP n_f39 #[.int .i64 (IntKind.i64.wrap (x1 * (if x2 > 1 then x2 else 1))), .int .i64 a2, .int .i64 x3] (fun v1 w4 => ∃ x4 : Sl, v1 = .slice x4.a x4.len x4.cap /\ ((∃ I1 : Nat -> Int -> World -> Prop, (∃ m, I1 m 0 w4) /\ ∀ m x5 w5, I1 m x5 w5 -> sh_f21_b1 a3 Q b1 b2 b3 x4 x5 w5 (fun y0 w => ∃ m2, m2 < m /\ I1 m2 y0 w)))) w3
theorem so_f21 {a0 : G_api_Config} {a1 : G_ledger_State} {a2 : Int} {a3 : Fv} (Q : QW) (w0 : World) (h : sh_f21 a0 a1 a2 a3 Q w0) : CallsR PP n_f21 #[t_api_Config.val a0, t_ledger_State.val a1, .int .i64 a2, a3.v] Q w0 := by
 refine callsR_of_WX (args := [t_api_Config.val a0, t_ledger_State.val a1, vi a2, a3.v]) Try.func21 rfl Try.ntmps21 nl ?_
 refine WX_seq (WX_region ?_)
 refine op_w (pw_box (v := a0) ty_26 rfl ?_)
 intro b1 w1 hw1 hw2
 replace h := h b1 w1 hw1 hw2
 refine op_w (pw_box (v := a1) ty_78 rfl ?_)
 intro b2 w2 hw3 hw4
 replace h := h b2 w2 hw3 hw4
 refine op_w (pw_alloc ty_78 tz_78 ?_)
 intro b3 w3 hw5 hw6
 replace h := h b3 w3 hw5 hw6
 refine ops_nil ?_
 refine WX_join (fun f w19 => Agree f [(5, vp b2 0), (8, vp b3 0)] /\ sh_f21_j3 Q b2 b3 w19) ?_ ?_
 refine WX_seq (WX_region ?_)
 refine op_v (pv_fld fo_78_1 rfl) ?_
 obtain ⟨x1, hx1, h⟩ := h
 refine op_v (pv_ld ty_3 rfl hx1) <| op_v (pv_fld fo_26_1 rfl) ?_
 obtain ⟨x2, hx2, h⟩ := h
 refine op_v (pv_ld ty_3 rfl hx2) <| op_v (pv_max rfl rfl) <| op_v (pv_mul rfl rfl) <| mv (vi a2) rfl <| op_v (pv_fld fo_26_1 rfl) ?_
 obtain ⟨x3, hx3, h⟩ := h
 refine op_v (pv_ld ty_3 rfl hx3) <| op_w (pw_call co_39 rfl (CallsR.mono h ?_))
 rintro v1 w4 ⟨x4, rfl, h⟩
 refine op_v (pv_lenS (s := x4) is_51 rfl) <| mv (vi 0) rfl (ops_nil ?_)
 refine WX_block ?_
 obtain ⟨I1, ⟨m, h0⟩, hB1⟩ := h
 refine WX_loop (fun m f w5 => ∃ x5 : Int, Agree f [(3, a3.v), (4, vp b1 0), (5, vp b2 0), (8, vp b3 0), (20, .slice x4.a x4.len x4.cap), (21, vi (x4.len : Int)), (22, vi x5)] /\ I1 m x5 w5) ⟨m, 0, ⟨rfl, rfl, rfl, rfl, rfl, rfl, rfl, trivial⟩, h0⟩ ?_
 clear h0 m
 rintro m f w5 ⟨x5, ha, h⟩
 obtain ⟨g2, rfl⟩ := canon ha
 replace h := hB1 m x5 w5 h
 clear hB1
 generalize hn_nxt1 : (fun (y0 : Int) (w : World) => ∃ m2, m2 < m /\ I1 m2 y0 w) = nxt1 at h
 refine WX_seq (WX_region ?_)
 refine op_v (pv_cmp (v := decide (x5 < (x4.len : Int))) rfl rfl rfl rfl) (ops_nil ?_)
 refine WX_seq ?_
 refine WX_cond (b := decide (x5 < (x4.len : Int))) rfl (fun hb1 => ?_) (fun hb1 => ?_)
 have h := h.1 hb1
 refine WX_skip ?_
 refine WX_join (fun f w18 => Agree f [(3, a3.v), (4, vp b1 0), (5, vp b2 0), (8, vp b3 0), (20, .slice x4.a x4.len x4.cap), (21, vi (x4.len : Int)), (22, vi x5)] /\ sh_f21_j2 x5 nxt1 w18) ?_ ?_
 refine WX_block ?_
 refine WX_seq (WX_region ?_)
 obtain ⟨b4, o1, hi1, hi2, hi3, h⟩ := h
 refine op_v (pv_ix (s := x4) ez_51 rfl rfl hi1 hi2 hi3) ?_
 obtain ⟨x6, hx6, h⟩ := h
 refine op_v (pv_ld ty_3 rfl hx6) <| mva (vi x6) rfl (ops_nil ?_)
 obtain ⟨w6, hw7, h⟩ := dwe h
 obtain ⟨x7, hx7, x8, hx8, x9, hx9, x10, hx10, h⟩ := h
 refine WX_dr [3,8,12,14] [2,4,5,6,9,11,13] [⟨[],[2,4,5,6,9,11],[0,1,7,10],[(3,[3],1),(12,[12],8)]⟩,⟨[3],[],[7,10],[(8,[8],2),(12,[12],5)]⟩,⟨[8,3],[],[10],[(12,[12,13],3)]⟩,⟨[12,8,3],[13],[],[(14,[14],4)]⟩,⟨[14,12,8,3],[],[],[]⟩,⟨[12,3],[],[7],[(8,[8,13],6)]⟩,⟨[8,12,3],[13],[],[(14,[14],7)]⟩,⟨[14,8,12,3],[],[],[]⟩,⟨[12],[],[0,1,7],[(3,[3],9)]⟩,⟨[3,12],[],[7],[(8,[8,13],10)]⟩,⟨[8,3,12],[13],[],[(14,[14],11)]⟩,⟨[14,8,3,12],[],[],[]⟩] [t_api_Config.val x7, t_ledger_State.val x8, a3.v, un, vi x6, vi (IntKind.i64.wrap (x6 + 1)), vp b2 12, .slice x9.a x9.len x9.cap, un, vp b1 0, .slice x10.a x10.len x10.cap, vi (x10.len : Int), un, un, un] 5 mixed (by kernel_rfl) hw7 ?_
 refine draw_go rfl (pu rfl (pv_move rfl) (pu rfl (pv_move rfl) (pu rfl (pv_add rfl rfl) (pu rfl (pv_fld fo_78_3 rfl) (pu rfl (pv_fld fo_26_0 rfl) (pu rfl (pv_lenS (s := x10) is_24 rfl) ap0)))))) (ro rfl (pv_ld ty_26 rfl hx7) (ro rfl (pv_ld ty_78 rfl hx8) (ro rfl (pv_ld ty_76 rfl hx9) (ro rfl (pv_ld ty_24 rfl hx10) ao0)))) rfl ?_
 refine ch_yes rfl rfl ?_ (ch_yes rfl rfl ?_ ch0)
 replace h := h.1
 refine pw_call co_26 rfl (cm h ?_)
 rintro v2 w7 ⟨x11, rfl, h⟩
 obtain ⟨hc1, hc2, h⟩ := h
 refine nx [] rfl nl rfl ?_
 refine draw_go rfl ap0 (ro rfl (pv_ld ty_76 rfl hc1) (ro rfl (pv_ld ty_24 rfl hc2) ao0)) rfl ?_
 refine ch_yes rfl rfl ?_ (ch_yes rfl rfl ?_ ch0)
 replace h := h.1
 obtain ⟨ol1, ne1, ha1, ha2, ha3, ha4, ha5, h⟩ := h
 refine pw_append (s := nilSl) (r := x9) eo_76 is_76 rfl rfl ha1 ha2 ha3 ha4 ha5 ?_
 intro x12 w8 ha6
 replace h := h x12 w8 ha6
 obtain ⟨hc3, h⟩ := h
 refine nx [] rfl nl rfl ?_
 refine draw_go rfl ap0 (ro rfl (pv_ld ty_24 rfl hc3) ao0) rfl ?_
 refine cy rfl rfl ?_
 refine pw_makeSlice eo_76 tz_4 rfl rfl h.1 h.2.1 ?_
 intro b5 w9 hw8 hw9
 replace h := h.2.2 b5 w9 hw8 hw9
 refine nx [t_ledger_State.val (⟨x11, (IntKind.i64.wrap (x6 + 1)), x12, (Sl.mk (some ⟨b5, 0, none⟩) ((x10.len : Int)).toNat ((x10.len : Int)).toNat)⟩ : G_ledger_State)] rfl nl rfl ?_
 dsimp only [putV, List.set]
 refine draw_go rfl (pu rfl (pv_build (cs := t_ledger_State.enc (⟨x11, (IntKind.i64.wrap (x6 + 1)), x12, (Sl.mk (some ⟨b5, 0, none⟩) ((x10.len : Int)).toNat ((x10.len : Int)).toNat)⟩ : G_ledger_State)) (vs := [(0, t_justify_State.val x11), (1, vi (IntKind.i64.wrap (x6 + 1))), (2, .slice x12.a x12.len x12.cap), (3, .slice (some ⟨b5, 0, none⟩) ((x10.len : Int)).toNat ((x10.len : Int)).toNat)]) rfl (by kernel_rfl)) ap0) ao0 rfl ?_
 refine cy rfl rfl ?_
 refine pw_st (x := (⟨x11, (IntKind.i64.wrap (x6 + 1)), x12, (Sl.mk (some ⟨b5, 0, none⟩) ((x10.len : Int)).toNat ((x10.len : Int)).toNat)⟩ : G_ledger_State)) ty_78 rfl rfl h.1 ?_
 intro w10 hw10
 replace h := h.2 w10 hw10
 refine nx [] rfl nl rfl ?_
 refine draw_end rfl ap0 ao0 ?_
 exact ⟨⟨rfl, rfl, rfl, rfl, rfl, rfl, rfl, trivial⟩, h⟩
 replace h := h.2
 refine pw_makeSlice eo_76 tz_4 rfl rfl h.1 h.2.1 ?_
 intro b6 w11 hw11 hw12
 replace h := h.2.2 b6 w11 hw11 hw12
 obtain ⟨hc4, h⟩ := h
 refine nx [] rfl nl rfl ?_
 refine draw_go rfl ap0 (ro rfl (pv_ld ty_76 rfl hc4) ao0) rfl ?_
 refine cy rfl rfl ?_
 obtain ⟨ol2, ne2, ha7, ha8, ha9, ha10, ha11, h⟩ := h
 refine pw_append (s := nilSl) (r := x9) eo_76 is_76 rfl rfl ha7 ha8 ha9 ha10 ha11 ?_
 intro x13 w12 ha12
 replace h := h x13 w12 ha12
 refine nx [t_ledger_State.val (⟨x11, (IntKind.i64.wrap (x6 + 1)), x13, (Sl.mk (some ⟨b6, 0, none⟩) ((x10.len : Int)).toNat ((x10.len : Int)).toNat)⟩ : G_ledger_State)] rfl nl rfl ?_
 dsimp only [putV, List.set]
 refine draw_go rfl (pu rfl (pv_build (cs := t_ledger_State.enc (⟨x11, (IntKind.i64.wrap (x6 + 1)), x13, (Sl.mk (some ⟨b6, 0, none⟩) ((x10.len : Int)).toNat ((x10.len : Int)).toNat)⟩ : G_ledger_State)) (vs := [(0, t_justify_State.val x11), (1, vi (IntKind.i64.wrap (x6 + 1))), (2, .slice x13.a x13.len x13.cap), (3, .slice (some ⟨b6, 0, none⟩) ((x10.len : Int)).toNat ((x10.len : Int)).toNat)]) rfl (by kernel_rfl)) ap0) ao0 rfl ?_
 refine cy rfl rfl ?_
 refine pw_st (x := (⟨x11, (IntKind.i64.wrap (x6 + 1)), x13, (Sl.mk (some ⟨b6, 0, none⟩) ((x10.len : Int)).toNat ((x10.len : Int)).toNat)⟩ : G_ledger_State)) ty_78 rfl rfl h.1 ?_
 intro w13 hw13
 replace h := h.2 w13 hw13
 refine nx [] rfl nl rfl ?_
 refine draw_end rfl ap0 ao0 ?_
 exact ⟨⟨rfl, rfl, rfl, rfl, rfl, rfl, rfl, trivial⟩, h⟩
 replace h := h.2
 refine pw_makeSlice eo_76 tz_4 rfl rfl h.1 h.2.1 ?_
 intro b7 w14 hw14 hw15
 replace h := h.2.2 b7 w14 hw14 hw15
 obtain ⟨hc5, hc6, hc7, h⟩ := h
 refine nx [] rfl nl rfl ?_
 refine draw_go rfl ap0 (ro rfl (pv_ld ty_26 rfl hc5) (ro rfl (pv_ld ty_78 rfl hc6) (ro rfl (pv_ld ty_76 rfl hc7) ao0))) rfl ?_
 refine cy rfl rfl ?_
 refine pw_call co_26 rfl (cm h ?_)
 rintro v3 w15 ⟨x14, rfl, h⟩
 obtain ⟨hc8, h⟩ := h
 refine nx [] rfl nl rfl ?_
 dsimp only [putV, List.set]
 refine draw_go rfl ap0 (ro rfl (pv_ld ty_76 rfl hc8) ao0) rfl ?_
 refine cy rfl rfl ?_
 obtain ⟨ol3, ne3, ha13, ha14, ha15, ha16, ha17, h⟩ := h
 refine pw_append (s := nilSl) (r := x9) eo_76 is_76 rfl rfl ha13 ha14 ha15 ha16 ha17 ?_
 intro x15 w16 ha18
 replace h := h x15 w16 ha18
 refine nx [t_ledger_State.val (⟨x14, (IntKind.i64.wrap (x6 + 1)), x15, (Sl.mk (some ⟨b7, 0, none⟩) ((x10.len : Int)).toNat ((x10.len : Int)).toNat)⟩ : G_ledger_State)] rfl nl rfl ?_
 dsimp only [putV, List.set]
 refine draw_go rfl (pu rfl (pv_build (cs := t_ledger_State.enc (⟨x14, (IntKind.i64.wrap (x6 + 1)), x15, (Sl.mk (some ⟨b7, 0, none⟩) ((x10.len : Int)).toNat ((x10.len : Int)).toNat)⟩ : G_ledger_State)) (vs := [(0, t_justify_State.val x14), (1, vi (IntKind.i64.wrap (x6 + 1))), (2, .slice x15.a x15.len x15.cap), (3, .slice (some ⟨b7, 0, none⟩) ((x10.len : Int)).toNat ((x10.len : Int)).toNat)]) rfl (by kernel_rfl)) ap0) ao0 rfl ?_
 refine cy rfl rfl ?_
 refine pw_st (x := (⟨x14, (IntKind.i64.wrap (x6 + 1)), x15, (Sl.mk (some ⟨b7, 0, none⟩) ((x10.len : Int)).toNat ((x10.len : Int)).toNat)⟩ : G_ledger_State)) ty_78 rfl rfl h.1 ?_
 intro w17 hw16
 replace h := h.2 w17 hw16
 refine nx [] rfl nl rfl ?_
 refine draw_end rfl ap0 ao0 ?_
 exact ⟨⟨rfl, rfl, rfl, rfl, rfl, rfl, rfl, trivial⟩, h⟩
 rintro f w18 ⟨ha, h⟩
 obtain ⟨g1, rfl⟩ := canon ha
 refine WX_region ?_
 refine op_v (pv_add rfl rfl) <| mv (vi (IntKind.i64.wrap (x5 + 1))) rfl (ops_nil ?_)
 subst hn_nxt1
 obtain ⟨m2, hm2, h⟩ := h
 exact ⟨m2, hm2, (IntKind.i64.wrap (x5 + 1)), ⟨rfl, rfl, rfl, rfl, rfl, rfl, rfl, trivial⟩, h⟩
 have h := h.2 hb1
 refine WX_exit0 ?_
 exact ⟨⟨rfl, rfl, trivial⟩, h⟩
 rintro f w19 ⟨ha, h⟩
 obtain ⟨g3, rfl⟩ := canon ha
 refine WX_seq (WX_region ?_)
 obtain ⟨x16, hx16, h⟩ := h
 refine op_v (pv_ld ty_78 rfl hx16) <| op_w (pw_st (x := x16) ty_78 rfl rfl h.1 ?_)
 intro w20 hw17
 replace h := h.2 w20 hw17
 refine ops_nil ?_
 refine WX_ret ?_
 obtain ⟨x17, hx17, h⟩ := h
 exact fin_of [t_ledger_State.val x17] rfl ⟨⟨_, _, rfl, run_loadVar ty_78 hx17⟩, trivial⟩ h
end Go.Proofs.Ytdefmgkicdhmkaa
namespace Go.Proofs.Ytdefmgkicdhmkaa
open Go Go.Sx
set_option linter.unusedVariables false
set_option maxRecDepth 100000
set_option maxHeartbeats 2000000
def sh_f22_j6 (Q : QW) (b4 : Nat) (b9 : Nat) (o1 : Nat) (w31 : World) : Prop :=
  ld t_ledger_State w31 b9 o1 fun x40 => st t_ledger_State w31 b4 0 x40 fun w32 => ld t_ledger_State w32 b4 0 fun x41 => Q (.tuple #[t_ledger_State.val x41, .bool true]) w32
def sh_f22_b5 (Q : QW) (b4 : Nat) (b9 : Nat) (o1 : Nat) (x36 : Sl) (x37 : Sl) (x38 : Int) (w29 : World) (nxt1 : Int -> World -> Prop) : Prop :=
  br (decide (x38 < (x37.len : Int))) (ixs x37 x38 fun b10 o2 => ld tI64 w29 b10 (o2 + (x38).toNat * 1) fun x39 => ixs x36 x39 fun b11 o3 => st tBool w29 b11 (o3 + (x39).toNat * 1) true fun w30 => nxt1 (IntKind.i64.wrap (x38 + 1)) w30) ((sh_f22_j6 Q b4 b9 o1 w29))
def sh_f22_j4 (Q : QW) (b3 : Nat) (b4 : Nat) (b9 : Nat) (o1 : Nat) (x36 : Sl) (w28 : World) : Prop :=
  ld tSl w28 b3 6 fun x37 => (∃ I1 : Nat -> Int -> World -> Prop, (∃ m, I1 m 0 w28) /\ ∀ m x38 w29, I1 m x38 w29 -> sh_f22_b5 Q b4 b9 o1 x36 x37 x38 w29 (fun y0 w => ∃ m2, m2 < m /\ I1 m2 y0 w))
def sh_f22_j3 (Q : QW) (b3 : Nat) (b4 : Nat) (x1 : Int) (x2 : Int) (b9 : Nat) (o1 : Nat) (w27 : World) : Prop :=
  ld tSl w27 b9 (o1 + 11) fun x34 => br (x1 == x2) (ld tSl w27 b9 (o1 + 12) fun x35 => (sh_f22_j4 Q b3 b4 b9 o1 x35 w27)) ((sh_f22_j4 Q b3 b4 b9 o1 x34 w27))
def sh_f22_j2 (Q : QW) (b2 : Nat) (b3 : Nat) (b4 : Nat) (x1 : Int) (x2 : Int) (x22 : Bool) (w13 : World) : Prop :=
  br x22 (ld t_ledger_State w13 b2 0 fun x23 => st t_ledger_State w13 b4 0 x23 fun w14 => ld t_ledger_State w14 b4 0 fun x24 => Q (.tuple #[t_ledger_State.val x24, .bool false]) w14) (dw w13 fun w15 => ld t_justify_State w15 b2 0 fun x25 => ld tI64 w15 b2 10 fun x26 => ld tSl w15 b2 11 fun x27 => ld tSl w15 b2 12 fun x28 => ((app 4 1 1 w15 nilSl x27 fun x29 w16 => chk t_justify_State w16 b2 0 x25 <| chk tI64 w16 b2 10 x26 <| chk tSl w16 b2 12 x28 <| ((app 4 1 1 w16 nilSl x28 fun x30 w17 => chk t_justify_State w17 b2 0 x25 <| chk tI64 w17 b2 10 x26 <| al t_ledger_State 78 w17 (⟨(⟨(⟨false, false, false, false⟩ : G_Arr4_bool), (⟨0, 0⟩ : G_api_Point), (⟨0, 0⟩ : G_api_Point), (⟨0, 0⟩ : G_api_Point)⟩ : G_justify_State), 0, nilSl, nilSl⟩ : G_ledger_State) fun b6 w18 => chk t_justify_State w18 b2 0 x25 <| chk tI64 w18 b2 10 x26 <| st t_ledger_State w18 b6 0 (⟨x25, x26, x29, x30⟩ : G_ledger_State) fun w19 => (sh_f22_j3 Q b3 b4 x1 x2 b6 0 w19)) /\ (al t_ledger_State 78 w16 (⟨(⟨(⟨false, false, false, false⟩ : G_Arr4_bool), (⟨0, 0⟩ : G_api_Point), (⟨0, 0⟩ : G_api_Point), (⟨0, 0⟩ : G_api_Point)⟩ : G_justify_State), 0, nilSl, nilSl⟩ : G_ledger_State) fun b7 w20 => chk t_justify_State w20 b2 0 x25 <| chk tI64 w20 b2 10 x26 <| chk tSl w20 b2 12 x28 <| app 4 1 1 w20 nilSl x28 fun x31 w21 => chk t_justify_State w21 b2 0 x25 <| chk tI64 w21 b2 10 x26 <| st t_ledger_State w21 b7 0 (⟨x25, x26, x29, x31⟩ : G_ledger_State) fun w22 => (sh_f22_j3 Q b3 b4 x1 x2 b7 0 w22)))) /\ (al t_ledger_State 78 w15 (⟨(⟨(⟨false, false, false, false⟩ : G_Arr4_bool), (⟨0, 0⟩ : G_api_Point), (⟨0, 0⟩ : G_api_Point), (⟨0, 0⟩ : G_api_Point)⟩ : G_justify_State), 0, nilSl, nilSl⟩ : G_ledger_State) fun b8 w23 => chk t_justify_State w23 b2 0 x25 <| chk tI64 w23 b2 10 x26 <| chk tSl w23 b2 11 x27 <| chk tSl w23 b2 12 x28 <| app 4 1 1 w23 nilSl x27 fun x32 w24 => chk t_justify_State w24 b2 0 x25 <| chk tI64 w24 b2 10 x26 <| chk tSl w24 b2 12 x28 <| app 4 1 1 w24 nilSl x28 fun x33 w25 => chk t_justify_State w25 b2 0 x25 <| chk tI64 w25 b2 10 x26 <| st t_ledger_State w25 b8 0 (⟨x25, x26, x32, x33⟩ : G_ledger_State) fun w26 => (sh_f22_j3 Q b3 b4 x1 x2 b8 0 w26))))
def sh_f22_j1 (a3 : Fv) (Q : QW) (b1 : Nat) (b2 : Nat) (b3 : Nat) (b4 : Nat) (x1 : Int) (x2 : Int) (b5 : Nat) (w8 : World) : Prop :=
  dw w8 fun w9 => ld t_api_Config w9 b1 0 fun x5 => ld t_api_Vote w9 b3 0 fun x6 => CallsR PP n_f36 #[t_api_Config.val x5, t_api_Vote.val x6] (fun v1 w10 => ∃ x7 : Bool, v1 = .bool x7 /\ (br (!x7) ((sh_f22_j2 Q b2 b3 b4 x1 x2 true w10)) (br (!(x1 == x2)) (ld tI64 w10 b3 4 fun x8 => ld tI64 w10 b2 10 fun x9 => br ((IntKind.i64.wrap (x8 + 1)) != x9) ((sh_f22_j2 Q b2 b3 b4 x1 x2 true w10)) (ld t_api_Point w10 b3 2 fun x10 => ld t_api_Point w10 b5 0 fun x11 => br (!eq_api_Point x10 x11) ((sh_f22_j2 Q b2 b3 b4 x1 x2 true w10)) (ld t_api_Point w10 b3 4 fun x12 => ld t_api_Config w10 b1 0 fun x13 => ld tI64 w10 b3 4 fun x14 => CallsR PP n_f40 #[t_api_Config.val x13, .int .i64 x14, a3.v] (fun v2 w11 => ∃ x15 : G_api_Point, v2 = t_api_Point.val x15 /\ (chk t_api_Point w11 b3 4 x12 <| (sh_f22_j2 Q b2 b3 b4 x1 x2 (!eq_api_Point x12 x15) w11))) w10))) (ld t_api_Point w10 b3 2 fun x16 => ld t_api_Point w10 b5 0 fun x17 => br (!eq_api_Point x16 x17) ((sh_f22_j2 Q b2 b3 b4 x1 x2 true w10)) (ld t_api_Point w10 b3 4 fun x18 => ld t_api_Config w10 b1 0 fun x19 => ld tI64 w10 b3 4 fun x20 => CallsR PP n_f40 #[t_api_Config.val x19, .int .i64 x20, a3.v] (fun v3 w12 => ∃ x21 : G_api_Point, v3 = t_api_Point.val x21 /\ (chk t_api_Point w12 b3 4 x18 <| (sh_f22_j2 Q b2 b3 b4 x1 x2 (!eq_api_Point x18 x21) w12))) w10))))) w9
def sh_f22 (a0 : G_api_Config) (a1 : G_ledger_State) (a2 : G_api_Vote) (a3 : Fv) (Q : QW) (w0 : World) : Prop :=
  al t_api_Config 26 w0 a0 fun b1 w1 => al t_ledger_State 78 w1 a1 fun b2 w2 => al t_api_Vote 53 w2 a2 fun b3 w3 => al t_ledger_State 78 w3 (⟨(⟨(⟨false, false, false, false⟩ : G_Arr4_bool), (⟨0, 0⟩ : G_api_Point), (⟨0, 0⟩ : G_api_Point), (⟨0, 0⟩ : G_api_Point)⟩ : G_justify_State), 0, nilSl, nilSl⟩ : G_ledger_State) fun b4 w4 => ld tI64 w4 b3 4 fun x1 => ld tI64 w4 b2 10 fun x2 => ld t_api_Point w4 b2 4 fun x3 => al t_api_Point 38 w4 (⟨0, 0⟩ : G_api_Point) fun b5 w5 => st t_api_Point w5 b5 0 x3 fun w6 => br (x1 == x2) (ld t_api_Point w6 b2 6 fun x4 => st t_api_Point w6 b5 0 x4 fun w7 => (sh_f22_j1 a3 Q b1 b2 b3 b4 x1 x2 b5 w7)) ((sh_f22_j1 a3 Q b1 b2 b3 b4 x1 x2 b5 w6))
theorem so_f22 {a0 : G_api_Config} {a1 : G_ledger_State} {a2 : G_api_Vote} {a3 : Fv} (Q : QW) (w0 : World) (h : sh_f22 a0 a1 a2 a3 Q w0) : CallsR PP n_f22 #[t_api_Config.val a0, t_ledger_State.val a1, t_api_Vote.val a2, a3.v] Q w0 := by
 refine callsR_of_WX (args := [t_api_Config.val a0, t_ledger_State.val a1, t_api_Vote.val a2, a3.v]) Try.func22 rfl Try.ntmps22 nl ?_
 refine WX_seq (WX_region ?_)
 refine op_w (pw_box (v := a0) ty_26 rfl ?_)
 intro b1 w1 hw1 hw2
 replace h := h b1 w1 hw1 hw2
 refine op_w (pw_box (v := a1) ty_78 rfl ?_)
 intro b2 w2 hw3 hw4
 replace h := h b2 w2 hw3 hw4
 refine op_w (pw_box (v := a2) ty_53 rfl ?_)
 intro b3 w3 hw5 hw6
 replace h := h b3 w3 hw5 hw6
 refine op_w (pw_alloc ty_78 tz_78 ?_)
 intro b4 w4 hw7 hw8
 replace h := h b4 w4 hw7 hw8
 refine mva (vb false) rfl (ops_nil ?_)
 refine WX_seq (WX_region ?_)
 refine op_v (pv_fld fo_53_3 rfl) <| op_v (pv_fld fo_38_0 rfl) ?_
 obtain ⟨x1, hx1, h⟩ := h
 refine op_v (pv_ld ty_3 rfl hx1) <| op_v (pv_fld fo_78_1 rfl) ?_
 obtain ⟨x2, hx2, h⟩ := h
 refine op_v (pv_ld ty_3 rfl hx2) <| op_v (pv_cmp (v := (x1 == x2)) rfl rfl rfl rfl) <| mva (vb (x1 == x2)) rfl (ops_nil ?_)
 refine WX_seq (WX_region ?_)
 refine op_v (pv_fld fo_78_0 rfl) <| op_v (pv_fld fo_75_1 rfl) ?_
 obtain ⟨x3, hx3, h⟩ := h
 refine op_v (pv_ld ty_38 rfl hx3) <| op_w (pw_alloc ty_38 tz_38 ?_)
 intro b5 w5 hw9 hw10
 replace h := h b5 w5 hw9 hw10
 refine op_w (pw_st (x := x3) ty_38 rfl rfl h.1 ?_)
 intro w6 hw11
 replace h := h.2 w6 hw11
 refine ops_nil ?_
 refine WX_join (fun f w8 => Agree f [(3, a3.v), (4, vp b1 0), (5, vp b2 0), (6, vp b3 0), (8, vp b4 0), (10, vb (x1 == x2)), (11, vp b5 0)] /\ sh_f22_j1 a3 Q b1 b2 b3 b4 x1 x2 b5 w8) ?_ ?_
 refine WX_seq (WX_region ?_)
 refine mv (vb (x1 == x2)) rfl (ops_nil ?_)
 refine WX_cond (b := (x1 == x2)) rfl (fun hb1 => ?_) (fun hb1 => ?_)
 have h := h.1 hb1
 refine WX_region ?_
 refine op_v (pv_fld fo_78_0 rfl) <| op_v (pv_fld fo_75_2 rfl) ?_
 obtain ⟨x4, hx4, h⟩ := h
 refine op_v (pv_ld ty_38 rfl hx4) <| op_w (pw_st (x := x4) ty_38 rfl rfl h.1 ?_)
 intro w7 hw12
 replace h := h.2 w7 hw12
 refine ops_nil ?_
 exact ⟨⟨rfl, rfl, rfl, rfl, rfl, rfl, rfl, trivial⟩, h⟩
 have h := h.2 hb1
 refine WX_skip ?_
 exact ⟨⟨rfl, rfl, rfl, rfl, rfl, rfl, rfl, trivial⟩, h⟩
 rintro f w8 ⟨ha, h⟩
 obtain ⟨g6, rfl⟩ := canon ha
 refine WX_seq ?_
 refine WX_join (fun f w13 => ∃ x22 : Bool, Agree f [(5, vp b2 0), (6, vp b3 0), (8, vp b4 0), (10, vb (x1 == x2)), (62, vb x22)] /\ sh_f22_j2 Q b2 b3 b4 x1 x2 x22 w13) ?_ ?_
 obtain ⟨w9, hw13, h⟩ := dwe h
 obtain ⟨x5, hx5, x6, hx6, h⟩ := h
 refine WX_dr [2,31] [3,4,5,6,7,8,9,11,12,14,15,16,17,18,21,22,23,24,27,28,30,32,33] [⟨[],[],[0,1],[(2,[2,3,4,5,6,7,8,9,10,11,12,13,14,15,16,17,18,19,20,21,22,23,24,25,26,27,28,29,30],1)]⟩,⟨[2],[3,4,5,6,7,8,9,11,12,14,15,16,17,18,21,22,23,24,27,28,30],[10,13,19,20,25,26,29],[(31,[31,32,33],2)]⟩,⟨[31,2],[32,33],[25],[]⟩] [t_api_Config.val x5, t_api_Vote.val x6, un, un, un, un, un, un, un, un, un, un, un, un, un, un, un, un, un, un, un, un, un, un, un, un, un, un, un, un, un, un, un, un] 3 mixed (by kernel_rfl) hw13 ?_
 refine draw_go rfl ap0 (ro rfl (pv_ld ty_26 rfl hx5) (ro rfl (pv_ld ty_53 rfl hx6) ao0)) rfl ?_
 refine cy rfl rfl ?_
 refine pw_call co_36 rfl (cm h ?_)
 rintro v1 w10 ⟨x7, rfl, h⟩
 refine dr_split (b := (!x7)) (fun hb2 => ?_) (fun hb2 => ?_)
 have h := h.1 hb2
 refine nx [vb true, vb true, un, un, un, un, un, un, un, un, un, un, un, vb true, vb true, un, un, un, un, vb true, vb true, un, un, un, un, un, un, un] rfl nl rfl ?_
 dsimp only [putV, List.set]
 refine draw_go rfl (pu rfl (pv_notE rfl (by exact hb2)) (pu rfl (pv_move (by first | rfl | exact congrArg Value.bool hb2)) (pn (pn (pn (pn (pn (pn (pn (pn (pn (pu rfl (pv_pick (b := true) (v := vb true) rfl rfl) (pu rfl (pv_move rfl) (pn (pn (pu rfl (pv_pick (b := true) (v := vb true) rfl rfl) (pu rfl (pv_move rfl) (pn (pn (pn (pn ap0))))))))))))))))))))) (rn (rn (rn (rn (rn (rn (rn ao0))))))) rfl ?_
 refine ch_no [un, vb true] rfl rfl rfl nl rfl ?_ ch0
 refine draw_end rfl (pn (pu rfl (pv_pick (b := true) (v := vb true) rfl rfl) ap0)) (rn ao0) ?_
 exact ⟨true, ⟨rfl, rfl, rfl, rfl, rfl, trivial⟩, h⟩
 have h := h.2 hb2
 refine dr_split (b := (!(x1 == x2))) (fun hb3 => ?_) (fun hb3 => ?_)
 have h := h.1 hb3
 obtain ⟨x8, hx8, x9, hx9, h⟩ := h
 refine dr_split (b := ((IntKind.i64.wrap (x8 + 1)) != x9)) (fun hb4 => ?_) (fun hb4 => ?_)
 have h := h.1 hb4
 refine nx [vb false, vb false, vb (x1 == x2), vb true, vb true, vp b3 4, vp b3 4, vi x8, vi (IntKind.i64.wrap (x8 + 1)), vp b2 10, vi x9, vb true, vb true, vb true, vb true, un, un, un, un, vb true, vb true, un, un, un, un, un, un, un] rfl nl rfl ?_
 dsimp only [putV, List.set]
 refine draw_go rfl (pu rfl (pv_notE rfl (by exact hb2)) (pu rfl (pv_move (by first | rfl | exact congrArg Value.bool hb2)) (pu rfl (pv_move rfl) (pu rfl (pv_notE rfl (by exact hb3)) (pu rfl (pv_move (by first | rfl | exact congrArg Value.bool hb3)) (pu rfl (pv_fld fo_53_3 rfl) (pu rfl (pv_fld fo_38_0 rfl) (pu rfl (pv_add rfl rfl) (pu rfl (pv_fld fo_78_1 rfl) (pu rfl (pv_cmp (v := true) rfl rfl rfl (by exact hb4)) (pu rfl (pv_pick (b := true) (v := vb true) rfl rfl) (pu rfl (pv_pick (b := false) (v := vb true) rfl rfl) (pu rfl (pv_move (by first | rfl | exact congrArg Value.bool hb4)) (pn (pn (pu rfl (pv_pick (b := true) (v := vb true) rfl rfl) (pu rfl (pv_move rfl) (pn (pn (pn (pn ap0))))))))))))))))))))) (ro rfl (pv_ld ty_3 rfl hx8) (ro rfl (pv_ld ty_3 rfl hx9) (rn (rn (rn (rn (rn ao0))))))) rfl ?_
 refine ch_no [un, vb true] rfl rfl rfl nl rfl ?_ ch0
 refine draw_end rfl (pn (pu rfl (pv_pick (b := true) (v := vb true) rfl rfl) ap0)) (rn ao0) ?_
 exact ⟨true, ⟨rfl, rfl, rfl, rfl, rfl, trivial⟩, h⟩
 have h := h.2 hb4
 obtain ⟨x10, hx10, x11, hx11, h⟩ := h
 refine dr_split (b := (!eq_api_Point x10 x11)) (fun hb5 => ?_) (fun hb5 => ?_)
 have h := h.1 hb5
 refine nx [vb false, vb false, vb (x1 == x2), vb true, vb true, vp b3 4, vp b3 4, vi x8, vi (IntKind.i64.wrap (x8 + 1)), vp b2 10, vi x9, vb false, vb false, vb false, vb false, vp b3 2, t_api_Point.val x10, t_api_Point.val x11, vb true, vb true, vb true, un, un, un, un, un, un, un] rfl nl rfl ?_
 dsimp only [putV, List.set]
 refine draw_go rfl (pu rfl (pv_notE rfl (by exact hb2)) (pu rfl (pv_move (by first | rfl | exact congrArg Value.bool hb2)) (pu rfl (pv_move rfl) (pu rfl (pv_notE rfl (by exact hb3)) (pu rfl (pv_move (by first | rfl | exact congrArg Value.bool hb3)) (pu rfl (pv_fld fo_53_3 rfl) (pu rfl (pv_fld fo_38_0 rfl) (pu rfl (pv_add rfl rfl) (pu rfl (pv_fld fo_78_1 rfl) (pu rfl (pv_cmp (v := false) rfl rfl rfl (by exact hb4)) (pu rfl (pv_pick (b := true) (v := vb false) rfl rfl) (pu rfl (pv_pick (b := false) (v := vb false) rfl rfl) (pu rfl (pv_move (by first | rfl | exact congrArg Value.bool hb4)) (pu rfl (pv_fld fo_53_2 rfl) (pu rfl (pv_eqS (v := true) eqk_38 (eqf_38 x10 x11) rfl rfl (by exact congrArg some hb5)) (pu rfl (pv_pick (b := false) (v := vb true) rfl rfl) (pu rfl (pv_move (by first | rfl | exact congrArg Value.bool hb5)) (pn (pn (pn (pn ap0))))))))))))))))))))) (ro rfl (pv_ld ty_3 rfl hx8) (ro rfl (pv_ld ty_3 rfl hx9) (ro rfl (pv_ld ty_38 rfl hx10) (ro rfl (pv_ld ty_38 rfl hx11) (rn (rn (rn ao0))))))) rfl ?_
 refine ch_no [un, vb true] rfl rfl rfl nl rfl ?_ ch0
 dsimp only [putV, List.set]
 refine draw_end rfl (pn (pu rfl (pv_pick (b := true) (v := vb true) rfl rfl) ap0)) (rn ao0) ?_
 exact ⟨true, ⟨rfl, rfl, rfl, rfl, rfl, trivial⟩, h⟩
 have h := h.2 hb5
 obtain ⟨x12, hx12, x13, hx13, x14, hx14, h⟩ := h
 refine nx [vb false, vb false, vb (x1 == x2), vb true, vb true, vp b3 4, vp b3 4, vi x8, vi (IntKind.i64.wrap (x8 + 1)), vp b2 10, vi x9, vb false, vb false, vb false, vb false, vp b3 2, t_api_Point.val x10, t_api_Point.val x11, vb false, vb false, vb false, vp b3 4, t_api_Point.val x12, t_api_Config.val x13, vp b3 4, vp b3 4, vi x14, a3.v] rfl nl rfl ?_
 dsimp only [putV, List.set]
 refine draw_go rfl (pu rfl (pv_notE rfl (by exact hb2)) (pu rfl (pv_move (by first | rfl | exact congrArg Value.bool hb2)) (pu rfl (pv_move rfl) (pu rfl (pv_notE rfl (by exact hb3)) (pu rfl (pv_move (by first | rfl | exact congrArg Value.bool hb3)) (pu rfl (pv_fld fo_53_3 rfl) (pu rfl (pv_fld fo_38_0 rfl) (pu rfl (pv_add rfl rfl) (pu rfl (pv_fld fo_78_1 rfl) (pu rfl (pv_cmp (v := false) rfl rfl rfl (by exact hb4)) (pu rfl (pv_pick (b := true) (v := vb false) rfl rfl) (pu rfl (pv_pick (b := false) (v := vb false) rfl rfl) (pu rfl (pv_move (by first | rfl | exact congrArg Value.bool hb4)) (pu rfl (pv_fld fo_53_2 rfl) (pu rfl (pv_eqS (v := false) eqk_38 (eqf_38 x10 x11) rfl rfl (by exact congrArg some hb5)) (pu rfl (pv_pick (b := false) (v := vb false) rfl rfl) (pu rfl (pv_move (by first | rfl | exact congrArg Value.bool hb5)) (pu rfl (pv_fld fo_53_3 rfl) (pu rfl (pv_fld fo_53_3 rfl) (pu rfl (pv_fld fo_38_0 rfl) (pu rfl (pv_move rfl) ap0))))))))))))))))))))) (ro rfl (pv_ld ty_3 rfl hx8) (ro rfl (pv_ld ty_3 rfl hx9) (ro rfl (pv_ld ty_38 rfl hx10) (ro rfl (pv_ld ty_38 rfl hx11) (ro rfl (pv_ld ty_38 rfl hx12) (ro rfl (pv_ld ty_26 rfl hx13) (ro rfl (pv_ld ty_3 rfl hx14) ao0))))))) rfl ?_
 refine cy rfl rfl ?_
 refine pw_call co_40 rfl (cm h ?_)
 rintro v2 w11 ⟨x15, rfl, h⟩
 obtain ⟨hc1, h⟩ := h
 refine nx [vb (!eq_api_Point x12 x15), vb (!eq_api_Point x12 x15)] rfl nl rfl ?_
 refine draw_end rfl (pu rfl (pv_eqS (v := (!eq_api_Point x12 x15)) eqk_38 (eqf_38 x12 x15) rfl rfl rfl) (pu rfl (pv_pick (b := false) (v := vb (!eq_api_Point x12 x15)) rfl rfl) ap0)) (ro rfl (pv_ld ty_38 rfl hc1) ao0) ?_
 exact ⟨(!eq_api_Point x12 x15), ⟨rfl, rfl, rfl, rfl, rfl, trivial⟩, h⟩
 have h := h.2 hb3
 obtain ⟨x16, hx16, x17, hx17, h⟩ := h
 refine dr_split (b := (!eq_api_Point x16 x17)) (fun hb6 => ?_) (fun hb6 => ?_)
 have h := h.1 hb6
 refine nx [vb false, vb false, vb (x1 == x2), vb false, vb false, un, un, un, un, un, un, un, vb false, vb false, vb false, vp b3 2, t_api_Point.val x16, t_api_Point.val x17, vb true, vb true, vb true, un, un, un, un, un, un, un] rfl nl rfl ?_
 dsimp only [putV, List.set]
 refine draw_go rfl (pu rfl (pv_notE rfl (by exact hb2)) (pu rfl (pv_move (by first | rfl | exact congrArg Value.bool hb2)) (pu rfl (pv_move rfl) (pu rfl (pv_notE rfl (by exact hb3)) (pu rfl (pv_move (by first | rfl | exact congrArg Value.bool hb3)) (pn (pn (pn (pn (pn (pu rfl (pv_pick (b := false) (v := vb false) rfl rfl) (pu rfl (pv_pick (b := false) (v := vb false) rfl rfl) (pu rfl (pv_move rfl) (pu rfl (pv_fld fo_53_2 rfl) (pu rfl (pv_eqS (v := true) eqk_38 (eqf_38 x16 x17) rfl rfl (by exact congrArg some hb6)) (pu rfl (pv_pick (b := false) (v := vb true) rfl rfl) (pu rfl (pv_move (by first | rfl | exact congrArg Value.bool hb6)) (pn (pn (pn (pn ap0))))))))))))))))))))) (rn (rn (ro rfl (pv_ld ty_38 rfl hx16) (ro rfl (pv_ld ty_38 rfl hx17) (rn (rn (rn ao0))))))) rfl ?_
 refine ch_no [un, vb true] rfl rfl rfl nl rfl ?_ ch0
 refine draw_end rfl (pn (pu rfl (pv_pick (b := true) (v := vb true) rfl rfl) ap0)) (rn ao0) ?_
 exact ⟨true, ⟨rfl, rfl, rfl, rfl, rfl, trivial⟩, h⟩
 have h := h.2 hb6
 obtain ⟨x18, hx18, x19, hx19, x20, hx20, h⟩ := h
 refine nx [vb false, vb false, vb (x1 == x2), vb false, vb false, un, un, un, un, un, un, un, vb false, vb false, vb false, vp b3 2, t_api_Point.val x16, t_api_Point.val x17, vb false, vb false, vb false, vp b3 4, t_api_Point.val x18, t_api_Config.val x19, vp b3 4, vp b3 4, vi x20, a3.v] rfl nl rfl ?_
 dsimp only [putV, List.set]
 refine draw_go rfl (pu rfl (pv_notE rfl (by exact hb2)) (pu rfl (pv_move (by first | rfl | exact congrArg Value.bool hb2)) (pu rfl (pv_move rfl) (pu rfl (pv_notE rfl (by exact hb3)) (pu rfl (pv_move (by first | rfl | exact congrArg Value.bool hb3)) (pn (pn (pn (pn (pn (pu rfl (pv_pick (b := false) (v := vb false) rfl rfl) (pu rfl (pv_pick (b := false) (v := vb false) rfl rfl) (pu rfl (pv_move rfl) (pu rfl (pv_fld fo_53_2 rfl) (pu rfl (pv_eqS (v := false) eqk_38 (eqf_38 x16 x17) rfl rfl (by exact congrArg some hb6)) (pu rfl (pv_pick (b := false) (v := vb false) rfl rfl) (pu rfl (pv_move (by first | rfl | exact congrArg Value.bool hb6)) (pu rfl (pv_fld fo_53_3 rfl) (pu rfl (pv_fld fo_53_3 rfl) (pu rfl (pv_fld fo_38_0 rfl) (pu rfl (pv_move rfl) ap0))))))))))))))))))))) (rn (rn (ro rfl (pv_ld ty_38 rfl hx16) (ro rfl (pv_ld ty_38 rfl hx17) (ro rfl (pv_ld ty_38 rfl hx18) (ro rfl (pv_ld ty_26 rfl hx19) (ro rfl (pv_ld ty_3 rfl hx20) ao0))))))) rfl ?_
 refine cy rfl rfl ?_
 refine pw_call co_40 rfl (cm h ?_)
 rintro v3 w12 ⟨x21, rfl, h⟩
 obtain ⟨hc2, h⟩ := h
 refine nx [vb (!eq_api_Point x18 x21), vb (!eq_api_Point x18 x21)] rfl nl rfl ?_
 dsimp only [putV, List.set]
 refine draw_end rfl (pu rfl (pv_eqS (v := (!eq_api_Point x18 x21)) eqk_38 (eqf_38 x18 x21) rfl rfl rfl) (pu rfl (pv_pick (b := false) (v := vb (!eq_api_Point x18 x21)) rfl rfl) ap0)) (ro rfl (pv_ld ty_38 rfl hc2) ao0) ?_
 exact ⟨(!eq_api_Point x18 x21), ⟨rfl, rfl, rfl, rfl, rfl, trivial⟩, h⟩
 rintro f w13 ⟨x22, ha, h⟩
 obtain ⟨g1, rfl⟩ := canon ha
 refine WX_cond (b := x22) rfl (fun hb7 => ?_) (fun hb7 => ?_)
 have h := h.1 hb7
 refine WX_seq (WX_region ?_)
 obtain ⟨x23, hx23, h⟩ := h
 refine op_v (pv_ld ty_78 rfl hx23) <| op_w (pw_st (x := x23) ty_78 rfl rfl h.1 ?_)
 intro w14 hw14
 replace h := h.2 w14 hw14
 refine mva (vb false) rfl (ops_nil ?_)
 refine WX_ret ?_
 obtain ⟨x24, hx24, h⟩ := h
 exact fin_of [t_ledger_State.val x24, vb false] rfl ⟨⟨_, _, rfl, run_loadVar ty_78 hx24⟩, ⟨rfl, trivial⟩⟩ h
 have h := h.2 hb7
 refine WX_skip ?_
 refine WX_join (fun f w27 => ∃ b9 : Nat, ∃ o1 : Nat, Agree f [(6, vp b3 0), (8, vp b4 0), (10, vb (x1 == x2)), (12, vp b9 o1)] /\ sh_f22_j3 Q b3 b4 x1 x2 b9 o1 w27) ?_ ?_
 obtain ⟨w15, hw15, h⟩ := dwe h
 obtain ⟨x25, hx25, x26, hx26, x27, hx27, x28, hx28, h⟩ := h
 refine WX_dr [6,9,11,12] [0,2,4,7,10] [⟨[],[0,2,4,7],[1,3,5,8],[(6,[6],1),(11,[11],8)]⟩,⟨[6],[],[1,3,8],[(9,[9,10],2),(11,[11],5)]⟩,⟨[9,6],[10],[1,3],[(11,[11],3)]⟩,⟨[11,9,6],[],[1,3],[(12,[12],4)]⟩,⟨[12,11,9,6],[],[],[]⟩,⟨[11,6],[],[1,3,8],[(9,[9,10],6)]⟩,⟨[9,11,6],[10],[1,3],[(12,[12],7)]⟩,⟨[12,9,11,6],[],[],[]⟩,⟨[11],[],[1,3,5,8],[(6,[6],9)]⟩,⟨[6,11],[],[1,3,8],[(9,[9,10],10)]⟩,⟨[9,6,11],[10],[1,3],[(12,[12],11)]⟩,⟨[12,9,6,11],[],[],[]⟩] [vp b2 0, t_justify_State.val x25, vp b2 10, vi x26, vp b2 11, .slice x27.a x27.len x27.cap, un, vp b2 12, .slice x28.a x28.len x28.cap, un, un, un, un] 5 mixed (by kernel_rfl) hw15 ?_
 refine draw_go rfl (pu rfl (pv_fld fo_78_0 rfl) (pu rfl (pv_fld fo_78_1 rfl) (pu rfl (pv_fld fo_78_2 rfl) (pu rfl (pv_fld fo_78_3 rfl) ap0)))) (ro rfl (pv_ld ty_75 rfl hx25) (ro rfl (pv_ld ty_3 rfl hx26) (ro rfl (pv_ld ty_76 rfl hx27) (ro rfl (pv_ld ty_76 rfl hx28) ao0)))) rfl ?_
 refine ch_yes rfl rfl ?_ (ch_yes rfl rfl ?_ ch0)
 replace h := h.1
 obtain ⟨ol1, ne1, ha1, ha2, ha3, ha4, ha5, h⟩ := h
 refine pw_append (s := nilSl) (r := x27) eo_76 is_76 rfl rfl ha1 ha2 ha3 ha4 ha5 ?_
 intro x29 w16 ha6
 replace h := h x29 w16 ha6
 obtain ⟨hc3, hc4, hc5, h⟩ := h
 refine nx [] rfl nl rfl ?_
 refine draw_go rfl ap0 (ro rfl (pv_ld ty_75 rfl hc3) (ro rfl (pv_ld ty_3 rfl hc4) (ro rfl (pv_ld ty_76 rfl hc5) ao0))) rfl ?_
 refine ch_yes rfl rfl ?_ (ch_yes rfl rfl ?_ ch0)
 replace h := h.1
 obtain ⟨ol2, ne2, ha7, ha8, ha9, ha10, ha11, h⟩ := h
 refine pw_append (s := nilSl) (r := x28) eo_76 is_76 rfl rfl ha7 ha8 ha9 ha10 ha11 ?_
 intro x30 w17 ha12
 replace h := h x30 w17 ha12
 obtain ⟨hc6, hc7, h⟩ := h
 refine nx [t_ledger_State.val (⟨x25, x26, x29, x30⟩ : G_ledger_State)] rfl nl rfl ?_
 refine draw_go rfl (pu rfl (pv_build (cs := t_ledger_State.enc (⟨x25, x26, x29, x30⟩ : G_ledger_State)) (vs := [(0, t_justify_State.val x25), (1, vi x26), (2, .slice x29.a x29.len x29.cap), (3, .slice x30.a x30.len x30.cap)]) rfl (by kernel_rfl)) ap0) (ro rfl (pv_ld ty_75 rfl hc6) (ro rfl (pv_ld ty_3 rfl hc7) ao0)) rfl ?_
 refine cy rfl rfl ?_
 refine pw_alloc ty_78 tz_78 ?_
 intro b6 w18 hw16 hw17
 replace h := h b6 w18 hw16 hw17
 obtain ⟨hc8, hc9, h⟩ := h
 refine nx [] rfl nl rfl ?_
 dsimp only [putV, List.set]
 refine draw_go rfl ap0 (ro rfl (pv_ld ty_75 rfl hc8) (ro rfl (pv_ld ty_3 rfl hc9) ao0)) rfl ?_
 refine cy rfl rfl ?_
 refine pw_st (x := (⟨x25, x26, x29, x30⟩ : G_ledger_State)) ty_78 rfl rfl h.1 ?_
 intro w19 hw18
 replace h := h.2 w19 hw18
 refine nx [] rfl nl rfl ?_
 refine draw_end rfl ap0 ao0 ?_
 exact ⟨b6, 0, ⟨rfl, rfl, rfl, rfl, trivial⟩, h⟩
 replace h := h.2
 refine pw_alloc ty_78 tz_78 ?_
 intro b7 w20 hw19 hw20
 replace h := h b7 w20 hw19 hw20
 obtain ⟨hc10, hc11, hc12, h⟩ := h
 refine nx [] rfl nl rfl ?_
 refine draw_go rfl ap0 (ro rfl (pv_ld ty_75 rfl hc10) (ro rfl (pv_ld ty_3 rfl hc11) (ro rfl (pv_ld ty_76 rfl hc12) ao0))) rfl ?_
 refine cy rfl rfl ?_
 obtain ⟨ol3, ne3, ha13, ha14, ha15, ha16, ha17, h⟩ := h
 refine pw_append (s := nilSl) (r := x28) eo_76 is_76 rfl rfl ha13 ha14 ha15 ha16 ha17 ?_
 intro x31 w21 ha18
 replace h := h x31 w21 ha18
 obtain ⟨hc13, hc14, h⟩ := h
 refine nx [t_ledger_State.val (⟨x25, x26, x29, x31⟩ : G_ledger_State)] rfl nl rfl ?_
 dsimp only [putV, List.set]
 refine draw_go rfl (pu rfl (pv_build (cs := t_ledger_State.enc (⟨x25, x26, x29, x31⟩ : G_ledger_State)) (vs := [(0, t_justify_State.val x25), (1, vi x26), (2, .slice x29.a x29.len x29.cap), (3, .slice x31.a x31.len x31.cap)]) rfl (by kernel_rfl)) ap0) (ro rfl (pv_ld ty_75 rfl hc13) (ro rfl (pv_ld ty_3 rfl hc14) ao0)) rfl ?_
 refine cy rfl rfl ?_
 refine pw_st (x := (⟨x25, x26, x29, x31⟩ : G_ledger_State)) ty_78 rfl rfl h.1 ?_
 intro w22 hw21
 replace h := h.2 w22 hw21
 refine nx [] rfl nl rfl ?_
 refine draw_end rfl ap0 ao0 ?_
 exact ⟨b7, 0, ⟨rfl, rfl, rfl, rfl, trivial⟩, h⟩
 replace h := h.2
 refine pw_alloc ty_78 tz_78 ?_
 intro b8 w23 hw22 hw23
 replace h := h b8 w23 hw22 hw23
 obtain ⟨hc15, hc16, hc17, hc18, h⟩ := h
 refine nx [] rfl nl rfl ?_
 refine draw_go rfl ap0 (ro rfl (pv_ld ty_75 rfl hc15) (ro rfl (pv_ld ty_3 rfl hc16) (ro rfl (pv_ld ty_76 rfl hc17) (ro rfl (pv_ld ty_76 rfl hc18) ao0)))) rfl ?_
 refine cy rfl rfl ?_
 obtain ⟨ol4, ne4, ha19, ha20, ha21, ha22, ha23, h⟩ := h
 refine pw_append (s := nilSl) (r := x27) eo_76 is_76 rfl rfl ha19 ha20 ha21 ha22 ha23 ?_
 intro x32 w24 ha24
 replace h := h x32 w24 ha24
 obtain ⟨hc19, hc20, hc21, h⟩ := h
 refine nx [] rfl nl rfl ?_
 dsimp only [putV, List.set]
 refine draw_go rfl ap0 (ro rfl (pv_ld ty_75 rfl hc19) (ro rfl (pv_ld ty_3 rfl hc20) (ro rfl (pv_ld ty_76 rfl hc21) ao0))) rfl ?_
 refine cy rfl rfl ?_
 obtain ⟨ol5, ne5, ha25, ha26, ha27, ha28, ha29, h⟩ := h
 refine pw_append (s := nilSl) (r := x28) eo_76 is_76 rfl rfl ha25 ha26 ha27 ha28 ha29 ?_
 intro x33 w25 ha30
 replace h := h x33 w25 ha30
 obtain ⟨hc22, hc23, h⟩ := h
 refine nx [t_ledger_State.val (⟨x25, x26, x32, x33⟩ : G_ledger_State)] rfl nl rfl ?_
 refine draw_go rfl (pu rfl (pv_build (cs := t_ledger_State.enc (⟨x25, x26, x32, x33⟩ : G_ledger_State)) (vs := [(0, t_justify_State.val x25), (1, vi x26), (2, .slice x32.a x32.len x32.cap), (3, .slice x33.a x33.len x33.cap)]) rfl (by kernel_rfl)) ap0) (ro rfl (pv_ld ty_75 rfl hc22) (ro rfl (pv_ld ty_3 rfl hc23) ao0)) rfl ?_
 refine cy rfl rfl ?_
 refine pw_st (x := (⟨x25, x26, x32, x33⟩ : G_ledger_State)) ty_78 rfl rfl h.1 ?_
 intro w26 hw24
 replace h := h.2 w26 hw24
 refine nx [] rfl nl rfl ?_
 refine draw_end rfl ap0 ao0 ?_
 exact ⟨b8, 0, ⟨rfl, rfl, rfl, rfl, trivial⟩, h⟩
 rintro f w27 ⟨b9, o1, ha, h⟩
 obtain ⟨g5, rfl⟩ := canon ha
 refine WX_seq (WX_region ?_)
 refine op_v (pv_fld fo_78_2 rfl) ?_
 obtain ⟨x34, hx34, h⟩ := h
 refine op_v (pv_ld ty_76 rfl hx34) <| mva (.slice x34.a x34.len x34.cap) rfl (ops_nil ?_)
 refine WX_join (fun f w28 => ∃ x36 : Sl, Agree f [(6, vp b3 0), (8, vp b4 0), (12, vp b9 o1), (13, .slice x36.a x36.len x36.cap)] /\ sh_f22_j4 Q b3 b4 b9 o1 x36 w28) ?_ ?_
 refine WX_seq (WX_region ?_)
 refine mv (vb (x1 == x2)) rfl (ops_nil ?_)
 refine WX_cond (b := (x1 == x2)) rfl (fun hb8 => ?_) (fun hb8 => ?_)
 have h := h.1 hb8
 refine WX_region ?_
 refine op_v (pv_fld fo_78_3 rfl) ?_
 obtain ⟨x35, hx35, h⟩ := h
 refine op_v (pv_ld ty_76 rfl hx35) <| mva (.slice x35.a x35.len x35.cap) rfl (ops_nil ?_)
 exact ⟨x35, ⟨rfl, rfl, rfl, rfl, trivial⟩, h⟩
 have h := h.2 hb8
 refine WX_skip ?_
 exact ⟨x34, ⟨rfl, rfl, rfl, rfl, trivial⟩, h⟩
 rintro f w28 ⟨x36, ha, h⟩
 obtain ⟨g4, rfl⟩ := canon ha
 refine WX_join (fun f w31 => Agree f [(8, vp b4 0), (12, vp b9 o1)] /\ sh_f22_j6 Q b4 b9 o1 w31) ?_ ?_
 refine WX_seq (WX_region ?_)
 refine op_v (pv_fld fo_53_4 rfl) ?_
 obtain ⟨x37, hx37, h⟩ := h
 refine op_v (pv_ld ty_51 rfl hx37) <| op_v (pv_lenS (s := x37) is_51 rfl) <| mv (vi 0) rfl (ops_nil ?_)
 refine WX_block ?_
 obtain ⟨I1, ⟨m, h0⟩, hB1⟩ := h
 refine WX_loop (fun m f w29 => ∃ x38 : Int, Agree f [(8, vp b4 0), (12, vp b9 o1), (13, .slice x36.a x36.len x36.cap), (81, .slice x37.a x37.len x37.cap), (82, vi (x37.len : Int)), (83, vi x38)] /\ I1 m x38 w29) ⟨m, 0, ⟨rfl, rfl, rfl, rfl, rfl, rfl, trivial⟩, h0⟩ ?_
 clear h0 m
 rintro m f w29 ⟨x38, ha, h⟩
 obtain ⟨g2, rfl⟩ := canon ha
 replace h := hB1 m x38 w29 h
 clear hB1
 generalize hn_nxt1 : (fun (y0 : Int) (w : World) => ∃ m2, m2 < m /\ I1 m2 y0 w) = nxt1 at h
 refine WX_seq (WX_region ?_)
 refine op_v (pv_cmp (v := decide (x38 < (x37.len : Int))) rfl rfl rfl rfl) (ops_nil ?_)
 refine WX_seq ?_
 refine WX_cond (b := decide (x38 < (x37.len : Int))) rfl (fun hb9 => ?_) (fun hb9 => ?_)
 have h := h.1 hb9
 refine WX_skip <| WX_seq ?_
 refine WX_block ?_
 refine WX_seq (WX_region ?_)
 obtain ⟨b10, o2, hi1, hi2, hi3, h⟩ := h
 refine op_v (pv_ix (s := x37) ez_51 rfl rfl hi1 hi2 hi3) ?_
 obtain ⟨x39, hx39, h⟩ := h
 refine op_v (pv_ld ty_3 rfl hx39) <| mva (vi x39) rfl (ops_nil ?_)
 refine WX_region ?_
 refine mv (.slice x36.a x36.len x36.cap) rfl <| mv (vi x39) rfl ?_
 obtain ⟨b11, o3, hi4, hi5, hi6, h⟩ := h
 refine op_v (pv_ix (s := x36) ez_76 rfl rfl hi4 hi5 hi6) <| op_w (pw_st (x := true) ty_4 rfl rfl h.1 ?_)
 intro w30 hw25
 replace h := h.2 w30 hw25
 refine ops_nil ?_
 refine WX_region ?_
 refine op_v (pv_add rfl rfl) <| mv (vi (IntKind.i64.wrap (x38 + 1))) rfl (ops_nil ?_)
 subst hn_nxt1
 obtain ⟨m2, hm2, h⟩ := h
 exact ⟨m2, hm2, (IntKind.i64.wrap (x38 + 1)), ⟨rfl, rfl, rfl, rfl, rfl, rfl, trivial⟩, h⟩
 have h := h.2 hb9
 refine WX_exit0 ?_
 exact ⟨⟨rfl, rfl, trivial⟩, h⟩
 rintro f w31 ⟨ha, h⟩
 obtain ⟨g3, rfl⟩ := canon ha
 refine WX_seq (WX_region ?_)
 obtain ⟨x40, hx40, h⟩ := h
 refine op_v (pv_ld ty_78 rfl hx40) <| op_w (pw_st (x := x40) ty_78 rfl rfl h.1 ?_)
 intro w32 hw26
 replace h := h.2 w32 hw26
 refine mva (vb true) rfl (ops_nil ?_)
 refine WX_ret ?_
 obtain ⟨x41, hx41, h⟩ := h
 exact fin_of [t_ledger_State.val x41, vb true] rfl ⟨⟨_, _, rfl, run_loadVar ty_78 hx41⟩, ⟨rfl, trivial⟩⟩ h
end Go.Proofs.Ytdefmgkicdhmkaa
namespace Go.Proofs.Ytdefmgkicdhmkaa
open Go Go.Sx
set_option linter.unusedVariables false
set_option maxRecDepth 100000
set_option maxHeartbeats 2000000
def sh_f24 (a0 : Option Addr) (a1 : Int) (Q : QW) (w0 : World) : Prop :=
  nc a0 fun b1 o1 => ld tMap w0 b1 (o1 + 1) fun x1 => lkp t_tree_node w0 x1 a1 fun x2 => al t_tree_node 109 w0 (⟨0, 0, 0⟩ : G_tree_node) fun b2 w1 => st t_tree_node w1 b2 0 (x2.getD (⟨0, 0, 0⟩ : G_tree_node)) fun w2 => dw w2 fun w3 => ld tU64 w3 b2 0 fun x3 => ld tI64 w3 b2 1 fun x4 => ld tI64 w3 b2 2 fun x5 => Q (.tuple #[.int .u64 x3, .int .i64 x4, .int .i64 x5, .bool x2.isSome]) w3
theorem so_f24 {a0 : Option Addr} {a1 : Int} (Q : QW) (w0 : World) (h : sh_f24 a0 a1 Q w0) : CallsR PP n_f24 #[.pointer a0, .int .u64 a1] Q w0 := by
 refine callsR_of_WX (args := [.pointer a0, vu a1]) Try.func24 rfl Try.ntmps24 nl ?_
 obtain ⟨b1, o1, hp1, h⟩ := h
 refine WX_seq (WX_region ?_)
 refine mva (vu 0) rfl <| mva (vi 0) rfl <| mva (vi 0) rfl <| mva (vb false) rfl (ops_nil ?_)
 refine WX_seq (WX_region ?_)
 refine mv (.pointer a0) rfl <| op_v (pv_nilh rfl hp1) <| op_v (pv_fld fo_113_1 rfl) ?_
 obtain ⟨x1, hx1, h⟩ := h
 refine op_v (pv_ld ty_111 rfl hx1) <| mv (vu a1) rfl ?_
 obtain ⟨es1, hm1, h⟩ := h
 obtain ⟨x2, hq1⟩ : ∃ x, mget es1 a1 = x := ⟨_, rfl⟩
 replace h := hq1 ▸ h
 refine op_v (pv_lookupOkE (T := t_tree_node) mu_111 tz_109 rfl rfl hm1 hq1) ?_
 refine mv (.tuple #[t_tree_node.val (x2.getD (⟨0, 0, 0⟩ : G_tree_node)), vb x2.isSome]) rfl ?_
 refine op_v (pv_extract (vs := [t_tree_node.val (x2.getD (⟨0, 0, 0⟩ : G_tree_node)), vb x2.isSome]) (v := t_tree_node.val (x2.getD (⟨0, 0, 0⟩ : G_tree_node))) rfl rfl) ?_
 refine op_v (pv_extract (vs := [t_tree_node.val (x2.getD (⟨0, 0, 0⟩ : G_tree_node)), vb x2.isSome]) (v := vb x2.isSome) rfl rfl) ?_
 refine op_w (pw_alloc ty_109 tz_109 ?_)
 intro b2 w1 hw1 hw2
 replace h := h b2 w1 hw1 hw2
 refine op_w (pw_st (x := (x2.getD (⟨0, 0, 0⟩ : G_tree_node))) ty_109 rfl rfl h.1 ?_)
 intro w2 hw3
 replace h := h.2 w2 hw3
 refine mva (vb x2.isSome) rfl (ops_nil ?_)
 refine WX_seq ?_
 obtain ⟨w3, hw4, h⟩ := dwe h
 obtain ⟨x3, hx3, x4, hx4, x5, hx5, h⟩ := h
 refine WX_dr [] [0,2,4,6,7,8,9,10] [⟨[],[0,2,4,6,7,8,9,10],[1,3,5],[]⟩] [vp b2 0, vu x3, vp b2 1, vi x4, vp b2 2, vi x5, vb x2.isSome, vu x3, vi x4, vi x5, vb x2.isSome] 1 mixed (by kernel_rfl) hw4 ?_
 refine draw_end rfl (pu rfl (pv_fld fo_109_0 rfl) (pu rfl (pv_fld fo_109_1 rfl) (pu rfl (pv_fld fo_109_2 rfl) (pu rfl (pv_move rfl) (pu rfl (pv_assign rfl) (pu rfl (pv_assign rfl) (pu rfl (pv_assign rfl) (pu rfl (pv_assign rfl) ap0)))))))) (ro rfl (pv_ld ty_36 rfl hx3) (ro rfl (pv_ld ty_3 rfl hx4) (ro rfl (pv_ld ty_3 rfl hx5) ao0))) ?_
 refine WX_ret ?_
 exact fin_of [vu x3, vi x4, vi x5, vb x2.isSome] rfl ⟨rfl, ⟨rfl, ⟨rfl, ⟨rfl, trivial⟩⟩⟩⟩ h
def sh_f26 (a0 : G_api_Config) (a1 : G_ledger_State) (a2 : Fv) (Q : QW) (w0 : World) : Prop :=
  al t_api_Config 26 w0 a0 fun b1 w1 => al t_ledger_State 78 w1 a1 fun b2 w2 => al t_justify_State 75 w2 (⟨(⟨false, false, false, false⟩ : G_Arr4_bool), (⟨0, 0⟩ : G_api_Point), (⟨0, 0⟩ : G_api_Point), (⟨0, 0⟩ : G_api_Point)⟩ : G_justify_State) fun b3 w3 => ld tI64 w3 b2 10 fun x1 => br (decide (x1 < 2)) (ld t_justify_State w3 b2 0 fun x2 => st t_justify_State w3 b3 0 x2 fun w4 => ld t_justify_State w4 b3 0 fun x3 => Q (t_justify_State.val x3) w4) (ld t_api_Config w3 b1 0 fun x4 => CallsR PP n_f43 #[t_api_Config.val x4] (fun v1 w5 => ∃ x5 : Int, v1 = .int .u64 x5 /\ (dw w5 fun w6 => ld t_api_Config w6 b1 0 fun x6 => ld tSl w6 b2 11 fun x7 => CallsR PP n_f46 #[.slice x7.a x7.len x7.cap] (fun v2 w7 => ∃ x8 : Sl, v2 = .slice x8.a x8.len x8.cap /\ (chk t_api_Config w7 b1 0 x6 <| CallsR PP n_f45 #[t_api_Config.val x6, .slice x8.a x8.len x8.cap] (fun v3 w8 => ∃ x9 : Int, v3 = .int .u64 x9 /\ (CallsR PP n_f44 #[.int .u64 x9, .int .u64 x5] (fun v4 w9 => ∃ x10 : Bool, v4 = .bool x10 /\ (dw w9 fun w10 => ld t_api_Config w10 b1 0 fun x11 => ld tSl w10 b2 12 fun x12 => CallsR PP n_f46 #[.slice x12.a x12.len x12.cap] (fun v5 w11 => ∃ x13 : Sl, v5 = .slice x13.a x13.len x13.cap /\ (chk t_api_Config w11 b1 0 x11 <| CallsR PP n_f45 #[t_api_Config.val x11, .slice x13.a x13.len x13.cap] (fun v6 w12 => ∃ x14 : Int, v6 = .int .u64 x14 /\ (CallsR PP n_f44 #[.int .u64 x14, .int .u64 x5] (fun v7 w13 => ∃ x15 : Bool, v7 = .bool x15 /\ (dw w13 fun w14 => ld t_justify_State w14 b2 0 fun x16 => ld tI64 w14 b2 10 fun x17 => ld t_api_Config w14 b1 0 fun x18 => ld tI64 w14 b2 10 fun x19 => ld t_api_Config w14 b1 0 fun x20 => ld tI64 w14 b2 10 fun x21 => CallsR PP n_f40 #[t_api_Config.val x18, .int .i64 (IntKind.i64.wrap (x19 - 1)), a2.v] (fun v8 w15 => ∃ x22 : G_api_Point, v8 = t_api_Point.val x22 /\ (chk t_justify_State w15 b2 0 x16 <| chk tI64 w15 b2 10 x17 <| chk t_api_Config w15 b1 0 x20 <| chk tI64 w15 b2 10 x21 <| CallsR PP n_f40 #[t_api_Config.val x20, .int .i64 x21, a2.v] (fun v9 w16 => ∃ x23 : G_api_Point, v9 = t_api_Point.val x23 /\ (chk t_justify_State w16 b2 0 x16 <| chk tI64 w16 b2 10 x17 <| CallsR PP n_f47 #[t_justify_State.val x16, .int .i64 x17, .bool x10, .bool x15, t_api_Point.val x22, t_api_Point.val x23] (fun v10 w17 => ∃ x24 : G_justify_State, v10 = t_justify_State.val x24 /\ (st t_justify_State w17 b3 0 x24 fun w18 => ld t_justify_State w18 b3 0 fun x25 => Q (t_justify_State.val x25) w18)) w16)) w15)) w14)) w12)) w11)) w10)) w8)) w7)) w6)) w3)
theorem so_f26 {a0 : G_api_Config} {a1 : G_ledger_State} {a2 : Fv} (Q : QW) (w0 : World) (h : sh_f26 a0 a1 a2 Q w0) : CallsR PP n_f26 #[t_api_Config.val a0, t_ledger_State.val a1, a2.v] Q w0 := by
 refine callsR_of_WX (args := [t_api_Config.val a0, t_ledger_State.val a1, a2.v]) Try.func26 rfl Try.ntmps26 nl ?_
 refine WX_seq (WX_region ?_)
 refine op_w (pw_box (v := a0) ty_26 rfl ?_)
 intro b1 w1 hw1 hw2
 replace h := h b1 w1 hw1 hw2
 refine op_w (pw_box (v := a1) ty_78 rfl ?_)
 intro b2 w2 hw3 hw4
 replace h := h b2 w2 hw3 hw4
 refine op_w (pw_alloc ty_75 tz_75 ?_)
 intro b3 w3 hw5 hw6
 replace h := h b3 w3 hw5 hw6
 refine ops_nil ?_
 refine WX_seq ?_
 refine WX_seq (WX_region ?_)
 refine op_v (pv_fld fo_78_1 rfl) ?_
 obtain ⟨x1, hx1, h⟩ := h
 refine op_v (pv_ld ty_3 rfl hx1) <| op_v (pv_cmp (v := decide (x1 < 2)) rfl rfl rfl rfl) (ops_nil ?_)
 refine WX_cond (b := decide (x1 < 2)) rfl (fun hb1 => ?_) (fun hb1 => ?_)
 have h := h.1 hb1
 refine WX_seq (WX_region ?_)
 refine op_v (pv_fld fo_78_0 rfl) ?_
 obtain ⟨x2, hx2, h⟩ := h
 refine op_v (pv_ld ty_75 rfl hx2) <| op_w (pw_st (x := x2) ty_75 rfl rfl h.1 ?_)
 intro w4 hw7
 replace h := h.2 w4 hw7
 refine ops_nil ?_
 refine WX_ret ?_
 obtain ⟨x3, hx3, h⟩ := h
 exact fin_of [t_justify_State.val x3] rfl ⟨⟨_, _, rfl, run_loadVar ty_75 hx3⟩, trivial⟩ h
 have h := h.2 hb1
 refine WX_skip <| WX_seq (WX_region ?_)
 obtain ⟨x4, hx4, h⟩ := h
 refine op_v (pv_ld ty_26 rfl hx4) <| op_w (pw_call co_43 rfl (CallsR.mono h ?_))
 rintro v1 w5 ⟨x5, rfl, h⟩
 refine mva (vu x5) rfl (ops_nil ?_)
 refine WX_seq ?_
 obtain ⟨w6, hw8, h⟩ := dwe h
 obtain ⟨x6, hx6, x7, hx7, h⟩ := h
 refine WX_dr [3,4,6] [1,5,7] [⟨[],[1,5],[0,2],[(3,[3],1)]⟩,⟨[3],[],[0],[(4,[4],2)]⟩,⟨[4,3],[],[],[(6,[6,7],3)]⟩,⟨[6,4,3],[7],[],[]⟩] [t_api_Config.val x6, vp b2 11, .slice x7.a x7.len x7.cap, un, un, vu x5, un, un] 4 mixed (by kernel_rfl) hw8 ?_
 refine draw_go rfl (pu rfl (pv_fld fo_78_2 rfl) (pu rfl (pv_move rfl) ap0)) (ro rfl (pv_ld ty_26 rfl hx6) (ro rfl (pv_ld ty_76 rfl hx7) ao0)) rfl ?_
 refine cy rfl rfl ?_
 refine pw_call co_46 rfl (cm h ?_)
 rintro v2 w7 ⟨x8, rfl, h⟩
 obtain ⟨hc1, h⟩ := h
 refine nx [] rfl nl rfl ?_
 refine draw_go rfl ap0 (ro rfl (pv_ld ty_26 rfl hc1) ao0) rfl ?_
 refine cy rfl rfl ?_
 refine pw_call co_45 rfl (cm h ?_)
 rintro v3 w8 ⟨x9, rfl, h⟩
 refine nx [] rfl nl rfl ?_
 refine draw_go rfl ap0 ao0 rfl ?_
 refine cy rfl rfl ?_
 refine pw_call co_44 rfl (cm h ?_)
 rintro v4 w9 ⟨x10, rfl, h⟩
 refine nx [vb x10] rfl nl rfl ?_
 dsimp only [putV, List.set]
 refine draw_end rfl (pu rfl (pv_assign rfl) ap0) ao0 ?_
 refine WX_seq ?_
 obtain ⟨w10, hw9, h⟩ := dwe h
 obtain ⟨x11, hx11, x12, hx12, h⟩ := h
 refine WX_dr [3,4,6] [1,5,7] [⟨[],[1,5],[0,2],[(3,[3],1)]⟩,⟨[3],[],[0],[(4,[4],2)]⟩,⟨[4,3],[],[],[(6,[6,7],3)]⟩,⟨[6,4,3],[7],[],[]⟩] [t_api_Config.val x11, vp b2 12, .slice x12.a x12.len x12.cap, un, un, vu x5, un, un] 4 mixed (by kernel_rfl) hw9 ?_
 refine draw_go rfl (pu rfl (pv_fld fo_78_3 rfl) (pu rfl (pv_move rfl) ap0)) (ro rfl (pv_ld ty_26 rfl hx11) (ro rfl (pv_ld ty_76 rfl hx12) ao0)) rfl ?_
 refine cy rfl rfl ?_
 refine pw_call co_46 rfl (cm h ?_)
 rintro v5 w11 ⟨x13, rfl, h⟩
 obtain ⟨hc2, h⟩ := h
 refine nx [] rfl nl rfl ?_
 refine draw_go rfl ap0 (ro rfl (pv_ld ty_26 rfl hc2) ao0) rfl ?_
 refine cy rfl rfl ?_
 refine pw_call co_45 rfl (cm h ?_)
 rintro v6 w12 ⟨x14, rfl, h⟩
 refine nx [] rfl nl rfl ?_
 refine draw_go rfl ap0 ao0 rfl ?_
 refine cy rfl rfl ?_
 refine pw_call co_44 rfl (cm h ?_)
 rintro v7 w13 ⟨x15, rfl, h⟩
 refine nx [vb x15] rfl nl rfl ?_
 dsimp only [putV, List.set]
 refine draw_end rfl (pu rfl (pv_assign rfl) ap0) ao0 ?_
 refine WX_seq ?_
 obtain ⟨w14, hw10, h⟩ := dwe h
 obtain ⟨x16, hx16, x17, hx17, x18, hx18, x19, hx19, x20, hx20, x21, hx21, h⟩ := h
 refine WX_dr [11,16,17,18] [0,2,4,5,7,9,10,13,15] [⟨[],[0,2,4,5,7,9,10,13,15],[1,3,6,8,12,14],[(11,[11],1)]⟩,⟨[11],[],[1,3,12,14],[(16,[16],2)]⟩,⟨[16,11],[],[1,3],[(17,[17],3)]⟩,⟨[17,16,11],[],[],[(18,[18],4)]⟩,⟨[18,17,16,11],[],[],[]⟩] [vp b2 0, t_justify_State.val x16, vp b2 10, vi x17, vb x10, vb x15, t_api_Config.val x18, vp b2 10, vi x19, vi (IntKind.i64.wrap (x19 - 1)), a2.v, un, t_api_Config.val x20, vp b2 10, vi x21, a2.v, un, un, un] 5 mixed (by kernel_rfl) hw10 ?_
 refine draw_go rfl (pu rfl (pv_fld fo_78_0 rfl) (pu rfl (pv_fld fo_78_1 rfl) (pu rfl (pv_move rfl) (pu rfl (pv_move rfl) (pu rfl (pv_fld fo_78_1 rfl) (pu rfl (pv_sub rfl rfl) (pu rfl (pv_move rfl) (pu rfl (pv_fld fo_78_1 rfl) (pu rfl (pv_move rfl) ap0))))))))) (ro rfl (pv_ld ty_75 rfl hx16) (ro rfl (pv_ld ty_3 rfl hx17) (ro rfl (pv_ld ty_26 rfl hx18) (ro rfl (pv_ld ty_3 rfl hx19) (ro rfl (pv_ld ty_26 rfl hx20) (ro rfl (pv_ld ty_3 rfl hx21) ao0)))))) rfl ?_
 refine cy rfl rfl ?_
 refine pw_call co_40 rfl (cm h ?_)
 rintro v8 w15 ⟨x22, rfl, h⟩
 obtain ⟨hc3, hc4, hc5, hc6, h⟩ := h
 refine nx [] rfl nl rfl ?_
 refine draw_go rfl ap0 (ro rfl (pv_ld ty_75 rfl hc3) (ro rfl (pv_ld ty_3 rfl hc4) (ro rfl (pv_ld ty_26 rfl hc5) (ro rfl (pv_ld ty_3 rfl hc6) ao0)))) rfl ?_
 refine cy rfl rfl ?_
 refine pw_call co_40 rfl (cm h ?_)
 rintro v9 w16 ⟨x23, rfl, h⟩
 obtain ⟨hc7, hc8, h⟩ := h
 refine nx [] rfl nl rfl ?_
 refine draw_go rfl ap0 (ro rfl (pv_ld ty_75 rfl hc7) (ro rfl (pv_ld ty_3 rfl hc8) ao0)) rfl ?_
 refine cy rfl rfl ?_
 refine pw_call co_47 rfl (cm h ?_)
 rintro v10 w17 ⟨x24, rfl, h⟩
 refine nx [] rfl nl rfl ?_
 dsimp only [putV, List.set]
 refine draw_go rfl ap0 ao0 rfl ?_
 refine cy rfl rfl ?_
 refine pw_st (x := x24) ty_75 rfl rfl h.1 ?_
 intro w18 hw11
 replace h := h.2 w18 hw11
 refine nx [] rfl nl rfl ?_
 refine draw_end rfl ap0 ao0 ?_
 refine WX_ret ?_
 obtain ⟨x25, hx25, h⟩ := h
 exact fin_of [t_justify_State.val x25] rfl ⟨⟨_, _, rfl, run_loadVar ty_75 hx25⟩, trivial⟩ h
def sh_f27 (a0 : Option Addr) (Q : QW) (w0 : World) : Prop :=
  nc a0 fun b1 o1 => ld tMap w0 b1 (o1 + 1) fun x1 => mlen t_tree_node w0 x1 fun x2 => Q (.int .i64 (x2 : Int)) w0
theorem so_f27 {a0 : Option Addr} (Q : QW) (w0 : World) (h : sh_f27 a0 Q w0) : CallsR PP n_f27 #[.pointer a0] Q w0 := by
 refine callsR_of_WX (args := [.pointer a0]) Try.func27 rfl Try.ntmps27 nl ?_
 obtain ⟨b1, o1, hp1, h⟩ := h
 refine WX_seq (WX_region ?_)
 refine mva (vi 0) rfl (ops_nil ?_)
 refine WX_seq (WX_region ?_)
 refine mv (.pointer a0) rfl <| op_v (pv_nilh rfl hp1) <| op_v (pv_fld fo_113_1 rfl) ?_
 obtain ⟨x1, hx1, h⟩ := h
 refine op_v (pv_ld ty_111 rfl hx1) ?_
 obtain ⟨es1, hm1, h⟩ := h
 obtain ⟨x2, hq1⟩ : ∃ x, es1.length = x := ⟨_, rfl⟩
 replace h := hq1 ▸ h
 refine op_v (pv_lenME (T := t_tree_node) mv_111 rfl hm1 hq1) <| mva (vi (x2 : Int)) rfl (ops_nil ?_)
 refine WX_ret ?_
 exact fin_of [vi (x2 : Int)] rfl ⟨rfl, trivial⟩ h
def sh_f28_j3 (Q : QW) (w4 : World) : Prop :=
  Q (.bool true) w4
def sh_f28_b2 (Q : QW) (x8 : Sl) (x9 : Int) (w3 : World) (nxt1 : Int -> World -> Prop) : Prop :=
  br (decide (x9 < (x8.len : Int))) (ixs x8 x9 fun b2 o1 => ld tU64 w3 b2 (o1 + (x9).toNat * 1) fun x10 => br (decide (x10 > 4294967296)) (Q (.bool false) w3) (nxt1 (IntKind.i64.wrap (x9 + 1)) w3)) ((sh_f28_j3 Q w3))
def sh_f28_j1 (Q : QW) (b1 : Nat) (x7 : Bool) (w2 : World) : Prop :=
  br x7 (Q (.bool false) w2) (ld tSl w2 b1 0 fun x8 => (∃ I1 : Nat -> Int -> World -> Prop, (∃ m, I1 m 0 w2) /\ ∀ m x9 w3, I1 m x9 w3 -> sh_f28_b2 Q x8 x9 w3 (fun y0 w => ∃ m2, m2 < m /\ I1 m2 y0 w)))
def sh_f28 (a0 : G_api_Config) (Q : QW) (w0 : World) : Prop :=
  al t_api_Config 26 w0 a0 fun b1 w1 => ld tSl w1 b1 0 fun x1 => br (decide ((x1.len : Int) < 1)) ((sh_f28_j1 Q b1 true w1)) (ld tSl w1 b1 0 fun x2 => br (decide ((x2.len : Int) > 4096)) ((sh_f28_j1 Q b1 true w1)) (ld tI64 w1 b1 1 fun x3 => br (decide (x3 < 1)) ((sh_f28_j1 Q b1 true w1)) (ld tI64 w1 b1 1 fun x4 => br (decide (x4 > 64)) ((sh_f28_j1 Q b1 true w1)) (ld tI64 w1 b1 2 fun x5 => br (decide (x5 < 0)) ((sh_f28_j1 Q b1 true w1)) (ld tI64 w1 b1 2 fun x6 => (sh_f28_j1 Q b1 (decide (x6 > 100)) w1))))))
theorem so_f28 {a0 : G_api_Config} (Q : QW) (w0 : World) (h : sh_f28 a0 Q w0) : CallsR PP n_f28 #[t_api_Config.val a0] Q w0 := by
 refine callsR_of_WX (args := [t_api_Config.val a0]) Try.func28 rfl Try.ntmps28 nl ?_
 refine WX_seq (WX_region ?_)
 refine op_w (pw_box (v := a0) ty_26 rfl ?_)
 intro b1 w1 hw1 hw2
 replace h := h b1 w1 hw1 hw2
 refine mva (vb false) rfl (ops_nil ?_)
 refine WX_seq ?_
 refine WX_join (fun f w2 => ∃ x7 : Bool, Agree f [(1, vp b1 0), (34, vb x7)] /\ sh_f28_j1 Q b1 x7 w2) ?_ ?_
 refine WX_region ?_
 refine op_v (pv_fld fo_26_0 rfl) ?_
 obtain ⟨x1, hx1, h⟩ := h
 refine op_v (pv_ld ty_24 rfl hx1) <| op_v (pv_lenS (s := x1) is_24 rfl) <| op_v (pv_cmp (v := decide ((x1.len : Int) < 1)) rfl rfl rfl rfl) ?_
 refine mv (vb (decide ((x1.len : Int) < 1))) rfl <| ops_split 9 (b := decide ((x1.len : Int) < 1)) rfl (fun hb1 => ?_) (fun hb1 => ?_)
 have h := h.1 hb1
 iterate 4 refine opg_no ?_
 refine op_v (pv_pick (b := true) (v := vb true) rfl rfl) <| mv (vb true) rfl ?_
 iterate 3 refine opg_no ?_
 refine op_v (pv_pick (b := true) (v := vb true) rfl rfl) <| mv (vb true) rfl ?_
 iterate 3 refine opg_no ?_
 refine op_v (pv_pick (b := true) (v := vb true) rfl rfl) <| mv (vb true) rfl ?_
 iterate 3 refine opg_no ?_
 refine op_v (pv_pick (b := true) (v := vb true) rfl rfl) <| mv (vb true) rfl ?_
 iterate 3 refine opg_no ?_
 refine op_v (pv_pick (b := true) (v := vb true) rfl rfl) (ops_nil ?_)
 exact ⟨true, ⟨rfl, rfl, trivial⟩, h⟩
 have h := h.2 hb1
 refine opg_v (pv_fld fo_26_0 rfl) ?_
 obtain ⟨x2, hx2, h⟩ := h
 refine opg_v (pv_ld ty_24 rfl hx2) <| opg_v (pv_lenS (s := x2) is_24 rfl) <| opg_v (pv_cmp (v := decide ((x2.len : Int) > 4096)) rfl rfl rfl rfl) ?_
 refine op_v (pv_pick (b := false) (v := vb (decide ((x2.len : Int) > 4096))) rfl rfl) <| mv (vb (decide ((x2.len : Int) > 4096))) rfl ?_
 refine ops_split 15 (b := decide ((x2.len : Int) > 4096)) rfl (fun hb2 => ?_) (fun hb2 => ?_)
 have h := h.1 hb2
 iterate 3 refine opg_no ?_
 refine op_v (pv_pick (b := true) (v := vb true) rfl rfl) <| mv (vb true) rfl ?_
 iterate 3 refine opg_no ?_
 refine op_v (pv_pick (b := true) (v := vb true) rfl rfl) <| mv (vb true) rfl ?_
 iterate 3 refine opg_no ?_
 refine op_v (pv_pick (b := true) (v := vb true) rfl rfl) <| mv (vb true) rfl ?_
 iterate 3 refine opg_no ?_
 refine op_v (pv_pick (b := true) (v := vb true) rfl rfl) (ops_nil ?_)
 exact ⟨true, ⟨rfl, rfl, trivial⟩, h⟩
 have h := h.2 hb2
 refine opg_v (pv_fld fo_26_1 rfl) ?_
 obtain ⟨x3, hx3, h⟩ := h
 refine opg_v (pv_ld ty_3 rfl hx3) <| opg_v (pv_cmp (v := decide (x3 < 1)) rfl rfl rfl rfl) ?_
 refine op_v (pv_pick (b := false) (v := vb (decide (x3 < 1))) rfl rfl) <| mv (vb (decide (x3 < 1))) rfl ?_
 refine ops_split 20 (b := decide (x3 < 1)) rfl (fun hb3 => ?_) (fun hb3 => ?_)
 have h := h.1 hb3
 iterate 3 refine opg_no ?_
 refine op_v (pv_pick (b := true) (v := vb true) rfl rfl) <| mv (vb true) rfl ?_
 iterate 3 refine opg_no ?_
 refine op_v (pv_pick (b := true) (v := vb true) rfl rfl) <| mv (vb true) rfl ?_
 iterate 3 refine opg_no ?_
 refine op_v (pv_pick (b := true) (v := vb true) rfl rfl) (ops_nil ?_)
 exact ⟨true, ⟨rfl, rfl, trivial⟩, h⟩
 have h := h.2 hb3
 refine opg_v (pv_fld fo_26_1 rfl) ?_
 obtain ⟨x4, hx4, h⟩ := h
 refine opg_v (pv_ld ty_3 rfl hx4) <| opg_v (pv_cmp (v := decide (x4 > 64)) rfl rfl rfl rfl) ?_
 refine op_v (pv_pick (b := false) (v := vb (decide (x4 > 64))) rfl rfl) <| mv (vb (decide (x4 > 64))) rfl ?_
 refine ops_split 25 (b := decide (x4 > 64)) rfl (fun hb4 => ?_) (fun hb4 => ?_)
 have h := h.1 hb4
 iterate 3 refine opg_no ?_
 refine op_v (pv_pick (b := true) (v := vb true) rfl rfl) <| mv (vb true) rfl ?_
 iterate 3 refine opg_no ?_
 refine op_v (pv_pick (b := true) (v := vb true) rfl rfl) (ops_nil ?_)
 exact ⟨true, ⟨rfl, rfl, trivial⟩, h⟩
 have h := h.2 hb4
 refine opg_v (pv_fld fo_26_2 rfl) ?_
 obtain ⟨x5, hx5, h⟩ := h
 refine opg_v (pv_ld ty_3 rfl hx5) <| opg_v (pv_cmp (v := decide (x5 < 0)) rfl rfl rfl rfl) ?_
 refine op_v (pv_pick (b := false) (v := vb (decide (x5 < 0))) rfl rfl) <| mv (vb (decide (x5 < 0))) rfl ?_
 refine ops_split 30 (b := decide (x5 < 0)) rfl (fun hb5 => ?_) (fun hb5 => ?_)
 have h := h.1 hb5
 iterate 3 refine opg_no ?_
 refine op_v (pv_pick (b := true) (v := vb true) rfl rfl) (ops_nil ?_)
 exact ⟨true, ⟨rfl, rfl, trivial⟩, h⟩
 have h := h.2 hb5
 refine opg_v (pv_fld fo_26_2 rfl) ?_
 obtain ⟨x6, hx6, h⟩ := h
 refine opg_v (pv_ld ty_3 rfl hx6) <| opg_v (pv_cmp (v := decide (x6 > 100)) rfl rfl rfl rfl) ?_
 refine op_v (pv_pick (b := false) (v := vb (decide (x6 > 100))) rfl rfl) (ops_nil ?_)
 exact ⟨decide (x6 > 100), ⟨rfl, rfl, trivial⟩, h⟩
 rintro f w2 ⟨x7, ha, h⟩
 obtain ⟨g1, rfl⟩ := canon ha
 refine WX_cond (b := x7) rfl (fun hb6 => ?_) (fun hb6 => ?_)
 have h := h.1 hb6
 refine WX_seq (WX_region ?_)
 refine mva (vb false) rfl (ops_nil ?_)
 refine WX_ret ?_
 exact fin_of [vb false] rfl ⟨rfl, trivial⟩ h
 have h := h.2 hb6
 refine WX_skip <| WX_join (fun f w4 => Agree f [] /\ sh_f28_j3 Q w4) ?_ ?_
 refine WX_seq (WX_region ?_)
 refine op_v (pv_fld fo_26_0 rfl) ?_
 obtain ⟨x8, hx8, h⟩ := h
 refine op_v (pv_ld ty_24 rfl hx8) <| op_v (pv_lenS (s := x8) is_24 rfl) <| mv (vi 0) rfl (ops_nil ?_)
 refine WX_block ?_
 obtain ⟨I1, ⟨m, h0⟩, hB1⟩ := h
 refine WX_loop (fun m f w3 => ∃ x9 : Int, Agree f [(36, .slice x8.a x8.len x8.cap), (37, vi (x8.len : Int)), (38, vi x9)] /\ I1 m x9 w3) ⟨m, 0, ⟨rfl, rfl, rfl, trivial⟩, h0⟩ ?_
 clear h0 m
 rintro m f w3 ⟨x9, ha, h⟩
 obtain ⟨g2, rfl⟩ := canon ha
 replace h := hB1 m x9 w3 h
 clear hB1
 generalize hn_nxt1 : (fun (y0 : Int) (w : World) => ∃ m2, m2 < m /\ I1 m2 y0 w) = nxt1 at h
 refine WX_seq (WX_region ?_)
 refine op_v (pv_cmp (v := decide (x9 < (x8.len : Int))) rfl rfl rfl rfl) (ops_nil ?_)
 refine WX_seq ?_
 refine WX_cond (b := decide (x9 < (x8.len : Int))) rfl (fun hb7 => ?_) (fun hb7 => ?_)
 have h := h.1 hb7
 refine WX_skip <| WX_seq ?_
 refine WX_block ?_
 refine WX_seq (WX_region ?_)
 obtain ⟨b2, o1, hi1, hi2, hi3, h⟩ := h
 refine op_v (pv_ix (s := x8) ez_24 rfl rfl hi1 hi2 hi3) ?_
 obtain ⟨x10, hx10, h⟩ := h
 refine op_v (pv_ld ty_36 rfl hx10) <| mva (vu x10) rfl (ops_nil ?_)
 refine WX_seq (WX_region ?_)
 refine mv (vu x10) rfl <| op_v (pv_cmp (v := decide (x10 > 4294967296)) rfl rfl rfl rfl) (ops_nil ?_)
 refine WX_cond (b := decide (x10 > 4294967296)) rfl (fun hb8 => ?_) (fun hb8 => ?_)
 have h := h.1 hb8
 refine WX_seq (WX_region ?_)
 refine mva (vb false) rfl (ops_nil ?_)
 refine WX_ret ?_
 exact fin_of [vb false] rfl ⟨rfl, trivial⟩ h
 have h := h.2 hb8
 refine WX_skip ?_
 refine WX_region ?_
 refine op_v (pv_add rfl rfl) <| mv (vi (IntKind.i64.wrap (x9 + 1))) rfl (ops_nil ?_)
 subst hn_nxt1
 obtain ⟨m2, hm2, h⟩ := h
 exact ⟨m2, hm2, (IntKind.i64.wrap (x9 + 1)), ⟨rfl, rfl, rfl, trivial⟩, h⟩
 have h := h.2 hb7
 refine WX_exit0 ?_
 exact ⟨ag0, h⟩
 rintro f w4 ⟨ha, h⟩
 obtain ⟨g3, rfl⟩ := canon ha
 refine WX_seq (WX_region ?_)
 refine mva (vb true) rfl (ops_nil ?_)
 refine WX_ret ?_
 exact fin_of [vb true] rfl ⟨rfl, trivial⟩ h
def sh_f29 (a0 : Int) (a1 : Int) (Q : QW) (w0 : World) : Prop :=
  mkm w0 fun b1 w1 => mset t_tree_node w1 (some b1) a0 (⟨a0, a1, 0⟩ : G_tree_node) fun w2 => al t_tree_Tree 113 w2 (⟨a0, (some b1)⟩ : G_tree_Tree) fun b2 w3 => Q (.pointer (some ⟨b2, 0, none⟩)) w3
theorem so_f29 {a0 : Int} {a1 : Int} (Q : QW) (w0 : World) (h : sh_f29 a0 a1 Q w0) : CallsR PP n_f29 #[.int .u64 a0, .int .i64 a1] Q w0 := by
 refine callsR_of_WX (args := [vu a0, vi a1]) Try.func29 rfl Try.ntmps29 nl ?_
 refine WX_seq (WX_region ?_)
 refine mva (.pointer none) rfl (ops_nil ?_)
 refine WX_seq (WX_region ?_)
 refine mv (vu a0) rfl <| op_w (pw_makeMap ?_)
 intro b1 w1 hw1 hw2
 replace h := h b1 w1 hw1 hw2
 refine mv (vu a0) rfl <| mv (vu a0) rfl <| mv (vi a1) rfl ?_
 refine op_v (pv_build (cs := t_tree_node.enc (⟨a0, a1, 0⟩ : G_tree_node)) (vs := [(0, vu a0), (1, vi a1), (2, vi 0)]) rfl (by kernel_rfl)) ?_
 obtain ⟨r1, es1, hr1, hm1, h⟩ := h
 refine op_w (pw_mapIns (T := t_tree_node) (x := (⟨a0, a1, 0⟩ : G_tree_node)) mu_111 (congrArg Value.map hr1) rfl rfl hm1 ?_)
 intro ob1 ho1
 replace h := h ob1 ho1
 clear ho1
 generalize setB w1 r1 ob1 = w2 at h ⊢
 refine mv (.map (some b1)) rfl ?_
 refine op_v (pv_build (cs := t_tree_Tree.enc (⟨a0, (some b1)⟩ : G_tree_Tree)) (vs := [(0, vu a0), (1, .map (some b1))]) rfl (by kernel_rfl)) ?_
 refine op_w (pw_box (v := (⟨a0, (some b1)⟩ : G_tree_Tree)) ty_113 rfl ?_)
 intro b2 w3 hw3 hw4
 replace h := h b2 w3 hw3 hw4
 refine mva (vp b2 0) rfl (ops_nil ?_)
 refine WX_ret ?_
 exact fin_of [vp b2 0] rfl ⟨rfl, trivial⟩ h
def sh_f30 (a0 : Int) (Q : QW) (w0 : World) : Prop :=
  mks 68 ((t_latest_Entry.val (⟨false, 0, 0, false⟩ : G_latest_Entry)).cells) 4 32 w0 (if (if 4096 < a0 then 4096 else a0) > 0 then (if 4096 < a0 then 4096 else a0) else 0) fun b1 w1 => Q (.slice (some ⟨b1, 0, none⟩) ((if (if 4096 < a0 then 4096 else a0) > 0 then (if 4096 < a0 then 4096 else a0) else 0)).toNat ((if (if 4096 < a0 then 4096 else a0) > 0 then (if 4096 < a0 then 4096 else a0) else 0)).toNat) w1
theorem so_f30 {a0 : Int} (Q : QW) (w0 : World) (h : sh_f30 a0 Q w0) : CallsR PP n_f30 #[.int .i64 a0] Q w0 := by
 refine callsR_of_WX (args := [vi a0]) Try.func30 rfl Try.ntmps30 nl ?_
 refine WX_seq (WX_region ?_)
 refine mva (.slice none 0 0) rfl (ops_nil ?_)
 refine WX_seq (WX_region ?_)
 refine mv (vi a0) rfl <| op_v (pv_min rfl rfl) <| op_v (pv_max rfl rfl) <| op_w (pw_makeSlice eo_35 tz_68 rfl rfl h.1 h.2.1 ?_)
 intro b1 w1 hw1 hw2
 replace h := h.2.2 b1 w1 hw1 hw2
 refine mva (.slice (some ⟨b1, 0, none⟩) ((if (if 4096 < a0 then 4096 else a0) > 0 then (if 4096 < a0 then 4096 else a0) else 0)).toNat ((if (if 4096 < a0 then 4096 else a0) > 0 then (if 4096 < a0 then 4096 else a0) else 0)).toNat) rfl (ops_nil ?_)
 refine WX_ret ?_
 exact fin_of [.slice (some ⟨b1, 0, none⟩) ((if (if 4096 < a0 then 4096 else a0) > 0 then (if 4096 < a0 then 4096 else a0) else 0)).toNat ((if (if 4096 < a0 then 4096 else a0) > 0 then (if 4096 < a0 then 4096 else a0) else 0)).toNat] rfl ⟨rfl, trivial⟩ h
end Go.Proofs.Ytdefmgkicdhmkaa
