/- What the functions do, part 4; for every memory. -/
import Derived.Test.YtdefmgkicdhmkaaQ3
namespace Go.Proofs.Ytdefmgkicdhmkaa
open Go Go.Sx
set_option linter.unusedVariables false
set_option maxRecDepth 100000
set_option maxHeartbeats 2000000
def sh_f31_j5 (Q : QW) (b2 : Nat) (b8 : Nat) (o4 : Nat) (w40 : World) : Prop :=
  ld t_api_Block w40 b8 o4 fun x33 => st t_api_Event w40 b2 0 (⟨1, 0, x33, (⟨0, 0, (⟨0, 0⟩ : G_api_Point), (⟨0, 0⟩ : G_api_Point), nilSl⟩ : G_api_Vote), (⟨(⟨0, 0, (⟨0, 0⟩ : G_api_Point), (⟨0, 0⟩ : G_api_Point), nilSl⟩ : G_api_Vote), (⟨0, 0, (⟨0, 0⟩ : G_api_Point), (⟨0, 0⟩ : G_api_Point), nilSl⟩ : G_api_Vote)⟩ : G_api_Proof)⟩ : G_api_Event) fun w41 => ld t_api_Event w41 b2 0 fun x34 => Q (t_api_Event.val x34) w41
def sh_f31_j4 (a0 : Option Addr) (Q : QW) (b2 : Nat) (x2 : Int) (x7 : Int) (b8 : Nat) (o4 : Nat) (w29 : World) : Prop :=
  CallsR PP n_f48 #[.pointer a0, .int .i64 16] (fun v13 w30 => ∃ x26 : Int, v13 = .int .i64 x26 /\ (br (x26 == 15) (CallsR PP n_f50 #[.pointer a0, .int .u64 x7, .int .i64 x2] (fun v14 w31 => ∃ x27 : G_api_Vote, v14 = t_api_Vote.val x27 /\ (al t_api_Vote 53 w31 (⟨0, 0, (⟨0, 0⟩ : G_api_Point), (⟨0, 0⟩ : G_api_Point), nilSl⟩ : G_api_Vote) fun b10 w32 => st t_api_Vote w32 b10 0 x27 fun w33 => ld t_api_Vote w33 b10 0 fun x28 => al t_api_Vote 53 w33 (⟨0, 0, (⟨0, 0⟩ : G_api_Point), (⟨0, 0⟩ : G_api_Point), nilSl⟩ : G_api_Vote) fun b11 w34 => st t_api_Vote w34 b11 0 x28 fun w35 => st tU64 w35 b11 1 1 fun w36 => ld tSl w36 b8 (o4 + 4) fun x29 => ld t_api_Vote w36 b10 0 fun x30 => ld t_api_Vote w36 b11 0 fun x31 => alr 55 w36 (t_api_Proof.enc (⟨x30, x31⟩ : G_api_Proof)) fun b12 w37 => app 55 14 144 w37 x29 (Sl.mk (some ⟨b12, 0, none⟩) 1 1) fun x32 w38 => st tSl w38 b8 (o4 + 4) x32 fun w39 => (sh_f31_j5 Q b2 b8 o4 w39))) w30) ((sh_f31_j5 Q b2 b8 o4 w30)))) w29
def sh_f31_b3 (a0 : Option Addr) (Q : QW) (b2 : Nat) (x2 : Int) (x7 : Int) (b8 : Nat) (o4 : Nat) (x21 : Int) (w22 : World) (nxt1 : Int -> World -> Prop) : Prop :=
  br (decide (x21 > 0)) (dw w22 fun w23 => ld tSl w23 b8 (o4 + 3) fun x22 => CallsR PP n_f48 #[.pointer a0, .int .i64 3] (fun v11 w24 => ∃ x23 : Int, v11 = .int .i64 x23 /\ (chk tSl w24 b8 (o4 + 3) x22 <| CallsR PP n_f50 #[.pointer a0, .int .u64 x7, .int .i64 (if (IntKind.i64.wrap (x2 - x23)) > 0 then (IntKind.i64.wrap (x2 - x23)) else 0)] (fun v12 w25 => ∃ x24 : G_api_Vote, v12 = t_api_Vote.val x24 /\ (chk tSl w25 b8 (o4 + 3) x22 <| alr 53 w25 (t_api_Vote.enc x24) fun b9 w26 => chk tSl w26 b8 (o4 + 3) x22 <| app 53 7 72 w26 x22 (Sl.mk (some ⟨b9, 0, none⟩) 1 1) fun x25 w27 => st tSl w27 b8 (o4 + 3) x25 fun w28 => nxt1 (IntKind.i64.wrap (x21 - 1)) w28)) w24)) w23) ((sh_f31_j4 a0 Q b2 x2 x7 b8 o4 w22))
def sh_f31_j2 (a0 : Option Addr) (Q : QW) (b2 : Nat) (x2 : Int) (x7 : Int) (b8 : Nat) (o4 : Nat) (w20 : World) : Prop :=
  CallsR PP n_f48 #[.pointer a0, .int .i64 3] (fun v10 w21 => ∃ x20 : Int, v10 = .int .i64 x20 /\ ((∃ I1 : Nat -> Int -> World -> Prop, (∃ m, I1 m x20 w21) /\ ∀ m x21 w22, I1 m x21 w22 -> sh_f31_b3 a0 Q b2 x2 x7 b8 o4 x21 w22 (fun y0 w => ∃ m2, m2 < m /\ I1 m2 y0 w)))) w20
def sh_f31_j6 (a0 : Option Addr) (Q : QW) (b2 : Nat) (x2 : Int) (w46 : World) : Prop :=
  CallsR PP n_f49 #[.pointer a0] (fun v18 w47 => ∃ x39 : Int, v18 = .int .u64 x39 /\ (CallsR PP n_f50 #[.pointer a0, .int .u64 x39, .int .i64 x2] (fun v19 w48 => ∃ x40 : G_api_Vote, v19 = t_api_Vote.val x40 /\ (al t_api_Vote 53 w48 (⟨0, 0, (⟨0, 0⟩ : G_api_Point), (⟨0, 0⟩ : G_api_Point), nilSl⟩ : G_api_Vote) fun b13 w49 => st t_api_Vote w49 b13 0 x40 fun w50 => ld t_api_Vote w50 b13 0 fun x41 => al t_api_Vote 53 w50 (⟨0, 0, (⟨0, 0⟩ : G_api_Point), (⟨0, 0⟩ : G_api_Point), nilSl⟩ : G_api_Vote) fun b14 w51 => st t_api_Vote w51 b14 0 x41 fun w52 => CallsR PP n_f48 #[.pointer a0, .int .i64 4] (fun v20 w53 => ∃ x42 : Int, v20 = .int .i64 x42 /\ (st tU64 w53 b14 1 (IntKind.u64.wrap x42) fun w54 => ld t_api_Vote w54 b13 0 fun x43 => ld t_api_Vote w54 b14 0 fun x44 => st t_api_Event w54 b2 0 (⟨3, 0, (⟨0, 0, 0, nilSl, nilSl⟩ : G_api_Block), (⟨0, 0, (⟨0, 0⟩ : G_api_Point), (⟨0, 0⟩ : G_api_Point), nilSl⟩ : G_api_Vote), (⟨x43, x44⟩ : G_api_Proof)⟩ : G_api_Event) fun w55 => ld t_api_Event w55 b2 0 fun x45 => Q (t_api_Event.val x45) w55)) w52)) w47)) w46
def sh_f31_j1 (a0 : Option Addr) (Q : QW) (b1 : Nat) (o1 : Nat) (b2 : Nat) (x2 : Int) (x3 : Int) (x4 : Bool) (w3 : World) : Prop :=
  br x4 (CallsR PP n_f48 #[.pointer a0, .int .i64 4] (fun v2 w4 => ∃ x5 : Int, v2 = .int .i64 x5 /\ (st t_api_Event w4 b2 0 (⟨0, (IntKind.i64.wrap (x2 + x5)), (⟨0, 0, 0, nilSl, nilSl⟩ : G_api_Block), (⟨0, 0, (⟨0, 0⟩ : G_api_Point), (⟨0, 0⟩ : G_api_Point), nilSl⟩ : G_api_Vote), (⟨(⟨0, 0, (⟨0, 0⟩ : G_api_Point), (⟨0, 0⟩ : G_api_Point), nilSl⟩ : G_api_Vote), (⟨0, 0, (⟨0, 0⟩ : G_api_Point), (⟨0, 0⟩ : G_api_Point), nilSl⟩ : G_api_Vote)⟩ : G_api_Proof)⟩ : G_api_Event) fun w5 => ld t_api_Event w5 b2 0 fun x6 => Q (t_api_Event.val x6) w5)) w3) (br (decide (x3 < 7)) (CallsR PP n_f49 #[.pointer a0] (fun v3 w6 => ∃ x7 : Int, v3 = .int .u64 x7 /\ (ld tPtr w6 b1 (o1 + 0) fun x8 => nc x8 fun b4 o3 => ld tPtr w6 b4 (o3 + 3) fun x9 => CallsR PP n_f24 #[.pointer x9, .int .u64 x7] (fun v4 w7 => ∃ x10 : Int, ∃ x11 : Int, ∃ x12 : Int, ∃ x13 : Bool, v4 = .tuple #[.int .u64 x10, .int .i64 x11, .int .i64 x12, .bool x13] /\ (dw w7 fun w8 => ld tSl w8 b1 (o1 + 2) fun x14 => ((CallsR PP n_f48 #[.pointer a0, .int .i64 20] (fun v5 w9 => ∃ x15 : Int, v5 = .int .i64 x15 /\ (chk tSl w9 b1 (o1 + 2) x14 <| ((CallsR PP n_f48 #[.pointer a0, .int .i64 3] (fun v6 w10 => ∃ x16 : Int, v6 = .int .i64 x16 /\ (chk tSl w10 b1 (o1 + 2) x14 <| al t_api_Block 50 w10 (⟨0, 0, 0, nilSl, nilSl⟩ : G_api_Block) fun b5 w11 => chk tSl w11 b1 (o1 + 2) x14 <| st t_api_Block w11 b5 0 (⟨(IntKind.u64.wrap (IntKind.i64.wrap ((IntKind.i64.wrap ((x14.len : Int) + 1)) + (IntKind.i64.wrap (Int.tdiv x15 19))))), x7, (if (IntKind.i64.wrap (x2 - x16)) > (IntKind.i64.wrap (x11 + 1)) then (IntKind.i64.wrap (x2 - x16)) else (IntKind.i64.wrap (x11 + 1))), nilSl, nilSl⟩ : G_api_Block) fun w12 => (sh_f31_j2 a0 Q b2 x2 x7 b5 0 w12))) w9) /\ (al t_api_Block 50 w9 (⟨0, 0, 0, nilSl, nilSl⟩ : G_api_Block) fun b6 w13 => chk tSl w13 b1 (o1 + 2) x14 <| CallsR PP n_f48 #[.pointer a0, .int .i64 3] (fun v7 w14 => ∃ x17 : Int, v7 = .int .i64 x17 /\ (chk tSl w14 b1 (o1 + 2) x14 <| st t_api_Block w14 b6 0 (⟨(IntKind.u64.wrap (IntKind.i64.wrap ((IntKind.i64.wrap ((x14.len : Int) + 1)) + (IntKind.i64.wrap (Int.tdiv x15 19))))), x7, (if (IntKind.i64.wrap (x2 - x17)) > (IntKind.i64.wrap (x11 + 1)) then (IntKind.i64.wrap (x2 - x17)) else (IntKind.i64.wrap (x11 + 1))), nilSl, nilSl⟩ : G_api_Block) fun w15 => (sh_f31_j2 a0 Q b2 x2 x7 b6 0 w15))) w13)))) w8) /\ (al t_api_Block 50 w8 (⟨0, 0, 0, nilSl, nilSl⟩ : G_api_Block) fun b7 w16 => chk tSl w16 b1 (o1 + 2) x14 <| CallsR PP n_f48 #[.pointer a0, .int .i64 20] (fun v8 w17 => ∃ x18 : Int, v8 = .int .i64 x18 /\ (chk tSl w17 b1 (o1 + 2) x14 <| CallsR PP n_f48 #[.pointer a0, .int .i64 3] (fun v9 w18 => ∃ x19 : Int, v9 = .int .i64 x19 /\ (chk tSl w18 b1 (o1 + 2) x14 <| st t_api_Block w18 b7 0 (⟨(IntKind.u64.wrap (IntKind.i64.wrap ((IntKind.i64.wrap ((x14.len : Int) + 1)) + (IntKind.i64.wrap (Int.tdiv x18 19))))), x7, (if (IntKind.i64.wrap (x2 - x19)) > (IntKind.i64.wrap (x11 + 1)) then (IntKind.i64.wrap (x2 - x19)) else (IntKind.i64.wrap (x11 + 1))), nilSl, nilSl⟩ : G_api_Block) fun w19 => (sh_f31_j2 a0 Q b2 x2 x7 b7 0 w19))) w17)) w16)))) w6)) w3) (br (decide (x3 < 9)) (CallsR PP n_f49 #[.pointer a0] (fun v15 w42 => ∃ x35 : Int, v15 = .int .u64 x35 /\ (CallsR PP n_f48 #[.pointer a0, .int .i64 4] (fun v16 w43 => ∃ x36 : Int, v16 = .int .i64 x36 /\ (CallsR PP n_f50 #[.pointer a0, .int .u64 x35, .int .i64 (if (IntKind.i64.wrap (x2 - x36)) > 0 then (IntKind.i64.wrap (x2 - x36)) else 0)] (fun v17 w44 => ∃ x37 : G_api_Vote, v17 = t_api_Vote.val x37 /\ (st t_api_Event w44 b2 0 (⟨2, 0, (⟨0, 0, 0, nilSl, nilSl⟩ : G_api_Block), x37, (⟨(⟨0, 0, (⟨0, 0⟩ : G_api_Point), (⟨0, 0⟩ : G_api_Point), nilSl⟩ : G_api_Vote), (⟨0, 0, (⟨0, 0⟩ : G_api_Point), (⟨0, 0⟩ : G_api_Point), nilSl⟩ : G_api_Vote)⟩ : G_api_Proof)⟩ : G_api_Event) fun w45 => ld t_api_Event w45 b2 0 fun x38 => Q (t_api_Event.val x38) w45)) w43)) w42)) w3) ((sh_f31_j6 a0 Q b2 x2 w3))))
def sh_f31 (a0 : Option Addr) (Q : QW) (w0 : World) : Prop :=
  nc a0 fun b1 o1 => al t_api_Event 57 w0 (⟨0, 0, (⟨0, 0, 0, nilSl, nilSl⟩ : G_api_Block), (⟨0, 0, (⟨0, 0⟩ : G_api_Point), (⟨0, 0⟩ : G_api_Point), nilSl⟩ : G_api_Vote), (⟨(⟨0, 0, (⟨0, 0⟩ : G_api_Point), (⟨0, 0⟩ : G_api_Point), nilSl⟩ : G_api_Vote), (⟨0, 0, (⟨0, 0⟩ : G_api_Point), (⟨0, 0⟩ : G_api_Point), nilSl⟩ : G_api_Vote)⟩ : G_api_Proof)⟩ : G_api_Event) fun b2 w1 => ld tPtr w1 b1 (o1 + 0) fun x1 => nc x1 fun b3 o2 => ld tI64 w1 b3 (o2 + 5) fun x2 => CallsR PP n_f48 #[.pointer a0, .int .i64 10] (fun v1 w2 => ∃ x3 : Int, v1 = .int .i64 x3 /\ (br (decide (x3 < 3)) ((sh_f31_j1 a0 Q b1 o1 b2 x2 x3 true w2)) ((sh_f31_j1 a0 Q b1 o1 b2 x2 x3 (x2 == 0) w2)))) w1
theorem so_f31 {a0 : Option Addr} (Q : QW) (w0 : World) (h : sh_f31 a0 Q w0) : CallsR PP n_f31 #[.pointer a0] Q w0 := by
 refine callsR_of_WX (args := [.pointer a0]) Try.func31 rfl Try.ntmps31 nl ?_
 obtain ⟨b1, o1, hp1, h⟩ := h
 refine WX_seq (WX_region ?_)
 refine op_w (pw_alloc ty_57 tz_57 ?_)
 intro b2 w1 hw1 hw2
 replace h := h b2 w1 hw1 hw2
 refine ops_nil ?_
 refine WX_seq (WX_region ?_)
 refine mv (.pointer a0) rfl <| op_v (pv_nilh rfl hp1) <| op_v (pv_fld fo_99_0 rfl) ?_
 obtain ⟨x1, hx1, h⟩ := h
 refine op_v (pv_ld ty_28 rfl hx1) ?_
 obtain ⟨b3, o2, hp2, h⟩ := h
 refine op_v (pv_nilh rfl hp2) <| op_v (pv_fld fo_43_3 rfl) ?_
 obtain ⟨x2, hx2, h⟩ := h
 refine op_v (pv_ld ty_3 rfl hx2) <| mva (vi x2) rfl (ops_nil ?_)
 refine WX_join (fun f w46 => Agree f [(0, .pointer a0), (2, vp b2 0), (3, vi x2)] /\ sh_f31_j6 a0 Q b2 x2 w46) ?_ ?_
 refine WX_seq (WX_region ?_)
 refine mv (.pointer a0) rfl <| op_w (pw_call co_48 rfl (CallsR.mono h ?_))
 rintro v1 w2 ⟨x3, rfl, h⟩
 refine mva (vi x3) rfl (ops_nil ?_)
 refine WX_block ?_
 refine WX_join (fun f w3 => ∃ x4 : Bool, Agree f [(0, .pointer a0), (2, vp b2 0), (3, vi x2), (4, vi x3), (25, vb x4)] /\ sh_f31_j1 a0 Q b1 o1 b2 x2 x3 x4 w3) ?_ ?_
 refine WX_region ?_
 refine mv (vi x3) rfl <| op_v (pv_cmp (v := decide (x3 < 3)) rfl rfl rfl rfl) <| mv (vb (decide (x3 < 3))) rfl ?_
 refine ops_split 28 (b := decide (x3 < 3)) rfl (fun hb1 => ?_) (fun hb1 => ?_)
 have h := h.1 hb1
 iterate 2 refine opg_no ?_
 refine op_v (pv_pick (b := true) (v := vb true) rfl rfl) <| mva (vb true) rfl (ops_nil ?_)
 exact ⟨true, ⟨rfl, rfl, rfl, rfl, rfl, trivial⟩, h⟩
 have h := h.2 hb1
 refine opg_v (pv_move (v := vi x2) rfl) <| opg_v (pv_cmp (v := (x2 == 0)) rfl rfl rfl rfl) <| op_v (pv_pick (b := false) (v := vb (x2 == 0)) rfl rfl) ?_
 refine mva (vb (x2 == 0)) rfl (ops_nil ?_)
 exact ⟨(x2 == 0), ⟨rfl, rfl, rfl, rfl, rfl, trivial⟩, h⟩
 rintro f w3 ⟨x4, ha, h⟩
 obtain ⟨g5, rfl⟩ := canon ha
 refine WX_cond (b := x4) rfl (fun hb6 => ?_) (fun hb6 => ?_)
 have h := h.1 hb6
 refine WX_seq (WX_region ?_)
 refine mv (vi x2) rfl <| mv (.pointer a0) rfl <| op_w (pw_call co_48 rfl (CallsR.mono h ?_))
 rintro v2 w4 ⟨x5, rfl, h⟩
 refine op_v (pv_add rfl rfl) ?_
 refine op_v (pv_build (cs := t_api_Event.enc (⟨0, (IntKind.i64.wrap (x2 + x5)), (⟨0, 0, 0, nilSl, nilSl⟩ : G_api_Block), (⟨0, 0, (⟨0, 0⟩ : G_api_Point), (⟨0, 0⟩ : G_api_Point), nilSl⟩ : G_api_Vote), (⟨(⟨0, 0, (⟨0, 0⟩ : G_api_Point), (⟨0, 0⟩ : G_api_Point), nilSl⟩ : G_api_Vote), (⟨0, 0, (⟨0, 0⟩ : G_api_Point), (⟨0, 0⟩ : G_api_Point), nilSl⟩ : G_api_Vote)⟩ : G_api_Proof)⟩ : G_api_Event)) (vs := [(0, vi 0), (1, vi (IntKind.i64.wrap (x2 + x5)))]) rfl (by kernel_rfl)) ?_
 refine op_w (pw_st (x := (⟨0, (IntKind.i64.wrap (x2 + x5)), (⟨0, 0, 0, nilSl, nilSl⟩ : G_api_Block), (⟨0, 0, (⟨0, 0⟩ : G_api_Point), (⟨0, 0⟩ : G_api_Point), nilSl⟩ : G_api_Vote), (⟨(⟨0, 0, (⟨0, 0⟩ : G_api_Point), (⟨0, 0⟩ : G_api_Point), nilSl⟩ : G_api_Vote), (⟨0, 0, (⟨0, 0⟩ : G_api_Point), (⟨0, 0⟩ : G_api_Point), nilSl⟩ : G_api_Vote)⟩ : G_api_Proof)⟩ : G_api_Event)) ty_57 rfl rfl h.1 ?_)
 intro w5 hw3
 replace h := h.2 w5 hw3
 refine ops_nil ?_
 refine WX_ret ?_
 obtain ⟨x6, hx6, h⟩ := h
 exact fin_of [t_api_Event.val x6] rfl ⟨⟨_, _, rfl, run_loadVar ty_57 hx6⟩, trivial⟩ h
 have h := h.2 hb6
 refine WX_seq (WX_region ?_)
 refine mv (vi x3) rfl <| op_v (pv_cmp (v := decide (x3 < 7)) rfl rfl rfl rfl) <| mva (vb (decide (x3 < 7))) rfl (ops_nil ?_)
 refine WX_cond (b := decide (x3 < 7)) rfl (fun hb5 => ?_) (fun hb5 => ?_)
 have h := h.1 hb5
 refine WX_seq (WX_region ?_)
 refine mv (.pointer a0) rfl <| op_w (pw_call co_49 rfl (CallsR.mono h ?_))
 rintro v3 w6 ⟨x7, rfl, h⟩
 refine mva (vu x7) rfl (ops_nil ?_)
 refine WX_seq (WX_region ?_)
 refine mv (.pointer a0) rfl <| op_v (pv_nilh rfl hp1) <| op_v (pv_fld fo_99_0 rfl) ?_
 obtain ⟨x8, hx8, h⟩ := h
 refine op_v (pv_ld ty_28 rfl hx8) ?_
 obtain ⟨b4, o3, hp3, h⟩ := h
 refine op_v (pv_nilh rfl hp3) <| op_v (pv_fld fo_43_1 rfl) ?_
 obtain ⟨x9, hx9, h⟩ := h
 refine op_v (pv_ld ty_33 rfl hx9) <| mv (vu x7) rfl <| op_w (pw_call co_24 rfl (CallsR.mono h ?_))
 rintro v4 w7 ⟨x10, x11, x12, x13, rfl, h⟩
 refine mv (.tuple #[vu x10, vi x11, vi x12, vb x13]) rfl <| op_v (pv_extract (vs := [vu x10, vi x11, vi x12, vb x13]) (v := vu x10) rfl rfl) ?_
 refine op_v (pv_extract (vs := [vu x10, vi x11, vi x12, vb x13]) (v := vi x11) rfl rfl) ?_
 refine op_v (pv_extract (vs := [vu x10, vi x11, vi x12, vb x13]) (v := vi x12) rfl rfl) ?_
 refine op_v (pv_extract (vs := [vu x10, vi x11, vi x12, vb x13]) (v := vb x13) rfl rfl) <| mva (vu x10) rfl <| mva (vi x11) rfl <| mva (vi x12) rfl ?_
 refine mva (vb x13) rfl (ops_nil ?_)
 refine WX_join (fun f w20 => ∃ b8 : Nat, ∃ o4 : Nat, Agree f [(0, .pointer a0), (2, vp b2 0), (3, vi x2), (5, vu x7), (10, vp b8 o4)] /\ sh_f31_j2 a0 Q b2 x2 x7 b8 o4 w20) ?_ ?_
 obtain ⟨w8, hw4, h⟩ := dwe h
 obtain ⟨x14, hx14, h⟩ := h
 refine WX_dr [7,16,20,21] [0,1,2,4,5,6,8,9,10,11,12,13,14,15,17,18,19] [⟨[],[0,1,2,4,5,6,11,12,13,14,15],[3],[(7,[7,8,9,10],1),(20,[20],8)]⟩,⟨[7],[8,9,10],[3],[(16,[16,17,18,19],2),(20,[20],5)]⟩,⟨[16,7],[17,18,19],[3],[(20,[20],3)]⟩,⟨[20,16,7],[],[3],[(21,[21],4)]⟩,⟨[21,20,16,7],[],[],[]⟩,⟨[20,7],[],[3],[(16,[16,17,18,19],6)]⟩,⟨[16,20,7],[17,18,19],[3],[(21,[21],7)]⟩,⟨[21,16,20,7],[],[],[]⟩,⟨[20],[],[3],[(7,[7,8,9,10],9)]⟩,⟨[7,20],[8,9,10],[3],[(16,[16,17,18,19],10)]⟩,⟨[16,7,20],[17,18,19],[3],[(21,[21],11)]⟩,⟨[21,16,7,20],[],[],[]⟩] [.pointer a0, vp b1 o1, vp b1 (o1 + 2), .slice x14.a x14.len x14.cap, vi (x14.len : Int), vi (IntKind.i64.wrap ((x14.len : Int) + 1)), .pointer a0, un, un, un, un, vu x7, vi x11, vi (IntKind.i64.wrap (x11 + 1)), vi x2, .pointer a0, un, un, un, un, un, un] 5 mixed (by kernel_rfl) hw4 ?_
 refine draw_go rfl (pu rfl (pv_move rfl) (pu rfl (pv_nilh rfl hp1) (pu rfl (pv_fld fo_99_2 rfl) (pu rfl (pv_lenS (s := x14) is_24 rfl) (pu rfl (pv_add rfl rfl) (pu rfl (pv_move rfl) (pu rfl (pv_move rfl) (pu rfl (pv_move rfl) (pu rfl (pv_add rfl rfl) (pu rfl (pv_move rfl) (pu rfl (pv_move rfl) ap0))))))))))) (ro rfl (pv_ld ty_24 rfl hx14) ao0) rfl ?_
 refine ch_yes rfl rfl ?_ (ch_yes rfl rfl ?_ ch0)
 replace h := h.1
 refine pw_call co_48 rfl (cm h ?_)
 rintro v5 w9 ⟨x15, rfl, h⟩
 obtain ⟨hc1, h⟩ := h
 refine nx [vi (IntKind.i64.wrap (Int.tdiv x15 19)), vi (IntKind.i64.wrap ((IntKind.i64.wrap ((x14.len : Int) + 1)) + (IntKind.i64.wrap (Int.tdiv x15 19)))), vu (IntKind.u64.wrap (IntKind.i64.wrap ((IntKind.i64.wrap ((x14.len : Int) + 1)) + (IntKind.i64.wrap (Int.tdiv x15 19)))))] rfl nl rfl ?_
 refine draw_go rfl (pu rfl (pv_quo rfl rfl (by decide)) (pu rfl (pv_add rfl rfl) (pu rfl (pv_conv us_3 uk_36 rfl) ap0))) (ro rfl (pv_ld ty_24 rfl hc1) ao0) rfl ?_
 refine ch_yes rfl rfl ?_ (ch_yes rfl rfl ?_ ch0)
 replace h := h.1
 refine pw_call co_48 rfl (cm h ?_)
 rintro v6 w10 ⟨x16, rfl, h⟩
 obtain ⟨hc2, h⟩ := h
 refine nx [vi (IntKind.i64.wrap (x2 - x16)), vi (if (IntKind.i64.wrap (x2 - x16)) > (IntKind.i64.wrap (x11 + 1)) then (IntKind.i64.wrap (x2 - x16)) else (IntKind.i64.wrap (x11 + 1))), t_api_Block.val (⟨(IntKind.u64.wrap (IntKind.i64.wrap ((IntKind.i64.wrap ((x14.len : Int) + 1)) + (IntKind.i64.wrap (Int.tdiv x15 19))))), x7, (if (IntKind.i64.wrap (x2 - x16)) > (IntKind.i64.wrap (x11 + 1)) then (IntKind.i64.wrap (x2 - x16)) else (IntKind.i64.wrap (x11 + 1))), nilSl, nilSl⟩ : G_api_Block)] rfl nl rfl ?_
 dsimp only [putV, List.set]
 refine draw_go rfl (pu rfl (pv_sub rfl rfl) (pu rfl (pv_max rfl rfl) (pu rfl (pv_build (cs := t_api_Block.enc (⟨(IntKind.u64.wrap (IntKind.i64.wrap ((IntKind.i64.wrap ((x14.len : Int) + 1)) + (IntKind.i64.wrap (Int.tdiv x15 19))))), x7, (if (IntKind.i64.wrap (x2 - x16)) > (IntKind.i64.wrap (x11 + 1)) then (IntKind.i64.wrap (x2 - x16)) else (IntKind.i64.wrap (x11 + 1))), nilSl, nilSl⟩ : G_api_Block)) (vs := [(0, vu (IntKind.u64.wrap (IntKind.i64.wrap ((IntKind.i64.wrap ((x14.len : Int) + 1)) + (IntKind.i64.wrap (Int.tdiv x15 19)))))), (1, vu x7), (2, vi (if (IntKind.i64.wrap (x2 - x16)) > (IntKind.i64.wrap (x11 + 1)) then (IntKind.i64.wrap (x2 - x16)) else (IntKind.i64.wrap (x11 + 1))))]) rfl (by kernel_rfl)) ap0))) (ro rfl (pv_ld ty_24 rfl hc2) ao0) rfl ?_
 refine cy rfl rfl ?_
 refine pw_alloc ty_50 tz_50 ?_
 intro b5 w11 hw5 hw6
 replace h := h b5 w11 hw5 hw6
 obtain ⟨hc3, h⟩ := h
 refine nx [] rfl nl rfl ?_
 dsimp only [putV, List.set]
 refine draw_go rfl ap0 (ro rfl (pv_ld ty_24 rfl hc3) ao0) rfl ?_
 refine cy rfl rfl ?_
 refine pw_st (x := (⟨(IntKind.u64.wrap (IntKind.i64.wrap ((IntKind.i64.wrap ((x14.len : Int) + 1)) + (IntKind.i64.wrap (Int.tdiv x15 19))))), x7, (if (IntKind.i64.wrap (x2 - x16)) > (IntKind.i64.wrap (x11 + 1)) then (IntKind.i64.wrap (x2 - x16)) else (IntKind.i64.wrap (x11 + 1))), nilSl, nilSl⟩ : G_api_Block)) ty_50 rfl rfl h.1 ?_
 intro w12 hw7
 replace h := h.2 w12 hw7
 refine nx [] rfl nl rfl ?_
 refine draw_end rfl ap0 ao0 ?_
 exact ⟨b5, 0, ⟨rfl, rfl, rfl, rfl, rfl, trivial⟩, h⟩
 replace h := h.2
 refine pw_alloc ty_50 tz_50 ?_
 intro b6 w13 hw8 hw9
 replace h := h b6 w13 hw8 hw9
 obtain ⟨hc4, h⟩ := h
 refine nx [] rfl nl rfl ?_
 refine draw_go rfl ap0 (ro rfl (pv_ld ty_24 rfl hc4) ao0) rfl ?_
 refine cy rfl rfl ?_
 refine pw_call co_48 rfl (cm h ?_)
 rintro v7 w14 ⟨x17, rfl, h⟩
 obtain ⟨hc5, h⟩ := h
 refine nx [vi (IntKind.i64.wrap (x2 - x17)), vi (if (IntKind.i64.wrap (x2 - x17)) > (IntKind.i64.wrap (x11 + 1)) then (IntKind.i64.wrap (x2 - x17)) else (IntKind.i64.wrap (x11 + 1))), t_api_Block.val (⟨(IntKind.u64.wrap (IntKind.i64.wrap ((IntKind.i64.wrap ((x14.len : Int) + 1)) + (IntKind.i64.wrap (Int.tdiv x15 19))))), x7, (if (IntKind.i64.wrap (x2 - x17)) > (IntKind.i64.wrap (x11 + 1)) then (IntKind.i64.wrap (x2 - x17)) else (IntKind.i64.wrap (x11 + 1))), nilSl, nilSl⟩ : G_api_Block)] rfl nl rfl ?_
 dsimp only [putV, List.set]
 refine draw_go rfl (pu rfl (pv_sub rfl rfl) (pu rfl (pv_max rfl rfl) (pu rfl (pv_build (cs := t_api_Block.enc (⟨(IntKind.u64.wrap (IntKind.i64.wrap ((IntKind.i64.wrap ((x14.len : Int) + 1)) + (IntKind.i64.wrap (Int.tdiv x15 19))))), x7, (if (IntKind.i64.wrap (x2 - x17)) > (IntKind.i64.wrap (x11 + 1)) then (IntKind.i64.wrap (x2 - x17)) else (IntKind.i64.wrap (x11 + 1))), nilSl, nilSl⟩ : G_api_Block)) (vs := [(0, vu (IntKind.u64.wrap (IntKind.i64.wrap ((IntKind.i64.wrap ((x14.len : Int) + 1)) + (IntKind.i64.wrap (Int.tdiv x15 19)))))), (1, vu x7), (2, vi (if (IntKind.i64.wrap (x2 - x17)) > (IntKind.i64.wrap (x11 + 1)) then (IntKind.i64.wrap (x2 - x17)) else (IntKind.i64.wrap (x11 + 1))))]) rfl (by kernel_rfl)) ap0))) (ro rfl (pv_ld ty_24 rfl hc5) ao0) rfl ?_
 refine cy rfl rfl ?_
 refine pw_st (x := (⟨(IntKind.u64.wrap (IntKind.i64.wrap ((IntKind.i64.wrap ((x14.len : Int) + 1)) + (IntKind.i64.wrap (Int.tdiv x15 19))))), x7, (if (IntKind.i64.wrap (x2 - x17)) > (IntKind.i64.wrap (x11 + 1)) then (IntKind.i64.wrap (x2 - x17)) else (IntKind.i64.wrap (x11 + 1))), nilSl, nilSl⟩ : G_api_Block)) ty_50 rfl rfl h.1 ?_
 intro w15 hw10
 replace h := h.2 w15 hw10
 refine nx [] rfl nl rfl ?_
 refine draw_end rfl ap0 ao0 ?_
 exact ⟨b6, 0, ⟨rfl, rfl, rfl, rfl, rfl, trivial⟩, h⟩
 replace h := h.2
 refine pw_alloc ty_50 tz_50 ?_
 intro b7 w16 hw11 hw12
 replace h := h b7 w16 hw11 hw12
 obtain ⟨hc6, h⟩ := h
 refine nx [] rfl nl rfl ?_
 refine draw_go rfl ap0 (ro rfl (pv_ld ty_24 rfl hc6) ao0) rfl ?_
 refine cy rfl rfl ?_
 refine pw_call co_48 rfl (cm h ?_)
 rintro v8 w17 ⟨x18, rfl, h⟩
 obtain ⟨hc7, h⟩ := h
 refine nx [vi (IntKind.i64.wrap (Int.tdiv x18 19)), vi (IntKind.i64.wrap ((IntKind.i64.wrap ((x14.len : Int) + 1)) + (IntKind.i64.wrap (Int.tdiv x18 19)))), vu (IntKind.u64.wrap (IntKind.i64.wrap ((IntKind.i64.wrap ((x14.len : Int) + 1)) + (IntKind.i64.wrap (Int.tdiv x18 19)))))] rfl nl rfl ?_
 dsimp only [putV, List.set]
 refine draw_go rfl (pu rfl (pv_quo rfl rfl (by decide)) (pu rfl (pv_add rfl rfl) (pu rfl (pv_conv us_3 uk_36 rfl) ap0))) (ro rfl (pv_ld ty_24 rfl hc7) ao0) rfl ?_
 refine cy rfl rfl ?_
 refine pw_call co_48 rfl (cm h ?_)
 rintro v9 w18 ⟨x19, rfl, h⟩
 obtain ⟨hc8, h⟩ := h
 refine nx [vi (IntKind.i64.wrap (x2 - x19)), vi (if (IntKind.i64.wrap (x2 - x19)) > (IntKind.i64.wrap (x11 + 1)) then (IntKind.i64.wrap (x2 - x19)) else (IntKind.i64.wrap (x11 + 1))), t_api_Block.val (⟨(IntKind.u64.wrap (IntKind.i64.wrap ((IntKind.i64.wrap ((x14.len : Int) + 1)) + (IntKind.i64.wrap (Int.tdiv x18 19))))), x7, (if (IntKind.i64.wrap (x2 - x19)) > (IntKind.i64.wrap (x11 + 1)) then (IntKind.i64.wrap (x2 - x19)) else (IntKind.i64.wrap (x11 + 1))), nilSl, nilSl⟩ : G_api_Block)] rfl nl rfl ?_
 dsimp only [putV, List.set]
 refine draw_go rfl (pu rfl (pv_sub rfl rfl) (pu rfl (pv_max rfl rfl) (pu rfl (pv_build (cs := t_api_Block.enc (⟨(IntKind.u64.wrap (IntKind.i64.wrap ((IntKind.i64.wrap ((x14.len : Int) + 1)) + (IntKind.i64.wrap (Int.tdiv x18 19))))), x7, (if (IntKind.i64.wrap (x2 - x19)) > (IntKind.i64.wrap (x11 + 1)) then (IntKind.i64.wrap (x2 - x19)) else (IntKind.i64.wrap (x11 + 1))), nilSl, nilSl⟩ : G_api_Block)) (vs := [(0, vu (IntKind.u64.wrap (IntKind.i64.wrap ((IntKind.i64.wrap ((x14.len : Int) + 1)) + (IntKind.i64.wrap (Int.tdiv x18 19)))))), (1, vu x7), (2, vi (if (IntKind.i64.wrap (x2 - x19)) > (IntKind.i64.wrap (x11 + 1)) then (IntKind.i64.wrap (x2 - x19)) else (IntKind.i64.wrap (x11 + 1))))]) rfl (by kernel_rfl)) ap0))) (ro rfl (pv_ld ty_24 rfl hc8) ao0) rfl ?_
 refine cy rfl rfl ?_
 refine pw_st (x := (⟨(IntKind.u64.wrap (IntKind.i64.wrap ((IntKind.i64.wrap ((x14.len : Int) + 1)) + (IntKind.i64.wrap (Int.tdiv x18 19))))), x7, (if (IntKind.i64.wrap (x2 - x19)) > (IntKind.i64.wrap (x11 + 1)) then (IntKind.i64.wrap (x2 - x19)) else (IntKind.i64.wrap (x11 + 1))), nilSl, nilSl⟩ : G_api_Block)) ty_50 rfl rfl h.1 ?_
 intro w19 hw13
 replace h := h.2 w19 hw13
 refine nx [] rfl nl rfl ?_
 refine draw_end rfl ap0 ao0 ?_
 exact ⟨b7, 0, ⟨rfl, rfl, rfl, rfl, rfl, trivial⟩, h⟩
 rintro f w20 ⟨b8, o4, ha, h⟩
 obtain ⟨g4, rfl⟩ := canon ha
 refine WX_join (fun f w29 => Agree f [(0, .pointer a0), (2, vp b2 0), (3, vi x2), (5, vu x7), (10, vp b8 o4)] /\ sh_f31_j4 a0 Q b2 x2 x7 b8 o4 w29) ?_ ?_
 refine WX_seq (WX_region ?_)
 refine mv (.pointer a0) rfl <| op_w (pw_call co_48 rfl (CallsR.mono h ?_))
 rintro v10 w21 ⟨x20, rfl, h⟩
 refine mva (vi x20) rfl (ops_nil ?_)
 refine WX_block ?_
 obtain ⟨I1, ⟨m, h0⟩, hB1⟩ := h
 refine WX_loop (fun m f w22 => ∃ x21 : Int, Agree f [(0, .pointer a0), (2, vp b2 0), (3, vi x2), (5, vu x7), (10, vp b8 o4), (11, vi x21)] /\ I1 m x21 w22) ⟨m, x20, ⟨rfl, rfl, rfl, rfl, rfl, rfl, trivial⟩, h0⟩ ?_
 clear h0 m
 rintro m f w22 ⟨x21, ha, h⟩
 obtain ⟨g1, rfl⟩ := canon ha
 replace h := hB1 m x21 w22 h
 clear hB1
 generalize hn_nxt1 : (fun (y0 : Int) (w : World) => ∃ m2, m2 < m /\ I1 m2 y0 w) = nxt1 at h
 refine WX_seq ?_
 refine WX_seq (WX_region ?_)
 refine mv (vi x21) rfl <| op_v (pv_cmp (v := decide (x21 > 0)) rfl rfl rfl rfl) (ops_nil ?_)
 refine WX_cond (b := decide (x21 > 0)) rfl (fun hb2 => ?_) (fun hb2 => ?_)
 have h := h.1 hb2
 refine WX_skip <| WX_seq ?_
 refine WX_block ?_
 obtain ⟨w23, hw14, h⟩ := dwe h
 obtain ⟨x22, hx22, h⟩ := h
 refine WX_dr [6,9,10,11,13] [0,2,3,4,5,7,8,12] [⟨[],[0,2,3,4,5],[1],[(6,[6,7,8],1)]⟩,⟨[6],[7,8],[1],[(9,[9],2)]⟩,⟨[9,6],[],[1],[(10,[10],3)]⟩,⟨[10,9,6],[],[1],[(11,[11,12],4)]⟩,⟨[11,10,9,6],[12],[],[(13,[13],5)]⟩,⟨[13,11,10,9,6],[],[],[]⟩] [vp b8 (o4 + 3), .slice x22.a x22.len x22.cap, .pointer a0, vu x7, vi x2, .pointer a0, un, un, un, un, un, un, un, un] 6 mixed (by kernel_rfl) hw14 ?_
 refine draw_go rfl (pu rfl (pv_fld fo_50_3 rfl) (pu rfl (pv_move rfl) (pu rfl (pv_move rfl) (pu rfl (pv_move rfl) (pu rfl (pv_move rfl) ap0))))) (ro rfl (pv_ld ty_47 rfl hx22) ao0) rfl ?_
 refine cy rfl rfl ?_
 refine pw_call co_48 rfl (cm h ?_)
 rintro v11 w24 ⟨x23, rfl, h⟩
 obtain ⟨hc9, h⟩ := h
 refine nx [vi (IntKind.i64.wrap (x2 - x23)), vi (if (IntKind.i64.wrap (x2 - x23)) > 0 then (IntKind.i64.wrap (x2 - x23)) else 0)] rfl nl rfl ?_
 refine draw_go rfl (pu rfl (pv_sub rfl rfl) (pu rfl (pv_max rfl rfl) ap0)) (ro rfl (pv_ld ty_47 rfl hc9) ao0) rfl ?_
 refine cy rfl rfl ?_
 refine pw_call co_50 rfl (cm h ?_)
 rintro v12 w25 ⟨x24, rfl, h⟩
 obtain ⟨hc10, h⟩ := h
 refine nx [] rfl nl rfl ?_
 refine draw_go rfl ap0 (ro rfl (pv_ld ty_47 rfl hc10) ao0) rfl ?_
 refine cy rfl rfl ?_
 refine pw_buildSlice (e := 53) (cs := t_api_Vote.enc x24) (vs := [(0, t_api_Vote.val x24)]) rfl (by kernel_rfl) ?_
 intro b9 w26 hw15 hw16
 replace h := h b9 w26 hw15 hw16
 obtain ⟨hc11, h⟩ := h
 refine nx [] rfl nl rfl ?_
 dsimp only [putV, List.set]
 refine draw_go rfl ap0 (ro rfl (pv_ld ty_47 rfl hc11) ao0) rfl ?_
 refine cy rfl rfl ?_
 obtain ⟨ol1, ne1, ha1, ha2, ha3, ha4, ha5, h⟩ := h
 refine pw_append (s := x22) (r := (Sl.mk (some ⟨b9, 0, none⟩) 1 1)) eo_47 is_47 rfl rfl ha1 ha2 ha3 ha4 ha5 ?_
 intro x25 w27 ha6
 replace h := h x25 w27 ha6
 refine nx [vp b8 (o4 + 3)] rfl nl rfl ?_
 refine draw_go rfl (pu rfl (pv_fld fo_50_3 rfl) ap0) ao0 rfl ?_
 refine cy rfl rfl ?_
 refine pw_st (x := x25) ty_47 rfl rfl h.1 ?_
 intro w28 hw17
 replace h := h.2 w28 hw17
 refine nx [] rfl nl rfl ?_
 refine draw_end rfl ap0 ao0 ?_
 refine WX_region ?_
 refine mv (vi x21) rfl <| op_v (pv_sub rfl rfl) <| mva (vi (IntKind.i64.wrap (x21 - 1))) rfl (ops_nil ?_)
 subst hn_nxt1
 obtain ⟨m2, hm2, h⟩ := h
 exact ⟨m2, hm2, (IntKind.i64.wrap (x21 - 1)), ⟨rfl, rfl, rfl, rfl, rfl, rfl, trivial⟩, h⟩
 have h := h.2 hb2
 refine WX_exit0 ?_
 exact ⟨⟨rfl, rfl, rfl, rfl, rfl, trivial⟩, h⟩
 rintro f w29 ⟨ha, h⟩
 obtain ⟨g3, rfl⟩ := canon ha
 refine WX_join (fun f w40 => Agree f [(2, vp b2 0), (10, vp b8 o4)] /\ sh_f31_j5 Q b2 b8 o4 w40) ?_ ?_
 refine WX_seq (WX_region ?_)
 refine mv (.pointer a0) rfl <| op_w (pw_call co_48 rfl (CallsR.mono h ?_))
 rintro v13 w30 ⟨x26, rfl, h⟩
 refine op_v (pv_cmp (v := (x26 == 15)) rfl rfl rfl rfl) (ops_nil ?_)
 refine WX_cond (b := (x26 == 15)) rfl (fun hb3 => ?_) (fun hb3 => ?_)
 have h := h.1 hb3
 refine WX_seq (WX_region ?_)
 refine mv (.pointer a0) rfl <| mv (vu x7) rfl <| mv (vi x2) rfl <| op_w (pw_call co_50 rfl (CallsR.mono h ?_))
 rintro v14 w31 ⟨x27, rfl, h⟩
 refine op_w (pw_alloc ty_53 tz_53 ?_)
 intro b10 w32 hw18 hw19
 replace h := h b10 w32 hw18 hw19
 refine op_w (pw_st (x := x27) ty_53 rfl rfl h.1 ?_)
 intro w33 hw20
 replace h := h.2 w33 hw20
 refine ops_nil ?_
 refine WX_seq (WX_region ?_)
 obtain ⟨x28, hx28, h⟩ := h
 refine op_v (pv_ld ty_53 rfl hx28) <| op_w (pw_alloc ty_53 tz_53 ?_)
 intro b11 w34 hw21 hw22
 replace h := h b11 w34 hw21 hw22
 refine op_w (pw_st (x := x28) ty_53 rfl rfl h.1 ?_)
 intro w35 hw23
 replace h := h.2 w35 hw23
 refine ops_nil ?_
 refine WX_seq (WX_region ?_)
 refine op_v (pv_fld fo_53_1 rfl) <| op_w (pw_st (x := 1) ty_36 rfl rfl h.1 ?_)
 intro w36 hw24
 replace h := h.2 w36 hw24
 refine ops_nil ?_
 refine WX_region ?_
 refine op_v (pv_fld fo_50_4 rfl) ?_
 obtain ⟨x29, hx29, h⟩ := h
 refine op_v (pv_ld ty_48 rfl hx29) ?_
 obtain ⟨x30, hx30, h⟩ := h
 refine op_v (pv_ld ty_53 rfl hx30) ?_
 obtain ⟨x31, hx31, h⟩ := h
 refine op_v (pv_ld ty_53 rfl hx31) ?_
 refine op_v (pv_build (cs := t_api_Proof.enc (⟨x30, x31⟩ : G_api_Proof)) (vs := [(0, t_api_Vote.val x30), (1, t_api_Vote.val x31)]) rfl (by kernel_rfl)) ?_
 refine op_w (pw_buildSlice (e := 55) (cs := t_api_Proof.enc (⟨x30, x31⟩ : G_api_Proof)) (vs := [(0, t_api_Proof.val (⟨x30, x31⟩ : G_api_Proof))]) rfl (by kernel_rfl) ?_)
 intro b12 w37 hw25 hw26
 replace h := h b12 w37 hw25 hw26
 obtain ⟨ol2, ne2, ha7, ha8, ha9, ha10, ha11, h⟩ := h
 refine op_w (pw_append (s := x29) (r := (Sl.mk (some ⟨b12, 0, none⟩) 1 1)) eo_48 is_48 rfl rfl ha7 ha8 ha9 ha10 ha11 ?_)
 intro x32 w38 ha12
 replace h := h x32 w38 ha12
 refine op_v (pv_fld fo_50_4 rfl) <| op_w (pw_st (x := x32) ty_48 rfl rfl h.1 ?_)
 intro w39 hw27
 replace h := h.2 w39 hw27
 refine ops_nil ?_
 exact ⟨⟨rfl, rfl, trivial⟩, h⟩
 have h := h.2 hb3
 refine WX_skip ?_
 exact ⟨⟨rfl, rfl, trivial⟩, h⟩
 rintro f w40 ⟨ha, h⟩
 obtain ⟨g2, rfl⟩ := canon ha
 refine WX_seq (WX_region ?_)
 obtain ⟨x33, hx33, h⟩ := h
 refine op_v (pv_ld ty_50 rfl hx33) ?_
 refine op_v (pv_build (cs := t_api_Event.enc (⟨1, 0, x33, (⟨0, 0, (⟨0, 0⟩ : G_api_Point), (⟨0, 0⟩ : G_api_Point), nilSl⟩ : G_api_Vote), (⟨(⟨0, 0, (⟨0, 0⟩ : G_api_Point), (⟨0, 0⟩ : G_api_Point), nilSl⟩ : G_api_Vote), (⟨0, 0, (⟨0, 0⟩ : G_api_Point), (⟨0, 0⟩ : G_api_Point), nilSl⟩ : G_api_Vote)⟩ : G_api_Proof)⟩ : G_api_Event)) (vs := [(0, vi 1), (2, t_api_Block.val x33)]) rfl (by kernel_rfl)) ?_
 refine op_w (pw_st (x := (⟨1, 0, x33, (⟨0, 0, (⟨0, 0⟩ : G_api_Point), (⟨0, 0⟩ : G_api_Point), nilSl⟩ : G_api_Vote), (⟨(⟨0, 0, (⟨0, 0⟩ : G_api_Point), (⟨0, 0⟩ : G_api_Point), nilSl⟩ : G_api_Vote), (⟨0, 0, (⟨0, 0⟩ : G_api_Point), (⟨0, 0⟩ : G_api_Point), nilSl⟩ : G_api_Vote)⟩ : G_api_Proof)⟩ : G_api_Event)) ty_57 rfl rfl h.1 ?_)
 intro w41 hw28
 replace h := h.2 w41 hw28
 refine ops_nil ?_
 refine WX_ret ?_
 obtain ⟨x34, hx34, h⟩ := h
 exact fin_of [t_api_Event.val x34] rfl ⟨⟨_, _, rfl, run_loadVar ty_57 hx34⟩, trivial⟩ h
 have h := h.2 hb5
 refine WX_seq (WX_region ?_)
 refine mv (vi x3) rfl <| op_v (pv_cmp (v := decide (x3 < 9)) rfl rfl rfl rfl) <| mva (vb (decide (x3 < 9))) rfl (ops_nil ?_)
 refine WX_cond (b := decide (x3 < 9)) rfl (fun hb4 => ?_) (fun hb4 => ?_)
 have h := h.1 hb4
 refine WX_seq (WX_region ?_)
 refine mv (.pointer a0) rfl <| mv (.pointer a0) rfl <| op_w (pw_call co_49 rfl (CallsR.mono h ?_))
 rintro v15 w42 ⟨x35, rfl, h⟩
 refine mv (vi x2) rfl <| mv (.pointer a0) rfl <| op_w (pw_call co_48 rfl (CallsR.mono h ?_))
 rintro v16 w43 ⟨x36, rfl, h⟩
 refine op_v (pv_sub rfl rfl) <| op_v (pv_max rfl rfl) <| op_w (pw_call co_50 rfl (CallsR.mono h ?_))
 rintro v17 w44 ⟨x37, rfl, h⟩
 refine op_v (pv_build (cs := t_api_Event.enc (⟨2, 0, (⟨0, 0, 0, nilSl, nilSl⟩ : G_api_Block), x37, (⟨(⟨0, 0, (⟨0, 0⟩ : G_api_Point), (⟨0, 0⟩ : G_api_Point), nilSl⟩ : G_api_Vote), (⟨0, 0, (⟨0, 0⟩ : G_api_Point), (⟨0, 0⟩ : G_api_Point), nilSl⟩ : G_api_Vote)⟩ : G_api_Proof)⟩ : G_api_Event)) (vs := [(0, vi 2), (3, t_api_Vote.val x37)]) rfl (by kernel_rfl)) ?_
 refine op_w (pw_st (x := (⟨2, 0, (⟨0, 0, 0, nilSl, nilSl⟩ : G_api_Block), x37, (⟨(⟨0, 0, (⟨0, 0⟩ : G_api_Point), (⟨0, 0⟩ : G_api_Point), nilSl⟩ : G_api_Vote), (⟨0, 0, (⟨0, 0⟩ : G_api_Point), (⟨0, 0⟩ : G_api_Point), nilSl⟩ : G_api_Vote)⟩ : G_api_Proof)⟩ : G_api_Event)) ty_57 rfl rfl h.1 ?_)
 intro w45 hw29
 replace h := h.2 w45 hw29
 refine ops_nil ?_
 refine WX_ret ?_
 obtain ⟨x38, hx38, h⟩ := h
 exact fin_of [t_api_Event.val x38] rfl ⟨⟨_, _, rfl, run_loadVar ty_57 hx38⟩, trivial⟩ h
 have h := h.2 hb4
 refine WX_skip ?_
 exact ⟨⟨rfl, rfl, rfl, trivial⟩, h⟩
 rintro f w46 ⟨ha, h⟩
 obtain ⟨g6, rfl⟩ := canon ha
 refine WX_seq (WX_region ?_)
 refine mv (.pointer a0) rfl <| mv (.pointer a0) rfl <| op_w (pw_call co_49 rfl (CallsR.mono h ?_))
 rintro v18 w47 ⟨x39, rfl, h⟩
 refine mv (vi x2) rfl <| op_w (pw_call co_50 rfl (CallsR.mono h ?_))
 rintro v19 w48 ⟨x40, rfl, h⟩
 refine op_w (pw_alloc ty_53 tz_53 ?_)
 intro b13 w49 hw30 hw31
 replace h := h b13 w49 hw30 hw31
 refine op_w (pw_st (x := x40) ty_53 rfl rfl h.1 ?_)
 intro w50 hw32
 replace h := h.2 w50 hw32
 refine ops_nil ?_
 refine WX_seq (WX_region ?_)
 obtain ⟨x41, hx41, h⟩ := h
 refine op_v (pv_ld ty_53 rfl hx41) <| op_w (pw_alloc ty_53 tz_53 ?_)
 intro b14 w51 hw33 hw34
 replace h := h b14 w51 hw33 hw34
 refine op_w (pw_st (x := x41) ty_53 rfl rfl h.1 ?_)
 intro w52 hw35
 replace h := h.2 w52 hw35
 refine ops_nil ?_
 refine WX_seq (WX_region ?_)
 refine mv (.pointer a0) rfl <| op_w (pw_call co_48 rfl (CallsR.mono h ?_))
 rintro v20 w53 ⟨x42, rfl, h⟩
 refine op_v (pv_conv us_3 uk_36 rfl) <| op_v (pv_fld fo_53_1 rfl) <| op_w (pw_st (x := (IntKind.u64.wrap x42)) ty_36 rfl rfl h.1 ?_)
 intro w54 hw36
 replace h := h.2 w54 hw36
 refine ops_nil ?_
 refine WX_seq (WX_region ?_)
 obtain ⟨x43, hx43, h⟩ := h
 refine op_v (pv_ld ty_53 rfl hx43) ?_
 obtain ⟨x44, hx44, h⟩ := h
 refine op_v (pv_ld ty_53 rfl hx44) ?_
 refine op_v (pv_build (cs := t_api_Proof.enc (⟨x43, x44⟩ : G_api_Proof)) (vs := [(0, t_api_Vote.val x43), (1, t_api_Vote.val x44)]) rfl (by kernel_rfl)) ?_
 refine op_v (pv_build (cs := t_api_Event.enc (⟨3, 0, (⟨0, 0, 0, nilSl, nilSl⟩ : G_api_Block), (⟨0, 0, (⟨0, 0⟩ : G_api_Point), (⟨0, 0⟩ : G_api_Point), nilSl⟩ : G_api_Vote), (⟨x43, x44⟩ : G_api_Proof)⟩ : G_api_Event)) (vs := [(0, vi 3), (4, t_api_Proof.val (⟨x43, x44⟩ : G_api_Proof))]) rfl (by kernel_rfl)) ?_
 refine op_w (pw_st (x := (⟨3, 0, (⟨0, 0, 0, nilSl, nilSl⟩ : G_api_Block), (⟨0, 0, (⟨0, 0⟩ : G_api_Point), (⟨0, 0⟩ : G_api_Point), nilSl⟩ : G_api_Vote), (⟨x43, x44⟩ : G_api_Proof)⟩ : G_api_Event)) ty_57 rfl rfl h.1 ?_)
 intro w55 hw37
 replace h := h.2 w55 hw37
 refine ops_nil ?_
 refine WX_ret ?_
 obtain ⟨x45, hx45, h⟩ := h
 exact fin_of [t_api_Event.val x45] rfl ⟨⟨_, _, rfl, run_loadVar ty_57 hx45⟩, trivial⟩ h
def sh_f32 (a0 : Option Addr) (a1 : Int) (Q : QW) (w0 : World) : Prop :=
  nc a0 fun b1 o1 => ld tI64 w0 b1 (o1 + 5) fun x1 => br (decide (a1 <= x1)) (Q (.iface 94 (.int .i64 3)) w0) (br (decide (a1 > 1099511627776)) (Q (.iface 94 (.int .i64 4)) w0) (st tI64 w0 b1 (o1 + 5) a1 fun w1 => st tU64 w1 b1 (o1 + 6) 0 fun w2 => Q (.nilIface) w2))
theorem so_f32 {a0 : Option Addr} {a1 : Int} (Q : QW) (w0 : World) (h : sh_f32 a0 a1 Q w0) : CallsR PP n_f32 #[.pointer a0, .int .i64 a1] Q w0 := by
 refine callsR_of_WX (args := [.pointer a0, vi a1]) Try.func32 rfl Try.ntmps32 nl ?_
 obtain ⟨b1, o1, hp1, h⟩ := h
 refine WX_seq (WX_region ?_)
 refine mva .nilIface rfl (ops_nil ?_)
 refine WX_seq ?_
 refine WX_block ?_
 refine WX_seq (WX_region ?_)
 refine mv (vi a1) rfl <| mv (.pointer a0) rfl <| op_v (pv_nilh rfl hp1) <| op_v (pv_fld fo_43_3 rfl) ?_
 obtain ⟨x1, hx1, h⟩ := h
 refine op_v (pv_ld ty_3 rfl hx1) <| op_v (pv_cmp (v := decide (a1 <= x1)) rfl rfl rfl rfl) <| mva (vb (decide (a1 <= x1))) rfl (ops_nil ?_)
 refine WX_cond (b := decide (a1 <= x1)) rfl (fun hb2 => ?_) (fun hb2 => ?_)
 have h := h.1 hb2
 refine WX_seq (WX_region ?_)
 refine op_v (pv_iface (v := vi 3) ni_94 rfl) <| mva (.iface 94 (vi 3)) rfl (ops_nil ?_)
 refine WX_ret ?_
 exact fin_of [.iface 94 (vi 3)] rfl ⟨rfl, trivial⟩ h
 have h := h.2 hb2
 refine WX_seq (WX_region ?_)
 refine mv (vi a1) rfl <| op_v (pv_cmp (v := decide (a1 > 1099511627776)) rfl rfl rfl rfl) <| mva (vb (decide (a1 > 1099511627776))) rfl (ops_nil ?_)
 refine WX_cond (b := decide (a1 > 1099511627776)) rfl (fun hb1 => ?_) (fun hb1 => ?_)
 have h := h.1 hb1
 refine WX_seq (WX_region ?_)
 refine op_v (pv_iface (v := vi 4) ni_94 rfl) <| mva (.iface 94 (vi 4)) rfl (ops_nil ?_)
 refine WX_ret ?_
 exact fin_of [.iface 94 (vi 4)] rfl ⟨rfl, trivial⟩ h
 have h := h.2 hb1
 refine WX_skip <| WX_seq (WX_region ?_)
 refine mv (.pointer a0) rfl <| mv (.pointer a0) rfl <| mv (vi a1) rfl <| op_v (pv_nilh rfl hp1) <| op_v (pv_fld fo_43_3 rfl) ?_
 refine op_w (pw_st (x := a1) ty_3 rfl rfl h.1 ?_)
 intro w1 hw1
 replace h := h.2 w1 hw1
 refine op_v (pv_nilh rfl hp1) <| op_v (pv_fld fo_43_4 rfl) <| op_w (pw_st (x := 0) ty_36 rfl rfl h.1 ?_)
 intro w2 hw2
 replace h := h.2 w2 hw2
 refine ops_nil ?_
 refine WX_seq (WX_region ?_)
 refine mva .nilIface rfl (ops_nil ?_)
 refine WX_ret ?_
 exact fin_of [.nilIface] rfl ⟨rfl, trivial⟩ h
end Go.Proofs.Ytdefmgkicdhmkaa
namespace Go.Proofs.Ytdefmgkicdhmkaa
open Go Go.Sx
set_option linter.unusedVariables false
set_option maxRecDepth 100000
set_option maxHeartbeats 2000000
def sh_f33_j12 (Q : QW) (w56 : World) : Prop :=
  Q (.nilIface) w56
def sh_f33_j11 (a0 : Option Addr) (Q : QW) (b1 : Nat) (o1 : Nat) (b2 : Nat) (b15 : Nat) (o6 : Nat) (w51 : World) : Prop :=
  dw w51 fun w52 => ld tI64 w52 b2 2 fun x60 => ld tI64 w52 b1 ((o1 + 0) + 1) fun x61 => ld tI64 w52 b1 (o1 + 5) fun x62 => ld tI64 w52 b1 ((o1 + 0) + 1) fun x63 => CallsR PP n_f41 #[.int .i64 x60, .int .i64 x61] (fun v11 w53 => ∃ x64 : Int, v11 = .int .i64 x64 /\ (chk tI64 w53 b1 (o1 + 5) x62 <| chk tI64 w53 b1 ((o1 + 0) + 1) x63 <| CallsR PP n_f41 #[.int .i64 x62, .int .i64 x63] (fun v12 w54 => ∃ x65 : Int, v12 = .int .i64 x65 /\ (br (decide (x64 < x65)) (ld t_api_Point w54 b15 (o6 + 6) fun x66 => ld t_api_Point w54 b15 (o6 + 8) fun x67 => CallsR PP n_f52 #[.pointer a0, t_api_Point.val x66, t_api_Point.val x67] (fun v13 w55 => (sh_f33_j12 Q w55)) w54) ((sh_f33_j12 Q w54)))) w53)) w52
def sh_f33_j10 (a0 : Option Addr) (Q : QW) (b1 : Nat) (o1 : Nat) (b2 : Nat) (x20 : Fv) (b6 : Nat) (o2 : Nat) (w42 : World) : Prop :=
  ld t_api_Point w42 b6 ((o2 + 0) + 6) fun x54 => ld t_api_Point w42 b6 ((o2 + 0) + 8) fun x55 => CallsR PP n_f52 #[.pointer a0, t_api_Point.val x54, t_api_Point.val x55] (fun v8 w43 => dw w43 fun w44 => ld t_api_Config w44 b1 (o1 + 0) fun x56 => ld t_ledger_State w44 b6 o2 fun x57 => ((CallsR PP n_f26 #[t_api_Config.val x56, t_ledger_State.val x57, x20.v] (fun v9 w45 => ∃ x58 : G_justify_State, v9 = t_justify_State.val x58 /\ (al t_justify_State 75 w45 (⟨(⟨false, false, false, false⟩ : G_Arr4_bool), (⟨0, 0⟩ : G_api_Point), (⟨0, 0⟩ : G_api_Point), (⟨0, 0⟩ : G_api_Point)⟩ : G_justify_State) fun b13 w46 => st t_justify_State w46 b13 0 x58 fun w47 => (sh_f33_j11 a0 Q b1 o1 b2 b13 0 w47))) w44) /\ (al t_justify_State 75 w44 (⟨(⟨false, false, false, false⟩ : G_Arr4_bool), (⟨0, 0⟩ : G_api_Point), (⟨0, 0⟩ : G_api_Point), (⟨0, 0⟩ : G_api_Point)⟩ : G_justify_State) fun b14 w48 => chk t_api_Config w48 b1 (o1 + 0) x56 <| chk t_ledger_State w48 b6 o2 x57 <| CallsR PP n_f26 #[t_api_Config.val x56, t_ledger_State.val x57, x20.v] (fun v10 w49 => ∃ x59 : G_justify_State, v10 = t_justify_State.val x59 /\ (st t_justify_State w49 b14 0 x59 fun w50 => (sh_f33_j11 a0 Q b1 o1 b2 b14 0 w50))) w48))) w42
def sh_f33_j9 (a0 : Option Addr) (Q : QW) (b1 : Nat) (o1 : Nat) (b2 : Nat) (x20 : Fv) (b6 : Nat) (o2 : Nat) (x52 : Bool) (w40 : World) : Prop :=
  br x52 (ld tU64 w40 b2 0 fun x53 => st tU64 w40 b1 (o1 + 6) x53 fun w41 => (sh_f33_j10 a0 Q b1 o1 b2 x20 b6 o2 w41)) ((sh_f33_j10 a0 Q b1 o1 b2 x20 b6 o2 w40))
def sh_f33_j8 (a0 : Option Addr) (Q : QW) (b1 : Nat) (o1 : Nat) (b2 : Nat) (x20 : Fv) (b6 : Nat) (o2 : Nat) (w38 : World) : Prop :=
  dw w38 fun w39 => ld tI64 w39 b2 2 fun x49 => ld tI64 w39 b1 (o1 + 5) fun x50 => br (x49 == x50) (ld tU64 w39 b1 (o1 + 6) fun x51 => (sh_f33_j9 a0 Q b1 o1 b2 x20 b6 o2 (x51 == 0) w39)) ((sh_f33_j9 a0 Q b1 o1 b2 x20 b6 o2 false w39))
def sh_f33_b7 (a0 : Option Addr) (Q : QW) (b1 : Nat) (o1 : Nat) (b2 : Nat) (x20 : Fv) (b6 : Nat) (o2 : Nat) (x44 : Sl) (x45 : Int) (w34 : World) (nxt3 : Int -> World -> Prop) : Prop :=
  br (decide (x45 < (x44.len : Int))) (ixs x44 x45 fun b11 o5 => ld t_api_Proof w34 b11 (o5 + (x45).toNat * 14) fun x46 => al t_api_Proof 55 w34 (⟨(⟨0, 0, (⟨0, 0⟩ : G_api_Point), (⟨0, 0⟩ : G_api_Point), nilSl⟩ : G_api_Vote), (⟨0, 0, (⟨0, 0⟩ : G_api_Point), (⟨0, 0⟩ : G_api_Point), nilSl⟩ : G_api_Vote)⟩ : G_api_Proof) fun b12 w35 => st t_api_Proof w35 b12 0 x46 fun w36 => ld t_api_Proof w36 b12 0 fun x47 => CallsR PP n_f35 #[.pointer a0, t_api_Proof.val x47] (fun v7 w37 => ∃ x48 : Ifc, v7 = x48.v /\ (nxt3 (IntKind.i64.wrap (x45 + 1)) w37)) w36) ((sh_f33_j8 a0 Q b1 o1 b2 x20 b6 o2 w34))
def sh_f33_j6 (a0 : Option Addr) (Q : QW) (b1 : Nat) (o1 : Nat) (b2 : Nat) (x20 : Fv) (b6 : Nat) (o2 : Nat) (w33 : World) : Prop :=
  ld tSl w33 b2 4 fun x44 => (∃ I3 : Nat -> Int -> World -> Prop, (∃ m, I3 m 0 w33) /\ ∀ m x45 w34, I3 m x45 w34 -> sh_f33_b7 a0 Q b1 o1 b2 x20 b6 o2 x44 x45 w34 (fun y0 w => ∃ m2, m2 < m /\ I3 m2 y0 w))
def sh_f33_b5 (a0 : Option Addr) (Q : QW) (b1 : Nat) (o1 : Nat) (b2 : Nat) (x20 : Fv) (b6 : Nat) (o2 : Nat) (x39 : Sl) (x40 : Int) (w29 : World) (nxt2 : Int -> World -> Prop) : Prop :=
  br (decide (x40 < (x39.len : Int))) (ixs x39 x40 fun b9 o4 => ld t_api_Vote w29 b9 (o4 + (x40).toNat * 7) fun x41 => al t_api_Vote 53 w29 (⟨0, 0, (⟨0, 0⟩ : G_api_Point), (⟨0, 0⟩ : G_api_Point), nilSl⟩ : G_api_Vote) fun b10 w30 => st t_api_Vote w30 b10 0 x41 fun w31 => ld t_api_Vote w31 b10 0 fun x42 => CallsR PP n_f34 #[.pointer a0, t_api_Vote.val x42, .bool true] (fun v6 w32 => ∃ x43 : Ifc, v6 = x43.v /\ (nxt2 (IntKind.i64.wrap (x40 + 1)) w32)) w31) ((sh_f33_j6 a0 Q b1 o1 b2 x20 b6 o2 w29))
def sh_f33_j4 (a0 : Option Addr) (Q : QW) (b1 : Nat) (o1 : Nat) (b2 : Nat) (x20 : Fv) (b6 : Nat) (o2 : Nat) (w26 : World) : Prop :=
  dw w26 fun w27 => ld tMap w27 b1 (o1 + 11) fun x36 => ld tU64 w27 b2 0 fun x37 => ld t_ledger_State w27 b6 o2 fun x38 => mset t_ledger_State w27 x36 x37 x38 fun w28 => ld tSl w28 b2 3 fun x39 => (∃ I2 : Nat -> Int -> World -> Prop, (∃ m, I2 m 0 w28) /\ ∀ m x40 w29, I2 m x40 w29 -> sh_f33_b5 a0 Q b1 o1 b2 x20 b6 o2 x39 x40 w29 (fun y0 w => ∃ m2, m2 < m /\ I2 m2 y0 w))
def sh_f33_b3 (a0 : Option Addr) (Q : QW) (b1 : Nat) (o1 : Nat) (b2 : Nat) (x20 : Fv) (b6 : Nat) (o2 : Nat) (x28 : Sl) (x29 : Int) (w20 : World) (nxt1 : Int -> World -> Prop) : Prop :=
  br (decide (x29 < (x28.len : Int))) (ixs x28 x29 fun b7 o3 => ld t_api_Vote w20 b7 (o3 + (x29).toNat * 7) fun x30 => al t_api_Vote 53 w20 (⟨0, 0, (⟨0, 0⟩ : G_api_Point), (⟨0, 0⟩ : G_api_Point), nilSl⟩ : G_api_Vote) fun b8 w21 => st t_api_Vote w21 b8 0 x30 fun w22 => dw w22 fun w23 => ld t_api_Config w23 b1 (o1 + 0) fun x31 => ld t_ledger_State w23 b6 o2 fun x32 => ld t_api_Vote w23 b8 0 fun x33 => CallsR PP n_f22 #[t_api_Config.val x31, t_ledger_State.val x32, t_api_Vote.val x33, x20.v] (fun v5 w24 => ∃ x34 : G_ledger_State, ∃ x35 : Bool, v5 = .tuple #[t_ledger_State.val x34, .bool x35] /\ (st t_ledger_State w24 b6 o2 x34 fun w25 => nxt1 (IntKind.i64.wrap (x29 + 1)) w25)) w23) ((sh_f33_j4 a0 Q b1 o1 b2 x20 b6 o2 w20))
def sh_f33_j2 (a0 : Option Addr) (Q : QW) (b1 : Nat) (o1 : Nat) (b2 : Nat) (x20 : Fv) (b6 : Nat) (o2 : Nat) (w19 : World) : Prop :=
  ld tSl w19 b2 3 fun x28 => (∃ I1 : Nat -> Int -> World -> Prop, (∃ m, I1 m 0 w19) /\ ∀ m x29 w20, I1 m x29 w20 -> sh_f33_b3 a0 Q b1 o1 b2 x20 b6 o2 x28 x29 w20 (fun y0 w => ∃ m2, m2 < m /\ I1 m2 y0 w))
def sh_f33_j1 (a0 : Option Addr) (Q : QW) (b1 : Nat) (o1 : Nat) (b2 : Nat) (x6 : Bool) (w3 : World) : Prop :=
  br x6 (Q (.iface 94 (.int .i64 12)) w3) (dw w3 fun w4 => ld tMap w4 b1 (o1 + 12) fun x7 => ld tU64 w4 b2 0 fun x8 => lkp tBool w4 x7 x8 fun x9 => br (x9.getD false) (Q (.iface 94 (.int .i64 6)) w4) (dw w4 fun w5 => ld tPtr w5 b1 (o1 + 3) fun x10 => ld tU64 w5 b2 0 fun x11 => ld tU64 w5 b2 1 fun x12 => ld tI64 w5 b2 2 fun x13 => CallsR PP n_f51 #[.pointer x10, .int .u64 x11, .int .u64 x12, .int .i64 x13] (fun v1 w6 => ∃ x14 : Ifc, v1 = x14.v /\ (br (!x14.isNil) (Q (x14.v) w6) (dw w6 fun w7 => ld tSl w7 b1 (o1 + 13) fun x15 => ld tU64 w7 b2 0 fun x16 => ld tU64 w7 b2 1 fun x17 => alr 66 w7 (t_store_Change.enc (⟨0, x16, x17, 0, 0, false⟩ : G_store_Change)) fun b3 w8 => chk tSl w8 b1 (o1 + 13) x15 <| app 66 6 48 w8 x15 (Sl.mk (some ⟨b3, 0, none⟩) 1 1) fun x18 w9 => st tSl w9 b1 (o1 + 13) x18 fun w10 => ld tU64 w10 b2 0 fun x19 => CallsR PP n_f42 #[.pointer a0, .int .u64 x19] (fun v2 w11 => ∃ x20 : Fv, v2 = x20.v /\ (dw w11 fun w12 => ld t_api_Config w12 b1 (o1 + 0) fun x21 => ld tMap w12 b1 (o1 + 11) fun x22 => ld tU64 w12 b2 1 fun x23 => lkp t_ledger_State w12 x22 x23 fun x24 => ld tI64 w12 b2 2 fun x25 => ((CallsR PP n_f21 #[t_api_Config.val x21, t_ledger_State.val (x24.getD (⟨(⟨(⟨false, false, false, false⟩ : G_Arr4_bool), (⟨0, 0⟩ : G_api_Point), (⟨0, 0⟩ : G_api_Point), (⟨0, 0⟩ : G_api_Point)⟩ : G_justify_State), 0, nilSl, nilSl⟩ : G_ledger_State)), .int .i64 x25, x20.v] (fun v3 w13 => ∃ x26 : G_ledger_State, v3 = t_ledger_State.val x26 /\ (al t_ledger_State 78 w13 (⟨(⟨(⟨false, false, false, false⟩ : G_Arr4_bool), (⟨0, 0⟩ : G_api_Point), (⟨0, 0⟩ : G_api_Point), (⟨0, 0⟩ : G_api_Point)⟩ : G_justify_State), 0, nilSl, nilSl⟩ : G_ledger_State) fun b4 w14 => st t_ledger_State w14 b4 0 x26 fun w15 => (sh_f33_j2 a0 Q b1 o1 b2 x20 b4 0 w15))) w12) /\ (al t_ledger_State 78 w12 (⟨(⟨(⟨false, false, false, false⟩ : G_Arr4_bool), (⟨0, 0⟩ : G_api_Point), (⟨0, 0⟩ : G_api_Point), (⟨0, 0⟩ : G_api_Point)⟩ : G_justify_State), 0, nilSl, nilSl⟩ : G_ledger_State) fun b5 w16 => chk t_api_Config w16 b1 (o1 + 0) x21 <| chk tMap w16 b1 (o1 + 11) x22 <| chk tU64 w16 b2 1 x23 <| lkpc t_ledger_State w16 x22 x23 x24 <| chk tI64 w16 b2 2 x25 <| CallsR PP n_f21 #[t_api_Config.val x21, t_ledger_State.val (x24.getD (⟨(⟨(⟨false, false, false, false⟩ : G_Arr4_bool), (⟨0, 0⟩ : G_api_Point), (⟨0, 0⟩ : G_api_Point), (⟨0, 0⟩ : G_api_Point)⟩ : G_justify_State), 0, nilSl, nilSl⟩ : G_ledger_State)), .int .i64 x25, x20.v] (fun v4 w17 => ∃ x27 : G_ledger_State, v4 = t_ledger_State.val x27 /\ (st t_ledger_State w17 b5 0 x27 fun w18 => (sh_f33_j2 a0 Q b1 o1 b2 x20 b5 0 w18))) w16)))) w10))) w5))
def sh_f33 (a0 : Option Addr) (a1 : G_api_Block) (Q : QW) (w0 : World) : Prop :=
  nc a0 fun b1 o1 => al t_api_Block 50 w0 a1 fun b2 w1 => dw w1 fun w2 => ld tI64 w2 b2 2 fun x1 => ld tI64 w2 b1 (o1 + 5) fun x2 => br (decide (x1 > x2)) (Q (.iface 94 (.int .i64 4)) w2) (ld tU64 w2 b2 0 fun x3 => br (x3 == 0) (Q (.iface 94 (.int .i64 13)) w2) (ld tSl w2 b2 3 fun x4 => br (decide ((x4.len : Int) > 16)) ((sh_f33_j1 a0 Q b1 o1 b2 true w2)) (ld tSl w2 b2 4 fun x5 => (sh_f33_j1 a0 Q b1 o1 b2 (decide ((x5.len : Int) > 16)) w2))))
theorem so_f33 {a0 : Option Addr} {a1 : G_api_Block} (Q : QW) (w0 : World) (h : sh_f33 a0 a1 Q w0) : CallsR PP n_f33 #[.pointer a0, t_api_Block.val a1] Q w0 := by
 refine callsR_of_WX (args := [.pointer a0, t_api_Block.val a1]) Try.func33 rfl Try.ntmps33 nl ?_
 obtain ⟨b1, o1, hp1, h⟩ := h
 refine WX_seq (WX_region ?_)
 refine op_w (pw_box (v := a1) ty_50 rfl ?_)
 intro b2 w1 hw1 hw2
 replace h := h b2 w1 hw1 hw2
 refine mva .nilIface rfl (ops_nil ?_)
 refine WX_seq ?_
 refine WX_block ?_
 refine WX_seq ?_
 obtain ⟨w2, hw3, h⟩ := dwe h
 obtain ⟨x1, hx1, x2, hx2, h⟩ := h
 refine WX_dr [] [0,2,3,4,6,7] [⟨[],[0,2,3,4,6,7],[1,5],[]⟩] [vp b2 2, vi x1, .pointer a0, vp b1 o1, vp b1 (o1 + 5), vi x2, vb (decide (x1 > x2)), vb (decide (x1 > x2))] 1 mixed (by kernel_rfl) hw3 ?_
 refine draw_end rfl (pu rfl (pv_fld fo_50_2 rfl) (pu rfl (pv_move rfl) (pu rfl (pv_nilh rfl hp1) (pu rfl (pv_fld fo_43_3 rfl) (pu rfl (pv_cmp (v := decide (x1 > x2)) rfl rfl rfl rfl) (pu rfl (pv_assign rfl) ap0)))))) (ro rfl (pv_ld ty_3 rfl hx1) (ro rfl (pv_ld ty_3 rfl hx2) ao0)) ?_
 refine WX_cond (b := decide (x1 > x2)) rfl (fun hb5 => ?_) (fun hb5 => ?_)
 have h := h.1 hb5
 refine WX_seq (WX_region ?_)
 refine op_v (pv_iface (v := vi 4) ni_94 rfl) <| mva (.iface 94 (vi 4)) rfl (ops_nil ?_)
 refine WX_ret ?_
 exact fin_of [.iface 94 (vi 4)] rfl ⟨rfl, trivial⟩ h
 have h := h.2 hb5
 refine WX_seq (WX_region ?_)
 refine op_v (pv_fld fo_50_0 rfl) ?_
 obtain ⟨x3, hx3, h⟩ := h
 refine op_v (pv_ld ty_36 rfl hx3) <| op_v (pv_cmp (v := (x3 == 0)) rfl rfl rfl rfl) <| mva (vb (x3 == 0)) rfl (ops_nil ?_)
 refine WX_cond (b := (x3 == 0)) rfl (fun hb4 => ?_) (fun hb4 => ?_)
 have h := h.1 hb4
 refine WX_seq (WX_region ?_)
 refine op_v (pv_iface (v := vi 13) ni_94 rfl) <| mva (.iface 94 (vi 13)) rfl (ops_nil ?_)
 refine WX_ret ?_
 exact fin_of [.iface 94 (vi 13)] rfl ⟨rfl, trivial⟩ h
 have h := h.2 hb4
 refine WX_join (fun f w3 => ∃ x6 : Bool, Agree f [(0, .pointer a0), (3, vp b2 0), (29, vb x6)] /\ sh_f33_j1 a0 Q b1 o1 b2 x6 w3) ?_ ?_
 refine WX_region ?_
 refine op_v (pv_fld fo_50_3 rfl) ?_
 obtain ⟨x4, hx4, h⟩ := h
 refine op_v (pv_ld ty_47 rfl hx4) <| op_v (pv_lenS (s := x4) is_47 rfl) <| op_v (pv_cmp (v := decide ((x4.len : Int) > 16)) rfl rfl rfl rfl) ?_
 refine mv (vb (decide ((x4.len : Int) > 16))) rfl <| ops_split 34 (b := decide ((x4.len : Int) > 16)) rfl (fun hb1 => ?_) (fun hb1 => ?_)
 have h := h.1 hb1
 iterate 4 refine opg_no ?_
 refine op_v (pv_pick (b := true) (v := vb true) rfl rfl) <| mva (vb true) rfl (ops_nil ?_)
 exact ⟨true, ⟨rfl, rfl, rfl, trivial⟩, h⟩
 have h := h.2 hb1
 refine opg_v (pv_fld fo_50_4 rfl) ?_
 obtain ⟨x5, hx5, h⟩ := h
 refine opg_v (pv_ld ty_48 rfl hx5) <| opg_v (pv_lenS (s := x5) is_48 rfl) <| opg_v (pv_cmp (v := decide ((x5.len : Int) > 16)) rfl rfl rfl rfl) ?_
 refine op_v (pv_pick (b := false) (v := vb (decide ((x5.len : Int) > 16))) rfl rfl) <| mva (vb (decide ((x5.len : Int) > 16))) rfl (ops_nil ?_)
 exact ⟨decide ((x5.len : Int) > 16), ⟨rfl, rfl, rfl, trivial⟩, h⟩
 rintro f w3 ⟨x6, ha, h⟩
 obtain ⟨g1, rfl⟩ := canon ha
 refine WX_cond (b := x6) rfl (fun hb3 => ?_) (fun hb3 => ?_)
 have h := h.1 hb3
 refine WX_seq (WX_region ?_)
 refine op_v (pv_iface (v := vi 12) ni_94 rfl) <| mva (.iface 94 (vi 12)) rfl (ops_nil ?_)
 refine WX_ret ?_
 exact fin_of [.iface 94 (vi 12)] rfl ⟨rfl, trivial⟩ h
 have h := h.2 hb3
 refine WX_seq ?_
 obtain ⟨w4, hw4, h⟩ := dwe h
 obtain ⟨x7, hx7, x8, hx8, es1, hm1, h⟩ := h
 obtain ⟨x9, hq1⟩ : ∃ x, mget es1 x8 = x := ⟨_, rfl⟩
 replace h := hq1 ▸ h
 refine WX_dr [] [0,1,2,4,7] [⟨[],[0,1,2,4,7],[3,5,6],[]⟩] [.pointer a0, vp b1 o1, vp b1 (o1 + 12), .map x7, vp b2 0, vu x8, vb (x9.getD false), vb (x9.getD false)] 1 mixed (by kernel_rfl) hw4 ?_
 refine draw_end rfl (pu rfl (pv_move rfl) (pu rfl (pv_nilh rfl hp1) (pu rfl (pv_fld fo_43_8 rfl) (pu rfl (pv_fld fo_50_0 rfl) (pu rfl (pv_assign rfl) ap0))))) (ro rfl (pv_ld ty_40 rfl hx7) (ro rfl (pv_ld ty_36 rfl hx8) (ro rfl (pv_lookupE (T := tBool) mu_40 tz_4 rfl rfl hm1 hq1) ao0))) ?_
 refine WX_cond (b := (x9.getD false)) rfl (fun hb2 => ?_) (fun hb2 => ?_)
 have h := h.1 hb2
 refine WX_seq (WX_region ?_)
 refine op_v (pv_iface (v := vi 6) ni_94 rfl) <| mva (.iface 94 (vi 6)) rfl (ops_nil ?_)
 refine WX_ret ?_
 exact fin_of [.iface 94 (vi 6)] rfl ⟨rfl, trivial⟩ h
 have h := h.2 hb2
 refine WX_skip <| WX_seq <| WX_seq ?_
 obtain ⟨w5, hw5, h⟩ := dwe h
 obtain ⟨x10, hx10, x11, hx11, x12, hx12, x13, hx13, h⟩ := h
 refine WX_dr [10] [0,1,2,4,6,8,11] [⟨[],[0,1,2,4,6,8],[3,5,7,9],[(10,[10,11],1)]⟩,⟨[10],[11],[],[]⟩] [.pointer a0, vp b1 o1, vp b1 (o1 + 3), .pointer x10, vp b2 0, vu x11, vp b2 1, vu x12, vp b2 2, vi x13, un, un] 2 mixed (by kernel_rfl) hw5 ?_
 refine draw_go rfl (pu rfl (pv_move rfl) (pu rfl (pv_nilh rfl hp1) (pu rfl (pv_fld fo_43_1 rfl) (pu rfl (pv_fld fo_50_0 rfl) (pu rfl (pv_fld fo_50_1 rfl) (pu rfl (pv_fld fo_50_2 rfl) ap0)))))) (ro rfl (pv_ld ty_33 rfl hx10) (ro rfl (pv_ld ty_36 rfl hx11) (ro rfl (pv_ld ty_36 rfl hx12) (ro rfl (pv_ld ty_3 rfl hx13) ao0)))) rfl ?_
 refine cy rfl rfl ?_
 refine pw_call co_51 rfl (cm h ?_)
 rintro v1 w6 ⟨x14, rfl, h⟩
 refine nx [x14.v] rfl nl rfl ?_
 refine draw_end rfl (pu rfl (pv_assign rfl) ap0) ao0 ?_
 refine WX_seq (WX_region ?_)
 refine mv x14.v rfl <| op_v (pv_ifnil (e := x14) (v := (!x14.isNil)) ii_30 rfl rfl) (ops_nil ?_)
 refine WX_cond (b := (!x14.isNil)) rfl (fun hb6 => ?_) (fun hb6 => ?_)
 have h := h.1 hb6
 refine WX_seq (WX_region ?_)
 refine mv x14.v rfl <| mva x14.v rfl (ops_nil ?_)
 refine WX_ret ?_
 exact fin_of [x14.v] rfl ⟨rfl, trivial⟩ h
 have h := h.2 hb6
 refine WX_skip <| WX_seq ?_
 obtain ⟨w7, hw6, h⟩ := dwe h
 obtain ⟨x15, hx15, x16, hx16, x17, hx17, h⟩ := h
 refine WX_dr [10,11,14] [0,1,2,3,5,7,9,12,13] [⟨[],[0,1,2,3,5,7,9],[4,6,8],[(10,[10],1)]⟩,⟨[10],[],[4],[(11,[11,12,13],2)]⟩,⟨[11,10],[12,13],[],[(14,[14],3)]⟩,⟨[14,11,10],[],[],[]⟩] [.pointer a0, .pointer a0, vp b1 o1, vp b1 (o1 + 13), .slice x15.a x15.len x15.cap, vp b2 0, vu x16, vp b2 1, vu x17, t_store_Change.val (⟨0, x16, x17, 0, 0, false⟩ : G_store_Change), un, un, un, un, un] 4 mixed (by kernel_rfl) hw6 ?_
 refine draw_go rfl (pu rfl (pv_move rfl) (pu rfl (pv_move rfl) (pu rfl (pv_nilh rfl hp1) (pu rfl (pv_fld fo_43_9 rfl) (pu rfl (pv_fld fo_50_0 rfl) (pu rfl (pv_fld fo_50_1 rfl) (pu rfl (pv_build (cs := t_store_Change.enc (⟨0, x16, x17, 0, 0, false⟩ : G_store_Change)) (vs := [(0, vi 0), (1, vu x16), (2, vu x17)]) rfl (by kernel_rfl)) ap0))))))) (ro rfl (pv_ld ty_41 rfl hx15) (ro rfl (pv_ld ty_36 rfl hx16) (ro rfl (pv_ld ty_36 rfl hx17) ao0))) rfl ?_
 refine cy rfl rfl ?_
 refine pw_buildSlice (e := 66) (cs := t_store_Change.enc (⟨0, x16, x17, 0, 0, false⟩ : G_store_Change)) (vs := [(0, t_store_Change.val (⟨0, x16, x17, 0, 0, false⟩ : G_store_Change))]) rfl (by kernel_rfl) ?_
 intro b3 w8 hw7 hw8
 replace h := h b3 w8 hw7 hw8
 obtain ⟨hc1, h⟩ := h
 refine nx [] rfl nl rfl ?_
 refine draw_go rfl ap0 (ro rfl (pv_ld ty_41 rfl hc1) ao0) rfl ?_
 refine cy rfl rfl ?_
 obtain ⟨ol1, ne1, ha1, ha2, ha3, ha4, ha5, h⟩ := h
 refine pw_append (s := x15) (r := (Sl.mk (some ⟨b3, 0, none⟩) 1 1)) eo_41 is_41 rfl rfl ha1 ha2 ha3 ha4 ha5 ?_
 intro x18 w9 ha6
 replace h := h x18 w9 ha6
 refine nx [vp b1 o1, vp b1 (o1 + 13)] rfl nl rfl ?_
 refine draw_go rfl (pu rfl (pv_nilh rfl hp1) (pu rfl (pv_fld fo_43_9 rfl) ap0)) ao0 rfl ?_
 refine cy rfl rfl ?_
 refine pw_st (x := x18) ty_41 rfl rfl h.1 ?_
 intro w10 hw9
 replace h := h.2 w10 hw9
 refine nx [] rfl nl rfl ?_
 dsimp only [putV, List.set]
 refine draw_end rfl ap0 ao0 ?_
 refine WX_seq (WX_region ?_)
 refine mv (.pointer a0) rfl <| op_v (pv_fld fo_50_0 rfl) ?_
 obtain ⟨x19, hx19, h⟩ := h
 refine op_v (pv_ld ty_36 rfl hx19) <| op_w (pw_call co_42 rfl (CallsR.mono h ?_))
 rintro v2 w11 ⟨x20, rfl, h⟩
 refine mva x20.v rfl (ops_nil ?_)
 refine WX_join (fun f w19 => ∃ b6 : Nat, ∃ o2 : Nat, Agree f [(0, .pointer a0), (3, vp b2 0), (6, x20.v), (7, vp b6 o2)] /\ sh_f33_j2 a0 Q b1 o1 b2 x20 b6 o2 w19) ?_ ?_
 obtain ⟨w12, hw10, h⟩ := dwe h
 obtain ⟨x21, hx21, x22, hx22, x23, hx23, es2, hm2, h⟩ := h
 obtain ⟨x24, hq2⟩ : ∃ x, mget es2 x23 = x := ⟨_, rfl⟩
 replace h := hq2 ▸ h
 obtain ⟨x25, hx25, h⟩ := h
 refine WX_dr [14,15,16] [0,1,2,4,5,6,8,11,13] [⟨[],[0,1,2,4,5,6,8,11,13],[3,7,9,10,12],[(14,[14],1),(15,[15],4)]⟩,⟨[14],[],[],[(15,[15],2)]⟩,⟨[15,14],[],[],[(16,[16],3)]⟩,⟨[16,15,14],[],[],[]⟩,⟨[15],[],[3,7,9,10,12],[(14,[14],5)]⟩,⟨[14,15],[],[],[(16,[16],6)]⟩,⟨[16,14,15],[],[],[]⟩] [.pointer a0, vp b1 o1, vp b1 (o1 + 0), t_api_Config.val x21, .pointer a0, vp b1 o1, vp b1 (o1 + 11), .map x22, vp b2 1, vu x23, t_ledger_State.val (x24.getD (⟨(⟨(⟨false, false, false, false⟩ : G_Arr4_bool), (⟨0, 0⟩ : G_api_Point), (⟨0, 0⟩ : G_api_Point), (⟨0, 0⟩ : G_api_Point)⟩ : G_justify_State), 0, nilSl, nilSl⟩ : G_ledger_State)), vp b2 2, vi x25, x20.v, un, un, un] 4 mixed (by kernel_rfl) hw10 ?_
 refine draw_go rfl (pu rfl (pv_move rfl) (pu rfl (pv_nilh rfl hp1) (pu rfl (pv_fld fo_43_0 rfl) (pu rfl (pv_move rfl) (pu rfl (pv_nilh rfl hp1) (pu rfl (pv_fld fo_43_7 rfl) (pu rfl (pv_fld fo_50_1 rfl) (pu rfl (pv_fld fo_50_2 rfl) (pu rfl (pv_move rfl) ap0))))))))) (ro rfl (pv_ld ty_26 rfl hx21) (ro rfl (pv_ld ty_39 rfl hx22) (ro rfl (pv_ld ty_36 rfl hx23) (ro rfl (pv_lookupE (T := t_ledger_State) mu_39 tz_78 rfl rfl hm2 hq2) (ro rfl (pv_ld ty_3 rfl hx25) ao0))))) rfl ?_
 refine ch_yes rfl rfl ?_ (ch_yes rfl rfl ?_ ch0)
 replace h := h.1
 refine pw_call co_21 rfl (cm h ?_)
 rintro v3 w13 ⟨x26, rfl, h⟩
 refine nx [] rfl nl rfl ?_
 refine draw_go rfl ap0 ao0 rfl ?_
 refine cy rfl rfl ?_
 refine pw_alloc ty_78 tz_78 ?_
 intro b4 w14 hw11 hw12
 replace h := h b4 w14 hw11 hw12
 refine nx [] rfl nl rfl ?_
 refine draw_go rfl ap0 ao0 rfl ?_
 refine cy rfl rfl ?_
 refine pw_st (x := x26) ty_78 rfl rfl h.1 ?_
 intro w15 hw13
 replace h := h.2 w15 hw13
 refine nx [] rfl nl rfl ?_
 dsimp only [putV, List.set]
 refine draw_end rfl ap0 ao0 ?_
 exact ⟨b4, 0, ⟨rfl, rfl, rfl, rfl, trivial⟩, h⟩
 replace h := h.2
 refine pw_alloc ty_78 tz_78 ?_
 intro b5 w16 hw14 hw15
 replace h := h b5 w16 hw14 hw15
 obtain ⟨hc2, hc3, hc4, hc5, hc6, h⟩ := h
 refine nx [] rfl nl rfl ?_
 refine draw_go rfl ap0 (ro rfl (pv_ld ty_26 rfl hc2) (ro rfl (pv_ld ty_39 rfl hc3) (ro rfl (pv_ld ty_36 rfl hc4) (ro rfl (pv_lookupE (T := t_ledger_State) mu_39 tz_78 rfl rfl hc5.choose_spec.1 hc5.choose_spec.2) (ro rfl (pv_ld ty_3 rfl hc6) ao0))))) rfl ?_
 refine cy rfl rfl ?_
 refine pw_call co_21 rfl (cm h ?_)
 rintro v4 w17 ⟨x27, rfl, h⟩
 refine nx [] rfl nl rfl ?_
 refine draw_go rfl ap0 ao0 rfl ?_
 refine cy rfl rfl ?_
 refine pw_st (x := x27) ty_78 rfl rfl h.1 ?_
 intro w18 hw16
 replace h := h.2 w18 hw16
 refine nx [] rfl nl rfl ?_
 dsimp only [putV, List.set]
 refine draw_end rfl ap0 ao0 ?_
 exact ⟨b5, 0, ⟨rfl, rfl, rfl, rfl, trivial⟩, h⟩
 rintro f w19 ⟨b6, o2, ha, h⟩
 obtain ⟨g12, rfl⟩ := canon ha
 refine WX_join (fun f w26 => Agree f [(0, .pointer a0), (3, vp b2 0), (6, x20.v), (7, vp b6 o2)] /\ sh_f33_j4 a0 Q b1 o1 b2 x20 b6 o2 w26) ?_ ?_
 refine WX_seq (WX_region ?_)
 refine op_v (pv_fld fo_50_3 rfl) ?_
 obtain ⟨x28, hx28, h⟩ := h
 refine op_v (pv_ld ty_47 rfl hx28) <| op_v (pv_lenS (s := x28) is_47 rfl) <| mv (vi 0) rfl (ops_nil ?_)
 refine WX_block ?_
 obtain ⟨I1, ⟨m, h0⟩, hB1⟩ := h
 refine WX_loop (fun m f w20 => ∃ x29 : Int, Agree f [(0, .pointer a0), (3, vp b2 0), (6, x20.v), (7, vp b6 o2), (98, .slice x28.a x28.len x28.cap), (99, vi (x28.len : Int)), (100, vi x29)] /\ I1 m x29 w20) ⟨m, 0, ⟨rfl, rfl, rfl, rfl, rfl, rfl, rfl, trivial⟩, h0⟩ ?_
 clear h0 m
 rintro m f w20 ⟨x29, ha, h⟩
 obtain ⟨g2, rfl⟩ := canon ha
 replace h := hB1 m x29 w20 h
 clear hB1
 generalize hn_nxt1 : (fun (y0 : Int) (w : World) => ∃ m2, m2 < m /\ I1 m2 y0 w) = nxt1 at h
 refine WX_seq (WX_region ?_)
 refine op_v (pv_cmp (v := decide (x29 < (x28.len : Int))) rfl rfl rfl rfl) (ops_nil ?_)
 refine WX_seq ?_
 refine WX_cond (b := decide (x29 < (x28.len : Int))) rfl (fun hb7 => ?_) (fun hb7 => ?_)
 have h := h.1 hb7
 refine WX_skip <| WX_seq ?_
 refine WX_block ?_
 refine WX_seq (WX_region ?_)
 obtain ⟨b7, o3, hi1, hi2, hi3, h⟩ := h
 refine op_v (pv_ix (s := x28) ez_47 rfl rfl hi1 hi2 hi3) ?_
 obtain ⟨x30, hx30, h⟩ := h
 refine op_v (pv_ld ty_53 rfl hx30) <| op_w (pw_alloc ty_53 tz_53 ?_)
 intro b8 w21 hw17 hw18
 replace h := h b8 w21 hw17 hw18
 refine op_w (pw_st (x := x30) ty_53 rfl rfl h.1 ?_)
 intro w22 hw19
 replace h := h.2 w22 hw19
 refine ops_nil ?_
 obtain ⟨w23, hw20, h⟩ := dwe h
 obtain ⟨x31, hx31, x32, hx32, x33, hx33, h⟩ := h
 refine WX_dr [7,11] [0,1,2,6,8,9,10] [⟨[],[0,1,2,6],[3,4,5],[(7,[7,8,9,10],1)]⟩,⟨[7],[8,9,10],[],[(11,[11],2)]⟩,⟨[11,7],[],[],[]⟩] [.pointer a0, vp b1 o1, vp b1 (o1 + 0), t_api_Config.val x31, t_ledger_State.val x32, t_api_Vote.val x33, x20.v, un, un, un, un, un] 3 mixed (by kernel_rfl) hw20 ?_
 refine draw_go rfl (pu rfl (pv_move rfl) (pu rfl (pv_nilh rfl hp1) (pu rfl (pv_fld fo_43_0 rfl) (pu rfl (pv_move rfl) ap0)))) (ro rfl (pv_ld ty_26 rfl hx31) (ro rfl (pv_ld ty_78 rfl hx32) (ro rfl (pv_ld ty_53 rfl hx33) ao0))) rfl ?_
 refine cy rfl rfl ?_
 refine pw_call co_22 rfl (cm h ?_)
 rintro v5 w24 ⟨x34, x35, rfl, h⟩
 refine nx [.tuple #[t_ledger_State.val x34, vb x35], t_ledger_State.val x34, vb x35] rfl nl rfl ?_
 refine draw_go rfl (pu rfl (pv_move rfl) (pu rfl (pv_extract (vs := [t_ledger_State.val x34, vb x35]) (v := t_ledger_State.val x34) rfl rfl) (pu rfl (pv_extract (vs := [t_ledger_State.val x34, vb x35]) (v := vb x35) rfl rfl) ap0))) ao0 rfl ?_
 refine cy rfl rfl ?_
 refine pw_st (x := x34) ty_78 rfl rfl h.1 ?_
 intro w25 hw21
 replace h := h.2 w25 hw21
 refine nx [] rfl nl rfl ?_
 refine draw_end rfl ap0 ao0 ?_
 refine WX_region ?_
 refine op_v (pv_add rfl rfl) <| mv (vi (IntKind.i64.wrap (x29 + 1))) rfl (ops_nil ?_)
 subst hn_nxt1
 obtain ⟨m2, hm2, h⟩ := h
 exact ⟨m2, hm2, (IntKind.i64.wrap (x29 + 1)), ⟨rfl, rfl, rfl, rfl, rfl, rfl, rfl, trivial⟩, h⟩
 have h := h.2 hb7
 refine WX_exit0 ?_
 exact ⟨⟨rfl, rfl, rfl, rfl, trivial⟩, h⟩
 rintro f w26 ⟨ha, h⟩
 obtain ⟨g11, rfl⟩ := canon ha
 refine WX_seq ?_
 obtain ⟨w27, hw22, h⟩ := dwe h
 obtain ⟨x36, hx36, x37, hx37, x38, hx38, h⟩ := h
 refine WX_dr [7] [0,1,2,4] [⟨[],[0,1,2,4],[3,5,6],[(7,[7],1)]⟩,⟨[7],[],[],[]⟩] [.pointer a0, vp b1 o1, vp b1 (o1 + 11), .map x36, vp b2 0, vu x37, t_ledger_State.val x38, un] 2 mixed (by kernel_rfl) hw22 ?_
 refine draw_go rfl (pu rfl (pv_move rfl) (pu rfl (pv_nilh rfl hp1) (pu rfl (pv_fld fo_43_7 rfl) (pu rfl (pv_fld fo_50_0 rfl) ap0)))) (ro rfl (pv_ld ty_39 rfl hx36) (ro rfl (pv_ld ty_36 rfl hx37) (ro rfl (pv_ld ty_78 rfl hx38) ao0))) rfl ?_
 refine cy rfl rfl ?_
 obtain ⟨r1, es3, hr1, hm3, h⟩ := h
 refine pw_mapSet (T := t_ledger_State) (x := x38) mu_39 (congrArg Value.map hr1) rfl rfl hm3 ?_
 intro ob1 ho1
 replace h := h ob1 ho1
 clear ho1
 generalize setB w27 r1 ob1 = w28 at h ⊢
 refine nx [] rfl nl rfl ?_
 refine draw_end rfl ap0 ao0 ?_
 refine WX_join (fun f w33 => Agree f [(0, .pointer a0), (3, vp b2 0), (6, x20.v), (7, vp b6 o2)] /\ sh_f33_j6 a0 Q b1 o1 b2 x20 b6 o2 w33) ?_ ?_
 refine WX_seq (WX_region ?_)
 refine op_v (pv_fld fo_50_3 rfl) ?_
 obtain ⟨x39, hx39, h⟩ := h
 refine op_v (pv_ld ty_47 rfl hx39) <| op_v (pv_lenS (s := x39) is_47 rfl) <| mv (vi 0) rfl (ops_nil ?_)
 refine WX_block ?_
 obtain ⟨I2, ⟨m, h0⟩, hB2⟩ := h
 refine WX_loop (fun m f w29 => ∃ x40 : Int, Agree f [(0, .pointer a0), (3, vp b2 0), (6, x20.v), (7, vp b6 o2), (124, .slice x39.a x39.len x39.cap), (125, vi (x39.len : Int)), (126, vi x40)] /\ I2 m x40 w29) ⟨m, 0, ⟨rfl, rfl, rfl, rfl, rfl, rfl, rfl, trivial⟩, h0⟩ ?_
 clear h0 m
 rintro m f w29 ⟨x40, ha, h⟩
 obtain ⟨g3, rfl⟩ := canon ha
 replace h := hB2 m x40 w29 h
 clear hB2
 generalize hn_nxt2 : (fun (y0 : Int) (w : World) => ∃ m2, m2 < m /\ I2 m2 y0 w) = nxt2 at h
 refine WX_seq (WX_region ?_)
 refine op_v (pv_cmp (v := decide (x40 < (x39.len : Int))) rfl rfl rfl rfl) (ops_nil ?_)
 refine WX_seq ?_
 refine WX_cond (b := decide (x40 < (x39.len : Int))) rfl (fun hb8 => ?_) (fun hb8 => ?_)
 have h := h.1 hb8
 refine WX_skip <| WX_seq ?_
 refine WX_block ?_
 refine WX_seq (WX_region ?_)
 obtain ⟨b9, o4, hi4, hi5, hi6, h⟩ := h
 refine op_v (pv_ix (s := x39) ez_47 rfl rfl hi4 hi5 hi6) ?_
 obtain ⟨x41, hx41, h⟩ := h
 refine op_v (pv_ld ty_53 rfl hx41) <| op_w (pw_alloc ty_53 tz_53 ?_)
 intro b10 w30 hw23 hw24
 replace h := h b10 w30 hw23 hw24
 refine op_w (pw_st (x := x41) ty_53 rfl rfl h.1 ?_)
 intro w31 hw25
 replace h := h.2 w31 hw25
 refine ops_nil ?_
 refine WX_region ?_
 refine mv (.pointer a0) rfl ?_
 obtain ⟨x42, hx42, h⟩ := h
 refine op_v (pv_ld ty_53 rfl hx42) <| op_w (pw_call co_34 rfl (CallsR.mono h ?_))
 rintro v6 w32 ⟨x43, rfl, h⟩
 refine ops_nil ?_
 refine WX_region ?_
 refine op_v (pv_add rfl rfl) <| mv (vi (IntKind.i64.wrap (x40 + 1))) rfl (ops_nil ?_)
 subst hn_nxt2
 obtain ⟨m2, hm2, h⟩ := h
 exact ⟨m2, hm2, (IntKind.i64.wrap (x40 + 1)), ⟨rfl, rfl, rfl, rfl, rfl, rfl, rfl, trivial⟩, h⟩
 have h := h.2 hb8
 refine WX_exit0 ?_
 exact ⟨⟨rfl, rfl, rfl, rfl, trivial⟩, h⟩
 rintro f w33 ⟨ha, h⟩
 obtain ⟨g10, rfl⟩ := canon ha
 refine WX_join (fun f w38 => Agree f [(0, .pointer a0), (3, vp b2 0), (6, x20.v), (7, vp b6 o2)] /\ sh_f33_j8 a0 Q b1 o1 b2 x20 b6 o2 w38) ?_ ?_
 refine WX_seq (WX_region ?_)
 refine op_v (pv_fld fo_50_4 rfl) ?_
 obtain ⟨x44, hx44, h⟩ := h
 refine op_v (pv_ld ty_48 rfl hx44) <| op_v (pv_lenS (s := x44) is_48 rfl) <| mv (vi 0) rfl (ops_nil ?_)
 refine WX_block ?_
 obtain ⟨I3, ⟨m, h0⟩, hB3⟩ := h
 refine WX_loop (fun m f w34 => ∃ x45 : Int, Agree f [(0, .pointer a0), (3, vp b2 0), (6, x20.v), (7, vp b6 o2), (135, .slice x44.a x44.len x44.cap), (136, vi (x44.len : Int)), (137, vi x45)] /\ I3 m x45 w34) ⟨m, 0, ⟨rfl, rfl, rfl, rfl, rfl, rfl, rfl, trivial⟩, h0⟩ ?_
 clear h0 m
 rintro m f w34 ⟨x45, ha, h⟩
 obtain ⟨g4, rfl⟩ := canon ha
 replace h := hB3 m x45 w34 h
 clear hB3
 generalize hn_nxt3 : (fun (y0 : Int) (w : World) => ∃ m2, m2 < m /\ I3 m2 y0 w) = nxt3 at h
 refine WX_seq (WX_region ?_)
 refine op_v (pv_cmp (v := decide (x45 < (x44.len : Int))) rfl rfl rfl rfl) (ops_nil ?_)
 refine WX_seq ?_
 refine WX_cond (b := decide (x45 < (x44.len : Int))) rfl (fun hb9 => ?_) (fun hb9 => ?_)
 have h := h.1 hb9
 refine WX_skip <| WX_seq ?_
 refine WX_block ?_
 refine WX_seq (WX_region ?_)
 obtain ⟨b11, o5, hi7, hi8, hi9, h⟩ := h
 refine op_v (pv_ix (s := x44) ez_48 rfl rfl hi7 hi8 hi9) ?_
 obtain ⟨x46, hx46, h⟩ := h
 refine op_v (pv_ld ty_55 rfl hx46) <| op_w (pw_alloc ty_55 tz_55 ?_)
 intro b12 w35 hw26 hw27
 replace h := h b12 w35 hw26 hw27
 refine op_w (pw_st (x := x46) ty_55 rfl rfl h.1 ?_)
 intro w36 hw28
 replace h := h.2 w36 hw28
 refine ops_nil ?_
 refine WX_region ?_
 refine mv (.pointer a0) rfl ?_
 obtain ⟨x47, hx47, h⟩ := h
 refine op_v (pv_ld ty_55 rfl hx47) <| op_w (pw_call co_35 rfl (CallsR.mono h ?_))
 rintro v7 w37 ⟨x48, rfl, h⟩
 refine ops_nil ?_
 refine WX_region ?_
 refine op_v (pv_add rfl rfl) <| mv (vi (IntKind.i64.wrap (x45 + 1))) rfl (ops_nil ?_)
 subst hn_nxt3
 obtain ⟨m2, hm2, h⟩ := h
 exact ⟨m2, hm2, (IntKind.i64.wrap (x45 + 1)), ⟨rfl, rfl, rfl, rfl, rfl, rfl, rfl, trivial⟩, h⟩
 have h := h.2 hb9
 refine WX_exit0 ?_
 exact ⟨⟨rfl, rfl, rfl, rfl, trivial⟩, h⟩
 rintro f w38 ⟨ha, h⟩
 obtain ⟨g9, rfl⟩ := canon ha
 refine WX_join (fun f w42 => Agree f [(0, .pointer a0), (3, vp b2 0), (6, x20.v), (7, vp b6 o2)] /\ sh_f33_j10 a0 Q b1 o1 b2 x20 b6 o2 w42) ?_ ?_
 refine WX_join (fun f w40 => ∃ x52 : Bool, Agree f [(0, .pointer a0), (3, vp b2 0), (6, x20.v), (7, vp b6 o2), (158, vb x52)] /\ sh_f33_j9 a0 Q b1 o1 b2 x20 b6 o2 x52 w40) ?_ ?_
 obtain ⟨w39, hw29, h⟩ := dwe h
 obtain ⟨x49, hx49, x50, hx50, h⟩ := h
 refine dr_split (b := (x49 == x50)) (fun hb10 => ?_) (fun hb10 => ?_)
 have h := h.1 hb10
 obtain ⟨x51, hx51, h⟩ := h
 refine WX_dr [] [0,2,3,4,6,7,8,9,10,12,13] [⟨[],[0,2,3,4,6,7,8,9,10,12,13],[1,5,11],[]⟩] [vp b2 2, vi x49, .pointer a0, vp b1 o1, vp b1 (o1 + 5), vi x50, vb true, vb true, .pointer a0, vp b1 o1, vp b1 (o1 + 6), vu x51, vb (x51 == 0), vb (x51 == 0)] 1 mixed (by kernel_rfl) hw29 ?_
 refine draw_end rfl (pu rfl (pv_fld fo_50_2 rfl) (pu rfl (pv_move rfl) (pu rfl (pv_nilh rfl hp1) (pu rfl (pv_fld fo_43_3 rfl) (pu rfl (pv_cmp (v := true) rfl rfl rfl (by exact hb10)) (pu rfl (pv_move (by first | rfl | exact congrArg Value.bool hb10)) (pu rfl (pv_move rfl) (pu rfl (pv_nilh rfl hp1) (pu rfl (pv_fld fo_43_4 rfl) (pu rfl (pv_cmp (v := (x51 == 0)) rfl rfl rfl rfl) (pu rfl (pv_pick (b := true) (v := vb (x51 == 0)) rfl rfl) ap0))))))))))) (ro rfl (pv_ld ty_3 rfl hx49) (ro rfl (pv_ld ty_3 rfl hx50) (ro rfl (pv_ld ty_36 rfl hx51) ao0))) ?_
 exact ⟨(x51 == 0), ⟨rfl, rfl, rfl, rfl, rfl, trivial⟩, h⟩
 have h := h.2 hb10
 refine WX_dr [] [0,2,3,4,6,7,8,9,10,12,13] [⟨[],[0,2,3,4,6,7,8,9,10,12,13],[1,5,11],[]⟩] [vp b2 2, vi x49, .pointer a0, vp b1 o1, vp b1 (o1 + 5), vi x50, vb false, vb false, un, un, un, un, un, vb false] 1 mixed (by kernel_rfl) hw29 ?_
 refine draw_end rfl (pu rfl (pv_fld fo_50_2 rfl) (pu rfl (pv_move rfl) (pu rfl (pv_nilh rfl hp1) (pu rfl (pv_fld fo_43_3 rfl) (pu rfl (pv_cmp (v := false) rfl rfl rfl (by exact hb10)) (pu rfl (pv_move (by first | rfl | exact congrArg Value.bool hb10)) (pn (pn (pn (pn (pu rfl (pv_pick (b := false) (v := vb false) rfl rfl) ap0))))))))))) (ro rfl (pv_ld ty_3 rfl hx49) (ro rfl (pv_ld ty_3 rfl hx50) (rn ao0))) ?_
 exact ⟨false, ⟨rfl, rfl, rfl, rfl, rfl, trivial⟩, h⟩
 rintro f w40 ⟨x52, ha, h⟩
 obtain ⟨g5, rfl⟩ := canon ha
 refine WX_cond (b := x52) rfl (fun hb11 => ?_) (fun hb11 => ?_)
 have h := h.1 hb11
 refine WX_region ?_
 refine mv (.pointer a0) rfl <| op_v (pv_fld fo_50_0 rfl) ?_
 obtain ⟨x53, hx53, h⟩ := h
 refine op_v (pv_ld ty_36 rfl hx53) <| op_v (pv_nilh rfl hp1) <| op_v (pv_fld fo_43_4 rfl) <| op_w (pw_st (x := x53) ty_36 rfl rfl h.1 ?_)
 intro w41 hw30
 replace h := h.2 w41 hw30
 refine ops_nil ?_
 exact ⟨⟨rfl, rfl, rfl, rfl, trivial⟩, h⟩
 have h := h.2 hb11
 refine WX_skip ?_
 exact ⟨⟨rfl, rfl, rfl, rfl, trivial⟩, h⟩
 rintro f w42 ⟨ha, h⟩
 obtain ⟨g8, rfl⟩ := canon ha
 refine WX_seq (WX_region ?_)
 refine mv (.pointer a0) rfl <| op_v (pv_fld fo_78_0 rfl) <| op_v (pv_fld fo_75_2 rfl) ?_
 obtain ⟨x54, hx54, h⟩ := h
 refine op_v (pv_ld ty_38 rfl hx54) <| op_v (pv_fld fo_78_0 rfl) <| op_v (pv_fld fo_75_3 rfl) ?_
 obtain ⟨x55, hx55, h⟩ := h
 refine op_v (pv_ld ty_38 rfl hx55) <| op_w (pw_call co_52 rfl (CallsR.mono h ?_))
 intro v8 w43 h
 refine ops_nil ?_
 refine WX_join (fun f w56 => Agree f [] /\ sh_f33_j12 Q w56) ?_ ?_
 refine WX_join (fun f w51 => ∃ b15 : Nat, ∃ o6 : Nat, Agree f [(0, .pointer a0), (3, vp b2 0), (14, vp b15 o6)] /\ sh_f33_j11 a0 Q b1 o1 b2 b15 o6 w51) ?_ ?_
 obtain ⟨w44, hw31, h⟩ := dwe h
 obtain ⟨x56, hx56, x57, hx57, h⟩ := h
 refine WX_dr [6,7,8] [0,1,2,5] [⟨[],[0,1,2,5],[3,4],[(6,[6],1),(7,[7],4)]⟩,⟨[6],[],[],[(7,[7],2)]⟩,⟨[7,6],[],[],[(8,[8],3)]⟩,⟨[8,7,6],[],[],[]⟩,⟨[7],[],[3,4],[(6,[6],5)]⟩,⟨[6,7],[],[],[(8,[8],6)]⟩,⟨[8,6,7],[],[],[]⟩] [.pointer a0, vp b1 o1, vp b1 (o1 + 0), t_api_Config.val x56, t_ledger_State.val x57, x20.v, un, un, un] 4 mixed (by kernel_rfl) hw31 ?_
 refine draw_go rfl (pu rfl (pv_move rfl) (pu rfl (pv_nilh rfl hp1) (pu rfl (pv_fld fo_43_0 rfl) (pu rfl (pv_move rfl) ap0)))) (ro rfl (pv_ld ty_26 rfl hx56) (ro rfl (pv_ld ty_78 rfl hx57) ao0)) rfl ?_
 refine ch_yes rfl rfl ?_ (ch_yes rfl rfl ?_ ch0)
 replace h := h.1
 refine pw_call co_26 rfl (cm h ?_)
 rintro v9 w45 ⟨x58, rfl, h⟩
 refine nx [] rfl nl rfl ?_
 refine draw_go rfl ap0 ao0 rfl ?_
 refine cy rfl rfl ?_
 refine pw_alloc ty_75 tz_75 ?_
 intro b13 w46 hw32 hw33
 replace h := h b13 w46 hw32 hw33
 refine nx [] rfl nl rfl ?_
 refine draw_go rfl ap0 ao0 rfl ?_
 refine cy rfl rfl ?_
 refine pw_st (x := x58) ty_75 rfl rfl h.1 ?_
 intro w47 hw34
 replace h := h.2 w47 hw34
 refine nx [] rfl nl rfl ?_
 dsimp only [putV, List.set]
 refine draw_end rfl ap0 ao0 ?_
 exact ⟨b13, 0, ⟨rfl, rfl, rfl, trivial⟩, h⟩
 replace h := h.2
 refine pw_alloc ty_75 tz_75 ?_
 intro b14 w48 hw35 hw36
 replace h := h b14 w48 hw35 hw36
 obtain ⟨hc7, hc8, h⟩ := h
 refine nx [] rfl nl rfl ?_
 refine draw_go rfl ap0 (ro rfl (pv_ld ty_26 rfl hc7) (ro rfl (pv_ld ty_78 rfl hc8) ao0)) rfl ?_
 refine cy rfl rfl ?_
 refine pw_call co_26 rfl (cm h ?_)
 rintro v10 w49 ⟨x59, rfl, h⟩
 refine nx [] rfl nl rfl ?_
 refine draw_go rfl ap0 ao0 rfl ?_
 refine cy rfl rfl ?_
 refine pw_st (x := x59) ty_75 rfl rfl h.1 ?_
 intro w50 hw37
 replace h := h.2 w50 hw37
 refine nx [] rfl nl rfl ?_
 dsimp only [putV, List.set]
 refine draw_end rfl ap0 ao0 ?_
 exact ⟨b14, 0, ⟨rfl, rfl, rfl, trivial⟩, h⟩
 rintro f w51 ⟨b15, o6, ha, h⟩
 obtain ⟨g6, rfl⟩ := canon ha
 refine WX_seq ?_
 obtain ⟨w52, hw38, h⟩ := dwe h
 obtain ⟨x60, hx60, x61, hx61, x62, hx62, x63, hx63, h⟩ := h
 refine WX_dr [7,17] [0,2,3,4,5,8,9,10,12,13,14,15,18] [⟨[],[0,2,3,4,5,8,9,10,12,13,14,15],[1,6,11,16],[(7,[7],1)]⟩,⟨[7],[],[11,16],[(17,[17,18],2)]⟩,⟨[17,7],[18],[],[]⟩] [vp b2 2, vi x60, .pointer a0, vp b1 o1, vp b1 (o1 + 0), vp b1 ((o1 + 0) + 1), vi x61, un, .pointer a0, vp b1 o1, vp b1 (o1 + 5), vi x62, .pointer a0, vp b1 o1, vp b1 (o1 + 0), vp b1 ((o1 + 0) + 1), vi x63, un, un] 3 mixed (by kernel_rfl) hw38 ?_
 refine draw_go rfl (pu rfl (pv_fld fo_50_2 rfl) (pu rfl (pv_move rfl) (pu rfl (pv_nilh rfl hp1) (pu rfl (pv_fld fo_43_0 rfl) (pu rfl (pv_fld fo_26_1 rfl) (pu rfl (pv_move rfl) (pu rfl (pv_nilh rfl hp1) (pu rfl (pv_fld fo_43_3 rfl) (pu rfl (pv_move rfl) (pu rfl (pv_nilh rfl hp1) (pu rfl (pv_fld fo_43_0 rfl) (pu rfl (pv_fld fo_26_1 rfl) ap0)))))))))))) (ro rfl (pv_ld ty_3 rfl hx60) (ro rfl (pv_ld ty_3 rfl hx61) (ro rfl (pv_ld ty_3 rfl hx62) (ro rfl (pv_ld ty_3 rfl hx63) ao0)))) rfl ?_
 refine cy rfl rfl ?_
 refine pw_call co_41 rfl (cm h ?_)
 rintro v11 w53 ⟨x64, rfl, h⟩
 obtain ⟨hc9, hc10, h⟩ := h
 refine nx [] rfl nl rfl ?_
 refine draw_go rfl ap0 (ro rfl (pv_ld ty_3 rfl hc9) (ro rfl (pv_ld ty_3 rfl hc10) ao0)) rfl ?_
 refine cy rfl rfl ?_
 refine pw_call co_41 rfl (cm h ?_)
 rintro v12 w54 ⟨x65, rfl, h⟩
 refine nx [vb (decide (x64 < x65))] rfl nl rfl ?_
 refine draw_end rfl (pu rfl (pv_cmp (v := decide (x64 < x65)) rfl rfl rfl rfl) ap0) ao0 ?_
 refine WX_cond (b := decide (x64 < x65)) rfl (fun hb12 => ?_) (fun hb12 => ?_)
 have h := h.1 hb12
 refine WX_region ?_
 refine mv (.pointer a0) rfl <| op_v (pv_fld fo_75_2 rfl) ?_
 obtain ⟨x66, hx66, h⟩ := h
 refine op_v (pv_ld ty_38 rfl hx66) <| op_v (pv_fld fo_75_3 rfl) ?_
 obtain ⟨x67, hx67, h⟩ := h
 refine op_v (pv_ld ty_38 rfl hx67) <| op_w (pw_call co_52 rfl (CallsR.mono h ?_))
 intro v13 w55 h
 refine ops_nil ?_
 exact ⟨ag0, h⟩
 have h := h.2 hb12
 refine WX_skip ?_
 exact ⟨ag0, h⟩
 rintro f w56 ⟨ha, h⟩
 obtain ⟨g7, rfl⟩ := canon ha
 refine WX_seq (WX_region ?_)
 refine mva .nilIface rfl (ops_nil ?_)
 refine WX_ret ?_
 exact fin_of [.nilIface] rfl ⟨rfl, trivial⟩ h
end Go.Proofs.Ytdefmgkicdhmkaa
namespace Go.Proofs.Ytdefmgkicdhmkaa
open Go Go.Sx
set_option linter.unusedVariables false
set_option maxRecDepth 100000
set_option maxHeartbeats 2000000
def sh_f34_j5 (x30 : Int) (nxt1 : Int -> World -> Prop) (w23 : World) : Prop :=
  nxt1 (IntKind.i64.wrap (x30 + 1)) w23
def sh_f34_j6 (Q : QW) (w24 : World) : Prop :=
  Q (.nilIface) w24
def sh_f34_b4 (Q : QW) (b1 : Nat) (o1 : Nat) (b2 : Nat) (x29 : Sl) (x30 : Int) (w15 : World) (nxt1 : Int -> World -> Prop) : Prop :=
  br (decide (x30 < (x29.len : Int))) (ixs x29 x30 fun b3 o2 => ld tI64 w15 b3 (o2 + (x30).toNat * 1) fun x31 => ld tSl w15 b1 (o1 + 4) fun x32 => CallsR PP n_f14 #[.slice x32.a x32.len x32.cap, .int .i64 x31] (fun v6 w16 => ∃ x33 : Int, ∃ x34 : Bool, v6 = .tuple #[.int .u64 x33, .bool x34] /\ (dw w16 fun w17 => ld tSl w17 b1 (o1 + 4) fun x35 => ld tI64 w17 b2 4 fun x36 => ld tU64 w17 b2 1 fun x37 => CallsR PP n_f54 #[.slice x35.a x35.len x35.cap, .int .i64 x31, .int .i64 x36, .int .u64 x37] (fun v7 w18 => ∃ x38 : Bool, v7 = .bool x38 /\ (br x38 (dw w18 fun w19 => ld tSl w19 b1 (o1 + 13) fun x39 => ld tU64 w19 b2 1 fun x40 => alr 66 w19 (t_store_Change.enc (⟨1, x40, 0, x31, x33, x34⟩ : G_store_Change)) fun b4 w20 => chk tSl w20 b1 (o1 + 13) x39 <| app 66 6 48 w20 x39 (Sl.mk (some ⟨b4, 0, none⟩) 1 1) fun x41 w21 => st tSl w21 b1 (o1 + 13) x41 fun w22 => (sh_f34_j5 x30 nxt1 w22)) ((sh_f34_j5 x30 nxt1 w18)))) w17)) w15) ((sh_f34_j6 Q w15))
def sh_f34_j3 (Q : QW) (b1 : Nat) (o1 : Nat) (b2 : Nat) (x21 : Bool) (w11 : World) : Prop :=
  br x21 (Q (.iface 94 (.int .i64 10)) w11) (dw w11 fun w12 => ld tPtr w12 b1 (o1 + 3) fun x22 => ld tU64 w12 b2 1 fun x23 => ld tI64 w12 b2 4 fun x24 => ld tI64 w12 b1 ((o1 + 0) + 1) fun x25 => ld tU64 w12 b2 5 fun x26 => CallsR PP n_f53 #[.int .i64 x24, .int .i64 x25] (fun v4 w13 => ∃ x27 : Int, v4 = .int .i64 x27 /\ (chk tPtr w13 b1 (o1 + 3) x22 <| chk tU64 w13 b2 1 x23 <| chk tU64 w13 b2 5 x26 <| CallsR PP n_f20 #[.pointer x22, .int .u64 x23, .int .i64 x27] (fun v5 w14 => ∃ x28 : Int, v5 = .int .u64 x28 /\ (chk tU64 w14 b2 5 x26 <| br (x28 != x26) (Q (.iface 94 (.int .i64 9)) w14) (ld tSl w14 b2 6 fun x29 => (∃ I1 : Nat -> Int -> World -> Prop, (∃ m, I1 m 0 w14) /\ ∀ m x30 w15, I1 m x30 w15 -> sh_f34_b4 Q b1 o1 b2 x29 x30 w15 (fun y0 w => ∃ m2, m2 < m /\ I1 m2 y0 w))))) w13)) w12)
def sh_f34_j2 (Q : QW) (b1 : Nat) (o1 : Nat) (b2 : Nat) (x4 : Int) (x6 : Bool) (x19 : Bool) (w10 : World) : Prop :=
  br x19 (Q (.iface 94 (.int .i64 3)) w10) (br (!x6) ((sh_f34_j3 Q b1 o1 b2 true w10)) (ld tI64 w10 b2 0 fun x20 => (sh_f34_j3 Q b1 o1 b2 (decide (x4 > x20)) w10)))
def sh_f34_j1 (a2 : Bool) (Q : QW) (b1 : Nat) (o1 : Nat) (b2 : Nat) (x4 : Int) (x6 : Bool) (x9 : Int) (x17 : Bool) (w9 : World) : Prop :=
  br x17 (Q (.iface 94 (.int .i64 4)) w9) (br (!a2) (ld tI64 w9 b2 4 fun x18 => (sh_f34_j2 Q b1 o1 b2 x4 x6 (decide ((IntKind.i64.wrap (x18 + 1)) < x9)) w9)) ((sh_f34_j2 Q b1 o1 b2 x4 x6 false w9)))
def sh_f34 (a0 : Option Addr) (a1 : G_api_Vote) (a2 : Bool) (Q : QW) (w0 : World) : Prop :=
  nc a0 fun b1 o1 => al t_api_Vote 53 w0 a1 fun b2 w1 => dw w1 fun w2 => ld tPtr w2 b1 (o1 + 3) fun x1 => ld tU64 w2 b2 1 fun x2 => CallsR PP n_f24 #[.pointer x1, .int .u64 x2] (fun v1 w3 => ∃ x3 : Int, ∃ x4 : Int, ∃ x5 : Int, ∃ x6 : Bool, v1 = .tuple #[.int .u64 x3, .int .i64 x4, .int .i64 x5, .bool x6] /\ (dw w3 fun w4 => ld tI64 w4 b1 (o1 + 5) fun x7 => ld tI64 w4 b1 ((o1 + 0) + 1) fun x8 => CallsR PP n_f41 #[.int .i64 x7, .int .i64 x8] (fun v2 w5 => ∃ x9 : Int, v2 = .int .i64 x9 /\ (dw w5 fun w6 => ld t_api_Config w6 b1 (o1 + 0) fun x10 => ld t_api_Vote w6 b2 0 fun x11 => CallsR PP n_f36 #[t_api_Config.val x10, t_api_Vote.val x11] (fun v3 w7 => ∃ x12 : Bool, v3 = .bool x12 /\ (br (!x12) (Q (.iface 94 (.int .i64 9)) w7) (dw w7 fun w8 => ld tI64 w8 b2 0 fun x13 => ld tI64 w8 b1 (o1 + 5) fun x14 => br (decide (x13 > x14)) ((sh_f34_j1 a2 Q b1 o1 b2 x4 x6 x9 true w8)) (br (!a2) (ld tI64 w8 b2 0 fun x15 => ld tI64 w8 b1 (o1 + 5) fun x16 => (sh_f34_j1 a2 Q b1 o1 b2 x4 x6 x9 (x15 == x16) w8)) ((sh_f34_j1 a2 Q b1 o1 b2 x4 x6 x9 false w8)))))) w6)) w4)) w2
theorem so_f34 {a0 : Option Addr} {a1 : G_api_Vote} {a2 : Bool} (Q : QW) (w0 : World) (h : sh_f34 a0 a1 a2 Q w0) : CallsR PP n_f34 #[.pointer a0, t_api_Vote.val a1, .bool a2] Q w0 := by
 refine callsR_of_WX (args := [.pointer a0, t_api_Vote.val a1, vb a2]) Try.func34 rfl Try.ntmps34 nl ?_
 obtain ⟨b1, o1, hp1, h⟩ := h
 refine WX_seq (WX_region ?_)
 refine op_w (pw_box (v := a1) ty_53 rfl ?_)
 intro b2 w1 hw1 hw2
 replace h := h b2 w1 hw1 hw2
 refine mva .nilIface rfl (ops_nil ?_)
 refine WX_seq ?_
 obtain ⟨w2, hw3, h⟩ := dwe h
 obtain ⟨x1, hx1, x2, hx2, h⟩ := h
 refine WX_dr [6] [0,1,2,4,7,8,9,10,11,12,13,14,15] [⟨[],[0,1,2,4],[3,5],[(6,[6,7,8,9,10,11,12,13,14,15],1)]⟩,⟨[6],[7,8,9,10,11,12,13,14,15],[],[]⟩] [.pointer a0, vp b1 o1, vp b1 (o1 + 3), .pointer x1, vp b2 1, vu x2, un, un, un, un, un, un, un, un, un, un] 2 mixed (by kernel_rfl) hw3 ?_
 refine draw_go rfl (pu rfl (pv_move rfl) (pu rfl (pv_nilh rfl hp1) (pu rfl (pv_fld fo_43_1 rfl) (pu rfl (pv_fld fo_53_1 rfl) ap0)))) (ro rfl (pv_ld ty_33 rfl hx1) (ro rfl (pv_ld ty_36 rfl hx2) ao0)) rfl ?_
 refine cy rfl rfl ?_
 refine pw_call co_24 rfl (cm h ?_)
 rintro v1 w3 ⟨x3, x4, x5, x6, rfl, h⟩
 refine nx [.tuple #[vu x3, vi x4, vi x5, vb x6], vu x3, vi x4, vi x5, vb x6, vu x3, vi x4, vi x5, vb x6] rfl nl rfl ?_
 dsimp only [putV, List.set]
 refine draw_end rfl (pu rfl (pv_move rfl) (pu rfl (pv_extract (vs := [vu x3, vi x4, vi x5, vb x6]) (v := vu x3) rfl rfl) (pu rfl (pv_extract (vs := [vu x3, vi x4, vi x5, vb x6]) (v := vi x4) rfl rfl) (pu rfl (pv_extract (vs := [vu x3, vi x4, vi x5, vb x6]) (v := vi x5) rfl rfl) (pu rfl (pv_extract (vs := [vu x3, vi x4, vi x5, vb x6]) (v := vb x6) rfl rfl) (pu rfl (pv_assign rfl) (pu rfl (pv_assign rfl) (pu rfl (pv_assign rfl) (pu rfl (pv_assign rfl) ap0))))))))) ao0 ?_
 refine WX_seq ?_
 obtain ⟨w4, hw4, h⟩ := dwe h
 obtain ⟨x7, hx7, x8, hx8, h⟩ := h
 refine WX_dr [9] [0,1,2,4,5,6,7,10] [⟨[],[0,1,2,4,5,6,7],[3,8],[(9,[9,10],1)]⟩,⟨[9],[10],[],[]⟩] [.pointer a0, vp b1 o1, vp b1 (o1 + 5), vi x7, .pointer a0, vp b1 o1, vp b1 (o1 + 0), vp b1 ((o1 + 0) + 1), vi x8, un, un] 2 mixed (by kernel_rfl) hw4 ?_
 refine draw_go rfl (pu rfl (pv_move rfl) (pu rfl (pv_nilh rfl hp1) (pu rfl (pv_fld fo_43_3 rfl) (pu rfl (pv_move rfl) (pu rfl (pv_nilh rfl hp1) (pu rfl (pv_fld fo_43_0 rfl) (pu rfl (pv_fld fo_26_1 rfl) ap0))))))) (ro rfl (pv_ld ty_3 rfl hx7) (ro rfl (pv_ld ty_3 rfl hx8) ao0)) rfl ?_
 refine cy rfl rfl ?_
 refine pw_call co_41 rfl (cm h ?_)
 rintro v2 w5 ⟨x9, rfl, h⟩
 refine nx [vi x9] rfl nl rfl ?_
 refine draw_end rfl (pu rfl (pv_assign rfl) ap0) ao0 ?_
 refine WX_seq ?_
 refine WX_block ?_
 refine WX_seq ?_
 obtain ⟨w6, hw5, h⟩ := dwe h
 obtain ⟨x10, hx10, x11, hx11, h⟩ := h
 refine WX_dr [5] [0,1,2,6,7] [⟨[],[0,1,2],[3,4],[(5,[5,6,7],1)]⟩,⟨[5],[6,7],[],[]⟩] [.pointer a0, vp b1 o1, vp b1 (o1 + 0), t_api_Config.val x10, t_api_Vote.val x11, un, un, un] 2 mixed (by kernel_rfl) hw5 ?_
 refine draw_go rfl (pu rfl (pv_move rfl) (pu rfl (pv_nilh rfl hp1) (pu rfl (pv_fld fo_43_0 rfl) ap0))) (ro rfl (pv_ld ty_26 rfl hx10) (ro rfl (pv_ld ty_53 rfl hx11) ao0)) rfl ?_
 refine cy rfl rfl ?_
 refine pw_call co_36 rfl (cm h ?_)
 rintro v3 w7 ⟨x12, rfl, h⟩
 refine nx [vb (!x12), vb (!x12)] rfl nl rfl ?_
 refine draw_end rfl (pu rfl (pv_not rfl) (pu rfl (pv_assign rfl) ap0)) ao0 ?_
 refine WX_cond (b := (!x12)) rfl (fun hb9 => ?_) (fun hb9 => ?_)
 have h := h.1 hb9
 refine WX_seq (WX_region ?_)
 refine op_v (pv_iface (v := vi 9) ni_94 rfl) <| mva (.iface 94 (vi 9)) rfl (ops_nil ?_)
 refine WX_ret ?_
 exact fin_of [.iface 94 (vi 9)] rfl ⟨rfl, trivial⟩ h
 have h := h.2 hb9
 refine WX_join (fun f w9 => ∃ x17 : Bool, Agree f [(0, .pointer a0), (2, vb a2), (4, vp b2 0), (8, vi x4), (10, vb x6), (11, vi x9), (47, vb x17)] /\ sh_f34_j1 a2 Q b1 o1 b2 x4 x6 x9 x17 w9) ?_ ?_
 obtain ⟨w8, hw6, h⟩ := dwe h
 obtain ⟨x13, hx13, x14, hx14, h⟩ := h
 refine dr_split (b := decide (x13 > x14)) (fun hb1 => ?_) (fun hb1 => ?_)
 have h := h.1 hb1
 refine WX_dr [] [0,2,3,4,6,7,8,9,10,11,13,14,15,17,18,19,20] [⟨[],[0,2,3,4,6,7,8,9,10,11,13,14,15,17,18,19,20],[1,5,12,16],[]⟩] [vp b2 0, vi x13, .pointer a0, vp b1 o1, vp b1 (o1 + 5), vi x14, vb true, vb true, un, un, un, un, un, un, un, un, un, un, un, vb true, vb true] 1 mixed (by kernel_rfl) hw6 ?_
 refine draw_end rfl (pu rfl (pv_fld fo_53_0 rfl) (pu rfl (pv_move rfl) (pu rfl (pv_nilh rfl hp1) (pu rfl (pv_fld fo_43_3 rfl) (pu rfl (pv_cmp (v := true) rfl rfl rfl (by exact hb1)) (pu rfl (pv_move (by first | rfl | exact congrArg Value.bool hb1)) (pn (pn (pn (pn (pn (pn (pn (pn (pn (pu rfl (pv_pick (b := true) (v := vb true) rfl rfl) (pu rfl (pv_assign rfl) ap0))))))))))))))))) (ro rfl (pv_ld ty_3 rfl hx13) (ro rfl (pv_ld ty_3 rfl hx14) (rn (rn ao0)))) ?_
 exact ⟨true, ⟨rfl, rfl, rfl, rfl, rfl, rfl, rfl, trivial⟩, h⟩
 have h := h.2 hb1
 refine dr_split (b := (!a2)) (fun hb2 => ?_) (fun hb2 => ?_)
 have h := h.1 hb2
 obtain ⟨x15, hx15, x16, hx16, h⟩ := h
 refine WX_dr [] [0,2,3,4,6,7,8,9,10,11,13,14,15,17,18,19,20] [⟨[],[0,2,3,4,6,7,8,9,10,11,13,14,15,17,18,19,20],[1,5,12,16],[]⟩] [vp b2 0, vi x13, .pointer a0, vp b1 o1, vp b1 (o1 + 5), vi x14, vb false, vb false, vb a2, vb true, vb true, vp b2 0, vi x15, .pointer a0, vp b1 o1, vp b1 (o1 + 5), vi x16, vb (x15 == x16), vb (x15 == x16), vb (x15 == x16), vb (x15 == x16)] 1 mixed (by kernel_rfl) hw6 ?_
 refine draw_end rfl (pu rfl (pv_fld fo_53_0 rfl) (pu rfl (pv_move rfl) (pu rfl (pv_nilh rfl hp1) (pu rfl (pv_fld fo_43_3 rfl) (pu rfl (pv_cmp (v := false) rfl rfl rfl (by exact hb1)) (pu rfl (pv_move (by first | rfl | exact congrArg Value.bool hb1)) (pu rfl (pv_move rfl) (pu rfl (pv_notE rfl (by exact hb2)) (pu rfl (pv_move (by first | rfl | exact congrArg Value.bool hb2)) (pu rfl (pv_fld fo_53_0 rfl) (pu rfl (pv_move rfl) (pu rfl (pv_nilh rfl hp1) (pu rfl (pv_fld fo_43_3 rfl) (pu rfl (pv_cmp (v := (x15 == x16)) rfl rfl rfl rfl) (pu rfl (pv_pick (b := true) (v := vb (x15 == x16)) rfl rfl) (pu rfl (pv_pick (b := false) (v := vb (x15 == x16)) rfl rfl) (pu rfl (pv_assign rfl) ap0))))))))))))))))) (ro rfl (pv_ld ty_3 rfl hx13) (ro rfl (pv_ld ty_3 rfl hx14) (ro rfl (pv_ld ty_3 rfl hx15) (ro rfl (pv_ld ty_3 rfl hx16) ao0)))) ?_
 exact ⟨(x15 == x16), ⟨rfl, rfl, rfl, rfl, rfl, rfl, rfl, trivial⟩, h⟩
 have h := h.2 hb2
 refine WX_dr [] [0,2,3,4,6,7,8,9,10,11,13,14,15,17,18,19,20] [⟨[],[0,2,3,4,6,7,8,9,10,11,13,14,15,17,18,19,20],[1,5,12,16],[]⟩] [vp b2 0, vi x13, .pointer a0, vp b1 o1, vp b1 (o1 + 5), vi x14, vb false, vb false, vb a2, vb false, vb false, un, un, un, un, un, un, un, vb false, vb false, vb false] 1 mixed (by kernel_rfl) hw6 ?_
 refine draw_end rfl (pu rfl (pv_fld fo_53_0 rfl) (pu rfl (pv_move rfl) (pu rfl (pv_nilh rfl hp1) (pu rfl (pv_fld fo_43_3 rfl) (pu rfl (pv_cmp (v := false) rfl rfl rfl (by exact hb1)) (pu rfl (pv_move (by first | rfl | exact congrArg Value.bool hb1)) (pu rfl (pv_move rfl) (pu rfl (pv_notE rfl (by exact hb2)) (pu rfl (pv_move (by first | rfl | exact congrArg Value.bool hb2)) (pn (pn (pn (pn (pn (pu rfl (pv_pick (b := false) (v := vb false) rfl rfl) (pu rfl (pv_pick (b := false) (v := vb false) rfl rfl) (pu rfl (pv_assign rfl) ap0))))))))))))))))) (ro rfl (pv_ld ty_3 rfl hx13) (ro rfl (pv_ld ty_3 rfl hx14) (rn (rn ao0)))) ?_
 exact ⟨false, ⟨rfl, rfl, rfl, rfl, rfl, rfl, rfl, trivial⟩, h⟩
 rintro f w9 ⟨x17, ha, h⟩
 obtain ⟨g3, rfl⟩ := canon ha
 refine WX_cond (b := x17) rfl (fun hb8 => ?_) (fun hb8 => ?_)
 have h := h.1 hb8
 refine WX_seq (WX_region ?_)
 refine op_v (pv_iface (v := vi 4) ni_94 rfl) <| mva (.iface 94 (vi 4)) rfl (ops_nil ?_)
 refine WX_ret ?_
 exact fin_of [.iface 94 (vi 4)] rfl ⟨rfl, trivial⟩ h
 have h := h.2 hb8
 refine WX_join (fun f w10 => ∃ x19 : Bool, Agree f [(0, .pointer a0), (4, vp b2 0), (8, vi x4), (10, vb x6), (69, vb x19)] /\ sh_f34_j2 Q b1 o1 b2 x4 x6 x19 w10) ?_ ?_
 refine WX_region ?_
 refine mv (vb a2) rfl <| op_v (pv_not rfl) <| mv (vb (!a2)) rfl <| ops_split 72 (b := (!a2)) rfl (fun hb3 => ?_) (fun hb3 => ?_)
 have h := h.1 hb3
 refine opg_v (pv_fld fo_53_3 rfl) <| opg_v (pv_fld fo_38_0 rfl) ?_
 obtain ⟨x18, hx18, h⟩ := h
 refine opg_v (pv_ld ty_3 rfl hx18) <| opg_v (pv_add rfl rfl) <| opg_v (pv_move (v := vi x9) rfl) ?_
 refine opg_v (pv_cmp (v := decide ((IntKind.i64.wrap (x18 + 1)) < x9)) rfl rfl rfl rfl) ?_
 refine op_v (pv_pick (b := true) (v := vb (decide ((IntKind.i64.wrap (x18 + 1)) < x9))) rfl rfl) ?_
 refine mva (vb (decide ((IntKind.i64.wrap (x18 + 1)) < x9))) rfl (ops_nil ?_)
 exact ⟨decide ((IntKind.i64.wrap (x18 + 1)) < x9), ⟨rfl, rfl, rfl, rfl, rfl, trivial⟩, h⟩
 have h := h.2 hb3
 iterate 6 refine opg_no ?_
 refine op_v (pv_pick (b := false) (v := vb false) rfl rfl) <| mva (vb false) rfl (ops_nil ?_)
 exact ⟨false, ⟨rfl, rfl, rfl, rfl, rfl, trivial⟩, h⟩
 rintro f w10 ⟨x19, ha, h⟩
 obtain ⟨g2, rfl⟩ := canon ha
 refine WX_cond (b := x19) rfl (fun hb7 => ?_) (fun hb7 => ?_)
 have h := h.1 hb7
 refine WX_seq (WX_region ?_)
 refine op_v (pv_iface (v := vi 3) ni_94 rfl) <| mva (.iface 94 (vi 3)) rfl (ops_nil ?_)
 refine WX_ret ?_
 exact fin_of [.iface 94 (vi 3)] rfl ⟨rfl, trivial⟩ h
 have h := h.2 hb7
 refine WX_join (fun f w11 => ∃ x21 : Bool, Agree f [(0, .pointer a0), (4, vp b2 0), (81, vb x21)] /\ sh_f34_j3 Q b1 o1 b2 x21 w11) ?_ ?_
 refine WX_region ?_
 refine mv (vb x6) rfl <| op_v (pv_not rfl) <| mv (vb (!x6)) rfl <| ops_split 84 (b := (!x6)) rfl (fun hb4 => ?_) (fun hb4 => ?_)
 have h := h.1 hb4
 iterate 4 refine opg_no ?_
 refine op_v (pv_pick (b := true) (v := vb true) rfl rfl) <| mva (vb true) rfl (ops_nil ?_)
 exact ⟨true, ⟨rfl, rfl, rfl, trivial⟩, h⟩
 have h := h.2 hb4
 refine opg_v (pv_move (v := vi x4) rfl) <| opg_v (pv_fld fo_53_0 rfl) ?_
 obtain ⟨x20, hx20, h⟩ := h
 refine opg_v (pv_ld ty_3 rfl hx20) <| opg_v (pv_cmp (v := decide (x4 > x20)) rfl rfl rfl rfl) ?_
 refine op_v (pv_pick (b := false) (v := vb (decide (x4 > x20))) rfl rfl) <| mva (vb (decide (x4 > x20))) rfl (ops_nil ?_)
 exact ⟨decide (x4 > x20), ⟨rfl, rfl, rfl, trivial⟩, h⟩
 rintro f w11 ⟨x21, ha, h⟩
 obtain ⟨g1, rfl⟩ := canon ha
 refine WX_cond (b := x21) rfl (fun hb6 => ?_) (fun hb6 => ?_)
 have h := h.1 hb6
 refine WX_seq (WX_region ?_)
 refine op_v (pv_iface (v := vi 10) ni_94 rfl) <| mva (.iface 94 (vi 10)) rfl (ops_nil ?_)
 refine WX_ret ?_
 exact fin_of [.iface 94 (vi 10)] rfl ⟨rfl, trivial⟩ h
 have h := h.2 hb6
 refine WX_seq ?_
 obtain ⟨w12, hw7, h⟩ := dwe h
 obtain ⟨x22, hx22, x23, hx23, x24, hx24, x25, hx25, x26, hx26, h⟩ := h
 refine WX_dr [14,15] [0,1,2,4,6,7,9,10,11,12,16,17,19,20] [⟨[],[0,1,2,4,6,7,9,10,11,12,16,17],[3,5,8,13,18],[(14,[14],1)]⟩,⟨[14],[],[3,5,18],[(15,[15,19,20],2)]⟩,⟨[15,14],[19,20],[18],[]⟩] [.pointer a0, vp b1 o1, vp b1 (o1 + 3), .pointer x22, vp b2 1, vu x23, vp b2 4, vp b2 4, vi x24, .pointer a0, vp b1 o1, vp b1 (o1 + 0), vp b1 ((o1 + 0) + 1), vi x25, un, un, vp b2 4, vp b2 5, vu x26, un, un] 3 mixed (by kernel_rfl) hw7 ?_
 refine draw_go rfl (pu rfl (pv_move rfl) (pu rfl (pv_nilh rfl hp1) (pu rfl (pv_fld fo_43_1 rfl) (pu rfl (pv_fld fo_53_1 rfl) (pu rfl (pv_fld fo_53_3 rfl) (pu rfl (pv_fld fo_38_0 rfl) (pu rfl (pv_move rfl) (pu rfl (pv_nilh rfl hp1) (pu rfl (pv_fld fo_43_0 rfl) (pu rfl (pv_fld fo_26_1 rfl) (pu rfl (pv_fld fo_53_3 rfl) (pu rfl (pv_fld fo_38_1 rfl) ap0)))))))))))) (ro rfl (pv_ld ty_33 rfl hx22) (ro rfl (pv_ld ty_36 rfl hx23) (ro rfl (pv_ld ty_3 rfl hx24) (ro rfl (pv_ld ty_3 rfl hx25) (ro rfl (pv_ld ty_36 rfl hx26) ao0))))) rfl ?_
 refine cy rfl rfl ?_
 refine pw_call co_53 rfl (cm h ?_)
 rintro v4 w13 ⟨x27, rfl, h⟩
 obtain ⟨hc1, hc2, hc3, h⟩ := h
 refine nx [] rfl nl rfl ?_
 refine draw_go rfl ap0 (ro rfl (pv_ld ty_33 rfl hc1) (ro rfl (pv_ld ty_36 rfl hc2) (ro rfl (pv_ld ty_36 rfl hc3) ao0))) rfl ?_
 refine cy rfl rfl ?_
 refine pw_call co_20 rfl (cm h ?_)
 rintro v5 w14 ⟨x28, rfl, h⟩
 obtain ⟨hc4, h⟩ := h
 refine nx [vb (x28 != x26), vb (x28 != x26)] rfl nl rfl ?_
 refine draw_end rfl (pu rfl (pv_cmp (v := (x28 != x26)) rfl rfl rfl rfl) (pu rfl (pv_assign rfl) ap0)) (ro rfl (pv_ld ty_36 rfl hc4) ao0) ?_
 refine WX_cond (b := (x28 != x26)) rfl (fun hb5 => ?_) (fun hb5 => ?_)
 have h := h.1 hb5
 refine WX_seq (WX_region ?_)
 refine op_v (pv_iface (v := vi 9) ni_94 rfl) <| mva (.iface 94 (vi 9)) rfl (ops_nil ?_)
 refine WX_ret ?_
 exact fin_of [.iface 94 (vi 9)] rfl ⟨rfl, trivial⟩ h
 have h := h.2 hb5
 refine WX_skip <| WX_join (fun f w24 => Agree f [] /\ sh_f34_j6 Q w24) ?_ ?_
 refine WX_seq (WX_region ?_)
 refine op_v (pv_fld fo_53_4 rfl) ?_
 obtain ⟨x29, hx29, h⟩ := h
 refine op_v (pv_ld ty_51 rfl hx29) <| op_v (pv_lenS (s := x29) is_51 rfl) <| mv (vi 0) rfl (ops_nil ?_)
 refine WX_block ?_
 obtain ⟨I1, ⟨m, h0⟩, hB1⟩ := h
 refine WX_loop (fun m f w15 => ∃ x30 : Int, Agree f [(0, .pointer a0), (4, vp b2 0), (114, .slice x29.a x29.len x29.cap), (115, vi (x29.len : Int)), (116, vi x30)] /\ I1 m x30 w15) ⟨m, 0, ⟨rfl, rfl, rfl, rfl, rfl, trivial⟩, h0⟩ ?_
 clear h0 m
 rintro m f w15 ⟨x30, ha, h⟩
 obtain ⟨g5, rfl⟩ := canon ha
 replace h := hB1 m x30 w15 h
 clear hB1
 generalize hn_nxt1 : (fun (y0 : Int) (w : World) => ∃ m2, m2 < m /\ I1 m2 y0 w) = nxt1 at h
 refine WX_seq (WX_region ?_)
 refine op_v (pv_cmp (v := decide (x30 < (x29.len : Int))) rfl rfl rfl rfl) (ops_nil ?_)
 refine WX_seq ?_
 refine WX_cond (b := decide (x30 < (x29.len : Int))) rfl (fun hb10 => ?_) (fun hb10 => ?_)
 have h := h.1 hb10
 refine WX_skip ?_
 refine WX_join (fun f w23 => Agree f [(0, .pointer a0), (4, vp b2 0), (114, .slice x29.a x29.len x29.cap), (115, vi (x29.len : Int)), (116, vi x30)] /\ sh_f34_j5 x30 nxt1 w23) ?_ ?_
 refine WX_block ?_
 refine WX_seq (WX_region ?_)
 obtain ⟨b3, o2, hi1, hi2, hi3, h⟩ := h
 refine op_v (pv_ix (s := x29) ez_51 rfl rfl hi1 hi2 hi3) ?_
 obtain ⟨x31, hx31, h⟩ := h
 refine op_v (pv_ld ty_3 rfl hx31) <| mva (vi x31) rfl (ops_nil ?_)
 refine WX_seq (WX_region ?_)
 refine mv (.pointer a0) rfl <| op_v (pv_nilh rfl hp1) <| op_v (pv_fld fo_43_2 rfl) ?_
 obtain ⟨x32, hx32, h⟩ := h
 refine op_v (pv_ld ty_35 rfl hx32) <| mv (vi x31) rfl <| op_w (pw_call co_14 rfl (CallsR.mono h ?_))
 rintro v6 w16 ⟨x33, x34, rfl, h⟩
 refine mv (.tuple #[vu x33, vb x34]) rfl <| op_v (pv_extract (vs := [vu x33, vb x34]) (v := vu x33) rfl rfl) ?_
 refine op_v (pv_extract (vs := [vu x33, vb x34]) (v := vb x34) rfl rfl) <| mva (vu x33) rfl <| mva (vb x34) rfl (ops_nil ?_)
 refine WX_seq ?_
 obtain ⟨w17, hw8, h⟩ := dwe h
 obtain ⟨x35, hx35, x36, hx36, x37, hx37, h⟩ := h
 refine WX_dr [10] [0,1,2,4,5,6,8] [⟨[],[0,1,2,4,5,6,8],[3,7,9],[(10,[10],1)]⟩,⟨[10],[],[],[]⟩] [.pointer a0, vp b1 o1, vp b1 (o1 + 4), .slice x35.a x35.len x35.cap, vi x31, vp b2 4, vp b2 4, vi x36, vp b2 1, vu x37, un] 2 mixed (by kernel_rfl) hw8 ?_
 refine draw_go rfl (pu rfl (pv_move rfl) (pu rfl (pv_nilh rfl hp1) (pu rfl (pv_fld fo_43_2 rfl) (pu rfl (pv_move rfl) (pu rfl (pv_fld fo_53_3 rfl) (pu rfl (pv_fld fo_38_0 rfl) (pu rfl (pv_fld fo_53_1 rfl) ap0))))))) (ro rfl (pv_ld ty_35 rfl hx35) (ro rfl (pv_ld ty_3 rfl hx36) (ro rfl (pv_ld ty_36 rfl hx37) ao0))) rfl ?_
 refine cy rfl rfl ?_
 refine pw_call co_54 rfl (cm h ?_)
 rintro v7 w18 ⟨x38, rfl, h⟩
 refine nx [] rfl nl rfl ?_
 refine draw_end rfl ap0 ao0 ?_
 refine WX_cond (b := x38) rfl (fun hb11 => ?_) (fun hb11 => ?_)
 have h := h.1 hb11
 obtain ⟨w19, hw9, h⟩ := dwe h
 obtain ⟨x39, hx39, x40, hx40, h⟩ := h
 refine WX_dr [11,12,15] [0,1,2,3,5,7,8,9,10,13,14] [⟨[],[0,1,2,3,5,7,8,9,10],[4,6],[(11,[11],1)]⟩,⟨[11],[],[4],[(12,[12,13,14],2)]⟩,⟨[12,11],[13,14],[],[(15,[15],3)]⟩,⟨[15,12,11],[],[],[]⟩] [.pointer a0, .pointer a0, vp b1 o1, vp b1 (o1 + 13), .slice x39.a x39.len x39.cap, vp b2 1, vu x40, vi x31, vu x33, vb x34, t_store_Change.val (⟨1, x40, 0, x31, x33, x34⟩ : G_store_Change), un, un, un, un, un] 4 mixed (by kernel_rfl) hw9 ?_
 refine draw_go rfl (pu rfl (pv_move rfl) (pu rfl (pv_move rfl) (pu rfl (pv_nilh rfl hp1) (pu rfl (pv_fld fo_43_9 rfl) (pu rfl (pv_fld fo_53_1 rfl) (pu rfl (pv_move rfl) (pu rfl (pv_move rfl) (pu rfl (pv_move rfl) (pu rfl (pv_build (cs := t_store_Change.enc (⟨1, x40, 0, x31, x33, x34⟩ : G_store_Change)) (vs := [(0, vi 1), (1, vu x40), (3, vi x31), (4, vu x33), (5, vb x34)]) rfl (by kernel_rfl)) ap0))))))))) (ro rfl (pv_ld ty_41 rfl hx39) (ro rfl (pv_ld ty_36 rfl hx40) ao0)) rfl ?_
 refine cy rfl rfl ?_
 refine pw_buildSlice (e := 66) (cs := t_store_Change.enc (⟨1, x40, 0, x31, x33, x34⟩ : G_store_Change)) (vs := [(0, t_store_Change.val (⟨1, x40, 0, x31, x33, x34⟩ : G_store_Change))]) rfl (by kernel_rfl) ?_
 intro b4 w20 hw10 hw11
 replace h := h b4 w20 hw10 hw11
 obtain ⟨hc5, h⟩ := h
 refine nx [] rfl nl rfl ?_
 refine draw_go rfl ap0 (ro rfl (pv_ld ty_41 rfl hc5) ao0) rfl ?_
 refine cy rfl rfl ?_
 obtain ⟨ol1, ne1, ha1, ha2, ha3, ha4, ha5, h⟩ := h
 refine pw_append (s := x39) (r := (Sl.mk (some ⟨b4, 0, none⟩) 1 1)) eo_41 is_41 rfl rfl ha1 ha2 ha3 ha4 ha5 ?_
 intro x41 w21 ha6
 replace h := h x41 w21 ha6
 refine nx [vp b1 o1, vp b1 (o1 + 13)] rfl nl rfl ?_
 refine draw_go rfl (pu rfl (pv_nilh rfl hp1) (pu rfl (pv_fld fo_43_9 rfl) ap0)) ao0 rfl ?_
 refine cy rfl rfl ?_
 refine pw_st (x := x41) ty_41 rfl rfl h.1 ?_
 intro w22 hw12
 replace h := h.2 w22 hw12
 refine nx [] rfl nl rfl ?_
 dsimp only [putV, List.set]
 refine draw_end rfl ap0 ao0 ?_
 exact ⟨⟨rfl, rfl, rfl, rfl, rfl, trivial⟩, h⟩
 have h := h.2 hb11
 refine WX_skip ?_
 exact ⟨⟨rfl, rfl, rfl, rfl, rfl, trivial⟩, h⟩
 rintro f w23 ⟨ha, h⟩
 obtain ⟨g4, rfl⟩ := canon ha
 refine WX_region ?_
 refine op_v (pv_add rfl rfl) <| mv (vi (IntKind.i64.wrap (x30 + 1))) rfl (ops_nil ?_)
 subst hn_nxt1
 obtain ⟨m2, hm2, h⟩ := h
 exact ⟨m2, hm2, (IntKind.i64.wrap (x30 + 1)), ⟨rfl, rfl, rfl, rfl, rfl, trivial⟩, h⟩
 have h := h.2 hb10
 refine WX_exit0 ?_
 exact ⟨ag0, h⟩
 rintro f w24 ⟨ha, h⟩
 obtain ⟨g6, rfl⟩ := canon ha
 refine WX_seq (WX_region ?_)
 refine mva .nilIface rfl (ops_nil ?_)
 refine WX_ret ?_
 exact fin_of [.nilIface] rfl ⟨rfl, trivial⟩ h
def sh_f35_j2 (x5 : Int) (nxt1 : Int -> World -> Prop) (w10 : World) : Prop :=
  nxt1 (IntKind.i64.wrap (x5 + 1)) w10
def sh_f35_j3 (Q : QW) (x4 : Ifc) (w11 : World) : Prop :=
  Q (x4.v) w11
def sh_f35_b1 (Q : QW) (b1 : Nat) (o1 : Nat) (x3 : Sl) (x4 : Ifc) (x5 : Int) (w4 : World) (nxt1 : Int -> World -> Prop) : Prop :=
  br (decide (x5 < (x3.len : Int))) (ixs x3 x5 fun b3 o2 => ld tI64 w4 b3 (o2 + (x5).toNat * 1) fun x6 => ld tSl w4 b1 (o1 + 4) fun x7 => CallsR PP n_f14 #[.slice x7.a x7.len x7.cap, .int .i64 x6] (fun v2 w5 => ∃ x8 : Int, ∃ x9 : Bool, v2 = .tuple #[.int .u64 x8, .bool x9] /\ (ld tSl w5 b1 (o1 + 4) fun x10 => CallsR PP n_f55 #[.slice x10.a x10.len x10.cap, .int .i64 x6] (fun v3 w6 => ∃ x11 : Bool, v3 = .bool x11 /\ (br x11 (ld tSl w6 b1 (o1 + 13) fun x12 => alr 66 w6 (t_store_Change.enc (⟨2, 0, 0, x6, x8, x9⟩ : G_store_Change)) fun b4 w7 => app 66 6 48 w7 x12 (Sl.mk (some ⟨b4, 0, none⟩) 1 1) fun x13 w8 => st tSl w8 b1 (o1 + 13) x13 fun w9 => (sh_f35_j2 x5 nxt1 w9)) ((sh_f35_j2 x5 nxt1 w6)))) w5)) w4) ((sh_f35_j3 Q x4 w4))
def sh_f35 (a0 : Option Addr) (a1 : G_api_Proof) (Q : QW) (w0 : World) : Prop :=
  nc a0 fun b1 o1 => al t_api_Proof 55 w0 a1 fun b2 w1 => dw w1 fun w2 => ld t_api_Config w2 b1 (o1 + 0) fun x1 => ld t_api_Proof w2 b2 0 fun x2 => CallsR PP n_f13 #[t_api_Config.val x1, t_api_Proof.val x2] (fun v1 w3 => ∃ x3 : Sl, ∃ x4 : Ifc, v1 = .tuple #[.slice x3.a x3.len x3.cap, x4.v] /\ ((∃ I1 : Nat -> Int -> World -> Prop, (∃ m, I1 m 0 w3) /\ ∀ m x5 w4, I1 m x5 w4 -> sh_f35_b1 Q b1 o1 x3 x4 x5 w4 (fun y0 w => ∃ m2, m2 < m /\ I1 m2 y0 w)))) w2
theorem so_f35 {a0 : Option Addr} {a1 : G_api_Proof} (Q : QW) (w0 : World) (h : sh_f35 a0 a1 Q w0) : CallsR PP n_f35 #[.pointer a0, t_api_Proof.val a1] Q w0 := by
 refine callsR_of_WX (args := [.pointer a0, t_api_Proof.val a1]) Try.func35 rfl Try.ntmps35 nl ?_
 obtain ⟨b1, o1, hp1, h⟩ := h
 refine WX_seq (WX_region ?_)
 refine op_w (pw_box (v := a1) ty_55 rfl ?_)
 intro b2 w1 hw1 hw2
 replace h := h b2 w1 hw1 hw2
 refine mva .nilIface rfl (ops_nil ?_)
 refine WX_seq ?_
 obtain ⟨w2, hw3, h⟩ := dwe h
 obtain ⟨x1, hx1, x2, hx2, h⟩ := h
 refine WX_dr [5] [0,1,2,6,7,8,9,10] [⟨[],[0,1,2],[3,4],[(5,[5,6,7,8,9,10],1)]⟩,⟨[5],[6,7,8,9,10],[],[]⟩] [.pointer a0, vp b1 o1, vp b1 (o1 + 0), t_api_Config.val x1, t_api_Proof.val x2, un, un, un, un, un, un] 2 mixed (by kernel_rfl) hw3 ?_
 refine draw_go rfl (pu rfl (pv_move rfl) (pu rfl (pv_nilh rfl hp1) (pu rfl (pv_fld fo_43_0 rfl) ap0))) (ro rfl (pv_ld ty_26 rfl hx1) (ro rfl (pv_ld ty_55 rfl hx2) ao0)) rfl ?_
 refine cy rfl rfl ?_
 refine pw_call co_13 rfl (cm h ?_)
 rintro v1 w3 ⟨x3, x4, rfl, h⟩
 refine nx [.tuple #[.slice x3.a x3.len x3.cap, x4.v], .slice x3.a x3.len x3.cap, x4.v, .slice x3.a x3.len x3.cap, x4.v] rfl nl rfl ?_
 dsimp only [putV, List.set]
 refine draw_end rfl (pu rfl (pv_move rfl) (pu rfl (pv_extract (vs := [.slice x3.a x3.len x3.cap, x4.v]) (v := .slice x3.a x3.len x3.cap) rfl rfl) (pu rfl (pv_extract (vs := [.slice x3.a x3.len x3.cap, x4.v]) (v := x4.v) rfl rfl) (pu rfl (pv_assign rfl) (pu rfl (pv_assign rfl) ap0))))) ao0 ?_
 refine WX_join (fun f w11 => Agree f [(6, x4.v)] /\ sh_f35_j3 Q x4 w11) ?_ ?_
 refine WX_seq (WX_region ?_)
 refine mv (.slice x3.a x3.len x3.cap) rfl <| op_v (pv_lenS (s := x3) is_51 rfl) <| mv (vi 0) rfl (ops_nil ?_)
 refine WX_block ?_
 obtain ⟨I1, ⟨m, h0⟩, hB1⟩ := h
 refine WX_loop (fun m f w4 => ∃ x5 : Int, Agree f [(0, .pointer a0), (6, x4.v), (20, .slice x3.a x3.len x3.cap), (21, vi (x3.len : Int)), (22, vi x5)] /\ I1 m x5 w4) ⟨m, 0, ⟨rfl, rfl, rfl, rfl, rfl, trivial⟩, h0⟩ ?_
 clear h0 m
 rintro m f w4 ⟨x5, ha, h⟩
 obtain ⟨g2, rfl⟩ := canon ha
 replace h := hB1 m x5 w4 h
 clear hB1
 generalize hn_nxt1 : (fun (y0 : Int) (w : World) => ∃ m2, m2 < m /\ I1 m2 y0 w) = nxt1 at h
 refine WX_seq (WX_region ?_)
 refine op_v (pv_cmp (v := decide (x5 < (x3.len : Int))) rfl rfl rfl rfl) (ops_nil ?_)
 refine WX_seq ?_
 refine WX_cond (b := decide (x5 < (x3.len : Int))) rfl (fun hb1 => ?_) (fun hb1 => ?_)
 have h := h.1 hb1
 refine WX_skip ?_
 refine WX_join (fun f w10 => Agree f [(0, .pointer a0), (6, x4.v), (20, .slice x3.a x3.len x3.cap), (21, vi (x3.len : Int)), (22, vi x5)] /\ sh_f35_j2 x5 nxt1 w10) ?_ ?_
 refine WX_block ?_
 refine WX_seq (WX_region ?_)
 obtain ⟨b3, o2, hi1, hi2, hi3, h⟩ := h
 refine op_v (pv_ix (s := x3) ez_51 rfl rfl hi1 hi2 hi3) ?_
 obtain ⟨x6, hx6, h⟩ := h
 refine op_v (pv_ld ty_3 rfl hx6) <| mva (vi x6) rfl (ops_nil ?_)
 refine WX_seq (WX_region ?_)
 refine mv (.pointer a0) rfl <| op_v (pv_nilh rfl hp1) <| op_v (pv_fld fo_43_2 rfl) ?_
 obtain ⟨x7, hx7, h⟩ := h
 refine op_v (pv_ld ty_35 rfl hx7) <| mv (vi x6) rfl <| op_w (pw_call co_14 rfl (CallsR.mono h ?_))
 rintro v2 w5 ⟨x8, x9, rfl, h⟩
 refine mv (.tuple #[vu x8, vb x9]) rfl <| op_v (pv_extract (vs := [vu x8, vb x9]) (v := vu x8) rfl rfl) ?_
 refine op_v (pv_extract (vs := [vu x8, vb x9]) (v := vb x9) rfl rfl) <| mva (vu x8) rfl <| mva (vb x9) rfl (ops_nil ?_)
 refine WX_seq (WX_region ?_)
 refine mv (.pointer a0) rfl <| op_v (pv_nilh rfl hp1) <| op_v (pv_fld fo_43_2 rfl) ?_
 obtain ⟨x10, hx10, h⟩ := h
 refine op_v (pv_ld ty_35 rfl hx10) <| mv (vi x6) rfl <| op_w (pw_call co_55 rfl (CallsR.mono h ?_))
 rintro v3 w6 ⟨x11, rfl, h⟩
 refine ops_nil ?_
 refine WX_cond (b := x11) rfl (fun hb2 => ?_) (fun hb2 => ?_)
 have h := h.1 hb2
 refine WX_region ?_
 refine mv (.pointer a0) rfl <| mv (.pointer a0) rfl <| op_v (pv_nilh rfl hp1) <| op_v (pv_fld fo_43_9 rfl) ?_
 obtain ⟨x12, hx12, h⟩ := h
 refine op_v (pv_ld ty_41 rfl hx12) <| mv (vi x6) rfl <| mv (vu x8) rfl <| mv (vb x9) rfl ?_
 refine op_v (pv_build (cs := t_store_Change.enc (⟨2, 0, 0, x6, x8, x9⟩ : G_store_Change)) (vs := [(0, vi 2), (3, vi x6), (4, vu x8), (5, vb x9)]) rfl (by kernel_rfl)) ?_
 refine op_w (pw_buildSlice (e := 66) (cs := t_store_Change.enc (⟨2, 0, 0, x6, x8, x9⟩ : G_store_Change)) (vs := [(0, t_store_Change.val (⟨2, 0, 0, x6, x8, x9⟩ : G_store_Change))]) rfl (by kernel_rfl) ?_)
 intro b4 w7 hw4 hw5
 replace h := h b4 w7 hw4 hw5
 obtain ⟨ol1, ne1, ha1, ha2, ha3, ha4, ha5, h⟩ := h
 refine op_w (pw_append (s := x12) (r := (Sl.mk (some ⟨b4, 0, none⟩) 1 1)) eo_41 is_41 rfl rfl ha1 ha2 ha3 ha4 ha5 ?_)
 intro x13 w8 ha6
 replace h := h x13 w8 ha6
 refine op_v (pv_nilh rfl hp1) <| op_v (pv_fld fo_43_9 rfl) <| op_w (pw_st (x := x13) ty_41 rfl rfl h.1 ?_)
 intro w9 hw6
 replace h := h.2 w9 hw6
 refine ops_nil ?_
 exact ⟨⟨rfl, rfl, rfl, rfl, rfl, trivial⟩, h⟩
 have h := h.2 hb2
 refine WX_skip ?_
 exact ⟨⟨rfl, rfl, rfl, rfl, rfl, trivial⟩, h⟩
 rintro f w10 ⟨ha, h⟩
 obtain ⟨g1, rfl⟩ := canon ha
 refine WX_region ?_
 refine op_v (pv_add rfl rfl) <| mv (vi (IntKind.i64.wrap (x5 + 1))) rfl (ops_nil ?_)
 subst hn_nxt1
 obtain ⟨m2, hm2, h⟩ := h
 exact ⟨m2, hm2, (IntKind.i64.wrap (x5 + 1)), ⟨rfl, rfl, rfl, rfl, rfl, trivial⟩, h⟩
 have h := h.2 hb1
 refine WX_exit0 ?_
 exact ⟨⟨rfl, trivial⟩, h⟩
 rintro f w11 ⟨ha, h⟩
 obtain ⟨g3, rfl⟩ := canon ha
 refine WX_seq (WX_region ?_)
 refine mv x4.v rfl <| mva x4.v rfl (ops_nil ?_)
 refine WX_ret ?_
 exact fin_of [x4.v] rfl ⟨rfl, trivial⟩ h
end Go.Proofs.Ytdefmgkicdhmkaa
