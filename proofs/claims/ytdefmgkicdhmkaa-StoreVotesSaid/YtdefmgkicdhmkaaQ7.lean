/- What the functions do, part 7; for every memory. -/
import Derived.Test.YtdefmgkicdhmkaaQ6
namespace Go.Proofs.Ytdefmgkicdhmkaa
open Go Go.Sx
set_option linter.unusedVariables false
set_option maxRecDepth 100000
set_option maxHeartbeats 2000000
def sh_f78_j3 (Q : QW) (x5 : Int) (x6 : Int) (w3 : World) : Prop :=
  chkp (0 <= ((IntKind.u8.wrap x5)) /\ (((IntKind.u8.wrap x5))).toNat < ByteArray.size (⟨#[0, 1, 2, 2, 3, 3, 3, 3, 4, 4, 4, 4, 4, 4, 4, 4, 5, 5, 5, 5, 5, 5, 5, 5, 5, 5, 5, 5, 5, 5, 5, 5, 6, 6, 6, 6, 6, 6, 6, 6, 6, 6, 6, 6, 6, 6, 6, 6, 6, 6, 6, 6, 6, 6, 6, 6, 6, 6, 6, 6, 6, 6, 6, 6, 7, 7, 7, 7, 7, 7, 7, 7, 7, 7, 7, 7, 7, 7, 7, 7, 7, 7, 7, 7, 7, 7, 7, 7, 7, 7, 7, 7, 7, 7, 7, 7, 7, 7, 7, 7, 7, 7, 7, 7, 7, 7, 7, 7, 7, 7, 7, 7, 7, 7, 7, 7, 7, 7, 7, 7, 7, 7, 7, 7, 7, 7, 7, 7, 8, 8, 8, 8, 8, 8, 8, 8, 8, 8, 8, 8, 8, 8, 8, 8, 8, 8, 8, 8, 8, 8, 8, 8, 8, 8, 8, 8, 8, 8, 8, 8, 8, 8, 8, 8, 8, 8, 8, 8, 8, 8, 8, 8, 8, 8, 8, 8, 8, 8, 8, 8, 8, 8, 8, 8, 8, 8, 8, 8, 8, 8, 8, 8, 8, 8, 8, 8, 8, 8, 8, 8, 8, 8, 8, 8, 8, 8, 8, 8, 8, 8, 8, 8, 8, 8, 8, 8, 8, 8, 8, 8, 8, 8, 8, 8, 8, 8, 8, 8, 8, 8, 8, 8, 8, 8, 8, 8, 8, 8, 8, 8, 8, 8, 8, 8, 8, 8, 8, 8, 8, 8, 8, 8, 8, 8, 8, 8]⟩)) <| Q (.int .i64 (IntKind.i64.wrap (x6 + (IntKind.i64.wrap (ixB (⟨#[0, 1, 2, 2, 3, 3, 3, 3, 4, 4, 4, 4, 4, 4, 4, 4, 5, 5, 5, 5, 5, 5, 5, 5, 5, 5, 5, 5, 5, 5, 5, 5, 6, 6, 6, 6, 6, 6, 6, 6, 6, 6, 6, 6, 6, 6, 6, 6, 6, 6, 6, 6, 6, 6, 6, 6, 6, 6, 6, 6, 6, 6, 6, 6, 7, 7, 7, 7, 7, 7, 7, 7, 7, 7, 7, 7, 7, 7, 7, 7, 7, 7, 7, 7, 7, 7, 7, 7, 7, 7, 7, 7, 7, 7, 7, 7, 7, 7, 7, 7, 7, 7, 7, 7, 7, 7, 7, 7, 7, 7, 7, 7, 7, 7, 7, 7, 7, 7, 7, 7, 7, 7, 7, 7, 7, 7, 7, 7, 8, 8, 8, 8, 8, 8, 8, 8, 8, 8, 8, 8, 8, 8, 8, 8, 8, 8, 8, 8, 8, 8, 8, 8, 8, 8, 8, 8, 8, 8, 8, 8, 8, 8, 8, 8, 8, 8, 8, 8, 8, 8, 8, 8, 8, 8, 8, 8, 8, 8, 8, 8, 8, 8, 8, 8, 8, 8, 8, 8, 8, 8, 8, 8, 8, 8, 8, 8, 8, 8, 8, 8, 8, 8, 8, 8, 8, 8, 8, 8, 8, 8, 8, 8, 8, 8, 8, 8, 8, 8, 8, 8, 8, 8, 8, 8, 8, 8, 8, 8, 8, 8, 8, 8, 8, 8, 8, 8, 8, 8, 8, 8, 8, 8, 8, 8, 8, 8, 8, 8, 8, 8, 8, 8, 8, 8, 8, 8]⟩) (IntKind.u8.wrap x5)))))) w3
def sh_f78_j2 (Q : QW) (x3 : Int) (x4 : Int) (w2 : World) : Prop :=
  br (decide (x3 ≥ 256)) ((sh_f78_j3 Q (Int.fdiv x3 (2 ^ (min (8 : Int).toNat IntKind.u64.bits))) (IntKind.i64.wrap (x4 + 8)) w2)) ((sh_f78_j3 Q x3 x4 w2))
def sh_f78_j1 (Q : QW) (x1 : Int) (x2 : Int) (w1 : World) : Prop :=
  br (decide (x1 ≥ 65536)) ((sh_f78_j2 Q (Int.fdiv x1 (2 ^ (min (16 : Int).toNat IntKind.u64.bits))) (IntKind.i64.wrap (x2 + 16)) w1)) ((sh_f78_j2 Q x1 x2 w1))
def sh_f78 (a0 : Int) (Q : QW) (w0 : World) : Prop :=
  br (decide (a0 ≥ 4294967296)) ((sh_f78_j1 Q (Int.fdiv a0 (2 ^ (min (32 : Int).toNat IntKind.u64.bits))) 32 w0)) ((sh_f78_j1 Q a0 0 w0))
theorem so_f78 {a0 : Int} (Q : QW) (w0 : World) (h : sh_f78 a0 Q w0) : CallsR PP n_f78 #[.int .u64 a0] Q w0 := by
 refine callsR_of_WX (args := [vu a0]) Try.func78 rfl Try.ntmps78 nl ?_
 refine WX_seq (WX_region ?_)
 refine mva (vi 0) rfl (ops_nil ?_)
 refine WX_join (fun f w1 => ∃ x1 : Int, ∃ x2 : Int, Agree f [(0, vu x1), (2, vi x2)] /\ sh_f78_j1 Q x1 x2 w1) ?_ ?_
 refine WX_seq (WX_region ?_)
 refine mv (vu a0) rfl <| op_v (pv_cmp (v := decide (a0 ≥ 4294967296)) rfl rfl rfl rfl) (ops_nil ?_)
 refine WX_cond (b := decide (a0 ≥ 4294967296)) rfl (fun hb1 => ?_) (fun hb1 => ?_)
 have h := h.1 hb1
 refine WX_seq (WX_region ?_)
 refine mv (vu a0) rfl <| op_v (pv_shr rfl rfl (by decide)) <| mva (vu (Int.fdiv a0 (2 ^ (min (32 : Int).toNat IntKind.u64.bits)))) rfl (ops_nil ?_)
 refine WX_region ?_
 refine mva (vi 32) rfl (ops_nil ?_)
 exact ⟨(Int.fdiv a0 (2 ^ (min (32 : Int).toNat IntKind.u64.bits))), 32, ⟨rfl, rfl, trivial⟩, h⟩
 have h := h.2 hb1
 refine WX_skip ?_
 exact ⟨a0, 0, ⟨rfl, rfl, trivial⟩, h⟩
 rintro f w1 ⟨x1, x2, ha, h⟩
 obtain ⟨g3, rfl⟩ := canon ha
 refine WX_join (fun f w2 => ∃ x3 : Int, ∃ x4 : Int, Agree f [(0, vu x3), (2, vi x4)] /\ sh_f78_j2 Q x3 x4 w2) ?_ ?_
 refine WX_seq (WX_region ?_)
 refine mv (vu x1) rfl <| op_v (pv_cmp (v := decide (x1 ≥ 65536)) rfl rfl rfl rfl) (ops_nil ?_)
 refine WX_cond (b := decide (x1 ≥ 65536)) rfl (fun hb2 => ?_) (fun hb2 => ?_)
 have h := h.1 hb2
 refine WX_seq (WX_region ?_)
 refine mv (vu x1) rfl <| op_v (pv_shr rfl rfl (by decide)) <| mva (vu (Int.fdiv x1 (2 ^ (min (16 : Int).toNat IntKind.u64.bits)))) rfl (ops_nil ?_)
 refine WX_region ?_
 refine mv (vi x2) rfl <| op_v (pv_add rfl rfl) <| mva (vi (IntKind.i64.wrap (x2 + 16))) rfl (ops_nil ?_)
 exact ⟨(Int.fdiv x1 (2 ^ (min (16 : Int).toNat IntKind.u64.bits))), (IntKind.i64.wrap (x2 + 16)), ⟨rfl, rfl, trivial⟩, h⟩
 have h := h.2 hb2
 refine WX_skip ?_
 exact ⟨x1, x2, ⟨rfl, rfl, trivial⟩, h⟩
 rintro f w2 ⟨x3, x4, ha, h⟩
 obtain ⟨g2, rfl⟩ := canon ha
 refine WX_join (fun f w3 => ∃ x5 : Int, ∃ x6 : Int, Agree f [(0, vu x5), (2, vi x6)] /\ sh_f78_j3 Q x5 x6 w3) ?_ ?_
 refine WX_seq (WX_region ?_)
 refine mv (vu x3) rfl <| op_v (pv_cmp (v := decide (x3 ≥ 256)) rfl rfl rfl rfl) (ops_nil ?_)
 refine WX_cond (b := decide (x3 ≥ 256)) rfl (fun hb3 => ?_) (fun hb3 => ?_)
 have h := h.1 hb3
 refine WX_seq (WX_region ?_)
 refine mv (vu x3) rfl <| op_v (pv_shr rfl rfl (by decide)) <| mva (vu (Int.fdiv x3 (2 ^ (min (8 : Int).toNat IntKind.u64.bits)))) rfl (ops_nil ?_)
 refine WX_region ?_
 refine mv (vi x4) rfl <| op_v (pv_add rfl rfl) <| mva (vi (IntKind.i64.wrap (x4 + 8))) rfl (ops_nil ?_)
 exact ⟨(Int.fdiv x3 (2 ^ (min (8 : Int).toNat IntKind.u64.bits))), (IntKind.i64.wrap (x4 + 8)), ⟨rfl, rfl, trivial⟩, h⟩
 have h := h.2 hb3
 refine WX_skip ?_
 exact ⟨x3, x4, ⟨rfl, rfl, trivial⟩, h⟩
 rintro f w3 ⟨x5, x6, ha, h⟩
 obtain ⟨g1, rfl⟩ := canon ha
 refine WX_seq (WX_region ?_)
 refine mv (vi x6) rfl <| mv (vu x5) rfl <| op_v (pv_conv us_36 uk_5 rfl) ?_
 obtain ⟨hi1, h⟩ := h
 refine op_v (pv_ixStr (s := ⟨#[0, 1, 2, 2, 3, 3, 3, 3, 4, 4, 4, 4, 4, 4, 4, 4, 5, 5, 5, 5, 5, 5, 5, 5, 5, 5, 5, 5, 5, 5, 5, 5, 6, 6, 6, 6, 6, 6, 6, 6, 6, 6, 6, 6, 6, 6, 6, 6, 6, 6, 6, 6, 6, 6, 6, 6, 6, 6, 6, 6, 6, 6, 6, 6, 7, 7, 7, 7, 7, 7, 7, 7, 7, 7, 7, 7, 7, 7, 7, 7, 7, 7, 7, 7, 7, 7, 7, 7, 7, 7, 7, 7, 7, 7, 7, 7, 7, 7, 7, 7, 7, 7, 7, 7, 7, 7, 7, 7, 7, 7, 7, 7, 7, 7, 7, 7, 7, 7, 7, 7, 7, 7, 7, 7, 7, 7, 7, 7, 8, 8, 8, 8, 8, 8, 8, 8, 8, 8, 8, 8, 8, 8, 8, 8, 8, 8, 8, 8, 8, 8, 8, 8, 8, 8, 8, 8, 8, 8, 8, 8, 8, 8, 8, 8, 8, 8, 8, 8, 8, 8, 8, 8, 8, 8, 8, 8, 8, 8, 8, 8, 8, 8, 8, 8, 8, 8, 8, 8, 8, 8, 8, 8, 8, 8, 8, 8, 8, 8, 8, 8, 8, 8, 8, 8, 8, 8, 8, 8, 8, 8, 8, 8, 8, 8, 8, 8, 8, 8, 8, 8, 8, 8, 8, 8, 8, 8, 8, 8, 8, 8, 8, 8, 8, 8, 8, 8, 8, 8, 8, 8, 8, 8, 8, 8, 8, 8, 8, 8, 8, 8, 8, 8, 8, 8, 8, 8]⟩) it_9 rfl rfl hi1.1 hi1.2) ?_
 refine op_v (pv_conv us_5 uk_3 rfl) <| op_v (pv_add rfl rfl) ?_
 refine mva (vi (IntKind.i64.wrap (x6 + (IntKind.i64.wrap (ixB (⟨#[0, 1, 2, 2, 3, 3, 3, 3, 4, 4, 4, 4, 4, 4, 4, 4, 5, 5, 5, 5, 5, 5, 5, 5, 5, 5, 5, 5, 5, 5, 5, 5, 6, 6, 6, 6, 6, 6, 6, 6, 6, 6, 6, 6, 6, 6, 6, 6, 6, 6, 6, 6, 6, 6, 6, 6, 6, 6, 6, 6, 6, 6, 6, 6, 7, 7, 7, 7, 7, 7, 7, 7, 7, 7, 7, 7, 7, 7, 7, 7, 7, 7, 7, 7, 7, 7, 7, 7, 7, 7, 7, 7, 7, 7, 7, 7, 7, 7, 7, 7, 7, 7, 7, 7, 7, 7, 7, 7, 7, 7, 7, 7, 7, 7, 7, 7, 7, 7, 7, 7, 7, 7, 7, 7, 7, 7, 7, 7, 8, 8, 8, 8, 8, 8, 8, 8, 8, 8, 8, 8, 8, 8, 8, 8, 8, 8, 8, 8, 8, 8, 8, 8, 8, 8, 8, 8, 8, 8, 8, 8, 8, 8, 8, 8, 8, 8, 8, 8, 8, 8, 8, 8, 8, 8, 8, 8, 8, 8, 8, 8, 8, 8, 8, 8, 8, 8, 8, 8, 8, 8, 8, 8, 8, 8, 8, 8, 8, 8, 8, 8, 8, 8, 8, 8, 8, 8, 8, 8, 8, 8, 8, 8, 8, 8, 8, 8, 8, 8, 8, 8, 8, 8, 8, 8, 8, 8, 8, 8, 8, 8, 8, 8, 8, 8, 8, 8, 8, 8, 8, 8, 8, 8, 8, 8, 8, 8, 8, 8, 8, 8, 8, 8, 8, 8, 8, 8]⟩) (IntKind.u8.wrap x5)))))) rfl (ops_nil ?_)
 refine WX_ret ?_
 exact fin_of [vi (IntKind.i64.wrap (x6 + (IntKind.i64.wrap (ixB (⟨#[0, 1, 2, 2, 3, 3, 3, 3, 4, 4, 4, 4, 4, 4, 4, 4, 5, 5, 5, 5, 5, 5, 5, 5, 5, 5, 5, 5, 5, 5, 5, 5, 6, 6, 6, 6, 6, 6, 6, 6, 6, 6, 6, 6, 6, 6, 6, 6, 6, 6, 6, 6, 6, 6, 6, 6, 6, 6, 6, 6, 6, 6, 6, 6, 7, 7, 7, 7, 7, 7, 7, 7, 7, 7, 7, 7, 7, 7, 7, 7, 7, 7, 7, 7, 7, 7, 7, 7, 7, 7, 7, 7, 7, 7, 7, 7, 7, 7, 7, 7, 7, 7, 7, 7, 7, 7, 7, 7, 7, 7, 7, 7, 7, 7, 7, 7, 7, 7, 7, 7, 7, 7, 7, 7, 7, 7, 7, 7, 8, 8, 8, 8, 8, 8, 8, 8, 8, 8, 8, 8, 8, 8, 8, 8, 8, 8, 8, 8, 8, 8, 8, 8, 8, 8, 8, 8, 8, 8, 8, 8, 8, 8, 8, 8, 8, 8, 8, 8, 8, 8, 8, 8, 8, 8, 8, 8, 8, 8, 8, 8, 8, 8, 8, 8, 8, 8, 8, 8, 8, 8, 8, 8, 8, 8, 8, 8, 8, 8, 8, 8, 8, 8, 8, 8, 8, 8, 8, 8, 8, 8, 8, 8, 8, 8, 8, 8, 8, 8, 8, 8, 8, 8, 8, 8, 8, 8, 8, 8, 8, 8, 8, 8, 8, 8, 8, 8, 8, 8, 8, 8, 8, 8, 8, 8, 8, 8, 8, 8, 8, 8, 8, 8, 8, 8, 8, 8]⟩) (IntKind.u8.wrap x5)))))] rfl ⟨rfl, trivial⟩ h
def sh_f79 (a0 : Fv) (Q : QW) (w0 : World) : Prop :=
  CallsR PP n_f87 #[a0.v] (fun v1 w1 => ∃ x1 : Sl, v1 = .slice x1.a x1.len x1.cap /\ (CallsR PP n_f88 #[.slice x1.a x1.len x1.cap] (fun v2 w2 => Q (.slice x1.a x1.len x1.cap) w2) w1)) w0
theorem so_f79 {a0 : Fv} (Q : QW) (w0 : World) (h : sh_f79 a0 Q w0) : CallsR PP n_f79 #[a0.v] Q w0 := by
 refine callsR_of_WX (args := [a0.v]) Try.func79 rfl Try.ntmps79 nl ?_
 refine WX_seq (WX_region ?_)
 refine mva (.slice none 0 0) rfl (ops_nil ?_)
 refine WX_seq (WX_region ?_)
 refine mv a0.v rfl <| op_w (pw_call co_87 rfl (CallsR.mono h ?_))
 rintro v1 w1 ⟨x1, rfl, h⟩
 refine mva (.slice x1.a x1.len x1.cap) rfl (ops_nil ?_)
 refine WX_seq (WX_region ?_)
 refine mv (.slice x1.a x1.len x1.cap) rfl <| op_w (pw_call co_88 rfl (CallsR.mono h ?_))
 intro v2 w2 h
 refine ops_nil ?_
 refine WX_seq (WX_region ?_)
 refine mv (.slice x1.a x1.len x1.cap) rfl <| mva (.slice x1.a x1.len x1.cap) rfl (ops_nil ?_)
 refine WX_ret ?_
 exact fin_of [.slice x1.a x1.len x1.cap] rfl ⟨rfl, trivial⟩ h
def sh_f80 (a0 : Option Nat) (Q : QW) (w0 : World) : Prop :=
  al tMap 111 w0 a0 fun b1 w1 => Q ((Fv.mk 89 [] [.pointer (some ⟨b1, 0, none⟩)]).v) w1
theorem so_f80 {a0 : Option Nat} (Q : QW) (w0 : World) (h : sh_f80 a0 Q w0) : CallsR PP n_f80 #[.map a0] Q w0 := by
 refine callsR_of_WX (args := [.map a0]) Try.func80 rfl Try.ntmps80 nl ?_
 refine WX_seq (WX_region ?_)
 refine op_w (pw_box (v := a0) ty_111 rfl ?_)
 intro b1 w1 hw1 hw2
 replace h := h b1 w1 hw1 hw2
 refine mva .nilFunc rfl (ops_nil ?_)
 refine WX_seq (WX_region ?_)
 refine op_v (pv_func (va := []) (vb := [vp b1 0]) rfl rfl) <| mva ((Fv.mk 89 [] [vp b1 0]).v) rfl (ops_nil ?_)
 refine WX_ret ?_
 exact fin_of [(Fv.mk 89 [] [vp b1 0]).v] rfl ⟨rfl, trivial⟩ h
def sh_f82 (a0 : Int) (Q : QW) (w0 : World) : Prop :=
  CallsR PP n_f66 #[.int .u64 (IntKind.u64.wrap a0)] (fun v1 w1 => ∃ x1 : Int, v1 = .int .i64 x1 /\ (chkp (0 <= x1) <| Q (.int .u64 (IntKind.u64.wrap (1 * 2 ^ (min (x1 : Int).toNat IntKind.u64.bits)))) w1)) w0
theorem so_f82 {a0 : Int} (Q : QW) (w0 : World) (h : sh_f82 a0 Q w0) : CallsR PP n_f82 #[.int .i64 a0] Q w0 := by
 refine callsR_of_WX (args := [vi a0]) Try.func82 rfl Try.ntmps82 nl ?_
 refine WX_seq (WX_region ?_)
 refine mva (vu 0) rfl (ops_nil ?_)
 refine WX_seq (WX_region ?_)
 refine mv (vi a0) rfl <| op_v (pv_conv us_3 uk_136 rfl) <| op_w (pw_call co_66 rfl (CallsR.mono h ?_))
 rintro v1 w1 ⟨x1, rfl, h⟩
 obtain ⟨hz1, h⟩ := h
 refine op_v (pv_shl rfl rfl hz1) <| mva (vu (IntKind.u64.wrap (1 * 2 ^ (min (x1 : Int).toNat IntKind.u64.bits)))) rfl (ops_nil ?_)
 refine WX_ret ?_
 exact fin_of [vu (IntKind.u64.wrap (1 * 2 ^ (min (x1 : Int).toNat IntKind.u64.bits)))] rfl ⟨rfl, trivial⟩ h
def sh_f83 (a0 : Option Addr) (Q : QW) (w0 : World) : Prop :=
  nc a0 fun b1 o1 => dw w0 fun w1 => ld tU64 w1 b1 o1 fun x1 => ld tU64 w1 b1 o1 fun x2 => st tU64 w1 b1 o1 (IntKind.u64.wrap ((BitVec.ofInt IntKind.u64.bits x1 ^^^ BitVec.ofInt IntKind.u64.bits (IntKind.u64.wrap (x2 * 2 ^ (min (13 : Int).toNat IntKind.u64.bits)))).toNat : Int)) fun w2 => dw w2 fun w3 => ld tU64 w3 b1 o1 fun x3 => ld tU64 w3 b1 o1 fun x4 => st tU64 w3 b1 o1 (IntKind.u64.wrap ((BitVec.ofInt IntKind.u64.bits x3 ^^^ BitVec.ofInt IntKind.u64.bits (Int.fdiv x4 (2 ^ (min (7 : Int).toNat IntKind.u64.bits)))).toNat : Int)) fun w4 => dw w4 fun w5 => ld tU64 w5 b1 o1 fun x5 => ld tU64 w5 b1 o1 fun x6 => st tU64 w5 b1 o1 (IntKind.u64.wrap ((BitVec.ofInt IntKind.u64.bits x5 ^^^ BitVec.ofInt IntKind.u64.bits (IntKind.u64.wrap (x6 * 2 ^ (min (17 : Int).toNat IntKind.u64.bits)))).toNat : Int)) fun w6 => ld tU64 w6 b1 o1 fun x7 => Q (.int .u64 x7) w6
theorem so_f83 {a0 : Option Addr} (Q : QW) (w0 : World) (h : sh_f83 a0 Q w0) : CallsR PP n_f83 #[.pointer a0] Q w0 := by
 refine callsR_of_WX (args := [.pointer a0]) Try.func83 rfl Try.ntmps83 nl ?_
 obtain ⟨b1, o1, hp1, h⟩ := h
 refine WX_seq (WX_region ?_)
 refine mva (vu 0) rfl (ops_nil ?_)
 refine WX_seq ?_
 obtain ⟨w1, hw1, h⟩ := dwe h
 obtain ⟨x1, hx1, x2, hx2, h⟩ := h
 refine WX_dr [9] [0,1,3,4,6,7,8] [⟨[],[0,1,3,4,6,7,8],[2,5],[(9,[9],1)]⟩,⟨[9],[],[],[]⟩] [.pointer a0, vp b1 o1, vu x1, .pointer a0, vp b1 o1, vu x2, vu (IntKind.u64.wrap (x2 * 2 ^ (min (13 : Int).toNat IntKind.u64.bits))), vu (IntKind.u64.wrap ((BitVec.ofInt IntKind.u64.bits x1 ^^^ BitVec.ofInt IntKind.u64.bits (IntKind.u64.wrap (x2 * 2 ^ (min (13 : Int).toNat IntKind.u64.bits)))).toNat : Int)), vp b1 o1, un] 2 mixed (by kernel_rfl) hw1 ?_
 refine draw_go rfl (pu rfl (pv_move rfl) (pu rfl (pv_nilh rfl hp1) (pu rfl (pv_move rfl) (pu rfl (pv_nilh rfl hp1) (pu rfl (pv_shl rfl rfl (by decide)) (pu rfl (pv_bits (r := (IntKind.u64.wrap ((BitVec.ofInt IntKind.u64.bits x1 ^^^ BitVec.ofInt IntKind.u64.bits (IntKind.u64.wrap (x2 * 2 ^ (min (13 : Int).toNat IntKind.u64.bits)))).toNat : Int))) rfl rfl rfl) (pu rfl (pv_nilh rfl hp1) ap0))))))) (ro rfl (pv_ld ty_154 rfl hx1) (ro rfl (pv_ld ty_154 rfl hx2) ao0)) rfl ?_
 refine cy rfl rfl ?_
 refine pw_st (x := (IntKind.u64.wrap ((BitVec.ofInt IntKind.u64.bits x1 ^^^ BitVec.ofInt IntKind.u64.bits (IntKind.u64.wrap (x2 * 2 ^ (min (13 : Int).toNat IntKind.u64.bits)))).toNat : Int))) ty_154 rfl rfl h.1 ?_
 intro w2 hw2
 replace h := h.2 w2 hw2
 refine nx [] rfl nl rfl ?_
 refine draw_end rfl ap0 ao0 ?_
 refine WX_seq ?_
 obtain ⟨w3, hw3, h⟩ := dwe h
 obtain ⟨x3, hx3, x4, hx4, h⟩ := h
 refine WX_dr [9] [0,1,3,4,6,7,8] [⟨[],[0,1,3,4,6,7,8],[2,5],[(9,[9],1)]⟩,⟨[9],[],[],[]⟩] [.pointer a0, vp b1 o1, vu x3, .pointer a0, vp b1 o1, vu x4, vu (Int.fdiv x4 (2 ^ (min (7 : Int).toNat IntKind.u64.bits))), vu (IntKind.u64.wrap ((BitVec.ofInt IntKind.u64.bits x3 ^^^ BitVec.ofInt IntKind.u64.bits (Int.fdiv x4 (2 ^ (min (7 : Int).toNat IntKind.u64.bits)))).toNat : Int)), vp b1 o1, un] 2 mixed (by kernel_rfl) hw3 ?_
 refine draw_go rfl (pu rfl (pv_move rfl) (pu rfl (pv_nilh rfl hp1) (pu rfl (pv_move rfl) (pu rfl (pv_nilh rfl hp1) (pu rfl (pv_shr rfl rfl (by decide)) (pu rfl (pv_bits (r := (IntKind.u64.wrap ((BitVec.ofInt IntKind.u64.bits x3 ^^^ BitVec.ofInt IntKind.u64.bits (Int.fdiv x4 (2 ^ (min (7 : Int).toNat IntKind.u64.bits)))).toNat : Int))) rfl rfl rfl) (pu rfl (pv_nilh rfl hp1) ap0))))))) (ro rfl (pv_ld ty_154 rfl hx3) (ro rfl (pv_ld ty_154 rfl hx4) ao0)) rfl ?_
 refine cy rfl rfl ?_
 refine pw_st (x := (IntKind.u64.wrap ((BitVec.ofInt IntKind.u64.bits x3 ^^^ BitVec.ofInt IntKind.u64.bits (Int.fdiv x4 (2 ^ (min (7 : Int).toNat IntKind.u64.bits)))).toNat : Int))) ty_154 rfl rfl h.1 ?_
 intro w4 hw4
 replace h := h.2 w4 hw4
 refine nx [] rfl nl rfl ?_
 refine draw_end rfl ap0 ao0 ?_
 refine WX_seq ?_
 obtain ⟨w5, hw5, h⟩ := dwe h
 obtain ⟨x5, hx5, x6, hx6, h⟩ := h
 refine WX_dr [9] [0,1,3,4,6,7,8] [⟨[],[0,1,3,4,6,7,8],[2,5],[(9,[9],1)]⟩,⟨[9],[],[],[]⟩] [.pointer a0, vp b1 o1, vu x5, .pointer a0, vp b1 o1, vu x6, vu (IntKind.u64.wrap (x6 * 2 ^ (min (17 : Int).toNat IntKind.u64.bits))), vu (IntKind.u64.wrap ((BitVec.ofInt IntKind.u64.bits x5 ^^^ BitVec.ofInt IntKind.u64.bits (IntKind.u64.wrap (x6 * 2 ^ (min (17 : Int).toNat IntKind.u64.bits)))).toNat : Int)), vp b1 o1, un] 2 mixed (by kernel_rfl) hw5 ?_
 refine draw_go rfl (pu rfl (pv_move rfl) (pu rfl (pv_nilh rfl hp1) (pu rfl (pv_move rfl) (pu rfl (pv_nilh rfl hp1) (pu rfl (pv_shl rfl rfl (by decide)) (pu rfl (pv_bits (r := (IntKind.u64.wrap ((BitVec.ofInt IntKind.u64.bits x5 ^^^ BitVec.ofInt IntKind.u64.bits (IntKind.u64.wrap (x6 * 2 ^ (min (17 : Int).toNat IntKind.u64.bits)))).toNat : Int))) rfl rfl rfl) (pu rfl (pv_nilh rfl hp1) ap0))))))) (ro rfl (pv_ld ty_154 rfl hx5) (ro rfl (pv_ld ty_154 rfl hx6) ao0)) rfl ?_
 refine cy rfl rfl ?_
 refine pw_st (x := (IntKind.u64.wrap ((BitVec.ofInt IntKind.u64.bits x5 ^^^ BitVec.ofInt IntKind.u64.bits (IntKind.u64.wrap (x6 * 2 ^ (min (17 : Int).toNat IntKind.u64.bits)))).toNat : Int))) ty_154 rfl rfl h.1 ?_
 intro w6 hw6
 replace h := h.2 w6 hw6
 refine nx [] rfl nl rfl ?_
 refine draw_end rfl ap0 ao0 ?_
 refine WX_seq (WX_region ?_)
 refine mv (.pointer a0) rfl <| op_v (pv_nilh rfl hp1) ?_
 obtain ⟨x7, hx7, h⟩ := h
 refine op_v (pv_ld ty_154 rfl hx7) <| mva (vu x7) rfl (ops_nil ?_)
 refine WX_ret ?_
 exact fin_of [vu x7] rfl ⟨rfl, trivial⟩ h
def sh_f86 (a0 : Int) (Q : QW) (w0 : World) : Prop :=
  Q (.bool (a0 != a0)) w0
theorem so_f86 {a0 : Int} (Q : QW) (w0 : World) (h : sh_f86 a0 Q w0) : CallsR PP n_f86 #[.int .i64 a0] Q w0 := by
 refine callsR_of_WX (args := [vi a0]) Try.func86 rfl Try.ntmps86 nl ?_
 refine WX_seq (WX_region ?_)
 refine mva (vb false) rfl (ops_nil ?_)
 refine WX_seq (WX_region ?_)
 refine mv (vi a0) rfl <| mv (vi a0) rfl <| op_v (pv_cmp (v := (a0 != a0)) rfl rfl rfl rfl) <| mva (vb (a0 != a0)) rfl (ops_nil ?_)
 refine WX_ret ?_
 exact fin_of [vb (a0 != a0)] rfl ⟨rfl, trivial⟩ h
def sh_f87 (a0 : Fv) (Q : QW) (w0 : World) : Prop :=
  CallsR PP n_f91 #[.slice none 0 0, a0.v] (fun v1 w1 => ∃ x1 : Sl, v1 = .slice x1.a x1.len x1.cap /\ (Q (.slice x1.a x1.len x1.cap) w1)) w0
theorem so_f87 {a0 : Fv} (Q : QW) (w0 : World) (h : sh_f87 a0 Q w0) : CallsR PP n_f87 #[a0.v] Q w0 := by
 refine callsR_of_WX (args := [a0.v]) Try.func87 rfl Try.ntmps87 nl ?_
 refine WX_seq (WX_region ?_)
 refine mva (.slice none 0 0) rfl (ops_nil ?_)
 refine WX_seq (WX_region ?_)
 refine mv a0.v rfl <| op_w (pw_call co_91 rfl (CallsR.mono h ?_))
 rintro v1 w1 ⟨x1, rfl, h⟩
 refine mva (.slice x1.a x1.len x1.cap) rfl (ops_nil ?_)
 refine WX_ret ?_
 exact fin_of [.slice x1.a x1.len x1.cap] rfl ⟨rfl, trivial⟩ h
def sh_f88 (a0 : Sl) (Q : QW) (w0 : World) : Prop :=
  CallsR PP n_f66 #[.int .u64 (IntKind.u64.wrap (a0.len : Int))] (fun v1 w1 => ∃ x1 : Int, v1 = .int .i64 x1 /\ (CallsR PP n_f92 #[.slice a0.a a0.len a0.cap, .int .i64 0, .int .i64 (a0.len : Int), .int .i64 x1] (fun v2 w2 => Q (.tuple #[]) w2) w1)) w0
theorem so_f88 {a0 : Sl} (Q : QW) (w0 : World) (h : sh_f88 a0 Q w0) : CallsR PP n_f88 #[.slice a0.a a0.len a0.cap] Q w0 := by
 refine callsR_of_WX (args := [.slice a0.a a0.len a0.cap]) Try.func88 rfl Try.ntmps88 nl ?_
 refine WX_seq (WX_region ?_)
 refine mv (.slice a0.a a0.len a0.cap) rfl <| op_v (pv_lenS (s := a0) is_24 rfl) <| mva (vi (a0.len : Int)) rfl (ops_nil ?_)
 refine WX_region ?_
 refine mv (.slice a0.a a0.len a0.cap) rfl <| mv (vi (a0.len : Int)) rfl <| mv (vi (a0.len : Int)) rfl <| op_v (pv_conv us_3 uk_136 rfl) ?_
 refine op_w (pw_call co_66 rfl (cm h ?_))
 rintro v1 w1 ⟨x1, rfl, h⟩
 refine op_w (pw_call co_92 rfl (cm h ?_))
 intro v2 w2 h
 refine ops_nil ?_
 exact fin_of [] rfl trivial h
end Go.Proofs.Ytdefmgkicdhmkaa
namespace Go.Proofs.Ytdefmgkicdhmkaa
open Go Go.Sx
set_option linter.unusedVariables false
set_option maxRecDepth 100000
set_option maxHeartbeats 2000000
def sh_f92_j6 (a0 : Sl) (x1 : Int) (x2 : Int) (x4 : Bool) (x5 : Bool) (nxt1 : Int -> Int -> Int -> Bool -> Bool -> World -> Prop) (x6 : Int) (x9 : Int) (x16 : Bool) (w14 : World) : Prop :=
  br x16 (CallsR PP n_f100 #[.slice a0.a a0.len a0.cap, .int .i64 x1, .int .i64 x2, .int .i64 x9] (fun v8 w15 => ∃ x17 : Int, v8 = .int .i64 x17 /\ (nxt1 x17 x2 x6 x4 x5 w15)) w14) (CallsR PP n_f101 #[.slice a0.a a0.len a0.cap, .int .i64 x1, .int .i64 x2, .int .i64 x9] (fun v9 w16 => ∃ x18 : Int, ∃ x19 : Bool, v9 = .tuple #[.int .i64 x18, .bool x19] /\ (br (decide ((IntKind.i64.wrap (x18 - x1)) < (IntKind.i64.wrap (x2 - x18)))) (CallsR PP n_f92 #[.slice a0.a a0.len a0.cap, .int .i64 x1, .int .i64 x18, .int .i64 x6] (fun v10 w17 => nxt1 (IntKind.i64.wrap (x18 + 1)) x2 x6 (decide ((IntKind.i64.wrap (x18 - x1)) ≥ (IntKind.i64.wrap (Int.tdiv (IntKind.i64.wrap (x2 - x1)) 8)))) x19 w17) w16) (CallsR PP n_f92 #[.slice a0.a a0.len a0.cap, .int .i64 (IntKind.i64.wrap (x18 + 1)), .int .i64 x2, .int .i64 x6] (fun v11 w18 => nxt1 x1 x18 x6 (decide ((IntKind.i64.wrap (x2 - x18)) ≥ (IntKind.i64.wrap (Int.tdiv (IntKind.i64.wrap (x2 - x1)) 8)))) x19 w18) w16))) w14)
def sh_f92_j5 (a0 : Sl) (x1 : Int) (x2 : Int) (x4 : Bool) (x5 : Bool) (nxt1 : Int -> Int -> Int -> Bool -> Bool -> World -> Prop) (x6 : Int) (x9 : Int) (w11 : World) : Prop :=
  dw w11 fun w12 => br (decide (x1 > 0)) (ixs a0 (IntKind.i64.wrap (x1 - 1)) fun b1 o1 => ld tU64 w12 b1 (o1 + ((IntKind.i64.wrap (x1 - 1))).toNat * 1) fun x13 => ixs a0 x9 fun b2 o2 => ld tU64 w12 b2 (o2 + (x9).toNat * 1) fun x14 => CallsR PP n_f99 #[.int .u64 x13, .int .u64 x14] (fun v7 w13 => ∃ x15 : Bool, v7 = .bool x15 /\ ((sh_f92_j6 a0 x1 x2 x4 x5 nxt1 x6 x9 (!x15) w13))) w12) ((sh_f92_j6 a0 x1 x2 x4 x5 nxt1 x6 x9 false w12))
def sh_f92_j4 (a0 : Sl) (Q : QW) (x1 : Int) (x2 : Int) (x4 : Bool) (x5 : Bool) (nxt1 : Int -> Int -> Int -> Bool -> Bool -> World -> Prop) (x6 : Int) (x9 : Int) (x11 : Bool) (w9 : World) : Prop :=
  br x11 (CallsR PP n_f98 #[.slice a0.a a0.len a0.cap, .int .i64 x1, .int .i64 x2] (fun v6 w10 => ∃ x12 : Bool, v6 = .bool x12 /\ (br x12 (Q (.tuple #[]) w10) ((sh_f92_j5 a0 x1 x2 x4 x5 nxt1 x6 x9 w10)))) w9) ((sh_f92_j5 a0 x1 x2 x4 x5 nxt1 x6 x9 w9))
def sh_f92_j3 (a0 : Sl) (Q : QW) (x1 : Int) (x2 : Int) (x4 : Bool) (x5 : Bool) (nxt1 : Int -> Int -> Int -> Bool -> Bool -> World -> Prop) (x6 : Int) (x9 : Int) (x10 : Int) (w8 : World) : Prop :=
  br x4 (br x5 ((sh_f92_j4 a0 Q x1 x2 x4 x5 nxt1 x6 x9 (x10 == 1) w8)) ((sh_f92_j4 a0 Q x1 x2 x4 x5 nxt1 x6 x9 false w8))) ((sh_f92_j4 a0 Q x1 x2 x4 x5 nxt1 x6 x9 false w8))
def sh_f92_j2 (a0 : Sl) (Q : QW) (x1 : Int) (x2 : Int) (x4 : Bool) (x5 : Bool) (nxt1 : Int -> Int -> Int -> Bool -> Bool -> World -> Prop) (x6 : Int) (w5 : World) : Prop :=
  CallsR PP n_f96 #[.slice a0.a a0.len a0.cap, .int .i64 x1, .int .i64 x2] (fun v4 w6 => ∃ x7 : Int, ∃ x8 : Int, v4 = .tuple #[.int .i64 x7, .int .i64 x8] /\ (br (x8 == 2) (CallsR PP n_f97 #[.slice a0.a a0.len a0.cap, .int .i64 x1, .int .i64 x2] (fun v5 w7 => (sh_f92_j3 a0 Q x1 x2 x4 x5 nxt1 x6 (IntKind.i64.wrap ((IntKind.i64.wrap (x2 - 1)) - (IntKind.i64.wrap (x7 - x1)))) 1 w7)) w6) ((sh_f92_j3 a0 Q x1 x2 x4 x5 nxt1 x6 x7 x8 w6)))) w5
def sh_f92_b1 (a0 : Sl) (Q : QW) (x1 : Int) (x2 : Int) (x3 : Int) (x4 : Bool) (x5 : Bool) (w1 : World) (nxt1 : Int -> Int -> Int -> Bool -> Bool -> World -> Prop) : Prop :=
  br (decide ((IntKind.i64.wrap (x2 - x1)) <= 12)) (CallsR PP n_f93 #[.slice a0.a a0.len a0.cap, .int .i64 x1, .int .i64 x2] (fun v1 w2 => Q (.tuple #[]) w2) w1) (br (x3 == 0) (CallsR PP n_f94 #[.slice a0.a a0.len a0.cap, .int .i64 x1, .int .i64 x2] (fun v2 w3 => Q (.tuple #[]) w3) w1) (br (!x4) (CallsR PP n_f95 #[.slice a0.a a0.len a0.cap, .int .i64 x1, .int .i64 x2] (fun v3 w4 => (sh_f92_j2 a0 Q x1 x2 x4 x5 nxt1 (IntKind.i64.wrap (x3 - 1)) w4)) w1) ((sh_f92_j2 a0 Q x1 x2 x4 x5 nxt1 x3 w1))))
def sh_f92 (a0 : Sl) (a1 : Int) (a2 : Int) (a3 : Int) (Q : QW) (w0 : World) : Prop :=
  (∃ I1 : Nat -> Int -> Int -> Int -> Bool -> Bool -> World -> Prop, (∃ m, I1 m a1 a2 a3 true true w0) /\ ∀ m x1 x2 x3 x4 x5 w1, I1 m x1 x2 x3 x4 x5 w1 -> sh_f92_b1 a0 Q x1 x2 x3 x4 x5 w1 (fun y0 y1 y2 y3 y4 w => ∃ m2, m2 < m /\ I1 m2 y0 y1 y2 y3 y4 w))
theorem so_f92 {a0 : Sl} {a1 : Int} {a2 : Int} {a3 : Int} (Q : QW) (w0 : World) (h : sh_f92 a0 a1 a2 a3 Q w0) : CallsR PP n_f92 #[.slice a0.a a0.len a0.cap, .int .i64 a1, .int .i64 a2, .int .i64 a3] Q w0 := by
 refine callsR_of_WX (args := [.slice a0.a a0.len a0.cap, vi a1, vi a2, vi a3]) Try.func92 rfl Try.ntmps92 nl ?_
 refine WX_seq (WX_region ?_)
 refine mva (vb true) rfl (ops_nil ?_)
 refine WX_seq (WX_region ?_)
 refine mva (vb true) rfl (ops_nil ?_)
 refine WX_block ?_
 obtain ⟨I1, ⟨m, h0⟩, hB1⟩ := h
 refine WX_loop (fun m f w1 => ∃ x1 : Int, ∃ x2 : Int, ∃ x3 : Int, ∃ x4 : Bool, ∃ x5 : Bool, Agree f [(0, .slice a0.a a0.len a0.cap), (1, vi x1), (2, vi x2), (3, vi x3), (8, vb x4), (9, vb x5)] /\ I1 m x1 x2 x3 x4 x5 w1) ⟨m, a1, a2, a3, true, true, ⟨rfl, rfl, rfl, rfl, rfl, rfl, trivial⟩, h0⟩ ?_
 clear h0 m
 rintro m f w1 ⟨x1, x2, x3, x4, x5, ha, h⟩
 obtain ⟨g6, rfl⟩ := canon ha
 replace h := hB1 m x1 x2 x3 x4 x5 w1 h
 clear hB1
 generalize hn_nxt1 : (fun (y0 : Int) (y1 : Int) (y2 : Int) (y3 : Bool) (y4 : Bool) (w : World) => ∃ m2, m2 < m /\ I1 m2 y0 y1 y2 y3 y4 w) = nxt1 at h
 refine WX_block ?_
 refine WX_seq (WX_region ?_)
 refine mv (vi x2) rfl <| mv (vi x1) rfl <| op_v (pv_sub rfl rfl) <| mva (vi (IntKind.i64.wrap (x2 - x1))) rfl (ops_nil ?_)
 refine WX_seq ?_
 refine WX_seq (WX_region ?_)
 refine mv (vi (IntKind.i64.wrap (x2 - x1))) rfl <| op_v (pv_cmp (v := decide ((IntKind.i64.wrap (x2 - x1)) <= 12)) rfl rfl rfl rfl) (ops_nil ?_)
 refine WX_cond (b := decide ((IntKind.i64.wrap (x2 - x1)) <= 12)) rfl (fun hb1 => ?_) (fun hb1 => ?_)
 have h := h.1 hb1
 refine WX_seq (WX_region ?_)
 refine mv (.slice a0.a a0.len a0.cap) rfl <| mv (vi x1) rfl <| mv (vi x2) rfl <| op_w (pw_call co_93 rfl (CallsR.mono h ?_))
 intro v1 w2 h
 refine ops_nil ?_
 refine WX_ret ?_
 exact fin_of [] rfl trivial h
 have h := h.2 hb1
 refine WX_skip <| WX_seq <| WX_seq (WX_region ?_)
 refine mv (vi x3) rfl <| op_v (pv_cmp (v := (x3 == 0)) rfl rfl rfl rfl) (ops_nil ?_)
 refine WX_cond (b := (x3 == 0)) rfl (fun hb2 => ?_) (fun hb2 => ?_)
 have h := h.1 hb2
 refine WX_seq (WX_region ?_)
 refine mv (.slice a0.a a0.len a0.cap) rfl <| mv (vi x1) rfl <| mv (vi x2) rfl <| op_w (pw_call co_94 rfl (CallsR.mono h ?_))
 intro v2 w3 h
 refine ops_nil ?_
 refine WX_ret ?_
 exact fin_of [] rfl trivial h
 have h := h.2 hb2
 refine WX_skip ?_
 refine WX_join (fun f w5 => ∃ x6 : Int, Agree f [(0, .slice a0.a a0.len a0.cap), (1, vi x1), (2, vi x2), (3, vi x6), (8, vb x4), (9, vb x5), (10, vi (IntKind.i64.wrap (x2 - x1)))] /\ sh_f92_j2 a0 Q x1 x2 x4 x5 nxt1 x6 w5) ?_ ?_
 refine WX_seq (WX_region ?_)
 refine mv (vb x4) rfl <| op_v (pv_not rfl) (ops_nil ?_)
 refine WX_cond (b := (!x4)) rfl (fun hb3 => ?_) (fun hb3 => ?_)
 have h := h.1 hb3
 refine WX_seq (WX_region ?_)
 refine mv (.slice a0.a a0.len a0.cap) rfl <| mv (vi x1) rfl <| mv (vi x2) rfl <| op_w (pw_call co_95 rfl (CallsR.mono h ?_))
 intro v3 w4 h
 refine ops_nil ?_
 refine WX_region ?_
 refine mv (vi x3) rfl <| op_v (pv_sub rfl rfl) <| mva (vi (IntKind.i64.wrap (x3 - 1))) rfl (ops_nil ?_)
 exact ⟨(IntKind.i64.wrap (x3 - 1)), ⟨rfl, rfl, rfl, rfl, rfl, rfl, rfl, trivial⟩, h⟩
 have h := h.2 hb3
 refine WX_skip ?_
 exact ⟨x3, ⟨rfl, rfl, rfl, rfl, rfl, rfl, rfl, trivial⟩, h⟩
 rintro f w5 ⟨x6, ha, h⟩
 obtain ⟨g5, rfl⟩ := canon ha
 refine WX_seq (WX_region ?_)
 refine mv (.slice a0.a a0.len a0.cap) rfl <| mv (vi x1) rfl <| mv (vi x2) rfl <| op_w (pw_call co_96 rfl (CallsR.mono h ?_))
 rintro v4 w6 ⟨x7, x8, rfl, h⟩
 refine mv (.tuple #[vi x7, vi x8]) rfl <| op_v (pv_extract (vs := [vi x7, vi x8]) (v := vi x7) rfl rfl) ?_
 refine op_v (pv_extract (vs := [vi x7, vi x8]) (v := vi x8) rfl rfl) <| mva (vi x7) rfl <| mva (vi x8) rfl (ops_nil ?_)
 refine WX_join (fun f w8 => ∃ x9 : Int, ∃ x10 : Int, Agree f [(0, .slice a0.a a0.len a0.cap), (1, vi x1), (2, vi x2), (3, vi x6), (8, vb x4), (9, vb x5), (10, vi (IntKind.i64.wrap (x2 - x1))), (11, vi x9), (12, vi x10)] /\ sh_f92_j3 a0 Q x1 x2 x4 x5 nxt1 x6 x9 x10 w8) ?_ ?_
 refine WX_seq (WX_region ?_)
 refine mv (vi x8) rfl <| op_v (pv_cmp (v := (x8 == 2)) rfl rfl rfl rfl) (ops_nil ?_)
 refine WX_cond (b := (x8 == 2)) rfl (fun hb4 => ?_) (fun hb4 => ?_)
 have h := h.1 hb4
 refine WX_seq (WX_region ?_)
 refine mv (.slice a0.a a0.len a0.cap) rfl <| mv (vi x1) rfl <| mv (vi x2) rfl <| op_w (pw_call co_97 rfl (CallsR.mono h ?_))
 intro v5 w7 h
 refine ops_nil ?_
 refine WX_seq (WX_region ?_)
 refine mv (vi x2) rfl <| op_v (pv_sub rfl rfl) <| mv (vi x7) rfl <| mv (vi x1) rfl <| op_v (pv_sub rfl rfl) <| op_v (pv_sub rfl rfl) ?_
 refine mva (vi (IntKind.i64.wrap ((IntKind.i64.wrap (x2 - 1)) - (IntKind.i64.wrap (x7 - x1))))) rfl (ops_nil ?_)
 refine WX_region ?_
 refine mva (vi 1) rfl (ops_nil ?_)
 exact ⟨(IntKind.i64.wrap ((IntKind.i64.wrap (x2 - 1)) - (IntKind.i64.wrap (x7 - x1)))), 1, ⟨rfl, rfl, rfl, rfl, rfl, rfl, rfl, rfl, rfl, trivial⟩, h⟩
 have h := h.2 hb4
 refine WX_skip ?_
 exact ⟨x7, x8, ⟨rfl, rfl, rfl, rfl, rfl, rfl, rfl, rfl, rfl, trivial⟩, h⟩
 rintro f w8 ⟨x9, x10, ha, h⟩
 obtain ⟨g4, rfl⟩ := canon ha
 refine WX_join (fun f w11 => Agree f [(0, .slice a0.a a0.len a0.cap), (1, vi x1), (2, vi x2), (3, vi x6), (8, vb x4), (9, vb x5), (10, vi (IntKind.i64.wrap (x2 - x1))), (11, vi x9)] /\ sh_f92_j5 a0 x1 x2 x4 x5 nxt1 x6 x9 w11) ?_ ?_
 refine WX_join (fun f w9 => ∃ x11 : Bool, Agree f [(0, .slice a0.a a0.len a0.cap), (1, vi x1), (2, vi x2), (3, vi x6), (8, vb x4), (9, vb x5), (10, vi (IntKind.i64.wrap (x2 - x1))), (11, vi x9), (68, vb x11)] /\ sh_f92_j4 a0 Q x1 x2 x4 x5 nxt1 x6 x9 x11 w9) ?_ ?_
 refine WX_region ?_
 refine mv (vb x4) rfl <| mv (vb x4) rfl <| ops_split 62 (b := x4) rfl (fun hb5 => ?_) (fun hb5 => ?_)
 have h := h.1 hb5
 refine opg_v (pv_move (v := vb x5) rfl) <| op_v (pv_pick (b := true) (v := vb x5) rfl rfl) <| mv (vb x5) rfl ?_
 refine ops_split 65 (b := x5) rfl (fun hb6 => ?_) (fun hb6 => ?_)
 have h := h.1 hb6
 refine opg_v (pv_move (v := vi x10) rfl) <| opg_v (pv_cmp (v := (x10 == 1)) rfl rfl rfl rfl) ?_
 refine op_v (pv_pick (b := true) (v := vb (x10 == 1)) rfl rfl) (ops_nil ?_)
 exact ⟨(x10 == 1), ⟨rfl, rfl, rfl, rfl, rfl, rfl, rfl, rfl, rfl, trivial⟩, h⟩
 have h := h.2 hb6
 iterate 2 refine opg_no ?_
 refine op_v (pv_pick (b := false) (v := vb false) rfl rfl) (ops_nil ?_)
 exact ⟨false, ⟨rfl, rfl, rfl, rfl, rfl, rfl, rfl, rfl, rfl, trivial⟩, h⟩
 have h := h.2 hb5
 refine opg_no ?_
 refine op_v (pv_pick (b := false) (v := vb false) rfl rfl) <| mv (vb false) rfl ?_
 iterate 2 refine opg_no ?_
 refine op_v (pv_pick (b := false) (v := vb false) rfl rfl) (ops_nil ?_)
 exact ⟨false, ⟨rfl, rfl, rfl, rfl, rfl, rfl, rfl, rfl, rfl, trivial⟩, h⟩
 rintro f w9 ⟨x11, ha, h⟩
 obtain ⟨g1, rfl⟩ := canon ha
 refine WX_cond (b := x11) rfl (fun hb8 => ?_) (fun hb8 => ?_)
 have h := h.1 hb8
 refine WX_seq (WX_region ?_)
 refine mv (.slice a0.a a0.len a0.cap) rfl <| mv (vi x1) rfl <| mv (vi x2) rfl <| op_w (pw_call co_98 rfl (CallsR.mono h ?_))
 rintro v6 w10 ⟨x12, rfl, h⟩
 refine ops_nil ?_
 refine WX_cond (b := x12) rfl (fun hb7 => ?_) (fun hb7 => ?_)
 have h := h.1 hb7
 refine WX_ret ?_
 exact fin_of [] rfl trivial h
 have h := h.2 hb7
 refine WX_skip ?_
 exact ⟨⟨rfl, rfl, rfl, rfl, rfl, rfl, rfl, rfl, trivial⟩, h⟩
 have h := h.2 hb8
 refine WX_skip ?_
 exact ⟨⟨rfl, rfl, rfl, rfl, rfl, rfl, rfl, rfl, trivial⟩, h⟩
 rintro f w11 ⟨ha, h⟩
 obtain ⟨g3, rfl⟩ := canon ha
 refine WX_seq ?_
 refine WX_join (fun f w14 => ∃ x16 : Bool, Agree f [(0, .slice a0.a a0.len a0.cap), (1, vi x1), (2, vi x2), (3, vi x6), (8, vb x4), (9, vb x5), (10, vi (IntKind.i64.wrap (x2 - x1))), (11, vi x9), (87, vb x16)] /\ sh_f92_j6 a0 x1 x2 x4 x5 nxt1 x6 x9 x16 w14) ?_ ?_
 obtain ⟨w12, hw1, h⟩ := dwe h
 refine dr_split (b := decide (x1 > 0)) (fun hb9 => ?_) (fun hb9 => ?_)
 have h := h.1 hb9
 obtain ⟨b1, o1, hi1, hi2, hi3, x13, hx13, b2, o2, hi4, hi5, hi6, x14, hx14, h⟩ := h
 refine WX_dr [12] [0,1,2,3,4,5,6,8,9,10,13,14] [⟨[],[0,1,2,3,4,5,6,8,9,10],[7,11],[(12,[12,13,14],1)]⟩,⟨[12],[13,14],[],[]⟩] [vi x1, vb true, vb true, .slice a0.a a0.len a0.cap, vi x1, vi (IntKind.i64.wrap (x1 - 1)), vp b1 (o1 + ((IntKind.i64.wrap (x1 - 1))).toNat * 1), vu x13, .slice a0.a a0.len a0.cap, vi x9, vp b2 (o2 + (x9).toNat * 1), vu x14, un, un, un] 2 mixed (by kernel_rfl) hw1 ?_
 refine draw_go rfl (pu rfl (pv_move rfl) (pu rfl (pv_cmp (v := true) rfl rfl rfl (by exact hb9)) (pu rfl (pv_move (by first | rfl | exact congrArg Value.bool hb9)) (pu rfl (pv_move rfl) (pu rfl (pv_move rfl) (pu rfl (pv_sub rfl rfl) (pu rfl (pv_ix (s := a0) ez_24 rfl rfl hi1 hi2 hi3) (pu rfl (pv_move rfl) (pu rfl (pv_move rfl) (pu rfl (pv_ix (s := a0) ez_24 rfl rfl hi4 hi5 hi6) ap0)))))))))) (ro rfl (pv_ld ty_36 rfl hx13) (ro rfl (pv_ld ty_36 rfl hx14) ao0)) rfl ?_
 refine cy rfl rfl ?_
 refine pw_call co_99 rfl (cm h ?_)
 rintro v7 w13 ⟨x15, rfl, h⟩
 refine nx [vb (!x15), vb (!x15)] rfl nl rfl ?_
 refine draw_end rfl (pu rfl (pv_not rfl) (pu rfl (pv_pick (b := true) (v := vb (!x15)) rfl rfl) ap0)) ao0 ?_
 exact ⟨(!x15), ⟨rfl, rfl, rfl, rfl, rfl, rfl, rfl, rfl, rfl, trivial⟩, h⟩
 have h := h.2 hb9
 refine WX_dr [12] [0,1,2,3,4,5,6,8,9,10,13,14] [⟨[],[0,1,2,3,4,5,6,8,9,10],[7,11],[(12,[12,13,14],1)]⟩,⟨[12],[13,14],[],[]⟩] [vi x1, vb false, vb false, un, un, un, un, un, un, un, un, un, un, un, un] 2 mixed (by kernel_rfl) hw1 ?_
 refine draw_go rfl (pu rfl (pv_move rfl) (pu rfl (pv_cmp (v := false) rfl rfl rfl (by exact hb9)) (pu rfl (pv_move (by first | rfl | exact congrArg Value.bool hb9)) (pn (pn (pn (pn (pn (pn (pn ap0)))))))))) (rn (rn ao0)) rfl ?_
 refine ch_no [un, vb false] rfl rfl rfl nl rfl ?_ ch0
 refine draw_end rfl (pn (pu rfl (pv_pick (b := false) (v := vb false) rfl rfl) ap0)) ao0 ?_
 exact ⟨false, ⟨rfl, rfl, rfl, rfl, rfl, rfl, rfl, rfl, rfl, trivial⟩, h⟩
 rintro f w14 ⟨x16, ha, h⟩
 obtain ⟨g2, rfl⟩ := canon ha
 refine WX_cond (b := x16) rfl (fun hb10 => ?_) (fun hb10 => ?_)
 have h := h.1 hb10
 refine WX_seq (WX_region ?_)
 refine mv (.slice a0.a a0.len a0.cap) rfl <| mv (vi x1) rfl <| mv (vi x2) rfl <| mv (vi x9) rfl <| op_w (pw_call co_100 rfl (CallsR.mono h ?_))
 rintro v8 w15 ⟨x17, rfl, h⟩
 refine mva (vi x17) rfl (ops_nil ?_)
 refine WX_seq (WX_region ?_)
 refine mv (vi x17) rfl <| mva (vi x17) rfl (ops_nil ?_)
 refine WX_exit0 ?_
 subst hn_nxt1
 obtain ⟨m2, hm2, h⟩ := h
 exact ⟨m2, hm2, x17, x2, x6, x4, x5, ⟨rfl, rfl, rfl, rfl, rfl, rfl, trivial⟩, h⟩
 have h := h.2 hb10
 refine WX_skip <| WX_seq (WX_region ?_)
 refine mv (.slice a0.a a0.len a0.cap) rfl <| mv (vi x1) rfl <| mv (vi x2) rfl <| mv (vi x9) rfl <| op_w (pw_call co_101 rfl (CallsR.mono h ?_))
 rintro v9 w16 ⟨x18, x19, rfl, h⟩
 refine mv (.tuple #[vi x18, vb x19]) rfl <| op_v (pv_extract (vs := [vi x18, vb x19]) (v := vi x18) rfl rfl) ?_
 refine op_v (pv_extract (vs := [vi x18, vb x19]) (v := vb x19) rfl rfl) <| mva (vi x18) rfl <| mva (vb x19) rfl (ops_nil ?_)
 refine WX_seq (WX_region ?_)
 refine mv (vb x19) rfl <| mva (vb x19) rfl (ops_nil ?_)
 refine WX_seq (WX_region ?_)
 refine mv (vi x18) rfl <| mv (vi x1) rfl <| op_v (pv_sub rfl rfl) <| mv (vi x2) rfl <| mv (vi x18) rfl <| op_v (pv_sub rfl rfl) ?_
 refine mva (vi (IntKind.i64.wrap (x18 - x1))) rfl <| mva (vi (IntKind.i64.wrap (x2 - x18))) rfl (ops_nil ?_)
 refine WX_seq (WX_region ?_)
 refine mv (vi (IntKind.i64.wrap (x2 - x1))) rfl <| op_v (pv_quo rfl rfl (by decide)) ?_
 refine mva (vi (IntKind.i64.wrap (Int.tdiv (IntKind.i64.wrap (x2 - x1)) 8))) rfl (ops_nil ?_)
 refine WX_seq (WX_region ?_)
 refine mv (vi (IntKind.i64.wrap (x18 - x1))) rfl <| mv (vi (IntKind.i64.wrap (x2 - x18))) rfl ?_
 refine op_v (pv_cmp (v := decide ((IntKind.i64.wrap (x18 - x1)) < (IntKind.i64.wrap (x2 - x18)))) rfl rfl rfl rfl) (ops_nil ?_)
 refine WX_cond (b := decide ((IntKind.i64.wrap (x18 - x1)) < (IntKind.i64.wrap (x2 - x18)))) rfl (fun hb11 => ?_) (fun hb11 => ?_)
 have h := h.1 hb11
 refine WX_seq (WX_region ?_)
 refine mv (vi (IntKind.i64.wrap (x18 - x1))) rfl <| mv (vi (IntKind.i64.wrap (Int.tdiv (IntKind.i64.wrap (x2 - x1)) 8))) rfl ?_
 refine op_v (pv_cmp (v := decide ((IntKind.i64.wrap (x18 - x1)) ≥ (IntKind.i64.wrap (Int.tdiv (IntKind.i64.wrap (x2 - x1)) 8)))) rfl rfl rfl rfl) ?_
 refine mva (vb (decide ((IntKind.i64.wrap (x18 - x1)) ≥ (IntKind.i64.wrap (Int.tdiv (IntKind.i64.wrap (x2 - x1)) 8))))) rfl (ops_nil ?_)
 refine WX_seq (WX_region ?_)
 refine mv (.slice a0.a a0.len a0.cap) rfl <| mv (vi x1) rfl <| mv (vi x18) rfl <| mv (vi x6) rfl <| op_w (pw_call co_92 rfl (CallsR.mono h ?_))
 intro v10 w17 h
 refine ops_nil ?_
 refine WX_region ?_
 refine mv (vi x18) rfl <| op_v (pv_add rfl rfl) <| mva (vi (IntKind.i64.wrap (x18 + 1))) rfl (ops_nil ?_)
 subst hn_nxt1
 obtain ⟨m2, hm2, h⟩ := h
 exact ⟨m2, hm2, (IntKind.i64.wrap (x18 + 1)), x2, x6, decide ((IntKind.i64.wrap (x18 - x1)) ≥ (IntKind.i64.wrap (Int.tdiv (IntKind.i64.wrap (x2 - x1)) 8))), x19, ⟨rfl, rfl, rfl, rfl, rfl, rfl, trivial⟩, h⟩
 have h := h.2 hb11
 refine WX_seq (WX_region ?_)
 refine mv (vi (IntKind.i64.wrap (x2 - x18))) rfl <| mv (vi (IntKind.i64.wrap (Int.tdiv (IntKind.i64.wrap (x2 - x1)) 8))) rfl ?_
 refine op_v (pv_cmp (v := decide ((IntKind.i64.wrap (x2 - x18)) ≥ (IntKind.i64.wrap (Int.tdiv (IntKind.i64.wrap (x2 - x1)) 8)))) rfl rfl rfl rfl) ?_
 refine mva (vb (decide ((IntKind.i64.wrap (x2 - x18)) ≥ (IntKind.i64.wrap (Int.tdiv (IntKind.i64.wrap (x2 - x1)) 8))))) rfl (ops_nil ?_)
 refine WX_seq (WX_region ?_)
 refine mv (.slice a0.a a0.len a0.cap) rfl <| mv (vi x18) rfl <| op_v (pv_add rfl rfl) <| mv (vi x2) rfl <| mv (vi x6) rfl ?_
 refine op_w (pw_call co_92 rfl (cm h ?_))
 intro v11 w18 h
 refine ops_nil ?_
 refine WX_region ?_
 refine mv (vi x18) rfl <| mva (vi x18) rfl (ops_nil ?_)
 subst hn_nxt1
 obtain ⟨m2, hm2, h⟩ := h
 exact ⟨m2, hm2, x1, x18, x6, decide ((IntKind.i64.wrap (x2 - x18)) ≥ (IntKind.i64.wrap (Int.tdiv (IntKind.i64.wrap (x2 - x1)) 8))), x19, ⟨rfl, rfl, rfl, rfl, rfl, rfl, trivial⟩, h⟩
def sh_f93_j4 (x1 : Int) (nxt1 : Int -> World -> Prop) (w9 : World) : Prop :=
  nxt1 (IntKind.i64.wrap (x1 + 1)) w9
def sh_f93_j3 (a0 : Sl) (x1 : Int) (nxt1 : Int -> World -> Prop) (x2 : Int) (nxt2 : Int -> World -> Prop) (x6 : Bool) (w5 : World) : Prop :=
  br x6 (dw w5 fun w6 => ixs a0 (IntKind.i64.wrap (x2 - 1)) fun b3 o3 => ld tU64 w6 b3 (o3 + ((IntKind.i64.wrap (x2 - 1))).toNat * 1) fun x7 => ixs a0 x2 fun b4 o4 => ld tU64 w6 b4 (o4 + (x2).toNat * 1) fun x8 => ixs a0 x2 fun b5 o5 => st tU64 w6 b5 (o5 + (x2).toNat * 1) x7 fun w7 => ixs a0 (IntKind.i64.wrap (x2 - 1)) fun b6 o6 => st tU64 w7 b6 (o6 + ((IntKind.i64.wrap (x2 - 1))).toNat * 1) x8 fun w8 => nxt2 (IntKind.i64.wrap (x2 - 1)) w8) ((sh_f93_j4 x1 nxt1 w5))
def sh_f93_b2 (a0 : Sl) (a1 : Int) (x1 : Int) (nxt1 : Int -> World -> Prop) (x2 : Int) (w2 : World) (nxt2 : Int -> World -> Prop) : Prop :=
  dw w2 fun w3 => br (decide (x2 > a1)) (ixs a0 x2 fun b1 o1 => ld tU64 w3 b1 (o1 + (x2).toNat * 1) fun x3 => ixs a0 (IntKind.i64.wrap (x2 - 1)) fun b2 o2 => ld tU64 w3 b2 (o2 + ((IntKind.i64.wrap (x2 - 1))).toNat * 1) fun x4 => CallsR PP n_f99 #[.int .u64 x3, .int .u64 x4] (fun v1 w4 => ∃ x5 : Bool, v1 = .bool x5 /\ ((sh_f93_j3 a0 x1 nxt1 x2 nxt2 x5 w4))) w3) ((sh_f93_j3 a0 x1 nxt1 x2 nxt2 false w3))
def sh_f93_b1 (a0 : Sl) (a1 : Int) (a2 : Int) (Q : QW) (x1 : Int) (w1 : World) (nxt1 : Int -> World -> Prop) : Prop :=
  br (decide (x1 < a2)) ((∃ I2 : Nat -> Int -> World -> Prop, (∃ m, I2 m x1 w1) /\ ∀ m x2 w2, I2 m x2 w2 -> sh_f93_b2 a0 a1 x1 nxt1 x2 w2 (fun y0 w => ∃ m2, m2 < m /\ I2 m2 y0 w))) (Q (.tuple #[]) w1)
def sh_f93 (a0 : Sl) (a1 : Int) (a2 : Int) (Q : QW) (w0 : World) : Prop :=
  (∃ I1 : Nat -> Int -> World -> Prop, (∃ m, I1 m (IntKind.i64.wrap (a1 + 1)) w0) /\ ∀ m x1 w1, I1 m x1 w1 -> sh_f93_b1 a0 a1 a2 Q x1 w1 (fun y0 w => ∃ m2, m2 < m /\ I1 m2 y0 w))
theorem so_f93 {a0 : Sl} {a1 : Int} {a2 : Int} (Q : QW) (w0 : World) (h : sh_f93 a0 a1 a2 Q w0) : CallsR PP n_f93 #[.slice a0.a a0.len a0.cap, .int .i64 a1, .int .i64 a2] Q w0 := by
 refine callsR_of_WX (args := [.slice a0.a a0.len a0.cap, vi a1, vi a2]) Try.func93 rfl Try.ntmps93 nl ?_
 refine WX_seq (WX_region ?_)
 refine mv (vi a1) rfl <| op_v (pv_add rfl rfl) <| mva (vi (IntKind.i64.wrap (a1 + 1))) rfl (ops_nil ?_)
 refine WX_block ?_
 obtain ⟨I1, ⟨m, h0⟩, hB2⟩ := h
 refine WX_loop (fun m f w1 => ∃ x1 : Int, Agree f [(0, .slice a0.a a0.len a0.cap), (1, vi a1), (2, vi a2), (6, vi x1)] /\ I1 m x1 w1) ⟨m, (IntKind.i64.wrap (a1 + 1)), ⟨rfl, rfl, rfl, rfl, trivial⟩, h0⟩ ?_
 clear h0 m
 rintro m f w1 ⟨x1, ha, h⟩
 obtain ⟨g4, rfl⟩ := canon ha
 replace h := hB2 m x1 w1 h
 clear hB2
 generalize hn_nxt1 : (fun (y0 : Int) (w : World) => ∃ m2, m2 < m /\ I1 m2 y0 w) = nxt1 at h
 refine WX_seq ?_
 refine WX_seq (WX_region ?_)
 refine mv (vi x1) rfl <| mv (vi a2) rfl <| op_v (pv_cmp (v := decide (x1 < a2)) rfl rfl rfl rfl) (ops_nil ?_)
 refine WX_cond (b := decide (x1 < a2)) rfl (fun hb1 => ?_) (fun hb1 => ?_)
 have h := h.1 hb1
 refine WX_skip ?_
 refine WX_join (fun f w9 => Agree f [(0, .slice a0.a a0.len a0.cap), (1, vi a1), (2, vi a2), (6, vi x1)] /\ sh_f93_j4 x1 nxt1 w9) ?_ ?_
 refine WX_block ?_
 refine WX_seq (WX_region ?_)
 refine mv (vi x1) rfl <| mva (vi x1) rfl (ops_nil ?_)
 refine WX_block ?_
 obtain ⟨I2, ⟨m, h0⟩, hB1⟩ := h
 refine WX_loop (fun m f w2 => ∃ x2 : Int, Agree f [(0, .slice a0.a a0.len a0.cap), (1, vi a1), (2, vi a2), (6, vi x1), (7, vi x2)] /\ I2 m x2 w2) ⟨m, x1, ⟨rfl, rfl, rfl, rfl, rfl, trivial⟩, h0⟩ ?_
 clear h0 m
 rintro m f w2 ⟨x2, ha, h⟩
 obtain ⟨g2, rfl⟩ := canon ha
 replace h := hB1 m x2 w2 h
 clear hB1
 generalize hn_nxt2 : (fun (y0 : Int) (w : World) => ∃ m2, m2 < m /\ I2 m2 y0 w) = nxt2 at h
 refine WX_seq ?_
 refine WX_join (fun f w5 => ∃ x6 : Bool, Agree f [(0, .slice a0.a a0.len a0.cap), (1, vi a1), (2, vi a2), (6, vi x1), (7, vi x2), (30, vb x6)] /\ sh_f93_j3 a0 x1 nxt1 x2 nxt2 x6 w5) ?_ ?_
 obtain ⟨w3, hw1, h⟩ := dwe h
 refine dr_split (b := decide (x2 > a1)) (fun hb2 => ?_) (fun hb2 => ?_)
 have h := h.1 hb2
 obtain ⟨b1, o1, hi1, hi2, hi3, x3, hx3, b2, o2, hi4, hi5, hi6, x4, hx4, h⟩ := h
 refine WX_dr [13] [0,1,2,3,4,5,6,8,9,10,11,14] [⟨[],[0,1,2,3,4,5,6,8,9,10,11],[7,12],[(13,[13,14],1)]⟩,⟨[13],[14],[],[]⟩] [vi x2, vi a1, vb true, vb true, .slice a0.a a0.len a0.cap, vi x2, vp b1 (o1 + (x2).toNat * 1), vu x3, .slice a0.a a0.len a0.cap, vi x2, vi (IntKind.i64.wrap (x2 - 1)), vp b2 (o2 + ((IntKind.i64.wrap (x2 - 1))).toNat * 1), vu x4, un, un] 2 mixed (by kernel_rfl) hw1 ?_
 refine draw_go rfl (pu rfl (pv_move rfl) (pu rfl (pv_move rfl) (pu rfl (pv_cmp (v := true) rfl rfl rfl (by exact hb2)) (pu rfl (pv_move (by first | rfl | exact congrArg Value.bool hb2)) (pu rfl (pv_move rfl) (pu rfl (pv_move rfl) (pu rfl (pv_ix (s := a0) ez_24 rfl rfl hi1 hi2 hi3) (pu rfl (pv_move rfl) (pu rfl (pv_move rfl) (pu rfl (pv_sub rfl rfl) (pu rfl (pv_ix (s := a0) ez_24 rfl rfl hi4 hi5 hi6) ap0))))))))))) (ro rfl (pv_ld ty_36 rfl hx3) (ro rfl (pv_ld ty_36 rfl hx4) ao0)) rfl ?_
 refine cy rfl rfl ?_
 refine pw_call co_99 rfl (cm h ?_)
 rintro v1 w4 ⟨x5, rfl, h⟩
 refine nx [vb x5] rfl nl rfl ?_
 refine draw_end rfl (pu rfl (pv_pick (b := true) (v := vb x5) rfl rfl) ap0) ao0 ?_
 exact ⟨x5, ⟨rfl, rfl, rfl, rfl, rfl, rfl, trivial⟩, h⟩
 have h := h.2 hb2
 refine WX_dr [13] [0,1,2,3,4,5,6,8,9,10,11,14] [⟨[],[0,1,2,3,4,5,6,8,9,10,11],[7,12],[(13,[13,14],1)]⟩,⟨[13],[14],[],[]⟩] [vi x2, vi a1, vb false, vb false, un, un, un, un, un, un, un, un, un, un, un] 2 mixed (by kernel_rfl) hw1 ?_
 refine draw_go rfl (pu rfl (pv_move rfl) (pu rfl (pv_move rfl) (pu rfl (pv_cmp (v := false) rfl rfl rfl (by exact hb2)) (pu rfl (pv_move (by first | rfl | exact congrArg Value.bool hb2)) (pn (pn (pn (pn (pn (pn (pn ap0))))))))))) (rn (rn ao0)) rfl ?_
 refine ch_no [vb false] rfl rfl rfl nl rfl ?_ ch0
 refine draw_end rfl (pu rfl (pv_pick (b := false) (v := vb false) rfl rfl) ap0) ao0 ?_
 exact ⟨false, ⟨rfl, rfl, rfl, rfl, rfl, rfl, trivial⟩, h⟩
 rintro f w5 ⟨x6, ha, h⟩
 obtain ⟨g1, rfl⟩ := canon ha
 refine WX_cond (b := x6) rfl (fun hb3 => ?_) (fun hb3 => ?_)
 have h := h.1 hb3
 refine WX_skip <| WX_seq ?_
 refine WX_block ?_
 obtain ⟨w6, hw2, h⟩ := dwe h
 obtain ⟨b3, o3, hi7, hi8, hi9, x7, hx7, b4, o4, hi10, hi11, hi12, x8, hx8, b5, o5, hi13, hi14, hi15, h⟩ := h
 refine WX_dr [15,17] [0,1,2,3,4,5,6,7,8,10,11,12,14,16] [⟨[],[0,1,2,3,4,5,6,7,8,10,11,12,14],[9,13],[(15,[15,16],1)]⟩,⟨[15],[16],[],[(17,[17],2)]⟩,⟨[17,15],[],[],[]⟩] [.slice a0.a a0.len a0.cap, vi x2, .slice a0.a a0.len a0.cap, vi x2, vi (IntKind.i64.wrap (x2 - 1)), .slice a0.a a0.len a0.cap, vi x2, vi (IntKind.i64.wrap (x2 - 1)), vp b3 (o3 + ((IntKind.i64.wrap (x2 - 1))).toNat * 1), vu x7, .slice a0.a a0.len a0.cap, vi x2, vp b4 (o4 + (x2).toNat * 1), vu x8, vp b5 (o5 + (x2).toNat * 1), un, un, un] 3 mixed (by kernel_rfl) hw2 ?_
 refine draw_go rfl (pu rfl (pv_move rfl) (pu rfl (pv_move rfl) (pu rfl (pv_move rfl) (pu rfl (pv_move rfl) (pu rfl (pv_sub rfl rfl) (pu rfl (pv_move rfl) (pu rfl (pv_move rfl) (pu rfl (pv_sub rfl rfl) (pu rfl (pv_ix (s := a0) ez_24 rfl rfl hi7 hi8 hi9) (pu rfl (pv_move rfl) (pu rfl (pv_move rfl) (pu rfl (pv_ix (s := a0) ez_24 rfl rfl hi10 hi11 hi12) (pu rfl (pv_ix (s := a0) ez_24 rfl rfl hi13 hi14 hi15) ap0))))))))))))) (ro rfl (pv_ld ty_36 rfl hx7) (ro rfl (pv_ld ty_36 rfl hx8) ao0)) rfl ?_
 refine cy rfl rfl ?_
 refine pw_st (x := x7) ty_36 rfl rfl h.1 ?_
 intro w7 hw3
 replace h := h.2 w7 hw3
 obtain ⟨b6, o6, hi16, hi17, hi18, h⟩ := h
 refine nx [vp b6 (o6 + ((IntKind.i64.wrap (x2 - 1))).toNat * 1)] rfl nl rfl ?_
 refine draw_go rfl (pu rfl (pv_ix (s := a0) ez_24 rfl rfl hi16 hi17 hi18) ap0) ao0 rfl ?_
 refine cy rfl rfl ?_
 refine pw_st (x := x8) ty_36 rfl rfl h.1 ?_
 intro w8 hw4
 replace h := h.2 w8 hw4
 refine nx [] rfl nl rfl ?_
 refine draw_end rfl ap0 ao0 ?_
 refine WX_region ?_
 refine mv (vi x2) rfl <| op_v (pv_sub rfl rfl) <| mva (vi (IntKind.i64.wrap (x2 - 1))) rfl (ops_nil ?_)
 subst hn_nxt2
 obtain ⟨m2, hm2, h⟩ := h
 exact ⟨m2, hm2, (IntKind.i64.wrap (x2 - 1)), ⟨rfl, rfl, rfl, rfl, rfl, trivial⟩, h⟩
 have h := h.2 hb3
 refine WX_exit0 ?_
 exact ⟨⟨rfl, rfl, rfl, rfl, trivial⟩, h⟩
 rintro f w9 ⟨ha, h⟩
 obtain ⟨g3, rfl⟩ := canon ha
 refine WX_region ?_
 refine mv (vi x1) rfl <| op_v (pv_add rfl rfl) <| mva (vi (IntKind.i64.wrap (x1 + 1))) rfl (ops_nil ?_)
 subst hn_nxt1
 obtain ⟨m2, hm2, h⟩ := h
 exact ⟨m2, hm2, (IntKind.i64.wrap (x1 + 1)), ⟨rfl, rfl, rfl, rfl, trivial⟩, h⟩
 have h := h.2 hb1
 refine WX_exit0 ?_
 exact fin_of [] rfl trivial h
def sh_f94_b3 (a0 : Sl) (a1 : Int) (Q : QW) (x2 : Int) (w4 : World) (nxt2 : Int -> World -> Prop) : Prop :=
  br (decide (x2 ≥ 0)) (dw w4 fun w5 => ixs a0 (IntKind.i64.wrap (a1 + x2)) fun b1 o1 => ld tU64 w5 b1 (o1 + ((IntKind.i64.wrap (a1 + x2))).toNat * 1) fun x3 => ixs a0 a1 fun b2 o2 => ld tU64 w5 b2 (o2 + (a1).toNat * 1) fun x4 => ixs a0 a1 fun b3 o3 => st tU64 w5 b3 (o3 + (a1).toNat * 1) x3 fun w6 => ixs a0 (IntKind.i64.wrap (a1 + x2)) fun b4 o4 => st tU64 w6 b4 (o4 + ((IntKind.i64.wrap (a1 + x2))).toNat * 1) x4 fun w7 => CallsR PP n_f102 #[.slice a0.a a0.len a0.cap, .int .i64 0, .int .i64 x2, .int .i64 a1] (fun v2 w8 => nxt2 (IntKind.i64.wrap (x2 - 1)) w8) w7) (Q (.tuple #[]) w4)
def sh_f94_j2 (a0 : Sl) (a1 : Int) (a2 : Int) (Q : QW) (w3 : World) : Prop :=
  (∃ I2 : Nat -> Int -> World -> Prop, (∃ m, I2 m (IntKind.i64.wrap ((IntKind.i64.wrap (a2 - a1)) - 1)) w3) /\ ∀ m x2 w4, I2 m x2 w4 -> sh_f94_b3 a0 a1 Q x2 w4 (fun y0 w => ∃ m2, m2 < m /\ I2 m2 y0 w))
def sh_f94_b1 (a0 : Sl) (a1 : Int) (a2 : Int) (Q : QW) (x1 : Int) (w1 : World) (nxt1 : Int -> World -> Prop) : Prop :=
  br (decide (x1 ≥ 0)) (CallsR PP n_f102 #[.slice a0.a a0.len a0.cap, .int .i64 x1, .int .i64 (IntKind.i64.wrap (a2 - a1)), .int .i64 a1] (fun v1 w2 => nxt1 (IntKind.i64.wrap (x1 - 1)) w2) w1) ((sh_f94_j2 a0 a1 a2 Q w1))
def sh_f94 (a0 : Sl) (a1 : Int) (a2 : Int) (Q : QW) (w0 : World) : Prop :=
  (∃ I1 : Nat -> Int -> World -> Prop, (∃ m, I1 m (IntKind.i64.wrap (Int.tdiv (IntKind.i64.wrap ((IntKind.i64.wrap (a2 - a1)) - 1)) 2)) w0) /\ ∀ m x1 w1, I1 m x1 w1 -> sh_f94_b1 a0 a1 a2 Q x1 w1 (fun y0 w => ∃ m2, m2 < m /\ I1 m2 y0 w))
theorem so_f94 {a0 : Sl} {a1 : Int} {a2 : Int} (Q : QW) (w0 : World) (h : sh_f94 a0 a1 a2 Q w0) : CallsR PP n_f94 #[.slice a0.a a0.len a0.cap, .int .i64 a1, .int .i64 a2] Q w0 := by
 refine callsR_of_WX (args := [.slice a0.a a0.len a0.cap, vi a1, vi a2]) Try.func94 rfl Try.ntmps94 nl ?_
 refine WX_seq (WX_region ?_)
 refine mv (vi a1) rfl <| mva (vi a1) rfl (ops_nil ?_)
 refine WX_seq (WX_region ?_)
 refine mva (vi 0) rfl (ops_nil ?_)
 refine WX_seq (WX_region ?_)
 refine mv (vi a2) rfl <| mv (vi a1) rfl <| op_v (pv_sub rfl rfl) <| mva (vi (IntKind.i64.wrap (a2 - a1))) rfl (ops_nil ?_)
 refine WX_join (fun f w3 => Agree f [(0, .slice a0.a a0.len a0.cap), (6, vi a1), (7, vi 0), (8, vi (IntKind.i64.wrap (a2 - a1)))] /\ sh_f94_j2 a0 a1 a2 Q w3) ?_ ?_
 refine WX_seq (WX_region ?_)
 refine mv (vi (IntKind.i64.wrap (a2 - a1))) rfl <| op_v (pv_sub rfl rfl) <| op_v (pv_quo rfl rfl (by decide)) ?_
 refine mva (vi (IntKind.i64.wrap (Int.tdiv (IntKind.i64.wrap ((IntKind.i64.wrap (a2 - a1)) - 1)) 2))) rfl (ops_nil ?_)
 refine WX_block ?_
 obtain ⟨I1, ⟨m, h0⟩, hB1⟩ := h
 refine WX_loop (fun m f w1 => ∃ x1 : Int, Agree f [(0, .slice a0.a a0.len a0.cap), (6, vi a1), (7, vi 0), (8, vi (IntKind.i64.wrap (a2 - a1))), (9, vi x1)] /\ I1 m x1 w1) ⟨m, (IntKind.i64.wrap (Int.tdiv (IntKind.i64.wrap ((IntKind.i64.wrap (a2 - a1)) - 1)) 2)), ⟨rfl, rfl, rfl, rfl, rfl, trivial⟩, h0⟩ ?_
 clear h0 m
 rintro m f w1 ⟨x1, ha, h⟩
 obtain ⟨g1, rfl⟩ := canon ha
 replace h := hB1 m x1 w1 h
 clear hB1
 generalize hn_nxt1 : (fun (y0 : Int) (w : World) => ∃ m2, m2 < m /\ I1 m2 y0 w) = nxt1 at h
 refine WX_seq ?_
 refine WX_seq (WX_region ?_)
 refine mv (vi x1) rfl <| op_v (pv_cmp (v := decide (x1 ≥ 0)) rfl rfl rfl rfl) (ops_nil ?_)
 refine WX_cond (b := decide (x1 ≥ 0)) rfl (fun hb1 => ?_) (fun hb1 => ?_)
 have h := h.1 hb1
 refine WX_skip <| WX_seq ?_
 refine WX_block ?_
 refine WX_region ?_
 refine mv (.slice a0.a a0.len a0.cap) rfl <| mv (vi x1) rfl <| mv (vi (IntKind.i64.wrap (a2 - a1))) rfl <| mv (vi a1) rfl ?_
 refine op_w (pw_call co_102 rfl (cm h ?_))
 intro v1 w2 h
 refine ops_nil ?_
 refine WX_region ?_
 refine mv (vi x1) rfl <| op_v (pv_sub rfl rfl) <| mva (vi (IntKind.i64.wrap (x1 - 1))) rfl (ops_nil ?_)
 subst hn_nxt1
 obtain ⟨m2, hm2, h⟩ := h
 exact ⟨m2, hm2, (IntKind.i64.wrap (x1 - 1)), ⟨rfl, rfl, rfl, rfl, rfl, trivial⟩, h⟩
 have h := h.2 hb1
 refine WX_exit0 ?_
 exact ⟨⟨rfl, rfl, rfl, rfl, trivial⟩, h⟩
 rintro f w3 ⟨ha, h⟩
 obtain ⟨g3, rfl⟩ := canon ha
 refine WX_seq (WX_region ?_)
 refine mv (vi (IntKind.i64.wrap (a2 - a1))) rfl <| op_v (pv_sub rfl rfl) ?_
 refine mva (vi (IntKind.i64.wrap ((IntKind.i64.wrap (a2 - a1)) - 1))) rfl (ops_nil ?_)
 refine WX_block ?_
 obtain ⟨I2, ⟨m, h0⟩, hB2⟩ := h
 refine WX_loop (fun m f w4 => ∃ x2 : Int, Agree f [(0, .slice a0.a a0.len a0.cap), (6, vi a1), (7, vi 0), (10, vi x2)] /\ I2 m x2 w4) ⟨m, (IntKind.i64.wrap ((IntKind.i64.wrap (a2 - a1)) - 1)), ⟨rfl, rfl, rfl, rfl, trivial⟩, h0⟩ ?_
 clear h0 m
 rintro m f w4 ⟨x2, ha, h⟩
 obtain ⟨g2, rfl⟩ := canon ha
 replace h := hB2 m x2 w4 h
 clear hB2
 generalize hn_nxt2 : (fun (y0 : Int) (w : World) => ∃ m2, m2 < m /\ I2 m2 y0 w) = nxt2 at h
 refine WX_seq ?_
 refine WX_seq (WX_region ?_)
 refine mv (vi x2) rfl <| op_v (pv_cmp (v := decide (x2 ≥ 0)) rfl rfl rfl rfl) (ops_nil ?_)
 refine WX_cond (b := decide (x2 ≥ 0)) rfl (fun hb2 => ?_) (fun hb2 => ?_)
 have h := h.1 hb2
 refine WX_skip <| WX_seq ?_
 refine WX_block ?_
 refine WX_seq ?_
 obtain ⟨w5, hw1, h⟩ := dwe h
 obtain ⟨b1, o1, hi1, hi2, hi3, x3, hx3, b2, o2, hi4, hi5, hi6, x4, hx4, b3, o3, hi7, hi8, hi9, h⟩ := h
 refine WX_dr [17,19] [0,1,2,3,4,5,6,7,8,9,10,12,13,14,16,18] [⟨[],[0,1,2,3,4,5,6,7,8,9,10,12,13,14,16],[11,15],[(17,[17,18],1)]⟩,⟨[17],[18],[],[(19,[19],2)]⟩,⟨[19,17],[],[],[]⟩] [.slice a0.a a0.len a0.cap, vi a1, .slice a0.a a0.len a0.cap, vi a1, vi x2, vi (IntKind.i64.wrap (a1 + x2)), .slice a0.a a0.len a0.cap, vi a1, vi x2, vi (IntKind.i64.wrap (a1 + x2)), vp b1 (o1 + ((IntKind.i64.wrap (a1 + x2))).toNat * 1), vu x3, .slice a0.a a0.len a0.cap, vi a1, vp b2 (o2 + (a1).toNat * 1), vu x4, vp b3 (o3 + (a1).toNat * 1), un, un, un] 3 mixed (by kernel_rfl) hw1 ?_
 refine draw_go rfl (pu rfl (pv_move rfl) (pu rfl (pv_move rfl) (pu rfl (pv_move rfl) (pu rfl (pv_move rfl) (pu rfl (pv_move rfl) (pu rfl (pv_add rfl rfl) (pu rfl (pv_move rfl) (pu rfl (pv_move rfl) (pu rfl (pv_move rfl) (pu rfl (pv_add rfl rfl) (pu rfl (pv_ix (s := a0) ez_24 rfl rfl hi1 hi2 hi3) (pu rfl (pv_move rfl) (pu rfl (pv_move rfl) (pu rfl (pv_ix (s := a0) ez_24 rfl rfl hi4 hi5 hi6) (pu rfl (pv_ix (s := a0) ez_24 rfl rfl hi7 hi8 hi9) ap0))))))))))))))) (ro rfl (pv_ld ty_36 rfl hx3) (ro rfl (pv_ld ty_36 rfl hx4) ao0)) rfl ?_
 refine cy rfl rfl ?_
 refine pw_st (x := x3) ty_36 rfl rfl h.1 ?_
 intro w6 hw2
 replace h := h.2 w6 hw2
 obtain ⟨b4, o4, hi10, hi11, hi12, h⟩ := h
 refine nx [vp b4 (o4 + ((IntKind.i64.wrap (a1 + x2))).toNat * 1)] rfl nl rfl ?_
 refine draw_go rfl (pu rfl (pv_ix (s := a0) ez_24 rfl rfl hi10 hi11 hi12) ap0) ao0 rfl ?_
 refine cy rfl rfl ?_
 refine pw_st (x := x4) ty_36 rfl rfl h.1 ?_
 intro w7 hw3
 replace h := h.2 w7 hw3
 refine nx [] rfl nl rfl ?_
 refine draw_end rfl ap0 ao0 ?_
 refine WX_region ?_
 refine mv (.slice a0.a a0.len a0.cap) rfl <| mv (vi 0) rfl <| mv (vi x2) rfl <| mv (vi a1) rfl <| op_w (pw_call co_102 rfl (CallsR.mono h ?_))
 intro v2 w8 h
 refine ops_nil ?_
 refine WX_region ?_
 refine mv (vi x2) rfl <| op_v (pv_sub rfl rfl) <| mva (vi (IntKind.i64.wrap (x2 - 1))) rfl (ops_nil ?_)
 subst hn_nxt2
 obtain ⟨m2, hm2, h⟩ := h
 exact ⟨m2, hm2, (IntKind.i64.wrap (x2 - 1)), ⟨rfl, rfl, rfl, rfl, trivial⟩, h⟩
 have h := h.2 hb2
 refine WX_exit0 ?_
 exact fin_of [] rfl trivial h
end Go.Proofs.Ytdefmgkicdhmkaa
namespace Go.Proofs.Ytdefmgkicdhmkaa
open Go Go.Sx
set_option linter.unusedVariables false
set_option maxRecDepth 100000
set_option maxHeartbeats 2000000
def sh_f95_j2 (a0 : Sl) (a1 : Int) (x2 : Int) (nxt1 : Int -> World -> Prop) (x4 : Int) (w6 : World) : Prop :=
  dw w6 fun w7 => ixs a0 (IntKind.i64.wrap (a1 + x4)) fun b2 o1 => ld tU64 w7 b2 (o1 + ((IntKind.i64.wrap (a1 + x4))).toNat * 1) fun x5 => ixs a0 x2 fun b3 o2 => ld tU64 w7 b3 (o2 + (x2).toNat * 1) fun x6 => ixs a0 x2 fun b4 o3 => st tU64 w7 b4 (o3 + (x2).toNat * 1) x5 fun w8 => ixs a0 (IntKind.i64.wrap (a1 + x4)) fun b5 o4 => st tU64 w8 b5 (o4 + ((IntKind.i64.wrap (a1 + x4))).toNat * 1) x6 fun w9 => nxt1 (IntKind.i64.wrap (x2 + 1)) w9
def sh_f95_b1 (a0 : Sl) (a1 : Int) (a2 : Int) (Q : QW) (b1 : Nat) (x1 : Int) (x2 : Int) (w4 : World) (nxt1 : Int -> World -> Prop) : Prop :=
  br (decide (x2 <= (IntKind.i64.wrap ((IntKind.i64.wrap (a1 + (IntKind.i64.wrap ((IntKind.i64.wrap (Int.tdiv (IntKind.i64.wrap (a2 - a1)) 4)) * 2)))) + 1)))) (CallsR PP n_f83 #[.pointer (some ⟨b1, 0, none⟩)] (fun v2 w5 => ∃ x3 : Int, v2 = .int .u64 x3 /\ (br (decide ((IntKind.i64.wrap (IntKind.u64.wrap ((BitVec.ofInt IntKind.u64.bits x3 &&& BitVec.ofInt IntKind.u64.bits (IntKind.u64.wrap (x1 - 1))).toNat : Int))) ≥ (IntKind.i64.wrap (a2 - a1)))) ((sh_f95_j2 a0 a1 x2 nxt1 (IntKind.i64.wrap ((IntKind.i64.wrap (IntKind.u64.wrap ((BitVec.ofInt IntKind.u64.bits x3 &&& BitVec.ofInt IntKind.u64.bits (IntKind.u64.wrap (x1 - 1))).toNat : Int))) - (IntKind.i64.wrap (a2 - a1)))) w5)) ((sh_f95_j2 a0 a1 x2 nxt1 (IntKind.i64.wrap (IntKind.u64.wrap ((BitVec.ofInt IntKind.u64.bits x3 &&& BitVec.ofInt IntKind.u64.bits (IntKind.u64.wrap (x1 - 1))).toNat : Int))) w5)))) w4) (Q (.tuple #[]) w4)
def sh_f95 (a0 : Sl) (a1 : Int) (a2 : Int) (Q : QW) (w0 : World) : Prop :=
  br (decide ((IntKind.i64.wrap (a2 - a1)) ≥ 8)) (al tU64 154 w0 0 fun b1 w1 => st tU64 w1 b1 0 (IntKind.u64.wrap (IntKind.i64.wrap (a2 - a1))) fun w2 => CallsR PP n_f82 #[.int .i64 (IntKind.i64.wrap (a2 - a1))] (fun v1 w3 => ∃ x1 : Int, v1 = .int .u64 x1 /\ ((∃ I1 : Nat -> Int -> World -> Prop, (∃ m, I1 m (IntKind.i64.wrap ((IntKind.i64.wrap (a1 + (IntKind.i64.wrap ((IntKind.i64.wrap (Int.tdiv (IntKind.i64.wrap (a2 - a1)) 4)) * 2)))) - 1)) w3) /\ ∀ m x2 w4, I1 m x2 w4 -> sh_f95_b1 a0 a1 a2 Q b1 x1 x2 w4 (fun y0 w => ∃ m2, m2 < m /\ I1 m2 y0 w)))) w2) (Q (.tuple #[]) w0)
theorem so_f95 {a0 : Sl} {a1 : Int} {a2 : Int} (Q : QW) (w0 : World) (h : sh_f95 a0 a1 a2 Q w0) : CallsR PP n_f95 #[.slice a0.a a0.len a0.cap, .int .i64 a1, .int .i64 a2] Q w0 := by
 refine callsR_of_WX (args := [.slice a0.a a0.len a0.cap, vi a1, vi a2]) Try.func95 rfl Try.ntmps95 nl ?_
 refine WX_seq (WX_region ?_)
 refine mv (vi a2) rfl <| mv (vi a1) rfl <| op_v (pv_sub rfl rfl) <| mva (vi (IntKind.i64.wrap (a2 - a1))) rfl (ops_nil ?_)
 refine WX_seq (WX_region ?_)
 refine mv (vi (IntKind.i64.wrap (a2 - a1))) rfl <| op_v (pv_cmp (v := decide ((IntKind.i64.wrap (a2 - a1)) ≥ 8)) rfl rfl rfl rfl) (ops_nil ?_)
 refine WX_cond (b := decide ((IntKind.i64.wrap (a2 - a1)) ≥ 8)) rfl (fun hb3 => ?_) (fun hb3 => ?_)
 have h := h.1 hb3
 refine WX_seq (WX_region ?_)
 refine mv (vi (IntKind.i64.wrap (a2 - a1))) rfl <| op_v (pv_conv us_3 uk_154 rfl) <| op_w (pw_alloc ty_154 tz_154 ?_)
 intro b1 w1 hw1 hw2
 replace h := h b1 w1 hw1 hw2
 refine op_w (pw_st (x := (IntKind.u64.wrap (IntKind.i64.wrap (a2 - a1)))) ty_154 rfl rfl h.1 ?_)
 intro w2 hw3
 replace h := h.2 w2 hw3
 refine ops_nil ?_
 refine WX_seq (WX_region ?_)
 refine mv (vi (IntKind.i64.wrap (a2 - a1))) rfl <| op_w (pw_call co_82 rfl (CallsR.mono h ?_))
 rintro v1 w3 ⟨x1, rfl, h⟩
 refine mva (vu x1) rfl (ops_nil ?_)
 refine WX_seq (WX_region ?_)
 refine mv (vi a1) rfl <| mv (vi (IntKind.i64.wrap (a2 - a1))) rfl <| op_v (pv_quo rfl rfl (by decide)) <| op_v (pv_mul rfl rfl) ?_
 refine op_v (pv_add rfl rfl) <| op_v (pv_sub rfl rfl) ?_
 refine mva (vi (IntKind.i64.wrap ((IntKind.i64.wrap (a1 + (IntKind.i64.wrap ((IntKind.i64.wrap (Int.tdiv (IntKind.i64.wrap (a2 - a1)) 4)) * 2)))) - 1))) rfl (ops_nil ?_)
 refine WX_block ?_
 obtain ⟨I1, ⟨m, h0⟩, hB1⟩ := h
 refine WX_loop (fun m f w4 => ∃ x2 : Int, Agree f [(0, .slice a0.a a0.len a0.cap), (1, vi a1), (6, vi (IntKind.i64.wrap (a2 - a1))), (7, vp b1 0), (8, vu x1), (9, vi x2)] /\ I1 m x2 w4) ⟨m, (IntKind.i64.wrap ((IntKind.i64.wrap (a1 + (IntKind.i64.wrap ((IntKind.i64.wrap (Int.tdiv (IntKind.i64.wrap (a2 - a1)) 4)) * 2)))) - 1)), ⟨rfl, rfl, rfl, rfl, rfl, rfl, trivial⟩, h0⟩ ?_
 clear h0 m
 rintro m f w4 ⟨x2, ha, h⟩
 obtain ⟨g2, rfl⟩ := canon ha
 replace h := hB1 m x2 w4 h
 clear hB1
 generalize hn_nxt1 : (fun (y0 : Int) (w : World) => ∃ m2, m2 < m /\ I1 m2 y0 w) = nxt1 at h
 refine WX_seq ?_
 refine WX_seq (WX_region ?_)
 refine mv (vi x2) rfl <| mv (vi a1) rfl <| mv (vi (IntKind.i64.wrap (a2 - a1))) rfl <| op_v (pv_quo rfl rfl (by decide)) <| op_v (pv_mul rfl rfl) ?_
 refine op_v (pv_add rfl rfl) <| op_v (pv_add rfl rfl) ?_
 refine op_v (pv_cmp (v := decide (x2 <= (IntKind.i64.wrap ((IntKind.i64.wrap (a1 + (IntKind.i64.wrap ((IntKind.i64.wrap (Int.tdiv (IntKind.i64.wrap (a2 - a1)) 4)) * 2)))) + 1)))) rfl rfl rfl rfl) (ops_nil ?_)
 refine WX_cond (b := decide (x2 <= (IntKind.i64.wrap ((IntKind.i64.wrap (a1 + (IntKind.i64.wrap ((IntKind.i64.wrap (Int.tdiv (IntKind.i64.wrap (a2 - a1)) 4)) * 2)))) + 1)))) rfl (fun hb1 => ?_) (fun hb1 => ?_)
 have h := h.1 hb1
 refine WX_skip <| WX_seq ?_
 refine WX_block ?_
 refine WX_seq (WX_region ?_)
 refine op_w (pw_call co_83 rfl (cm h ?_))
 rintro v2 w5 ⟨x3, rfl, h⟩
 refine mv (vu x1) rfl <| op_v (pv_sub rfl rfl) ?_
 refine op_v (pv_bits (r := (IntKind.u64.wrap ((BitVec.ofInt IntKind.u64.bits x3 &&& BitVec.ofInt IntKind.u64.bits (IntKind.u64.wrap (x1 - 1))).toNat : Int))) rfl rfl rfl) ?_
 refine op_v (pv_conv us_136 uk_3 rfl) ?_
 refine mva (vi (IntKind.i64.wrap (IntKind.u64.wrap ((BitVec.ofInt IntKind.u64.bits x3 &&& BitVec.ofInt IntKind.u64.bits (IntKind.u64.wrap (x1 - 1))).toNat : Int)))) rfl (ops_nil ?_)
 refine WX_join (fun f w6 => ∃ x4 : Int, Agree f [(0, .slice a0.a a0.len a0.cap), (1, vi a1), (6, vi (IntKind.i64.wrap (a2 - a1))), (7, vp b1 0), (8, vu x1), (9, vi x2), (10, vi x4)] /\ sh_f95_j2 a0 a1 x2 nxt1 x4 w6) ?_ ?_
 refine WX_seq (WX_region ?_)
 refine mv (vi (IntKind.i64.wrap (IntKind.u64.wrap ((BitVec.ofInt IntKind.u64.bits x3 &&& BitVec.ofInt IntKind.u64.bits (IntKind.u64.wrap (x1 - 1))).toNat : Int)))) rfl ?_
 refine mv (vi (IntKind.i64.wrap (a2 - a1))) rfl ?_
 refine op_v (pv_cmp (v := decide ((IntKind.i64.wrap (IntKind.u64.wrap ((BitVec.ofInt IntKind.u64.bits x3 &&& BitVec.ofInt IntKind.u64.bits (IntKind.u64.wrap (x1 - 1))).toNat : Int))) ≥ (IntKind.i64.wrap (a2 - a1)))) rfl rfl rfl rfl) (ops_nil ?_)
 refine WX_cond (b := decide ((IntKind.i64.wrap (IntKind.u64.wrap ((BitVec.ofInt IntKind.u64.bits x3 &&& BitVec.ofInt IntKind.u64.bits (IntKind.u64.wrap (x1 - 1))).toNat : Int))) ≥ (IntKind.i64.wrap (a2 - a1)))) rfl (fun hb2 => ?_) (fun hb2 => ?_)
 have h := h.1 hb2
 refine WX_region ?_
 refine mv (vi (IntKind.i64.wrap (IntKind.u64.wrap ((BitVec.ofInt IntKind.u64.bits x3 &&& BitVec.ofInt IntKind.u64.bits (IntKind.u64.wrap (x1 - 1))).toNat : Int)))) rfl ?_
 refine mv (vi (IntKind.i64.wrap (a2 - a1))) rfl <| op_v (pv_sub rfl rfl) ?_
 refine mva (vi (IntKind.i64.wrap ((IntKind.i64.wrap (IntKind.u64.wrap ((BitVec.ofInt IntKind.u64.bits x3 &&& BitVec.ofInt IntKind.u64.bits (IntKind.u64.wrap (x1 - 1))).toNat : Int))) - (IntKind.i64.wrap (a2 - a1))))) rfl (ops_nil ?_)
 exact ⟨(IntKind.i64.wrap ((IntKind.i64.wrap (IntKind.u64.wrap ((BitVec.ofInt IntKind.u64.bits x3 &&& BitVec.ofInt IntKind.u64.bits (IntKind.u64.wrap (x1 - 1))).toNat : Int))) - (IntKind.i64.wrap (a2 - a1)))), ⟨rfl, rfl, rfl, rfl, rfl, rfl, rfl, trivial⟩, h⟩
 have h := h.2 hb2
 refine WX_skip ?_
 exact ⟨(IntKind.i64.wrap (IntKind.u64.wrap ((BitVec.ofInt IntKind.u64.bits x3 &&& BitVec.ofInt IntKind.u64.bits (IntKind.u64.wrap (x1 - 1))).toNat : Int))), ⟨rfl, rfl, rfl, rfl, rfl, rfl, rfl, trivial⟩, h⟩
 rintro f w6 ⟨x4, ha, h⟩
 obtain ⟨g1, rfl⟩ := canon ha
 obtain ⟨w7, hw4, h⟩ := dwe h
 obtain ⟨b2, o1, hi1, hi2, hi3, x5, hx5, b3, o2, hi4, hi5, hi6, x6, hx6, b4, o3, hi7, hi8, hi9, h⟩ := h
 refine WX_dr [17,19] [0,1,2,3,4,5,6,7,8,9,10,12,13,14,16,18] [⟨[],[0,1,2,3,4,5,6,7,8,9,10,12,13,14,16],[11,15],[(17,[17,18],1)]⟩,⟨[17],[18],[],[(19,[19],2)]⟩,⟨[19,17],[],[],[]⟩] [.slice a0.a a0.len a0.cap, vi x2, .slice a0.a a0.len a0.cap, vi a1, vi x4, vi (IntKind.i64.wrap (a1 + x4)), .slice a0.a a0.len a0.cap, vi a1, vi x4, vi (IntKind.i64.wrap (a1 + x4)), vp b2 (o1 + ((IntKind.i64.wrap (a1 + x4))).toNat * 1), vu x5, .slice a0.a a0.len a0.cap, vi x2, vp b3 (o2 + (x2).toNat * 1), vu x6, vp b4 (o3 + (x2).toNat * 1), un, un, un] 3 mixed (by kernel_rfl) hw4 ?_
 refine draw_go rfl (pu rfl (pv_move rfl) (pu rfl (pv_move rfl) (pu rfl (pv_move rfl) (pu rfl (pv_move rfl) (pu rfl (pv_move rfl) (pu rfl (pv_add rfl rfl) (pu rfl (pv_move rfl) (pu rfl (pv_move rfl) (pu rfl (pv_move rfl) (pu rfl (pv_add rfl rfl) (pu rfl (pv_ix (s := a0) ez_24 rfl rfl hi1 hi2 hi3) (pu rfl (pv_move rfl) (pu rfl (pv_move rfl) (pu rfl (pv_ix (s := a0) ez_24 rfl rfl hi4 hi5 hi6) (pu rfl (pv_ix (s := a0) ez_24 rfl rfl hi7 hi8 hi9) ap0))))))))))))))) (ro rfl (pv_ld ty_36 rfl hx5) (ro rfl (pv_ld ty_36 rfl hx6) ao0)) rfl ?_
 refine cy rfl rfl ?_
 refine pw_st (x := x5) ty_36 rfl rfl h.1 ?_
 intro w8 hw5
 replace h := h.2 w8 hw5
 obtain ⟨b5, o4, hi10, hi11, hi12, h⟩ := h
 refine nx [vp b5 (o4 + ((IntKind.i64.wrap (a1 + x4))).toNat * 1)] rfl nl rfl ?_
 refine draw_go rfl (pu rfl (pv_ix (s := a0) ez_24 rfl rfl hi10 hi11 hi12) ap0) ao0 rfl ?_
 refine cy rfl rfl ?_
 refine pw_st (x := x6) ty_36 rfl rfl h.1 ?_
 intro w9 hw6
 replace h := h.2 w9 hw6
 refine nx [] rfl nl rfl ?_
 refine draw_end rfl ap0 ao0 ?_
 refine WX_region ?_
 refine mv (vi x2) rfl <| op_v (pv_add rfl rfl) <| mva (vi (IntKind.i64.wrap (x2 + 1))) rfl (ops_nil ?_)
 subst hn_nxt1
 obtain ⟨m2, hm2, h⟩ := h
 exact ⟨m2, hm2, (IntKind.i64.wrap (x2 + 1)), ⟨rfl, rfl, rfl, rfl, rfl, rfl, trivial⟩, h⟩
 have h := h.2 hb1
 refine WX_exit0 ?_
 exact fin_of [] rfl trivial h
 have h := h.2 hb3
 refine WX_skip ?_
 exact fin_of [] rfl trivial h
def sh_f96_j2 (Q : QW) (b1 : Nat) (x8 : Int) (w7 : World) : Prop :=
  ld tI64 w7 b1 0 fun x9 => br (x9 == 0) (Q (.tuple #[.int .i64 x8, .int .i64 1]) w7) (br (x9 == 12) (Q (.tuple #[.int .i64 x8, .int .i64 2]) w7) (Q (.tuple #[.int .i64 x8, .int .i64 0]) w7))
def sh_f96_j1 (a0 : Sl) (Q : QW) (b1 : Nat) (x4 : Int) (x5 : Int) (x6 : Int) (w5 : World) : Prop :=
  CallsR PP n_f104 #[.slice a0.a a0.len a0.cap, .int .i64 x4, .int .i64 x5, .int .i64 x6, .pointer (some ⟨b1, 0, none⟩)] (fun v4 w6 => ∃ x7 : Int, v4 = .int .i64 x7 /\ ((sh_f96_j2 Q b1 x7 w6))) w5
def sh_f96 (a0 : Sl) (a1 : Int) (a2 : Int) (Q : QW) (w0 : World) : Prop :=
  al tI64 3 w0 0 fun b1 w1 => br (decide ((IntKind.i64.wrap (a2 - a1)) ≥ 8)) (br (decide ((IntKind.i64.wrap (a2 - a1)) ≥ 50)) (CallsR PP n_f103 #[.slice a0.a a0.len a0.cap, .int .i64 (IntKind.i64.wrap (a1 + (IntKind.i64.wrap ((IntKind.i64.wrap (Int.tdiv (IntKind.i64.wrap (a2 - a1)) 4)) * 1)))), .pointer (some ⟨b1, 0, none⟩)] (fun v1 w2 => ∃ x1 : Int, v1 = .int .i64 x1 /\ (CallsR PP n_f103 #[.slice a0.a a0.len a0.cap, .int .i64 (IntKind.i64.wrap (a1 + (IntKind.i64.wrap ((IntKind.i64.wrap (Int.tdiv (IntKind.i64.wrap (a2 - a1)) 4)) * 2)))), .pointer (some ⟨b1, 0, none⟩)] (fun v2 w3 => ∃ x2 : Int, v2 = .int .i64 x2 /\ (CallsR PP n_f103 #[.slice a0.a a0.len a0.cap, .int .i64 (IntKind.i64.wrap (a1 + (IntKind.i64.wrap ((IntKind.i64.wrap (Int.tdiv (IntKind.i64.wrap (a2 - a1)) 4)) * 3)))), .pointer (some ⟨b1, 0, none⟩)] (fun v3 w4 => ∃ x3 : Int, v3 = .int .i64 x3 /\ ((sh_f96_j1 a0 Q b1 x1 x2 x3 w4))) w3)) w2)) w1) ((sh_f96_j1 a0 Q b1 (IntKind.i64.wrap (a1 + (IntKind.i64.wrap ((IntKind.i64.wrap (Int.tdiv (IntKind.i64.wrap (a2 - a1)) 4)) * 1)))) (IntKind.i64.wrap (a1 + (IntKind.i64.wrap ((IntKind.i64.wrap (Int.tdiv (IntKind.i64.wrap (a2 - a1)) 4)) * 2)))) (IntKind.i64.wrap (a1 + (IntKind.i64.wrap ((IntKind.i64.wrap (Int.tdiv (IntKind.i64.wrap (a2 - a1)) 4)) * 3)))) w1))) ((sh_f96_j2 Q b1 (IntKind.i64.wrap (a1 + (IntKind.i64.wrap ((IntKind.i64.wrap (Int.tdiv (IntKind.i64.wrap (a2 - a1)) 4)) * 2)))) w1))
theorem so_f96 {a0 : Sl} {a1 : Int} {a2 : Int} (Q : QW) (w0 : World) (h : sh_f96 a0 a1 a2 Q w0) : CallsR PP n_f96 #[.slice a0.a a0.len a0.cap, .int .i64 a1, .int .i64 a2] Q w0 := by
 refine callsR_of_WX (args := [.slice a0.a a0.len a0.cap, vi a1, vi a2]) Try.func96 rfl Try.ntmps96 nl ?_
 refine WX_seq (WX_region ?_)
 refine mva (vi 0) rfl <| mva (vi 0) rfl (ops_nil ?_)
 refine WX_seq (WX_region ?_)
 refine mv (vi a2) rfl <| mv (vi a1) rfl <| op_v (pv_sub rfl rfl) <| mva (vi (IntKind.i64.wrap (a2 - a1))) rfl (ops_nil ?_)
 refine WX_seq (WX_region ?_)
 refine op_w (pw_alloc ty_3 tz_3 ?_)
 intro b1 w1 hw1 hw2
 replace h := h b1 w1 hw1 hw2
 refine ops_nil ?_
 refine WX_seq (WX_region ?_)
 refine mv (vi a1) rfl <| mv (vi (IntKind.i64.wrap (a2 - a1))) rfl <| op_v (pv_quo rfl rfl (by decide)) <| op_v (pv_mul rfl rfl) ?_
 refine op_v (pv_add rfl rfl) ?_
 refine mva (vi (IntKind.i64.wrap (a1 + (IntKind.i64.wrap ((IntKind.i64.wrap (Int.tdiv (IntKind.i64.wrap (a2 - a1)) 4)) * 1))))) rfl (ops_nil ?_)
 refine WX_seq (WX_region ?_)
 refine mv (vi a1) rfl <| mv (vi (IntKind.i64.wrap (a2 - a1))) rfl <| op_v (pv_quo rfl rfl (by decide)) <| op_v (pv_mul rfl rfl) ?_
 refine op_v (pv_add rfl rfl) ?_
 refine mva (vi (IntKind.i64.wrap (a1 + (IntKind.i64.wrap ((IntKind.i64.wrap (Int.tdiv (IntKind.i64.wrap (a2 - a1)) 4)) * 2))))) rfl (ops_nil ?_)
 refine WX_seq (WX_region ?_)
 refine mv (vi a1) rfl <| mv (vi (IntKind.i64.wrap (a2 - a1))) rfl <| op_v (pv_quo rfl rfl (by decide)) <| op_v (pv_mul rfl rfl) ?_
 refine op_v (pv_add rfl rfl) ?_
 refine mva (vi (IntKind.i64.wrap (a1 + (IntKind.i64.wrap ((IntKind.i64.wrap (Int.tdiv (IntKind.i64.wrap (a2 - a1)) 4)) * 3))))) rfl (ops_nil ?_)
 refine WX_join (fun f w7 => ∃ x8 : Int, Agree f [(9, vp b1 0), (11, vi x8)] /\ sh_f96_j2 Q b1 x8 w7) ?_ ?_
 refine WX_seq (WX_region ?_)
 refine mv (vi (IntKind.i64.wrap (a2 - a1))) rfl <| op_v (pv_cmp (v := decide ((IntKind.i64.wrap (a2 - a1)) ≥ 8)) rfl rfl rfl rfl) (ops_nil ?_)
 refine WX_cond (b := decide ((IntKind.i64.wrap (a2 - a1)) ≥ 8)) rfl (fun hb2 => ?_) (fun hb2 => ?_)
 have h := h.1 hb2
 refine WX_join (fun f w5 => ∃ x4 : Int, ∃ x5 : Int, ∃ x6 : Int, Agree f [(0, .slice a0.a a0.len a0.cap), (9, vp b1 0), (10, vi x4), (11, vi x5), (12, vi x6)] /\ sh_f96_j1 a0 Q b1 x4 x5 x6 w5) ?_ ?_
 refine WX_seq (WX_region ?_)
 refine mv (vi (IntKind.i64.wrap (a2 - a1))) rfl <| op_v (pv_cmp (v := decide ((IntKind.i64.wrap (a2 - a1)) ≥ 50)) rfl rfl rfl rfl) (ops_nil ?_)
 refine WX_cond (b := decide ((IntKind.i64.wrap (a2 - a1)) ≥ 50)) rfl (fun hb1 => ?_) (fun hb1 => ?_)
 have h := h.1 hb1
 refine WX_seq (WX_region ?_)
 refine mv (.slice a0.a a0.len a0.cap) rfl ?_
 refine mv (vi (IntKind.i64.wrap (a1 + (IntKind.i64.wrap ((IntKind.i64.wrap (Int.tdiv (IntKind.i64.wrap (a2 - a1)) 4)) * 1))))) rfl ?_
 refine op_w (pw_call co_103 rfl (cm h ?_))
 rintro v1 w2 ⟨x1, rfl, h⟩
 refine mva (vi x1) rfl (ops_nil ?_)
 refine WX_seq (WX_region ?_)
 refine mv (.slice a0.a a0.len a0.cap) rfl ?_
 refine mv (vi (IntKind.i64.wrap (a1 + (IntKind.i64.wrap ((IntKind.i64.wrap (Int.tdiv (IntKind.i64.wrap (a2 - a1)) 4)) * 2))))) rfl ?_
 refine op_w (pw_call co_103 rfl (cm h ?_))
 rintro v2 w3 ⟨x2, rfl, h⟩
 refine mva (vi x2) rfl (ops_nil ?_)
 refine WX_region ?_
 refine mv (.slice a0.a a0.len a0.cap) rfl ?_
 refine mv (vi (IntKind.i64.wrap (a1 + (IntKind.i64.wrap ((IntKind.i64.wrap (Int.tdiv (IntKind.i64.wrap (a2 - a1)) 4)) * 3))))) rfl ?_
 refine op_w (pw_call co_103 rfl (cm h ?_))
 rintro v3 w4 ⟨x3, rfl, h⟩
 refine mva (vi x3) rfl (ops_nil ?_)
 exact ⟨x1, x2, x3, ⟨rfl, rfl, rfl, rfl, rfl, trivial⟩, h⟩
 have h := h.2 hb1
 refine WX_skip ?_
 exact ⟨(IntKind.i64.wrap (a1 + (IntKind.i64.wrap ((IntKind.i64.wrap (Int.tdiv (IntKind.i64.wrap (a2 - a1)) 4)) * 1)))), (IntKind.i64.wrap (a1 + (IntKind.i64.wrap ((IntKind.i64.wrap (Int.tdiv (IntKind.i64.wrap (a2 - a1)) 4)) * 2)))), (IntKind.i64.wrap (a1 + (IntKind.i64.wrap ((IntKind.i64.wrap (Int.tdiv (IntKind.i64.wrap (a2 - a1)) 4)) * 3)))), ⟨rfl, rfl, rfl, rfl, rfl, trivial⟩, h⟩
 rintro f w5 ⟨x4, x5, x6, ha, h⟩
 obtain ⟨g1, rfl⟩ := canon ha
 refine WX_region ?_
 refine mv (.slice a0.a a0.len a0.cap) rfl <| mv (vi x4) rfl <| mv (vi x5) rfl <| mv (vi x6) rfl <| op_w (pw_call co_104 rfl (CallsR.mono h ?_))
 rintro v4 w6 ⟨x7, rfl, h⟩
 refine mva (vi x7) rfl (ops_nil ?_)
 exact ⟨x7, ⟨rfl, rfl, trivial⟩, h⟩
 have h := h.2 hb2
 refine WX_skip ?_
 exact ⟨(IntKind.i64.wrap (a1 + (IntKind.i64.wrap ((IntKind.i64.wrap (Int.tdiv (IntKind.i64.wrap (a2 - a1)) 4)) * 2)))), ⟨rfl, rfl, trivial⟩, h⟩
 rintro f w7 ⟨x8, ha, h⟩
 obtain ⟨g2, rfl⟩ := canon ha
 refine WX_seq (WX_region ?_)
 obtain ⟨x9, hx9, h⟩ := h
 refine op_v (pv_ld ty_3 rfl hx9) (ops_nil ?_)
 refine WX_block ?_
 refine WX_seq (WX_region ?_)
 refine op_v (pv_cmp (v := (x9 == 0)) rfl rfl rfl rfl) <| mva (vb (x9 == 0)) rfl (ops_nil ?_)
 refine WX_cond (b := (x9 == 0)) rfl (fun hb4 => ?_) (fun hb4 => ?_)
 have h := h.1 hb4
 refine WX_seq (WX_region ?_)
 refine mv (vi x8) rfl <| mva (vi x8) rfl <| mva (vi 1) rfl (ops_nil ?_)
 refine WX_ret ?_
 exact fin_of [vi x8, vi 1] rfl ⟨rfl, ⟨rfl, trivial⟩⟩ h
 have h := h.2 hb4
 refine WX_seq (WX_region ?_)
 refine op_v (pv_cmp (v := (x9 == 12)) rfl rfl rfl rfl) <| mva (vb (x9 == 12)) rfl (ops_nil ?_)
 refine WX_cond (b := (x9 == 12)) rfl (fun hb3 => ?_) (fun hb3 => ?_)
 have h := h.1 hb3
 refine WX_seq (WX_region ?_)
 refine mv (vi x8) rfl <| mva (vi x8) rfl <| mva (vi 2) rfl (ops_nil ?_)
 refine WX_ret ?_
 exact fin_of [vi x8, vi 2] rfl ⟨rfl, ⟨rfl, trivial⟩⟩ h
 have h := h.2 hb3
 refine WX_seq (WX_region ?_)
 refine mv (vi x8) rfl <| mva (vi x8) rfl <| mva (vi 0) rfl (ops_nil ?_)
 refine WX_ret ?_
 exact fin_of [vi x8, vi 0] rfl ⟨rfl, ⟨rfl, trivial⟩⟩ h
def sh_f97_b1 (a0 : Sl) (Q : QW) (x1 : Int) (x2 : Int) (w1 : World) (nxt1 : Int -> Int -> World -> Prop) : Prop :=
  br (decide (x1 < x2)) (dw w1 fun w2 => ixs a0 x2 fun b1 o1 => ld tU64 w2 b1 (o1 + (x2).toNat * 1) fun x3 => ixs a0 x1 fun b2 o2 => ld tU64 w2 b2 (o2 + (x1).toNat * 1) fun x4 => ixs a0 x1 fun b3 o3 => st tU64 w2 b3 (o3 + (x1).toNat * 1) x3 fun w3 => ixs a0 x2 fun b4 o4 => st tU64 w3 b4 (o4 + (x2).toNat * 1) x4 fun w4 => nxt1 (IntKind.i64.wrap (x1 + 1)) (IntKind.i64.wrap (x2 - 1)) w4) (Q (.tuple #[]) w1)
def sh_f97 (a0 : Sl) (a1 : Int) (a2 : Int) (Q : QW) (w0 : World) : Prop :=
  (∃ I1 : Nat -> Int -> Int -> World -> Prop, (∃ m, I1 m a1 (IntKind.i64.wrap (a2 - 1)) w0) /\ ∀ m x1 x2 w1, I1 m x1 x2 w1 -> sh_f97_b1 a0 Q x1 x2 w1 (fun y0 y1 w => ∃ m2, m2 < m /\ I1 m2 y0 y1 w))
theorem so_f97 {a0 : Sl} {a1 : Int} {a2 : Int} (Q : QW) (w0 : World) (h : sh_f97 a0 a1 a2 Q w0) : CallsR PP n_f97 #[.slice a0.a a0.len a0.cap, .int .i64 a1, .int .i64 a2] Q w0 := by
 refine callsR_of_WX (args := [.slice a0.a a0.len a0.cap, vi a1, vi a2]) Try.func97 rfl Try.ntmps97 nl ?_
 refine WX_seq (WX_region ?_)
 refine mv (vi a1) rfl <| mva (vi a1) rfl (ops_nil ?_)
 refine WX_seq (WX_region ?_)
 refine mv (vi a2) rfl <| op_v (pv_sub rfl rfl) <| mva (vi (IntKind.i64.wrap (a2 - 1))) rfl (ops_nil ?_)
 refine WX_block ?_
 obtain ⟨I1, ⟨m, h0⟩, hB1⟩ := h
 refine WX_loop (fun m f w1 => ∃ x1 : Int, ∃ x2 : Int, Agree f [(0, .slice a0.a a0.len a0.cap), (6, vi x1), (7, vi x2)] /\ I1 m x1 x2 w1) ⟨m, a1, (IntKind.i64.wrap (a2 - 1)), ⟨rfl, rfl, rfl, trivial⟩, h0⟩ ?_
 clear h0 m
 rintro m f w1 ⟨x1, x2, ha, h⟩
 obtain ⟨g1, rfl⟩ := canon ha
 replace h := hB1 m x1 x2 w1 h
 clear hB1
 generalize hn_nxt1 : (fun (y0 : Int) (y1 : Int) (w : World) => ∃ m2, m2 < m /\ I1 m2 y0 y1 w) = nxt1 at h
 refine WX_seq ?_
 refine WX_seq (WX_region ?_)
 refine mv (vi x1) rfl <| mv (vi x2) rfl <| op_v (pv_cmp (v := decide (x1 < x2)) rfl rfl rfl rfl) (ops_nil ?_)
 refine WX_cond (b := decide (x1 < x2)) rfl (fun hb1 => ?_) (fun hb1 => ?_)
 have h := h.1 hb1
 refine WX_skip ?_
 refine WX_block ?_
 refine WX_seq ?_
 obtain ⟨w2, hw1, h⟩ := dwe h
 obtain ⟨b1, o1, hi1, hi2, hi3, x3, hx3, b2, o2, hi4, hi5, hi6, x4, hx4, b3, o3, hi7, hi8, hi9, h⟩ := h
 refine WX_dr [13,15] [0,1,2,3,4,5,6,8,9,10,12,14] [⟨[],[0,1,2,3,4,5,6,8,9,10,12],[7,11],[(13,[13,14],1)]⟩,⟨[13],[14],[],[(15,[15],2)]⟩,⟨[15,13],[],[],[]⟩] [.slice a0.a a0.len a0.cap, vi x1, .slice a0.a a0.len a0.cap, vi x2, .slice a0.a a0.len a0.cap, vi x2, vp b1 (o1 + (x2).toNat * 1), vu x3, .slice a0.a a0.len a0.cap, vi x1, vp b2 (o2 + (x1).toNat * 1), vu x4, vp b3 (o3 + (x1).toNat * 1), un, un, un] 3 mixed (by kernel_rfl) hw1 ?_
 refine draw_go rfl (pu rfl (pv_move rfl) (pu rfl (pv_move rfl) (pu rfl (pv_move rfl) (pu rfl (pv_move rfl) (pu rfl (pv_move rfl) (pu rfl (pv_move rfl) (pu rfl (pv_ix (s := a0) ez_24 rfl rfl hi1 hi2 hi3) (pu rfl (pv_move rfl) (pu rfl (pv_move rfl) (pu rfl (pv_ix (s := a0) ez_24 rfl rfl hi4 hi5 hi6) (pu rfl (pv_ix (s := a0) ez_24 rfl rfl hi7 hi8 hi9) ap0))))))))))) (ro rfl (pv_ld ty_36 rfl hx3) (ro rfl (pv_ld ty_36 rfl hx4) ao0)) rfl ?_
 refine cy rfl rfl ?_
 refine pw_st (x := x3) ty_36 rfl rfl h.1 ?_
 intro w3 hw2
 replace h := h.2 w3 hw2
 obtain ⟨b4, o4, hi10, hi11, hi12, h⟩ := h
 refine nx [vp b4 (o4 + (x2).toNat * 1)] rfl nl rfl ?_
 refine draw_go rfl (pu rfl (pv_ix (s := a0) ez_24 rfl rfl hi10 hi11 hi12) ap0) ao0 rfl ?_
 refine cy rfl rfl ?_
 refine pw_st (x := x4) ty_36 rfl rfl h.1 ?_
 intro w4 hw3
 replace h := h.2 w4 hw3
 refine nx [] rfl nl rfl ?_
 refine draw_end rfl ap0 ao0 ?_
 refine WX_seq (WX_region ?_)
 refine mv (vi x1) rfl <| op_v (pv_add rfl rfl) <| mva (vi (IntKind.i64.wrap (x1 + 1))) rfl (ops_nil ?_)
 refine WX_region ?_
 refine mv (vi x2) rfl <| op_v (pv_sub rfl rfl) <| mva (vi (IntKind.i64.wrap (x2 - 1))) rfl (ops_nil ?_)
 subst hn_nxt1
 obtain ⟨m2, hm2, h⟩ := h
 exact ⟨m2, hm2, (IntKind.i64.wrap (x1 + 1)), (IntKind.i64.wrap (x2 - 1)), ⟨rfl, rfl, rfl, trivial⟩, h⟩
 have h := h.2 hb1
 refine WX_exit0 ?_
 exact fin_of [] rfl trivial h
end Go.Proofs.Ytdefmgkicdhmkaa
