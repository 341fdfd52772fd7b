/- What the functions do, part 12; for every memory. -/
import Derived.Test.YtdefmgkicdhmkaaQ11
namespace Go.Proofs.Ytdefmgkicdhmkaa
open Go Go.Sx
set_option linter.unusedVariables false
theorem SlIs.bound {α : Type} {T : Ty α} {sz : Nat} (hz : ∀ x, (T.enc x).length = sz) (h0 : 0 < sz) {D : Nat -> Prop} {w : World} {s : Sl} {xs : List α} (h : SlIs T D w s xs) : SlIs T (fun b => D b /\ b < w.heap.size) w s xs := by
 refine ⟨h.1, h.2.1, ?_⟩
 rcases h.2.2 with e | ⟨b, o, ha, hd, hc⟩
 ·exact .inl e
 ·cases xs with
  | nil => exact .inl rfl
  | cons x r =>
   refine .inr ⟨b, o, ha, ⟨hd, ?_⟩, hc⟩
   rw [List.flatMap_cons, CellsAt.append] at hc
   have hl := hz x
   cases he : T.enc x with
   | nil => rw [he] at hl; simp at hl; omega
   | cons v vs => rw [he] at hc; exact cell_lt hc.1.1
theorem LedIs.bound {D : Nat -> Prop} {w : World} {g : G_ledger_State} {l : ALed} (h : LedIs D w g l) : LedIs (fun b => D b /\ b < w.heap.size) w g l :=
 { h with before := SlIs.bound (fun _ => rfl) Nat.zero_lt_one h.before, now := SlIs.bound (fun _ => rfl) Nat.zero_lt_one h.now }
def OwnIn {α : Type} (T : Ty α) (sz lo hi : Nat) (w : World) (s : Sl) (xs : List α) : Prop :=
 s.len = xs.length /\ s.len <= s.cap /\ (s.cap = 0 \/ ∃ b, s.a = some ⟨b, 0, none⟩ /\ lo <= b /\ b < hi /\ CellsAt w b 0 (xs.flatMap T.enc) /\ CanSt w b 0 (s.cap * sz))
theorem OwnS.inn {α : Type} {T : Ty α} {sz lo : Nat} {w : World} {s : Sl} {xs : List α} (h : OwnS T sz lo w s xs) (h0 : 0 < sz) : OwnIn T sz lo w.heap.size w s xs := by
 refine ⟨h.1, h.2.1, ?_⟩
 rcases h.2.2 with h' | ⟨b, ha, hd, hc, hn⟩
 ·exact .inl h'
 ·by_cases e : s.cap = 0
  ·exact .inl e
  ·refine .inr ⟨b, ha, hd, ?_, hc, hn⟩
   have : s.cap * sz ≠ 0 := Nat.mul_ne_zero e (by omega)
   obtain ⟨k, hk⟩ := Nat.exists_eq_succ_of_ne_zero this
   rw [hk] at hn
   obtain ⟨⟨v, hv⟩, _⟩ := hn
   exact cell_lt hv
theorem OwnIn.keeps {α : Type} {T : Ty α} {sz lo hi : Nat} {S : Nat -> Prop} {w w' : World} {s : Sl} {xs : List α} (h : OwnIn T sz lo hi w s xs) (k : Keeps S w w') (hs : ∀ b, lo <= b -> b < hi -> ¬ S b) : OwnIn T sz lo hi w' s xs := by
 refine ⟨h.1, h.2.1, ?_⟩
 rcases h.2.2 with h' | ⟨b, ha, h1, h2, hc, hn⟩
 ·exact .inl h'
 ·exact .inr ⟨b, ha, h1, h2, hc.keeps k (hs b h1 h2), hn.keeps k (hs b h1 h2)⟩
theorem OwnIn.gr {α : Type} {T : Ty α} {sz lo hi : Nat} {w w' : World} {s : Sl} {xs : List α} (h : OwnIn T sz lo hi w s xs) (k : Gr w w') : OwnIn T sz lo hi w' s xs := h.keeps k fun _ _ _ f => f
theorem OwnIn.is {α : Type} {T : Ty α} {sz lo hi : Nat} {w : World} {s : Sl} {xs : List α} (h : OwnIn T sz lo hi w s xs) : SlIs T (fun b => lo <= b /\ b < hi) w s xs := by
 refine ⟨h.1, h.2.1, ?_⟩
 rcases h.2.2 with h' | ⟨b, ha, h1, h2, hc, hn⟩
 ·left; have := h.1; have := h.2.1; exact List.length_eq_zero_iff.1 (by omega)
 ·exact .inr ⟨b, 0, ha, ⟨h1, h2⟩, hc⟩
theorem app_copy {α : Type} {T : Ty α} {sz by' : Nat} {e : TypeId} {w : World} {r : Sl} {ys : List α} {K : Sl -> World -> Prop} {D : Nat -> Prop} (hz : ∀ x, (T.enc x).length = sz) (hp : ∀ x, ∀ v ∈ T.enc x, plain v = true) (h0 : 0 < sz)
  (hr : SlIs T D w r ys) (hcap : ys.length * 4 * (by' + 1) <= 2 ^ 47) (k : ∀ s' w', Gr w w' -> OwnIn T sz w.heap.size w'.heap.size w' s' ys -> K s' w') : app e sz by' w nilSl r K := by
 refine (OwnS.nil (T := T) (sz := sz) (base := w.heap.size)).app hz hp hr (Nat.le_refl _) (by simpa using hcap) fun s' w' k' ho => ?_
 exact k s' w' (k'.mono fun b _ hb => by obtain ⟨_, o, ho⟩ := hb; cases ho) (OwnS.inn (by simpa using ho) h0)
structure CfgOk (c : ACfg) : Prop where
 bal : okBal c
 slots : 1 <= c.slots /\ c.slots <= 64
theorem c_ledger_Pull {D D' : Nat -> Prop} {gc : G_api_Config} {c : ACfg} {gl : G_ledger_State} {l : ALed} {g : Fv} {at_ : Int -> Int} {Q : QW} {w : World} (hc : CfgIs D w gc c) (hok : CfgOk c) (hl : LedIs D' w gl l) (hlo : LedOk c.bal.length l)
  (hg : IsChain g at_ w) (h : ∀ w', Gr w w' -> Q (t_justify_State.val (pull c l at_)) w') : CallsR PP n_f26 #[t_api_Config.val gc, t_ledger_State.val gl, g.v] Q w := by
 refine so_f26 _ _ ?_
 unfold sh_f26
 refine al_i fun b1 w1 e1 g1 c1 _ => al_i fun b2 w2 e2 g2 c2 _ => al_i fun b3 w3 e3 g3 c3 s3 => ?_
 have G := g1.trans (g2.trans g3)
 replace c1 := c1.gr (g2.trans g3); replace c2 := c2.gr g3
 have hz := g1.size; have hz2 := g2.size
 have hb3 : w.heap.size <= b3 := by omega
 have hbl := hok.bal.1
 have hlb := hlo.before
 have hln := hlo.now
 have e0 := hlo.e0; have e1' := hlo.e1
 refine ld_i (x := gl.Epoch) (c2.sub 10 1) ?_
 rw [hl.epoch]
 refine br_i (fun q => ?_) (fun q => ?_)
 ·have q := of_decide_eq_true q
  have hp : pull c l at_ = l.just := by unfold pull; rw [if_pos q]
  rw [hp] at h
  refine ld_i (x := gl.Justify) (c2.sub 0 10) (st_i s3 fun w4 e4 k4 c4 => ld_i c4 ?_)
  rw [hl.just]
  exact h w4 (G.local k4 fun j ej => by subst ej; exact .inl hb3)
 have q := of_decide_eq_false q
 have hp : pull c l at_ = jNext l.just l.epoch (enough (sumOf c.bal (whoOf l.before)) (totalOf c.bal)) (enough (sumOf c.bal (whoOf l.now)) (totalOf c.bal)) (pointOf c (l.epoch - 1) at_) (pointOf c l.epoch at_) := by unfold pull; rw [if_neg q]
 rw [hp] at h
 refine ld_i (x := gc) c1 (c_config_Total (hc.gr G) hok.bal fun w5 g5 => ⟨_, rfl, dw_i fun w6 e6 g6 => ?_⟩)
 replace G := G.trans (g5.trans g6)
 replace c1 := c1.gr (g5.trans g6); replace c2 := c2.gr (g5.trans g6); replace s3 := s3.keeps (g5.trans g6) fun f => f
 refine ld_i (x := gc) c1 (ld_i (x := gl.Before) (c2.sub 11 1) ?_)
 have htot : 0 <= totalOf c.bal /\ totalOf c.bal <= 17592186044416 := by
  have := okSum hok.bal.2 (upTo c.bal.length)
  rw [sumOf_upTo] at this
  have hul : (upTo c.bal.length).length = c.bal.length := by simp [upTo]
  rw [hul] at this
  omega
 refine c_ledger_who (hl.before.gr G) (by omega) fun s7 w7 g7 h7 => ⟨s7, rfl, c1.gr g7, ?_⟩
 replace G := G.trans g7
 replace c1 := c1.gr g7; replace c2 := c2.gr g7; replace s3 := s3.keeps g7 fun f => f
 have hw1 := whoOf_length l.before
 refine c_config_Sum (hc.gr G) hok.bal h7 (by omega) fun w8 g8 => ⟨_, rfl, c_quorum_Enough htot ⟨_, rfl, dw_i fun w9 e9 g9 => ?_⟩⟩
 replace G := G.trans (g8.trans g9)
 replace c1 := c1.gr (g8.trans g9); replace c2 := c2.gr (g8.trans g9); replace s3 := s3.keeps (g8.trans g9) fun f => f
 refine ld_i (x := gc) c1 (ld_i (x := gl.Now) (c2.sub 12 1) ?_)
 refine c_ledger_who (hl.now.gr G) (by omega) fun s10 w10 g10 h10 => ⟨s10, rfl, c1.gr g10, ?_⟩
 replace G := G.trans g10
 replace c1 := c1.gr g10; replace c2 := c2.gr g10; replace s3 := s3.keeps g10 fun f => f
 have hw2 := whoOf_length l.now
 refine c_config_Sum (hc.gr G) hok.bal h10 (by omega) fun w11 g11 => ⟨_, rfl, c_quorum_Enough htot ⟨_, rfl, dw_i fun w12 e12 g12 => ?_⟩⟩
 replace G := G.trans (g11.trans g12)
 replace c1 := c1.gr (g11.trans g12); replace c2 := c2.gr (g11.trans g12); replace s3 := s3.keeps (g11.trans g12) fun f => f
 refine ld_i (x := gl.Justify) (c2.sub 0 10) (ld_i (x := gl.Epoch) (c2.sub 10 1) (ld_i (x := gc) c1 (ld_i (x := gl.Epoch) (c2.sub 10 1) (ld_i (x := gc) c1 (ld_i (x := gl.Epoch) (c2.sub 10 1) ?_)))))
 rw [hl.epoch, hl.just, wrap_i64 (n := l.epoch - 1) (by omega) (by omega)]
 have cj : ∀ {w'}, CellsAt w' b2 0 (t_ledger_State.enc gl) -> CellsAt w' b2 0 (t_justify_State.enc l.just) := fun hc => by rw [<- hl.just]; exact hc.sub 0 10
 have ce : ∀ {w'}, CellsAt w' b2 0 (t_ledger_State.enc gl) -> CellsAt w' b2 10 (tI64.enc l.epoch) := fun hc => by rw [<- hl.epoch]; exact hc.sub 10 1
 refine c_ledger_point (hc.gr G) (epochStart_i64 (by omega) hok.slots) (hg.gr G) fun w13 g13 => ⟨_, rfl, ?_⟩
 replace G := G.trans g13
 replace c1 := c1.gr g13; replace c2 := c2.gr g13; replace s3 := s3.keeps g13 fun f => f
 refine ⟨cj c2, ce c2, c1, ce c2, c_ledger_point (hc.gr G) (epochStart_i64 e1' hok.slots) (hg.gr G) fun w14 g14 => ⟨_, rfl, ?_⟩⟩
 replace G := G.trans g14
 replace c1 := c1.gr g14; replace c2 := c2.gr g14; replace s3 := s3.keeps g14 fun f => f
 refine ⟨cj c2, ce c2, c_justify_Next (hlo.pts.mono fun p hp => ⟨hp.e0, hp.e1⟩) fun w15 g15 => ⟨_, rfl, ?_⟩⟩
 replace G := G.trans g15
 replace s3 := s3.keeps g15 fun f => f
 refine st_i s3 fun w16 e16 k16 c16 => ld_i c16 (h w16 (G.local k16 fun j ej => by subst ej; exact .inl hb3))
theorem mks_bool {w : World} {t : TypeId} {x : Sl} {n : Nat} {k : Nat -> World -> Prop} (hx : x.len = n) (hb : n <= 1000000)
  (h : ∀ b w', b = w.heap.size -> Gr w w' -> SlIs tBool (w.heap.size <= ·) w' (Sl.mk (some ⟨b, 0, none⟩) ((x.len : Int)).toNat ((x.len : Int)).toNat) (List.replicate n false) -> k b w') :
  mks t ((tBool.val false).cells) 1 1 w (x.len : Int) k := by
 refine mks_i (T := tBool) (z := false) n (fun _ => rfl) rfl (by omega) (by omega) fun b w' e g c s => h b w' e g ⟨by simp [hx], Nat.le_refl _, .inr ⟨b, 0, rfl, by show w.heap.size <= b; omega, c⟩⟩
theorem c_ledger_Open {D : Nat -> Prop} {gc : G_api_Config} {c : ACfg} {r : Int} {Q : QW} {w : World} (hc : CfgIs D w gc c) (hl : c.bal.length <= 4096)
  (h : ∀ w' g, Gr w w' -> LedIs (w.heap.size <= ·) w' g (ledOpen c r) -> Q (t_ledger_State.val g) w') : CallsR PP n_f18 #[t_api_Config.val gc, .int .u64 r] Q w := by
 refine so_f18 _ _ ?_
 unfold sh_f18
 refine al_i fun b1 w1 e1 g1 c1 _ => al_i fun b2 w2 e2 g2 c2 s2 => al_i fun b3 w3 e3 g3 c3 s3 => st_i s3 fun w4 e4 k4 c4 => dw_i fun w5 e5 g5 => ?_
 have z1 := g1.size; have z2 := g2.size; have z3 := g3.size
 have l2 : b2 < w2.heap.size := by obtain ⟨⟨v, hv⟩, _⟩ := s2; exact cell_lt hv
 have g24 : Gr w2 w4 := g3.local k4 fun j ej => by subst ej; omega
 have G := g1.trans (g2.trans (g24.trans g5))
 replace c1 := c1.gr (g2.trans (g24.trans g5))
 replace c4 := c4.gr g5
 replace s2 := s2.keeps (g24.trans g5) fun f => f
 have zz := G.size
 have z24 := g24.size; have z5 := g5.size
 have hx : gc.Balances.len = c.bal.length := hc.bal.1
 refine ld_i c4 (ld_i c4 (ld_i c4 (ld_i (x := gc.Balances) (c1.sub 0 1) (ld_i (x := gc.Balances) (c1.sub 0 1) ⟨?_, ?_⟩))))
 ·refine mks_bool hx (by omega) fun b4 w6 e6 g6 i6 => ⟨c4.gr g6, c4.gr g6, c4.gr g6, (c1.gr g6).sub 0 1, mks_bool hx (by omega) fun b5 w7 e7 g7 i7 => ?_⟩
  have g67 := g6.trans g7
  have z6 := g6.size; have z7 := g7.size
  refine ⟨c4.gr g67, c4.gr g67, c4.gr g67, st_i (s2.keeps g67 fun f => f) fun w8 e8 k8 c8 => ?_⟩
  unfold sh_f18_j1
  refine ld_i c8 (h w8 _ ((G.trans g67).local k8 fun j ej => by subst ej; omega) ⟨rfl, rfl, ?_, ?_⟩)
  ·exact ((i6.gr g7).keeps k8 (fun b hb e => by subst e; omega)).mono fun b hb => by omega
  ·exact (i7.keeps k8 (fun b hb e => by subst e; omega)).mono fun b hb => by omega
 ·refine mks_bool hx (by omega) fun b4 w6 e6 g6 i6 => ⟨c4.gr g6, c4.gr g6, c4.gr g6, (c1.gr g6).sub 0 1, mks_bool hx (by omega) fun b5 w7 e7 g7 i7 => ?_⟩
  have g67 := g6.trans g7
  have z6 := g6.size; have z7 := g7.size
  refine ⟨c4.gr g67, c4.gr g67, c4.gr g67, st_i (s2.keeps g67 fun f => f) fun w8 e8 k8 c8 => ?_⟩
  unfold sh_f18_j1
  refine ld_i c8 (h w8 _ ((G.trans g67).local k8 fun j ej => by subst ej; omega) ⟨rfl, rfl, ?_, ?_⟩)
  ·exact (i7.keeps k8 (fun b hb e => by subst e; omega)).mono fun b hb => by omega
  ·exact ((i6.gr g7).keeps k8 (fun b hb e => by subst e; omega)).mono fun b hb => by omega
theorem endsOf_length (a b s : Int) : (endsOf a b s).length <= 4096 := by
 unfold endsOf; rw [List.length_map, List.length_range]; omega
theorem c_epoch_Ends {a b s : Int} {Q : QW} {w : World} (ha : I64 a) (hb : I64 b)
  (h : ∀ s' w', Gr w w' -> SlIs tI64 (w.heap.size <= ·) w' s' (endsOf a b s) -> Q (.slice s'.a s'.len s'.cap) w') : CallsR PP n_f39 #[.int .i64 a, .int .i64 b, .int .i64 s] Q w := by
 refine so_f39 _ _ ?_
 unfold sh_f39
 refine c_epoch_Of ha ⟨_, rfl, ?_⟩
 have n1 := epochOf_nonneg a s
 have n2 := epochOf_nonneg b s
 have n3 := epochOf_le a s
 have n4 := epochOf_le b s
 unfold I64 at ha hb
 refine loop2 (sh_f39_b1 b s Q) (fun m o e w' => ∃ i : Nat, i <= min 4096 (epochOf b s - epochOf a s).toNat /\ m = 4096 - i /\ e = epochOf a s + i /\ Gr w w' /\ OwnS tI64 1 w.heap.size w' o ((List.range i).map fun (k : Nat) => epochOf a s + (k : Int)))
  ⟨_, 0, by omega, rfl, by omega, Gr.refl _, by simpa using OwnS.nil⟩ ?_
 rintro m o e w1 nxt ⟨i, hi, rfl, rfl, g1, ho⟩ hn
 unfold sh_f39_b1
 have hol : o.len = i := by have := ho.1; simpa using this
 refine c_epoch_Of (by unfold I64; omega) ⟨_, rfl, ?_⟩
 have done : ¬ i < min 4096 (epochOf b s - epochOf a s).toNat -> Q (.slice o.a o.len o.cap) w1 := by
  intro hd
  refine h o w1 g1 ?_
  have : i = min 4096 (epochOf b s - epochOf a s).toNat := by omega
  unfold endsOf
  rw [<- this]
  exact ho.is
 refine br_i (fun q => ?_) (fun q => ?_)
 ·have q := of_decide_eq_true q
  unfold sh_f39_j2 sh_f39_j3
  rw [hol] at done ⊢
  refine br_i (fun q2 => ?_) (fun q2 => ?_)
  ·have q2 := of_decide_eq_true q2
   refine alr_i fun b2 w2 e2 g2 c2 s2 => ?_
   have z1 := g1.size; have z2 := g2.size
   have hl2 : SlIs tI64 (fun _ => True) w2 ⟨some ⟨b2, 0, none⟩, 1, 1⟩ [epochOf a s + (i : Int)] := ⟨rfl, Nat.le_refl _, .inr ⟨b2, 0, rfl, trivial, by simpa using c2⟩⟩
   refine (ho.gr g2).app (fun _ => rfl) (fun y v hv => by simp at hv; subst hv; rfl) hl2 (by omega) (by simp; omega) fun s' w3 k3 ho3 => ?_
   rw [wrap_i64 (n := epochOf a s + (i : Int) + 1) (by omega) (by omega)]
   refine hn _ _ _ _ ?_ ⟨i + 1, by omega, rfl, by push_cast; omega, Gr.local (g1.trans g2) k3 fun j e => e.1, ?_⟩
   ·omega
   ·rw [List.range_succ, List.map_append]; exact ho3
  ·have q2 := of_decide_eq_false q2
   exact done (by omega)
 ·have q := of_decide_eq_false q
  unfold sh_f39_j2 sh_f39_j3
  exact br_f rfl (done (by omega))
theorem c_latest_Of {n : Nat} {Q : QW} {w : World} (hn : n <= 4096) (h : ∀ s b w', b = w.heap.size -> Gr w w' -> VotesAt w' s b (List.replicate n ⟨false, 0, 0, false⟩) -> Q (.slice s.a s.len s.cap) w') : CallsR PP n_f30 #[.int .i64 n] Q w := by
 refine so_f30 _ _ ?_
 unfold sh_f30
 have e : (if (if (4096 : Int) < n then 4096 else (n : Int)) > 0 then (if (4096 : Int) < n then 4096 else (n : Int)) else 0) = n := by split <;> split <;> omega
 rw [e]
 refine mks_i (T := t_latest_Entry) (z := ⟨false, 0, 0, false⟩) n (fun _ => rfl) rfl rfl (by omega) fun b w' e' g c s => ?_
 exact h ⟨some ⟨b, 0, none⟩, n, n⟩ b w' e' g ⟨rfl, by simp, Nat.le_refl _, c, by simpa using s⟩
theorem c_ledger_Advance {D D' : Nat -> Prop} {gc : G_api_Config} {c : ACfg} {gl : G_ledger_State} {l : ALed} {slot : Int} {g : Fv} {at_ : Int -> Int} {Q : QW} {w : World} (hc : CfgIs D w gc c) (hok : CfgOk c) (hl : LedIs D' w gl l) (hlo : LedOk c.bal.length l)
  (hs : I64 slot) (hs2 : slot <= 1099511627776) (hcp : ChainPts PtOk c at_) (hg : IsChain g at_ w) (h : ∀ w' g', Gr w w' -> LedIs (fun b => D' b \/ w.heap.size <= b) w' g' (advance c l slot at_) -> Q (t_ledger_State.val g') w') :
  CallsR PP n_f21 #[t_api_Config.val gc, t_ledger_State.val gl, .int .i64 slot, g.v] Q w := by
 refine so_f21 _ _ ?_
 unfold sh_f21
 refine al_i fun b1 w1 e1 g1 c1 _ => al_i fun b2 w2 e2 g2 c2 s2 => al_i fun b3 w3 e3 g3 c3 s3 => ?_
 have z1 := g1.size; have z2 := g2.size; have z3 := g3.size
 have l1 : b1 < w1.heap.size := cell_lt c1.1
 have l2 : b2 < w2.heap.size := by obtain ⟨⟨v, hv⟩, _⟩ := s2; exact cell_lt hv
 have l3 : b3 < w3.heap.size := by obtain ⟨⟨v, hv⟩, _⟩ := s3; exact cell_lt hv
 have G := g1.trans (g2.trans g3)
 replace c1 := c1.gr (g2.trans g3); replace c2 := c2.gr g3; replace s2 := s2.keeps g3 fun f => f
 have e0 := hlo.e0; have e1' := hlo.e1; have hsl := hok.slots
 have hbl := hok.bal.1
 refine ld_i (x := gl.Epoch) (c2.sub 10 1) (ld_i (x := gc.Slots) (c1.sub 1 1) (ld_i (x := gc.Slots) (c1.sub 1 1) ?_))
 rw [hl.epoch, hc.slots]
 have em : (if c.slots > 1 then c.slots else 1) = max 1 c.slots := by split <;> omega
 have hmul : 0 <= l.epoch * max 1 c.slots /\ l.epoch * max 1 c.slots <= 1099511627776 * 64 := by
  rw [show max 1 c.slots = c.slots by omega]
  exact ⟨Int.mul_nonneg e0 (by omega), Int.mul_le_mul e1' hsl.2 (by omega) (by omega)⟩
 rw [em, wrap_i64 (n := l.epoch * max 1 c.slots) (by omega) (by omega)]
 refine c_epoch_Ends (by unfold I64; omega) hs fun s4 w4 g4 h4 => ⟨s4, rfl, ?_⟩
 replace G := G.trans g4
 replace c1 := c1.gr g4; replace c2 := c2.gr g4; replace s2 := s2.keeps g4 fun f => f; replace s3 := s3.keeps g4 fun f => f
 have z4 := g4.size
 have hes := endsOf_length (l.epoch * max 1 c.slots) slot c.slots
 have hmem : ∀ x ∈ endsOf (l.epoch * max 1 c.slots) slot c.slots, 0 <= x /\ x + 1 <= 1099511627776 := by
  intro x hx
  have h1 := mem_endsOf hx
  have h2 := epochOf_nonneg (l.epoch * max 1 c.slots) c.slots
  have h3 := epochOf_le slot c.slots
  have h5 := epochOf_nonneg slot c.slots
  omega
 have hadv : advance c l slot at_ = (endsOf (l.epoch * max 1 c.slots) slot c.slots).foldl (step1 c at_) l := rfl
 rw [hadv] at h
 generalize endsOf (l.epoch * max 1 c.slots) slot c.slots = es at h h4 hes hmem
 have hlb := hl.bound
 refine loop1 (sh_f21_b1 g Q b1 b2 b3 s4) (fun m i w' => 0 <= i /\ i.toNat <= es.length /\ m = es.length - i.toNat /\ Keeps (· = b2) w4 w' /\ CanSt w' b2 0 13 /\
   ∃ g' l', CellsAt w' b2 0 (t_ledger_State.enc g') /\ LedIs (fun b => (D' b /\ b < w.heap.size) \/ w4.heap.size <= b) w' g' l' /\ LedOk c.bal.length l' /\ es.foldl (step1 c at_) l = (es.drop i.toNat).foldl (step1 c at_) l')
  ⟨_, by omega, by simp, rfl, Keeps.refl _ _, s2, gl, l, c2, (hlb.gr G).mono fun b hb => .inl hb, hlo, by simp⟩ ?_
 rintro m i w5 nxt ⟨h0, hi, rfl, k5, s5, g', l', c5, hl5, hlo5, hfold⟩ hn
 have g5 : Gr w w5 := G.local k5 fun j ej => by subst ej; omega
 have z5 := k5.size
 have c15 : CellsAt w5 b1 0 (t_api_Config.enc gc) := c1.keeps k5 (by omega)
 unfold sh_f21_b1
 rw [h4.1]
 have hx : gc.Balances.len = c.bal.length := hc.bal.1
 refine br_i (fun q => ?_) (fun q => ?_)
 ·have q := of_decide_eq_true q
  have hi' : i.toNat < es.length := by omega
  rw [List.drop_eq_getElem_cons hi', List.foldl_cons] at hfold
  have hm := hmem _ (List.getElem_mem hi')
  have h45 : SlIs tI64 (w3.heap.size <= ·) w5 s4 es := h4.keeps k5 (fun b hb e => by subst e; omega)
  refine h45.ixs 1 (fun _ => rfl) h0 hi' fun b o _ hcl => ld_i (x := es[i.toNat]) hcl (dw_i fun w6 e6 g6 => ?_)
  generalize es[i.toNat] = x at hfold hm
  have et : (i + 1).toNat = i.toNat + 1 := by omega
  have G6 := g5.trans g6
  have c16 := c15.gr g6
  have c56 := c5.gr g6
  have s56 := s5.keeps g6 fun f => f
  have hl6 := hl5.gr g6
  have z6 := g6.size
  refine ld_i (x := gc) c16 (ld_i (x := g') c56 (ld_i (x := g'.Now) (c56.sub 12 1) (ld_i (x := gc.Balances) (c16.sub 0 1) ?_)))
  have fin : ∀ (w' : World) (sa sb : Sl) (p : G_justify_State), Gr w6 w' -> p = pull c l' at_ -> SlIs tBool (w4.heap.size <= ·) w' sa l'.now -> SlIs tBool (w4.heap.size <= ·) w' sb (List.replicate c.bal.length false) ->
    st t_ledger_State w' b2 0 (⟨p, (IntKind.i64.wrap (x + 1)), sa, sb⟩ : G_ledger_State) fun w10 => sh_f21_j2 i nxt w10 := by
   rintro w' sa sb p gw rfl ha hb
   refine st_i (s56.keeps gw fun f => f) fun w10 e10 k10 c10 => ?_
   unfold sh_f21_j2
   rw [wrap_i64 (n := i + 1) (by omega) (by omega)]
   rw [wrap_i64 (n := x + 1) (by omega) (by omega)] at c10
   refine hn (es.length - (i.toNat + 1)) _ _ (by omega) ⟨by omega, by omega, by rw [et], k5.trans ((Gr.keeps (g6.trans gw)).trans k10), by rw [e10]; exact canSt_putL (s56.keeps gw fun f => f), _, step1 c at_ l' x, c10, ⟨rfl, rfl, ?_, ?_⟩, ?_, by rw [et]; exact hfold⟩
   ·exact (ha.keeps k10 fun b hb e => by subst e; omega).mono fun b hb => .inr hb
   ·exact (hb.keeps k10 fun b hb e => by subst e; omega).mono fun b hb => .inr hb
   ·exact ⟨by show 0 <= x + 1; omega, by show x + 1 <= _; omega, pull_pts hlo5.pts hlo5.e1 hcp, hlo5.now, by simp [step1]⟩
  have hnl : l'.now.length <= 4096 := by rw [hlo5.now]; omega
  refine ⟨?_, ?_⟩
  ·refine c_ledger_Pull (hc.gr G6) hok hl6 hlo5 (hg.gr G6) fun w7 g7 => ⟨_, rfl, (c56.gr g7).sub 12 1, (c16.gr g7).sub 0 1, ⟨?_, ?_⟩⟩
   ·have z7 := g7.size
    refine app_copy (T := tBool) (fun _ => rfl) (fun y v hv => by simp at hv; subst hv; rfl) Nat.zero_lt_one (hl6.now.gr g7) (by omega) fun s8 w8 g8 o8 => ⟨(c16.gr (g7.trans g8)).sub 0 1, mks_bool hx (by omega) fun b9 w9 e9 g9 i9 => ?_⟩
    have z8 := g8.size
    exact fin w9 _ _ _ (g7.trans (g8.trans g9)) rfl ((o8.is.gr g9).mono fun b hb => by omega) (i9.mono fun b hb => by omega)
   ·have z7 := g7.size
    refine mks_bool hx (by omega) fun b9 w9 e9 g9 i9 => ⟨(c56.gr (g7.trans g9)).sub 12 1, ?_⟩
    have z9 := g9.size
    refine app_copy (T := tBool) (fun _ => rfl) (fun y v hv => by simp at hv; subst hv; rfl) Nat.zero_lt_one (hl6.now.gr (g7.trans g9)) (by omega) fun s8 w8 g8 o8 => ?_
    exact fin w8 _ _ _ (g7.trans (g9.trans g8)) rfl (o8.is.mono fun b hb => by omega) ((i9.gr g8).mono fun b hb => by omega)
  ·refine mks_bool hx (by omega) fun b9 w9 e9 g9 i9 => ⟨c16.gr g9, c56.gr g9, (c56.gr g9).sub 12 1, ?_⟩
   have z9 := g9.size
   refine c_ledger_Pull (hc.gr (G6.trans g9)) hok (hl6.gr g9) hlo5 (hg.gr (G6.trans g9)) fun w7 g7 => ⟨_, rfl, (c56.gr (g9.trans g7)).sub 12 1, ?_⟩
   have z7 := g7.size
   refine app_copy (T := tBool) (fun _ => rfl) (fun y v hv => by simp at hv; subst hv; rfl) Nat.zero_lt_one (hl6.now.gr (g9.trans g7)) (by omega) fun s8 w8 g8 o8 => ?_
   exact fin w8 _ _ _ (g9.trans (g7.trans g8)) rfl (o8.is.mono fun b hb => by omega) ((i9.gr (g7.trans g8)).mono fun b hb => by omega)
 ·have q := of_decide_eq_false q
  rw [List.drop_eq_nil_of_le (by omega)] at hfold
  unfold sh_f21_j3
  have l35 : b3 ≠ b2 := by omega
  refine ld_i c5 (st_i (s3.keeps k5 l35) fun w6 e6 k6 c6 => ld_i c6 (h w6 g' (g5.local k6 fun j ej => by subst ej; omega) ?_))
  rw [hfold]
  refine (hl5.keeps k6 fun b hb e => ?_).mono fun b hb => ?_
  ·subst e
   rcases hb with hb | hb <;> omega
  ·rcases hb with hb | hb
   ·exact .inl hb.1
   ·exact .inr (by omega)
end Go.Proofs.Ytdefmgkicdhmkaa
namespace Go.Proofs.Ytdefmgkicdhmkaa
open Go Go.Sx
set_option linter.unusedVariables false
theorem epochStart_tgt {v : AVote} {c : ACfg} (h : voteRight c v = true) (hs : I64 v.slot) : I64 (epochStart v.tgt.Epoch c.slots) := by
 obtain ⟨h0, h1, h2, h3⟩ := AStore.voteRight_tgt h
 rw [h1]
 have h4 := epochStart_of v.slot c.slots
 unfold I64 at hs ⊢
 have h5 : 0 <= epochStart (epochOf v.slot c.slots) c.slots := by
  unfold epochStart
  exact Int.mul_nonneg (by omega) (by omega)
 omega
theorem marks_snoc (bs : List Bool) (who : List Int) (k : Int) : marks bs (who ++ [k]) = (marks bs who).set k.toNat true := by
 unfold marks; rw [List.foldl_append]; rfl
theorem OwnIn.put {α : Type} {T : Ty α} {sz lo hi : Nat} {w w' : World} {s : Sl} {xs : List α} {b : Nat} (h : OwnIn T sz lo hi w s xs) (k : Keeps (· = b) w w') (hb : b < lo \/ hi <= b) : OwnIn T sz lo hi w' s xs :=
 h.keeps k fun j h1 h2 e => by subst e; omega
theorem c_ledger_Count {D D' D2 : Nat -> Prop} {gc : G_api_Config} {c : ACfg} {gl : G_ledger_State} {l : ALed} {gv : G_api_Vote} {v : AVote} {g : Fv} {at_ : Int -> Int} {Q : QW} {w : World} (hc : CfgIs D w gc c) (hok : CfgOk c) (hl : LedIs D' w gl l) (hlo : LedOk c.bal.length l)
  (hv : VoteIs D2 w gv v) (hg : IsChain g at_ w) (h : ∀ w' g', Gr w w' -> LedIs (fun b => D' b \/ w.heap.size <= b) w' g' (count c l v at_) -> Q (.tuple #[t_ledger_State.val g', .bool (counts c l v at_)]) w') :
  CallsR PP n_f22 #[t_api_Config.val gc, t_ledger_State.val gl, t_api_Vote.val gv, g.v] Q w := by
 refine so_f22 _ _ ?_
 unfold sh_f22
 refine al_i fun b1 w1 e1 g1 c1 _ => al_i fun b2 w2 e2 g2 c2 _ => al_i fun b3 w3 e3 g3 c3 _ => al_i fun b4 w4 e4 g4 c4 s4 => ?_
 have z1 := g1.size; have z2 := g2.size; have z3 := g3.size; have z4 := g4.size
 have l4 : b4 < w4.heap.size := by obtain ⟨⟨v, hv⟩, _⟩ := s4; exact cell_lt hv
 have G := g1.trans (g2.trans (g3.trans g4))
 replace c1 := c1.gr (g2.trans (g3.trans g4)); replace c2 := c2.gr (g3.trans g4); replace c3 := c3.gr g4
 have hb4 : w.heap.size <= b4 := by omega
 have cj : ∀ {w'}, CellsAt w' b2 0 (t_ledger_State.enc gl) -> CellsAt w' b2 4 (t_api_Point.enc l.just.Previous) /\ CellsAt w' b2 6 (t_api_Point.enc l.just.Current) := fun hc => by rw [<- hl.just]; exact ⟨hc.sub 4 2, hc.sub 6 2⟩
 have ce : ∀ {w'}, CellsAt w' b2 0 (t_ledger_State.enc gl) -> CellsAt w' b2 10 (tI64.enc l.epoch) := fun hc => by rw [<- hl.epoch]; exact hc.sub 10 1
 have ct : ∀ {w'}, CellsAt w' b3 0 (t_api_Vote.enc gv) -> CellsAt w' b3 4 (tI64.enc v.tgt.Epoch) /\ CellsAt w' b3 4 (t_api_Point.enc v.tgt) /\ CellsAt w' b3 2 (t_api_Point.enc v.src) := fun hc => by
  rw [<- hv.tgt, <- hv.src]; exact ⟨hc.sub 4 1, hc.sub 4 2, hc.sub 2 2⟩
 refine ld_i (ct c3).1 (ld_i (ce c2) (ld_i (cj c2).1 (al_i fun b5 w5 e5 g5 c5 s5 => st_i s5 fun w6 e6 k6 c6 => ?_)))
 have s6 : CanSt w6 b5 0 2 := by rw [e6]; exact canSt_putL s5
 have g6 : Gr w4 w6 := g5.local k6 fun j ej => by subst ej; omega
 have hb5 : w4.heap.size <= b5 := by omega
 have z6 := g6.size
 have lb1 : b1 < w4.heap.size := by omega
 have lb2 : b2 < w4.heap.size := by omega
 have lb3 : b3 < w4.heap.size := by omega
 clear e1 e2 e3 e4 e5 e6 k6 g5 c5 s5 g1 g2 g3 g4 c4 z1 z2 z3
 have no : ∀ {x : Bool} {w'}, x = true -> Gr w w' -> CellsAt w' b2 0 (t_ledger_State.enc gl) -> CanSt w' b4 0 13 -> counts c l v at_ = false -> sh_f22_j2 Q b2 b3 b4 v.tgt.Epoch l.epoch x w' := by
  rintro x w' rfl g' c' s' hcn
  have hcnt : count c l v at_ = l := by unfold count; rw [hcn]; rfl
  rw [hcnt, hcn] at h
  unfold sh_f22_j2
  refine br_t rfl (ld_i c' (st_i s' fun w7 e7 k7 c7 => ld_i c7 ?_))
  have g7 : Gr w w7 := Gr.local g' k7 fun j ej => by subst ej; exact hb4
  exact h w7 gl g7 ((hl.gr g7).mono fun b hb => .inl hb)
 have yes : ∀ {w'}, Gr w4 w' -> CellsAt w' b2 0 (t_ledger_State.enc gl) -> CellsAt w' b3 0 (t_api_Vote.enc gv) -> CanSt w' b4 0 13 -> counts c l v at_ = true -> sh_f22_j2 Q b2 b3 b4 v.tgt.Epoch l.epoch false w' := by
  intro w' g' c2' c3' s4' hcy
  have hr : rising c.bal.length none v.who = true := by
   unfold counts at hcy
   simp only [Bool.and_eq_true] at hcy
   have := hcy.1.1.1
   unfold voteRight at this
   simp only [Bool.and_eq_true] at this
   exact this.2
  obtain ⟨_, hwho, _⟩ : v.who.Pairwise (· < ·) /\ (∀ x ∈ v.who, 0 <= x /\ x < c.bal.length) /\ True := by
   have key : ∀ {n : Nat} {p : Option Int} {l : List Int}, rising n p l = true -> l.Pairwise (· < ·) /\ (∀ x ∈ l, 0 <= x /\ x < n) /\ ∀ q, p = some q -> ∀ x ∈ l, q < x := by
    intro n p l
    induction l generalizing p with
    | nil => intro _; exact ⟨List.Pairwise.nil, by simp, by simp⟩
    | cons x r ih =>
     intro h
     unfold rising at h
     simp only [Bool.and_eq_true, decide_eq_true_eq] at h
     obtain ⟨⟨⟨h1, h2⟩, h3⟩, h4⟩ := h
     obtain ⟨i1, i2, i3⟩ := ih h4
     refine ⟨List.Pairwise.cons (fun y hy => i3 x rfl y hy) i1, ?_, ?_⟩
     ·intro y hy
      rcases List.mem_cons.1 hy with rfl | hy
      ·exact ⟨h1, h2⟩
      ·exact i2 y hy
     ·rintro q rfl y hy
      have h3 : q < x := by simpa using h3
      rcases List.mem_cons.1 hy with rfl | hy
      ·exact h3
      ·have := i3 x rfl y hy; omega
   have := key hr
   exact ⟨this.1, this.2.1, trivial⟩
  unfold sh_f22_j2
  refine br_f rfl (dw_i fun w7 e7 g7 => ?_)
  have g67 := g'.trans g7
  have G7 := G.trans g67
  have hl7 := hl.gr G7
  have z67 := g67.size
  replace c2' := c2'.gr g7; replace c3' := c3'.gr g7; replace s4' := s4'.keeps g7 fun f => f
  have hlb : l.before.length <= 12 := by rw [hlo.before]; exact hok.bal.1
  have hln : l.now.length <= 12 := by rw [hlo.now]; exact hok.bal.1
  have J3 : ∀ {w' b9 sa sb lo1 hi1 lo2 hi2}, Gr w7 w' -> CellsAt w' b9 0 (t_ledger_State.enc ⟨gl.Justify, gl.Epoch, sa, sb⟩) -> OwnIn tBool 1 lo1 hi1 w' sa l.before -> OwnIn tBool 1 lo2 hi2 w' sb l.now -> w7.heap.size <= b9 -> w7.heap.size <= lo1 -> w7.heap.size <= lo2 ->
    (hi1 <= lo2 \/ hi2 <= lo1) -> (b9 < lo1 \/ hi1 <= b9) -> (b9 < lo2 \/ hi2 <= b9) -> sh_f22_j3 Q b3 b4 v.tgt.Epoch l.epoch b9 0 w' := by
   intro w' b9 sa sb lo1 hi1 lo2 hi2 gw cb ha hb h9 hlo1 hlo2 hd h91 h92
   unfold sh_f22_j3
   have J4 : ∀ {st : Sl} {bs : List Bool} {lo hi : Nat}, OwnIn tBool 1 lo hi w' st bs -> bs.length = c.bal.length -> w7.heap.size <= lo -> (b9 < lo \/ hi <= b9) ->
     (∀ w'', Gr w7 w'' -> CellsAt w'' b9 0 (t_ledger_State.enc ⟨gl.Justify, gl.Epoch, sa, sb⟩) -> OwnIn tBool 1 lo hi w'' st (marks bs v.who) -> (∀ {s2 : Sl} {xs : List Bool} {lo' hi' : Nat}, hi' <= lo \/ hi <= lo' -> OwnIn tBool 1 lo' hi' w' s2 xs -> OwnIn tBool 1 lo' hi' w'' s2 xs) -> CanSt w'' b4 0 13 -> sh_f22_j6 Q b4 b9 0 w'') ->
     sh_f22_j4 Q b3 b4 b9 0 st w' := by
    intro st bs lo hi hst hbl hlo' h9' hend
    unfold sh_f22_j4
    refine ld_i (x := gv.Who) ((c3'.gr gw).sub 6 1) ?_
    have hwl : gv.Who.len = v.who.length := hv.who.1
    have hvl := hv.len
    have hlo7 : ∀ j, lo <= j /\ j < hi -> w7.heap.size <= j := fun j hj => by omega
    refine loop1 (sh_f22_b5 Q b4 b9 0 st gv.Who) (fun m i w'' => 0 <= i /\ i.toNat <= v.who.length /\ m = v.who.length - i.toNat /\ Keeps (fun j => lo <= j /\ j < hi) w' w'' /\ OwnIn tBool 1 lo hi w'' st (marks bs (v.who.take i.toNat)))
     ⟨_, by omega, by simp, rfl, Keeps.refl _ _, by simpa [marks] using hst⟩ ?_
    rintro m i w'' nxt ⟨h0, hi', rfl, kk, ho⟩ hn
    have gw'' : Gr w7 w'' := Gr.local gw kk fun j ej => hlo7 j ej
    have hvw : SlIs tI64 D2 w'' gv.Who v.who := hv.who.gr (G7.trans gw'')
    unfold sh_f22_b5
    rw [hwl]
    refine br_i (fun q => ?_) (fun q => ?_)
    ·have q := of_decide_eq_true q
     have hx' : i.toNat < v.who.length := by omega
     refine hvw.ixs 1 (fun _ => rfl) h0 hx' fun b o _ hcl => ld_i (x := v.who[i.toNat]) hcl ?_
     have hk := hwho _ (List.getElem_mem hx')
     have htk : v.who.take (i.toNat + 1) = v.who.take i.toNat ++ [v.who[i.toNat]] := (List.take_append_getElem hx').symm
     generalize v.who[i.toNat] = k at hk htk
     have hml := marks_length (v.who.take i.toNat) bs
     rcases ho.2.2 with hcap | ⟨bb, hba, hb1, hb2, hcc, hcn⟩
     ·have := ho.1; have := ho.2.1; omega
     ·have hlen := ho.1
      have hcapl := ho.2.1
      have hcs : CanSt w'' bb (0 + k.toNat * 1) 1 := by have := hcn.sub k.toNat 1 (by omega); simpa using this
      refine ⟨bb, 0, hba, hk.1, by omega, st_i hcs fun w3 e3 k3 cc3 => ?_⟩
      rw [wrap_i64 (n := i + 1) (by omega) (by omega)]
      have et : (i + 1).toNat = i.toNat + 1 := by omega
      refine hn (v.who.length - (i.toNat + 1)) _ _ (by omega) ⟨by omega, by omega, by rw [et], kk.trans (k3.mono fun j _ ej => by subst ej; exact ⟨hb1, hb2⟩), ?_⟩
      rw [et, htk, marks_snoc]
      refine ⟨by rw [List.length_set]; exact hlen, hcapl, .inr ⟨bb, hba, hb1, hb2, ?_, ?_⟩⟩
      ·rw [e3]; exact CellsAt.set (T := tBool) (sz := 1) (fun _ => rfl) (by omega) hcs hcc
      ·rw [e3]; exact canSt_putL hcn
    ·have q := of_decide_eq_false q
     have : i.toNat = v.who.length := by omega
     rw [this, List.take_length] at ho
     refine hend w'' gw'' (cb.keeps kk fun e => by omega) ho ?_ ((s4'.keeps gw fun f => f).keeps kk fun e => by omega)
     intro s2 xs lo' hi2' hdis hs2
     exact hs2.keeps kk fun j h1 h2 e => by omega
   have hfin : ∀ {w'' : World} {lb ln : List Bool}, Gr w7 w'' -> CellsAt w'' b9 0 (t_ledger_State.enc ⟨gl.Justify, gl.Epoch, sa, sb⟩) -> OwnIn tBool 1 lo1 hi1 w'' sa lb -> OwnIn tBool 1 lo2 hi2 w'' sb ln -> CanSt w'' b4 0 13 -> count c l v at_ = ⟨l.just, l.epoch, lb, ln⟩ -> sh_f22_j6 Q b4 b9 0 w'' := by
    intro w'' lb ln gw'' cc ha' hb' s4'' hcnt
    unfold sh_f22_j6
    refine ld_i cc (st_i s4'' fun w3 e3 k3 c3 => ld_i c3 ?_)
    rw [hcnt, hcy] at h
    have g3 : Gr w w3 := Gr.local (G7.trans gw'') k3 fun j ej => by subst ej; exact hb4
    refine h w3 _ g3 ⟨hl.just, hl.epoch, ?_, ?_⟩
    ·exact ((ha'.put k3 (by omega)).is).mono fun b hb => .inr (by have := G7.size; omega)
    ·exact ((hb'.put k3 (by omega)).is).mono fun b hb => .inr (by have := G7.size; omega)
   refine ld_i (x := sa) (cb.sub 11 1) (br_i (fun q => ?_) (fun q => ?_))
   ·refine ld_i (x := sb) (cb.sub 12 1) (J4 hb hlo.now hlo2 h92 fun w'' g'' c'' o'' ho s'' => ?_)
    refine hfin g'' c'' (ho (by omega) ha) o'' s'' ?_
    unfold count; rw [hcy, if_pos rfl, if_pos q]
   ·refine J4 ha hlo.before hlo1 h91 fun w'' g'' c'' o'' ho s'' => ?_
    refine hfin g'' c'' o'' (ho (by omega) hb) s'' ?_
    unfold count; rw [hcy, if_pos rfl, if_neg (by rw [q]; simp)]
  have cJ : ∀ {w'}, Gr w7 w' -> CellsAt w' b2 0 (t_justify_State.enc gl.Justify) /\ CellsAt w' b2 10 (tI64.enc gl.Epoch) /\ CellsAt w' b2 11 (tSl.enc gl.Before) /\ CellsAt w' b2 12 (tSl.enc gl.Now) := fun gw => ⟨(c2'.gr gw).sub 0 10, (c2'.gr gw).sub 10 1, (c2'.gr gw).sub 11 1, (c2'.gr gw).sub 12 1⟩
  have c0 := cJ (Gr.refl w7)
  refine ld_i c0.1 (ld_i c0.2.1 (ld_i c0.2.2.1 (ld_i c0.2.2.2 ⟨?_, ?_⟩)))
  ·refine app_copy (T := tBool) (fun _ => rfl) (fun y v hv => by simp at hv; subst hv; rfl) Nat.zero_lt_one hl7.before (by omega) fun s8 w8 g8 o8 => ⟨(cJ g8).1, (cJ g8).2.1, (cJ g8).2.2.2, ?_, ?_⟩
   ·refine app_copy (T := tBool) (fun _ => rfl) (fun y v hv => by simp at hv; subst hv; rfl) Nat.zero_lt_one (hl7.now.gr g8) (by omega) fun s9 w9 g9 o9 => ⟨(cJ (g8.trans g9)).1, (cJ (g8.trans g9)).2.1, al_i fun b10 w10 e10 g10 c10 s10 => ?_⟩
    have g810 := g8.trans (g9.trans g10)
    refine ⟨(cJ g810).1, (cJ g810).2.1, st_i s10 fun w11 e11 k11 c11 => ?_⟩
    have z8 := g8.size; have z9 := g9.size; have z10 := g10.size
    exact J3 (g810.local k11 fun j ej => by subst ej; omega) c11 ((o8.gr (g9.trans g10)).put k11 (by omega)) ((o9.gr g10).put k11 (by omega)) (by omega) (Nat.le_refl _) (by omega) (by omega) (by omega) (by omega)
   ·refine al_i fun b10 w10 e10 g10 c10 s10 => ⟨(cJ (g8.trans g10)).1, (cJ (g8.trans g10)).2.1, (cJ (g8.trans g10)).2.2.2, app_copy (T := tBool) (fun _ => rfl) (fun y v hv => by simp at hv; subst hv; rfl) Nat.zero_lt_one (hl7.now.gr (g8.trans g10)) (by omega) fun s9 w9 g9 o9 => ?_⟩
    have g810 := g8.trans (g10.trans g9)
    refine ⟨(cJ g810).1, (cJ g810).2.1, st_i (s10.keeps g9 fun f => f) fun w11 e11 k11 c11 => ?_⟩
    have z8 := g8.size; have z9 := g9.size; have z10 := g10.size
    have l10 : b10 < w10.heap.size := cell_lt c10.1
    exact J3 (g810.local k11 fun j ej => by subst ej; omega) c11 ((o8.gr (g10.trans g9)).put k11 (by omega)) (o9.put k11 (by omega)) (by omega) (Nat.le_refl _) (by omega) (by omega) (by omega) (by omega)
  ·refine al_i fun b10 w10 e10 g10 c10 s10 => ⟨(cJ g10).1, (cJ g10).2.1, (cJ g10).2.2.1, (cJ g10).2.2.2, app_copy (T := tBool) (fun _ => rfl) (fun y v hv => by simp at hv; subst hv; rfl) Nat.zero_lt_one (hl7.before.gr g10) (by omega) fun s8 w8 g8 o8 => ?_⟩
   have g108 := g10.trans g8
   refine ⟨(cJ g108).1, (cJ g108).2.1, (cJ g108).2.2.2, app_copy (T := tBool) (fun _ => rfl) (fun y v hv => by simp at hv; subst hv; rfl) Nat.zero_lt_one (hl7.now.gr g108) (by omega) fun s9 w9 g9 o9 => ?_⟩
   have g1089 := g108.trans g9
   refine ⟨(cJ g1089).1, (cJ g1089).2.1, st_i (s10.keeps (g8.trans g9) fun f => f) fun w11 e11 k11 c11 => ?_⟩
   have z8 := g8.size; have z9 := g9.size; have z10 := g10.size
   have l10 : b10 < w10.heap.size := cell_lt c10.1
   exact J3 (g1089.local k11 fun j ej => by subst ej; omega) c11 ((o8.gr g9).put k11 (by omega)) (o9.put k11 (by omega)) (by omega) (by omega) (by omega) (by omega) (by omega) (by omega)
 have main : ∀ {w'} (src : G_api_Point), src = (if v.tgt.Epoch == l.epoch then l.just.Current else l.just.Previous) -> Gr w4 w' -> CellsAt w' b5 0 (t_api_Point.enc src) -> sh_f22_j1 g Q b1 b2 b3 b4 v.tgt.Epoch l.epoch b5 w' := by
  intro w' src hsrc gw c5
  unfold sh_f22_j1
  refine dw_i fun w7 e7 g7 => ?_
  have gw7 := gw.trans g7
  have c1 := c1.gr gw7; have c2 := c2.gr gw7; have c3 := c3.gr gw7; have s4 := s4.keeps gw7 fun f => f
  replace c5 := c5.gr g7
  refine ld_i c1 (ld_i c3 (c_vote_Right (hc.gr (G.trans gw7)) (hv.gr (G.trans gw7)) fun w8 g8 => ⟨_, rfl, ?_⟩))
  have gw8 := gw7.trans g8
  replace c1 := c1.gr g8; replace c2 := c2.gr g8; replace c3 := c3.gr g8; replace s4 := s4.keeps g8 fun f => f; replace c5 := c5.gr g8
  refine br_i (fun q => no rfl (G.trans gw8) c2 s4 ?_) (fun q => ?_)
  ·have q : voteRight c v = false := by simpa using q
   unfold counts; rw [q]; rfl
  have q : voteRight c v = true := by simpa using q
  have hti := AStore.voteRight_tgt q
  have hi := hv.islot
  have hle := hlo.e0
  have hle1 := hlo.e1
  have hwr : ((IntKind.i64.wrap (v.tgt.Epoch + 1)) != l.epoch) = !(v.tgt.Epoch + 1 == l.epoch) := by
   have hiv : v.tgt.Epoch <= 9223372036854775807 := by have := hi.2; omega
   by_cases e : v.tgt.Epoch = 9223372036854775807
   ·rw [e]
    have h1 : IntKind.i64.wrap (9223372036854775807 + 1) = -9223372036854775808 := by decide
    rw [h1]
    have h2 : ((-9223372036854775808 : Int) != l.epoch) = true := by simp; omega
    have h3 : ((9223372036854775807 : Int) + 1 == l.epoch) = false := by simp; omega
    rw [h2, h3]; rfl
   ·rw [wrap_i64 (n := v.tgt.Epoch + 1) (by omega) (by omega)]; rfl
  have hpi := epochStart_tgt q hi
  have rest : (v.tgt.Epoch == l.epoch || v.tgt.Epoch + 1 == l.epoch) = true -> (ld t_api_Point w8 b3 2 fun x10 => ld t_api_Point w8 b5 0 fun x11 => br (!eq_api_Point x10 x11) ((sh_f22_j2 Q b2 b3 b4 v.tgt.Epoch l.epoch true w8)) (ld t_api_Point w8 b3 4 fun x12 => ld t_api_Config w8 b1 0 fun x13 => ld tI64 w8 b3 4 fun x14 =>
    CallsR PP n_f40 #[t_api_Config.val x13, .int .i64 x14, g.v] (fun v2 w11 => ∃ x15 : G_api_Point, v2 = t_api_Point.val x15 /\ (chk t_api_Point w11 b3 4 x12 <| (sh_f22_j2 Q b2 b3 b4 v.tgt.Epoch l.epoch (!eq_api_Point x12 x15) w11))) w8)) := by
   intro hE
   refine ld_i (ct c3).2.2 (ld_i c5 ?_)
   rw [eq_pt]
   refine br_i (fun q2 => no rfl (G.trans gw8) c2 s4 ?_) (fun q2 => ?_)
   ·have q2 : ptEq v.src src = false := by simpa using q2
    rw [hsrc] at q2
    unfold counts; rw [q2]; simp
   have q2 : ptEq v.src src = true := by simpa using q2
   refine ld_i (ct c3).2.1 (ld_i c1 (ld_i (ct c3).1 (c_ledger_point (hc.gr (G.trans gw8)) hpi (hg.gr (G.trans gw8)) fun w9 g9 => ⟨_, rfl, (ct (c3.gr g9)).2.1, ?_⟩)))
   rw [eq_pt]
   rw [hsrc] at q2
   have gw9 := gw8.trans g9
   cases hp : ptEq v.tgt (pointOf c v.tgt.Epoch at_) with
   | false =>
    refine no rfl (G.trans gw9) (c2.gr g9) (s4.keeps g9 fun f => f) ?_
    unfold counts; rw [hp]; simp
   | true =>
    refine yes gw9 (c2.gr g9) (c3.gr g9) (s4.keeps g9 fun f => f) ?_
    unfold counts; rw [hp, q2, hE, q]; rfl
  refine br_i (fun q1 => ?_) (fun q1 => ?_)
  ·have q1 : (v.tgt.Epoch == l.epoch) = false := by simpa using q1
   refine ld_i (ct c3).1 (ld_i (ce c2) ?_)
   rw [hwr]
   refine br_i (fun q2 => no rfl (G.trans gw8) c2 s4 ?_) (fun q2 => ?_)
   ·have q2 : (v.tgt.Epoch + 1 == l.epoch) = false := by simpa using q2
    unfold counts; rw [q1, q2]; simp
   ·exact rest (by rw [q1]; simpa using q2)
  ·have q1 : (v.tgt.Epoch == l.epoch) = true := by simpa using q1
   exact rest (by rw [q1]; rfl)
 refine br_i (fun q => ?_) (fun q => ?_)
 ·refine ld_i (cj (c2.gr g6)).2 (st_i s6 fun w7 e7 k7 c7 => ?_)
  exact main _ (by rw [if_pos q]) (Gr.local g6 k7 fun j ej => by subst ej; omega) c7
 ·exact main _ (by rw [if_neg (by rw [q]; simp)]) g6 c6
end Go.Proofs.Ytdefmgkicdhmkaa
namespace Go.Proofs.Ytdefmgkicdhmkaa
open Go Go.Sx
set_option linter.unusedVariables false
theorem cells_of_block {w : World} {g : Nat} {cur : Array Value} {e : TypeId} (hb : w.heap[g]? = some (.cells cur e (0, 0))) : ∀ {vs : List Value} {i : Nat}, (∀ j, j < vs.length -> cur[i + j]? = vs[j]?) -> CellsAt w g i vs
 | [], _, _ => trivial
 | v :: r, i, h => ⟨by have := h 0 (by simp); simp [World.cell?, hb] at this ⊢; exact this,
   cells_of_block hb fun j hj => by have := h (j + 1) (by simpa using hj); rw [show i + 1 + j = i + (j + 1) from by omega, this]; simp⟩
theorem can_of_block {w : World} {g : Nat} {cur : Array Value} {e : TypeId} (hb : w.heap[g]? = some (.cells cur e (0, 0))) : ∀ {n i : Nat}, i + n <= cur.size -> CanSt w g i n
 | 0, _, _ => trivial
 | n + 1, i, h => ⟨⟨cur[i]'(by omega), by simp [World.cell?, hb]⟩, by simp [World.frozen?, hb], can_of_block hb (by omega)⟩
theorem flatMap_encU : ∀ (ss : List Int), ss.flatMap tU64.enc = ss.map encU
 | [] => rfl
 | x :: r => by rw [List.flatMap_cons, flatMap_encU r]; rfl
theorem c_AppSeq {b1 r : Nat} {α : Type} {T : Ty α} {es : List (Int × α)} {Q : QW} {w : World} (hm : MapAt T w r es) (hc : w.cell? ⟨b1, 0, none⟩ = some (.map (some r))) (hl : es.length <= 1000000)
  (h : ∀ s w' ss, Gr w w' -> ss.Perm (es.map (·.1)) -> OwnS tU64 1 w.heap.size w' s ss -> Q (.slice s.a s.len s.cap) w') :
  CallsR PP n_f91 #[.slice none 0 0, .func (.func n_keysIter) #[] #[.pointer (some ⟨b1, 0, none⟩)]] Q w := by
 have hseq := keysU_gives layU Fence.wide 9 trivial rfl (by omega) b1 r es w (cell_lt hc) hc hm
 have h1 := appendSeqU_in layU Fence.wide 10 trivial rfl (by omega) n_keysIter #[.pointer (some ⟨b1, 0, none⟩)] trivial enters_keysIter _ _ (by unfold maxLen; omega) (by omega) w hseq
 have h2 := callsIn_wide.1 h1
 refine Calls.mono h2 ?_
 rintro e w' ⟨v, ss, rfl, hp, hrow, _, hb⟩
 have g : Gr w w' := ⟨hb.os, hb.tape, hb.output, hb.size, fun k hk _ => hb.block k hk⟩
 rcases hrow.2 with ⟨rfl, h0⟩ | ⟨gg, cap, cur, rfl, hbase, hgb, hle, hmx, hsz, htk⟩
 ·have : ss = [] := List.length_eq_zero_iff.1 h0
  subst this
  exact ⟨_, rfl, h nilSl w' [] g hp OwnS.nil⟩
 ·refine ⟨_, rfl, h ⟨some ⟨gg, 0, none⟩, ss.length, cap⟩ w' ss g hp ⟨rfl, hle, .inr ⟨gg, rfl, hbase, ?_, can_of_block hgb (by show 0 + cap * 1 <= cur.size; omega)⟩⟩⟩
  rw [flatMap_encU]
  refine cells_of_block hgb fun j hj => ?_
  rw [<- htk, Nat.zero_add, List.getElem?_take_of_lt (by rw [List.length_map] at hj; omega), Array.getElem?_toList]
theorem c_Sorted {b1 r : Nat} {α : Type} {T : Ty α} {es : List (Int × α)} {Q : QW} {w : World} (hm : MapAt T w r es) (hc : w.cell? ⟨b1, 0, none⟩ = some (.map (some r))) (hl : es.length <= 1000000)
  (h : ∀ s w', Gr w w' -> SlIs tU64 (w.heap.size <= ·) w' s ((es.map (·.1)).mergeSort fun x y => decide (x <= y)) -> Q (.slice s.a s.len s.cap) w') :
  CallsR PP n_f79 #[.func (.func n_keysIter) #[] #[.pointer (some ⟨b1, 0, none⟩)]] Q w := by
 refine so_f79 (a0 := Fv.mk n_keysIter [] [.pointer (some ⟨b1, 0, none⟩)]) _ _ ?_
 unfold sh_f79
 refine so_f87 (a0 := Fv.mk n_keysIter [] [.pointer (some ⟨b1, 0, none⟩)]) _ _ ?_
 unfold sh_f87
 refine c_AppSeq hm hc hl fun s w1 ss g1 hp ho => ⟨s, rfl, s, rfl, ?_⟩
 have hle : ss.length <= 1000000 := by have := hp.length_eq; rw [List.length_map] at this; omega
 have hsort : ss.mergeSort (fun x y => decide (x <= y)) = (es.map (·.1)).mergeSort fun x y => decide (x <= y) := mergeSort_of_perm_i hp
 by_cases hz : s.len = 0
 ·refine Suint64.c_Sort_none hz (h s w1 g1 ?_)
  have : ss = [] := by have := ho.1; exact List.length_eq_zero_iff.1 (by omega)
  rw [<- hsort]
  subst this
  simpa using ho.is
 ·rcases ho.2.2 with hcap | ⟨bb, hba, hbb, hcc, hcn⟩
  ·have := ho.2.1; omega
  ·have hl1 := ho.1
   have hrw : Suint64.Rw w1 s bb 0 ss.toArray := by
    refine ⟨hba, by simpa using hl1, by simpa using hcc, ?_, by simp; omega⟩
    have := hcn.sub 0 ss.length (by have := ho.2.1; omega)
    simpa using this
   have hbl : bb < w1.heap.size := by
    rcases hcn' : s.cap * 1 with _ | k
    ·have := ho.2.1; omega
    ·rw [hcn'] at hcn
     obtain ⟨v, hv⟩ := hcn.1
     exact cell_lt hv
   refine Suint64.c_Sort hrw hbl fun w2 d' k2 h2 hd' => ?_
   have hd' : d'.toList = (es.map (·.1)).mergeSort fun x y => decide (x <= y) := by rw [hd']; simpa using hsort
   refine h s w2 (Gr.local g1 k2 fun j e => by subst e; exact hbb) ⟨by rw [h2.len, <- hd']; simp, ho.2.1, .inr ⟨bb, 0, hba, hbb, ?_⟩⟩
   have := h2.cells; rw [hd'] at this; exact this
theorem c_tree_Roots {b r : Nat} {t : ATree} {Q : QW} {w : World} (ht : TreeAt w b r t) (hl : t.nodes.length <= 1024) (h : ∀ s w', Gr w w' -> SlIs tU64 (w.heap.size <= ·) w' s t.roots -> Q (.slice s.a s.len s.cap) w') :
  CallsR PP n_f67 #[.pointer (some ⟨b, 0, none⟩)] Q w := by
 refine so_f67 _ _ ?_
 unfold sh_f67
 refine ⟨b, 0, rfl, ld_i (x := some r) (ht.cells.sub 1 1) ?_⟩
 refine so_f80 _ _ ?_
 unfold sh_f80
 refine al_i fun b1 w1 e1 g1 c1 _ => ⟨Fv.mk n_keysIter [] [.pointer (some ⟨b1, 0, none⟩)], rfl, ?_⟩
 refine c_Sorted (ht.map.gr g1) c1.1 (by omega) fun s w2 g2 hs => ⟨s, rfl, h s w2 (g1.trans g2) (hs.mono fun j hj => ?_)⟩
 have := g1.size
 omega
theorem mput_new {α : Type} {k : Int} {x : α} : ∀ {es : List (Int × α)}, k ∉ es.map (·.1) -> mput es k x = es ++ [(k, x)]
 | [], _ => rfl
 | (k', x') :: r, h => by
  simp only [List.map_cons, List.mem_cons, not_or] at h
  simp only [mput, if_neg h.1, mput_new h.2, List.cons_append]
theorem mput_mapL {α : Type} {f : Int -> α} {k : Int} {x : α} : ∀ {l : List Int}, l.Nodup -> k ∈ l -> mput (l.map fun r => (r, f r)) k x = l.map fun r => (r, if r = k then x else f r)
 | y :: l, hn, hk => by
  simp only [List.map_cons, mput]
  by_cases e : k = y
  ·subst e
   rw [if_pos rfl]
   simp only [if_true]
   congr 1
   refine List.map_congr_left fun z hz => ?_
   rw [if_neg (show ¬ z = k from fun e => (List.nodup_cons.1 hn).1 (by rw [e] at hz; exact hz))]
  ·rw [if_neg e, if_neg (fun h => e h.symm), mput_mapL (List.nodup_cons.1 hn).2 ((List.mem_cons.1 hk).resolve_left e)]
theorem c_tree_Cut {b r : Nat} {t : ATree} {x : Int} {n : G_tree_node} {Q : QW} {w : World} (ht : TreeAt w b r t) (hwf : t.Wf) (hcan : CanSt w b 0 2) (hn : t.get x = some n)
  (h : ∀ s w' b2, Keeps (· = b) w w' -> w.heap.size <= b2 -> SlIs tU64 (w.heap.size <= ·) w' s (t.cut x).1 -> TreeAt w' b b2 (t.cut x).2 -> CanSt w' b 0 2 -> Q (.slice s.a s.len s.cap) w') :
  CallsR PP n_f62 #[.pointer (some ⟨b, 0, none⟩), .int .u64 x] Q w := by
 refine so_f62 _ _ ?_
 unfold sh_f62
 refine ⟨b, 0, rfl, c_tree_Has ht fun w1 g1 => ⟨_, rfl, ?_⟩⟩
 have hb : b < w.heap.size := by obtain ⟨⟨v, hv⟩, _⟩ := hcan; exact cell_lt hv
 refine br_f (by rw [ATree.has_iff.2 ⟨n, hn⟩]; rfl) (ld_i (x := some r) ((ht.gr g1).cells.sub 1 1) (lkp_i (ht.gr g1).map ?_))
 have hn' : mget t.nodes x = some n := hn
 rw [hn']
 refine mkm_i t_tree_node fun b2 w2 e2 g2 m2 => c_tree_Roots (ht.gr (g1.trans g2)) hwf.small fun s3 w3 g3 h3 => ⟨s3, rfl, ?_⟩
 have z1 := g1.size; have z2 := g2.size; have z3 := g3.size
 have l2 := m2.lt
 have G := g1.trans (g2.trans g3)
 have hroots : t.roots.length <= 1024 := by rw [ATree.roots_length]; exact hwf.small
 have hcut : t.cut x = (t.roots.filter fun r => !t.below r x, ⟨x, (t.roots.filter fun r => t.below r x).map fun r => (r, t.cutNode x n.height r)⟩) := by unfold ATree.cut; rw [hn]
 have hxx : t.below x x = true := (ATree.below_iff hwf).2 (.refl hn)
 have hh := fun {r m} => hwf.slot (r := r) (n := m)
 let pl : Int -> G_tree_node := fun r => ⟨((t.get r).getD ⟨0, 0, 0⟩).parent, ((t.get r).getD ⟨0, 0, 0⟩).slot, ((t.get r).getD ⟨0, 0, 0⟩).height - n.height⟩
 refine loop2 (sh_f62_b1 (some ⟨b, 0, none⟩) x Q b 0 (some n) b2 s3) (fun m o i w' => 0 <= i /\ i.toNat <= t.roots.length /\ m = t.roots.length - i.toNat /\ Keeps (· = b2) w3 w' /\ Gr w w' /\
   MapAt t_tree_node w' b2 (((t.roots.take i.toNat).filter fun r => t.below r x).map fun r => (r, pl r)) /\ OwnIn tU64 1 w3.heap.size w'.heap.size w' o ((t.roots.take i.toNat).filter fun r => !t.below r x))
  ⟨_, by omega, by simp, rfl, Keeps.refl _ _, G, by simpa using m2.gr g3, by simpa using OwnS.inn (OwnS.nil (T := tU64) (sz := 1) (base := w3.heap.size) (w := w3)) Nat.zero_lt_one⟩ ?_
 rintro m o i w4 nxt ⟨h0, hi, rfl, k4, G4, m4, o4⟩ hnx
 have z4 := k4.size
 unfold sh_f62_b1
 rw [h3.1]
 refine br_i (fun q => ?_) (fun q => ?_)
 ·have q := of_decide_eq_true q
  have hi' : i.toNat < t.roots.length := by omega
  have htk : t.roots.take (i.toNat + 1) = t.roots.take i.toNat ++ [t.roots[i.toNat]] := (List.take_append_getElem hi').symm
  have hmem : t.roots[i.toNat] ∈ t.roots := List.getElem_mem hi'
  have hnew : t.roots[i.toNat] ∉ t.roots.take i.toNat := by
   intro hm
   have hp := ATree.roots_rising hwf
   rw [<- List.take_append_drop (i.toNat + 1) t.roots, htk] at hp
   have hp := (List.pairwise_append.1 hp).1
   have := (List.pairwise_append.1 hp).2.2 _ hm t.roots[i.toNat] (by simp)
   omega
  have h34 : SlIs tU64 (w2.heap.size <= ·) w4 s3 t.roots := h3.keeps k4 fun j hj e => by subst e; omega
  refine h34.ixs 1 (fun _ => rfl) h0 hi' fun b3 o3 _ hcl => ld_i (x := t.roots[i.toNat]) hcl ?_
  generalize t.roots[i.toNat] = y at htk hmem hnew
  obtain ⟨ny, hny⟩ := ATree.has_iff.1 (ATree.mem_roots.1 hmem)
  have hny' : mget t.nodes y = some ny := hny
  have ht4 := ht.gr G4
  refine ld_i (x := some r) (ht4.cells.sub 1 1) (lkp_i ht4.map ?_)
  rw [hny']
  refine al_st rfl fun b5 w5 e5 g5 c5 s5 => c_tree_Below (ht4.gr g5) hwf fun w6 g6 => ⟨_, rfl, ?_⟩
  replace c5 : CellsAt w6 b5 0 (t_tree_node.enc ny) := c5.gr g6
  replace s5 : CanSt w6 b5 0 3 := s5.keeps g6 fun f => f
  have g46 := g5.trans g6
  have z5 := g5.size; have z6 := g6.size
  have et : (i + 1).toNat = i.toNat + 1 := by omega
  have next : ∀ o' w', Keeps (· = b2) w3 w' -> Gr w w' -> MapAt t_tree_node w' b2 (((t.roots.take (i.toNat + 1)).filter fun r => t.below r x).map fun r => (r, pl r)) -> OwnIn tU64 1 w3.heap.size w'.heap.size w' o' ((t.roots.take (i.toNat + 1)).filter fun r => !t.below r x) -> sh_f62_j2 i nxt o' w' := by
   intro o' w' k' G' m' ho'
   unfold sh_f62_j2
   rw [wrap_i64 (n := i + 1) (by omega) (by omega)]
   exact hnx _ _ _ _ (by omega) ⟨by omega, by omega, rfl, k', G', by rw [et]; exact m', by rw [et]; exact ho'⟩
  rw [htk] at next
  have hs1 := hwf.slot _ _ hny
  have hs2 := hwf.slot _ _ hn
  have mono : ∀ {w' hi hi' s xs}, OwnIn tU64 1 w3.heap.size hi w' s xs -> hi <= hi' -> OwnIn tU64 1 w3.heap.size hi' w' s xs := by
   intro w' hi hi' s xs ho hle
   refine ⟨ho.1, ho.2.1, ?_⟩
   rcases ho.2.2 with h | ⟨bb, h1, h2, h3, h4⟩
   ·exact .inl h
   ·exact .inr ⟨bb, h1, h2, by omega, h4⟩
  refine br_i (fun q1 => ?_) (fun q1 => ?_)
  ·refine ld_i (x := ny.height) (c5.sub 2 1) (st_i (s5.sub 2 1 (by omega)) fun w7 e7 k7 c7 => ?_)
   show ld t_tree_node w7 b5 0 _
   have hgetD : ((some n).getD (⟨0, 0, 0⟩ : G_tree_node)).height = n.height := rfl
   rw [hgetD, wrap_i64 (n := ny.height - n.height) (by omega) (by omega)] at c7 e7
   have c7' : CellsAt w7 b5 0 (t_tree_node.enc ⟨ny.parent, ny.slot, ny.height - n.height⟩) := by
    have : CellsAt w7 b5 0 [.int .u64 ny.parent, .int .i64 ny.slot] := by rw [e7]; exact CellsAt.put_other (.inl (by simp)) (c5.sub 0 2)
    exact ⟨this.1, this.2.1, c7.1, trivial⟩
   have hgl : Gr w4 w7 := Gr.local g46 k7 fun j ej => by subst ej; omega
   refine ld_i c7' (mset_i (m4.gr hgl) fun w8 k8 m8 => ?_)
   have z7 := hgl.size; have z8 := k8.size
   refine next o w8 (k4.trans ((Gr.keeps hgl).trans k8)) (Gr.local (G4.trans hgl) k8 fun j ej => by subst ej; omega) ?_ ?_
   ·rw [List.filter_append, List.filter_cons_of_pos (p := fun r => t.below r x) q1, List.filter_nil, List.map_append]
    have : y ∉ (((t.roots.take i.toNat).filter fun r => t.below r x).map fun r => (r, pl r)).map (·.1) := by
     intro hm
     simp only [List.map_map, List.mem_map, List.mem_filter] at hm
     obtain ⟨z, ⟨hz, _⟩, e⟩ := hm
     simp only [Function.comp] at e
     subst e; exact hnew hz
    rw [mput_new this] at m8
    have hpl : pl y = ⟨ny.parent, ny.slot, ny.height - n.height⟩ := by show (⟨((t.get y).getD ⟨0, 0, 0⟩).parent, ((t.get y).getD ⟨0, 0, 0⟩).slot, ((t.get y).getD ⟨0, 0, 0⟩).height - n.height⟩ : G_tree_node) = _; rw [hny]; rfl
    simp only [List.map_cons, List.map_nil, hpl]
    exact m8
   ·rw [List.filter_append, List.filter_cons_of_neg (by rw [q1]; simp), List.filter_nil, List.append_nil]
    exact mono ((o4.gr hgl).keeps k8 fun j h1 h2 e => by subst e; omega) (by omega)
  ·refine alr_i fun b7 w7 e7 g7 c7 s7 => ?_
   have z7 := g7.size
   have hl7 : SlIs tU64 (fun _ => True) w7 ⟨some ⟨b7, 0, none⟩, 1, 1⟩ [y] := ⟨rfl, Nat.le_refl _, .inr ⟨b7, 0, rfl, trivial, by simpa using c7⟩⟩
   have oS : OwnS tU64 1 w3.heap.size w7 o ((t.roots.take i.toNat).filter fun r => !t.below r x) := by
    have o7 := o4.gr (g46.trans g7)
    refine ⟨o7.1, o7.2.1, ?_⟩
    rcases o7.2.2 with h | ⟨bb, h1, h2, _, h4⟩
    ·exact .inl h
    ·exact .inr ⟨bb, h1, h2, h4⟩
   have hol : ((t.roots.take i.toNat).filter fun r => !t.below r x).length <= 1024 := Nat.le_trans (List.length_filter_le _ _) (by rw [List.length_take]; omega)
   refine oS.app (fun _ => rfl) (fun y v hv => by simp at hv; subst hv; rfl) hl7 (by omega) (by simp only [List.length_singleton]; omega) fun s' w8 k8 ho8 => ?_
   have g78 := g46.trans g7
   have z8 := k8.size
   refine next s' w8 (Keeps.local (k4.trans (Gr.keeps g78)) k8 fun j e => .inl e.1) (Gr.local (G4.trans g78) k8 fun j e => by have := e.1; omega) ?_ ?_
   ·rw [List.filter_append, List.filter_cons_of_neg (by rw [q1]; simp), List.filter_nil, List.append_nil]
    exact (m4.gr g78).keeps k8 fun e => by have := e.1; omega
   ·rw [List.filter_append, List.filter_cons_of_pos (by rw [q1]; rfl), List.filter_nil]
    exact OwnS.inn ho8 Nat.zero_lt_one
 ·have q := of_decide_eq_false q
  have : i.toNat = t.roots.length := by omega
  rw [this, List.take_length] at m4 o4
  unfold sh_f62_j3
  have hmem : x ∈ t.roots.filter fun r => t.below r x := List.mem_filter.2 ⟨ATree.mem_roots.2 (ATree.has_iff.2 ⟨n, hn⟩), hxx⟩
  have hnd : (t.roots.filter fun r => t.below r x).Nodup := List.Sublist.nodup List.filter_sublist (ATree.roots_nodup hwf)
  have hg : mget ((t.roots.filter fun r => t.below r x).map fun r => (r, pl r)) x = some (pl x) := by rw [ATree.mget_mapL, if_pos hmem]
  refine lkp_i m4 ?_
  rw [hg]
  have ht4 := ht.gr G4
  refine al_st rfl fun b6 w6 e6 g6 c6 s6 => st_i (s6.sub 0 1 (by show 0 + 1 <= 3; omega)) fun w7 e7 k7 c7 => ?_
  have z6 := g6.size
  have hgl : Gr w4 w7 := Gr.local g6 k7 fun j ej => by subst ej; omega
  have z7 := hgl.size
  have c7' : CellsAt w7 b6 0 (t_tree_node.enc ⟨x, (pl x).slot, (pl x).height⟩) := by
   have : CellsAt w7 b6 1 [.int .i64 (pl x).slot, .int .i64 (pl x).height] := by rw [e7]; exact CellsAt.put_other (.inr (by simp)) (c6.sub 1 2)
   exact ⟨c7.1, this⟩
  refine ld_i c7' (mset_i (m4.gr hgl) fun w8 k8 m8 => ?_)
  rw [mput_mapL hnd hmem] at m8
  have z8 := k8.size
  have G8 : Gr w w8 := Gr.local (G4.trans hgl) k8 fun j ej => by subst ej; omega
  have hc8 : CanSt w8 b 0 2 := hcan.keeps G8 fun f => f
  refine st_i (hc8.sub 0 1 (by omega)) fun w9 e9 k9 c9 => ?_
  have hc9 : CanSt w9 b 0 2 := by rw [e9]; exact canSt_putL hc8
  refine st_i (hc9.sub 1 1 (by omega)) fun w10 e10 k10 c10 => ?_
  have hc10 : CanSt w10 b 0 2 := by rw [e10]; exact canSt_putL hc9
  have k810 := k9.trans k10
  refine h o w10 b2 ((Gr.keeps G8).trans k810) (by omega) ?_ ⟨?_, ?_⟩ hc10
  ·rw [hcut]
   have := (((o4.gr hgl).keeps k8 fun j h1 h2 e => by subst e; omega).keeps k810 fun j h1 h2 e => by subst e; omega).is
   exact this.mono fun j hj => by omega
  ·rw [hcut]
   have : CellsAt w10 b 0 [.int .u64 x] := by rw [e10]; exact CellsAt.put_other (.inl (by simp)) c9
   exact ⟨this.1, c10⟩
  ·rw [hcut]
   have hm := m8.keeps k810 fun e => by omega
   have he : ((t.roots.filter fun r => t.below r x).map fun r => (r, if r = x then (⟨x, (pl x).slot, (pl x).height⟩ : G_tree_node) else pl r)) = (t.roots.filter fun r => t.below r x).map fun r => (r, t.cutNode x n.height r) := by
    refine List.map_congr_left fun z hz => ?_
    congr 1
    unfold ATree.cutNode
    by_cases e : z = x
    ·subst e; rw [if_pos rfl]; simp only [if_true]; rfl
    ·rw [if_neg e]; simp only [if_neg e]; rfl
   rw [he] at hm
   exact hm
end Go.Proofs.Ytdefmgkicdhmkaa
namespace Go.Proofs.Ytdefmgkicdhmkaa
open Go Go.Sx
set_option linter.unusedVariables false
def OwnP {α : Type} (T : Ty α) (sz : Nat) (D : Nat -> Prop) (w : World) (s : Sl) (xs : List α) : Prop :=
 s.len = xs.length /\ s.len <= s.cap /\ (s.cap = 0 \/ ∃ b, s.a = some ⟨b, 0, none⟩ /\ D b /\ CellsAt w b 0 (xs.flatMap T.enc) /\ CanSt w b 0 (s.cap * sz))
theorem OwnP.nil {α : Type} {T : Ty α} {sz : Nat} {D : Nat -> Prop} {w : World} : OwnP T sz D w nilSl [] := ⟨rfl, Nat.le_refl _, .inl rfl⟩
theorem OwnP.keeps {α : Type} {T : Ty α} {sz : Nat} {D S : Nat -> Prop} {w w' : World} {s : Sl} {xs : List α} (h : OwnP T sz D w s xs) (k : Keeps S w w') (hs : ∀ b, D b -> ¬ S b) : OwnP T sz D w' s xs := by
 refine ⟨h.1, h.2.1, ?_⟩
 rcases h.2.2 with h | ⟨b, ha, hd, hc, hn⟩
 ·exact .inl h
 ·exact .inr ⟨b, ha, hd, hc.keeps k (hs b hd), hn.keeps k (hs b hd)⟩
theorem OwnP.gr {α : Type} {T : Ty α} {sz : Nat} {D : Nat -> Prop} {w w' : World} {s : Sl} {xs : List α} (h : OwnP T sz D w s xs) (k : Gr w w') : OwnP T sz D w' s xs := h.keeps k fun _ _ f => f
theorem OwnP.mono {α : Type} {T : Ty α} {sz : Nat} {D D' : Nat -> Prop} {w : World} {s : Sl} {xs : List α} (h : OwnP T sz D w s xs) (hd : ∀ b, D b -> D' b) : OwnP T sz D' w s xs := by
 refine ⟨h.1, h.2.1, ?_⟩
 rcases h.2.2 with h | ⟨b, ha, hd', hc, hn⟩
 ·exact .inl h
 ·exact .inr ⟨b, ha, hd b hd', hc, hn⟩
theorem OwnP.is {α : Type} {T : Ty α} {sz : Nat} {D : Nat -> Prop} {w : World} {s : Sl} {xs : List α} (h : OwnP T sz D w s xs) : SlIs T D w s xs := by
 refine ⟨h.1, h.2.1, ?_⟩
 rcases h.2.2 with h' | ⟨b, ha, hd, hc, _⟩
 ·left; have := h.1; have := h.2.1; exact List.length_eq_zero_iff.1 (by omega)
 ·exact .inr ⟨b, 0, ha, hd, hc⟩
theorem OwnP.bound {α : Type} {T : Ty α} {sz : Nat} {D : Nat -> Prop} {w : World} {s : Sl} {xs : List α} (h : OwnP T sz D w s xs) (h0 : 0 < sz) : OwnP T sz (fun b => D b /\ b < w.heap.size) w s xs := by
 refine ⟨h.1, h.2.1, ?_⟩
 rcases h.2.2 with h' | ⟨b, ha, hd, hc, hn⟩
 ·exact .inl h'
 ·by_cases e : s.cap = 0
  ·exact .inl e
  ·refine .inr ⟨b, ha, ⟨hd, ?_⟩, hc, hn⟩
   have : s.cap * sz ≠ 0 := Nat.mul_ne_zero e (by omega)
   obtain ⟨k, hk⟩ := Nat.exists_eq_succ_of_ne_zero this
   rw [hk] at hn
   obtain ⟨⟨v, hv⟩, _⟩ := hn
   exact cell_lt hv
theorem OwnP.app {α : Type} {T : Ty α} {sz by' : Nat} {e : TypeId} {w : World} {s r : Sl} {xs ys : List α} {K : Sl -> World -> Prop} {D D' : Nat -> Prop} (hz : ∀ x, (T.enc x).length = sz) (hp : ∀ x, ∀ v ∈ T.enc x, plain v = true)
  (h : OwnP T sz D w s xs) (hr : SlIs T D' w r ys) (hcap : (xs.length + ys.length) * 4 * (by' + 1) <= 2 ^ 47)
  (k : ∀ s' w', Keeps D w w' -> OwnP T sz (fun b => D b \/ b = w.heap.size) w' s' (xs ++ ys) -> K s' w') : app e sz by' w s r K := by
 refine ⟨xs.flatMap T.enc, ys.flatMap T.enc, h.is.cells hz, hr.cells hz, ?_, ?_, by rw [h.1, hr.1]; exact hcap, ?_⟩
 ·intro v hv
  obtain ⟨x, _, hx⟩ := List.mem_flatMap.1 hv
  exact hp x v hx
 ·intro hle
  rcases h.2.2 with hc | ⟨b, ha, _, _, hn⟩
  ·left
   have : r.len = 0 := by omega
   rw [this, Nat.zero_mul]
  ·refine .inr (.inr ⟨b, 0, ha, ?_⟩)
   refine hn.sub (s.len * sz) (r.len * sz) ?_
   rw [<- Nat.add_mul]
   exact Nat.mul_le_mul_right _ hle
 ·have hlen : (xs ++ ys).length = s.len + r.len := by rw [List.length_append, h.1, hr.1]
  rintro s' w' (⟨hle, rfl, hw⟩ | ⟨hgt, cap', rest, hle, hrest, rfl, rfl⟩)
  ·rcases h.2.2 with hc | ⟨b, ha, hd, hcc, hn⟩
   ·have hy : ys = [] := List.length_eq_zero_iff.1 (by have := hr.1; omega)
    subst hy
    have hw' : w' = w := by
     rcases hw with ⟨_, h⟩ | ⟨_, h⟩ | ⟨b, o, _, h⟩
     ·exact h
     ·exact h
     ·simpa [putL] using h
    subst hw'
    exact k _ _ (Keeps.refl _ _) ⟨hlen.symm, hle, .inl hc⟩
   ·have hw' : w' = putL w b (s.len * sz) (ys.flatMap T.enc) := by
     rcases hw with ⟨hy, h⟩ | ⟨h0, _⟩ | ⟨b', o', ha', h⟩
     ·rw [hy]; exact h
     ·rw [ha] at h0; cases h0
     ·rw [ha] at ha'; injection ha' with ha'; injection ha' with e1 e2; subst e1 e2; simpa using h
    have hyl : (ys.flatMap T.enc).length = r.len * sz := by rw [flatMap_len hz, hr.1]
    have hxl : (xs.flatMap T.enc).length = s.len * sz := by rw [flatMap_len hz, h.1]
    have hcn : CanSt w b (s.len * sz) (ys.flatMap T.enc).length := by
     have := hn.sub (s.len * sz) (ys.flatMap T.enc).length (by rw [hyl, <- Nat.add_mul]; exact Nat.mul_le_mul_right _ hle)
     simpa using this
    subst hw'
    refine k _ _ ((Keeps.putL _ _ _ _).mono fun i _ e => by subst e; exact hd) ⟨hlen.symm, hle, .inr ⟨b, ha, .inl hd, ?_, canSt_putL hn⟩⟩
    rw [List.flatMap_append, CellsAt.append, hxl, Nat.zero_add]
    exact ⟨CellsAt.put_other (.inl (by rw [hxl]; omega)) hcc, CellsAt.put hcn⟩
  ·refine k _ _ (((Gr.refl w).drew'.alloc _).keeps) ⟨hlen.symm, hle, .inr ⟨w.heap.size, rfl, .inr rfl, ?_, ?_⟩⟩
   ·refine CellsAt.new' (w := w.drew) fun j hj => ?_
    rw [<- List.flatMap_append]
    simp only [Nat.zero_add, List.getElem?_toArray]
    rw [List.getElem?_append_left hj]
   ·refine CanSt.new (w := w.drew) ?_
    simp only [List.size_toArray, List.length_append, flatMap_len hz, hrest, Nat.zero_add]
    rw [<- h.1, <- hr.1, <- Nat.add_mul, <- Nat.add_mul]
    exact Nat.mul_le_mul_right _ (by omega)
def LedsIs (I : Nat -> Prop) (w : World) : List (Int × G_ledger_State) -> List (Int × ALed) -> Prop
 | [], [] => True
 | p :: r, q :: s => p.1 = q.1 /\ LedIs I w p.2 q.2 /\ LedsIs I w r s
 | _, _ => False
theorem LedsIs.imp {I I' : Nat -> Prop} {w w' : World} (h : ∀ {g l}, LedIs I w g l -> LedIs I' w' g l) : ∀ {gl : List (Int × G_ledger_State)} {ls : List (Int × ALed)}, LedsIs I w gl ls -> LedsIs I' w' gl ls
 | [], [], _ => trivial
 | p :: r, q :: s, hh => ⟨hh.1, h hh.2.1, LedsIs.imp h hh.2.2⟩
theorem LedsIs.keeps {I S : Nat -> Prop} {w w' : World} {gl : List (Int × G_ledger_State)} {ls : List (Int × ALed)} (h : LedsIs I w gl ls) (k : Keeps S w w') (hs : ∀ b, I b -> ¬ S b) : LedsIs I w' gl ls := h.imp fun h => h.keeps k hs
theorem LedsIs.gr {I : Nat -> Prop} {w w' : World} {gl : List (Int × G_ledger_State)} {ls : List (Int × ALed)} (h : LedsIs I w gl ls) (k : Gr w w') : LedsIs I w' gl ls := h.imp fun h => h.gr k
theorem LedsIs.mono {I I' : Nat -> Prop} {w : World} {gl : List (Int × G_ledger_State)} {ls : List (Int × ALed)} (h : LedsIs I w gl ls) (hd : ∀ b, I b -> I' b) : LedsIs I' w gl ls := h.imp fun h => h.mono hd
theorem LedsIs.get {I : Nat -> Prop} {w : World} {k : Int} {l : ALed} : ∀ {gl : List (Int × G_ledger_State)} {ls : List (Int × ALed)}, LedsIs I w gl ls -> mget ls k = some l -> ∃ g, mget gl k = some g /\ LedIs I w g l
 | [], [], _, h => by simp [mget] at h
 | (k', g) :: r, (j, l') :: s, hh, h => by
  have e : k' = j := hh.1
  subst e
  simp only [mget] at h ⊢
  by_cases e : k = k'
  ·rw [if_pos e] at h ⊢
   injection h with h; subst h
   exact ⟨g, rfl, hh.2.1⟩
  ·rw [if_neg e] at h ⊢
   exact LedsIs.get hh.2.2 h
theorem LedsIs.put {I : Nat -> Prop} {w : World} {k : Int} {g : G_ledger_State} {l : ALed} (hl : LedIs I w g l) : ∀ {gl : List (Int × G_ledger_State)} {ls : List (Int × ALed)}, LedsIs I w gl ls -> LedsIs I w (mput gl k g) (mput ls k l)
 | [], [], _ => ⟨rfl, hl, trivial⟩
 | (k', g') :: r, (j, l') :: s, hh => by
  have e : k' = j := hh.1
  subst e
  simp only [mput]
  split
  ·exact ⟨rfl, hl, hh.2.2⟩
  ·exact ⟨rfl, hh.2.1, LedsIs.put hl hh.2.2⟩
theorem LedsIs.del {I : Nat -> Prop} {w : World} {k : Int} : ∀ {gl : List (Int × G_ledger_State)} {ls : List (Int × ALed)}, LedsIs I w gl ls -> LedsIs I w (mdel gl k) (mdel ls k)
 | [], [], _ => trivial
 | (k', g') :: r, (j, l') :: s, hh => by
  have e : k' = j := hh.1
  subst e
  simp only [mdel]
  split
  ·exact hh.2.2
  ·exact ⟨rfl, hh.2.1, LedsIs.del hh.2.2⟩
abbrev Dis (sb tb tr vb lr gr : Nat) : Prop :=
 sb ≠ tb /\ sb ≠ tr /\ sb ≠ vb /\ sb ≠ lr /\ sb ≠ gr /\ tb ≠ tr /\ tb ≠ vb /\ tb ≠ lr /\ tb ≠ gr /\ tr ≠ vb /\ tr ≠ lr /\ tr ≠ gr /\ vb ≠ lr /\ vb ≠ gr /\ lr ≠ gr
abbrev Free (O I : Nat -> Prop) (sb tb tr vb lr gr : Nat) (b : Nat) : Prop := O b /\ b ≠ sb /\ b ≠ tb /\ b ≠ tr /\ b ≠ vb /\ b ≠ lr /\ b ≠ gr /\ ¬ I b
structure StRep (w : World) (sb : Nat) (O : Nat -> Prop) (g : G_store_Store) (tb tr vb lr gr : Nat) (gl : List (Int × G_ledger_State)) (I : Nat -> Prop) (A : AStore) (cs : List G_store_Change) : Prop where
 cells : CellsAt w sb 0 (t_store_Store.enc g)
 can : CanSt w sb 0 14
 ptree : g.Tree = some ⟨tb, 0, none⟩
 tree : TreeAt w tb tr A.tree
 tcan : CanSt w tb 0 2
 votes : VotesAt w g.Votes vb A.votes
 slot : g.Slot = A.slot
 boosted : g.Boosted = A.boosted
 just : g.Justified = A.just
 fin : g.Final = A.fin
 pleds : g.ledgers = some lr
 leds : MapAt t_ledger_State w lr gl
 lis : LedsIs I w gl A.leds
 pgone : g.gone = some gr
 gone : MapAt tBool w gr A.gone
 cfg : CfgIs I w g.Config A.cfg
 chg : OwnP t_store_Change 6 (Free O I sb tb tr vb lr gr) w g.changes cs
 inO : O sb /\ O tb /\ O tr /\ O vb /\ O lr /\ O gr
 dis : Dis sb tb tr vb lr gr
 nI : ¬ I sb /\ ¬ I tb /\ ¬ I tr /\ ¬ I vb /\ ¬ I lr /\ ¬ I gr
 iOk : ∀ b, I b -> ¬ O b /\ b < w.heap.size
 lt : ∀ b, O b -> b < w.heap.size
def StoreAt (w : World) (sb : Nat) (O I : Nat -> Prop) (A : AStore) (cs : List G_store_Change) : Prop := ∃ g tb tr vb lr gr gl, StRep w sb O g tb tr vb lr gr gl I A cs
theorem StRep.gr {w w' : World} {sb : Nat} {O : Nat -> Prop} {g : G_store_Store} {tb tr vb lr gr : Nat} {gl : List (Int × G_ledger_State)} {I : Nat -> Prop} {A : AStore} {cs : List G_store_Change} (h : StRep w sb O g tb tr vb lr gr gl I A cs) {S : Nat -> Prop} (k : Keeps S w w') (hs : ∀ b, O b \/ I b -> ¬ S b) :
  StRep w' sb O g tb tr vb lr gr gl I A cs := by
 obtain ⟨o1, o2, o3, o4, o5, o6⟩ := h.inO
 exact { h with cells := h.cells.keeps k (hs _ (.inl o1)), can := h.can.keeps k (hs _ (.inl o1)), tree := h.tree.keeps k (hs _ (.inl o2)) (hs _ (.inl o3)), tcan := h.tcan.keeps k (hs _ (.inl o2)), votes := h.votes.keeps k (hs _ (.inl o4)), leds := h.leds.keeps k (hs _ (.inl o5)), lis := h.lis.keeps k fun b hb => hs b (.inr hb), gone := h.gone.keeps k (hs _ (.inl o6)), cfg := h.cfg.keeps k fun b hb => hs b (.inr hb), chg := h.chg.keeps k fun b hb => hs b (.inl hb.1), iOk := fun b hb => ⟨(h.iOk b hb).1, Nat.lt_of_lt_of_le (h.iOk b hb).2 k.size⟩, lt := fun b hb => Nat.lt_of_lt_of_le (h.lt b hb) k.size }
theorem StoreAt.keeps {w w' : World} {sb : Nat} {O I : Nat -> Prop} {A : AStore} {cs : List G_store_Change} (h : StoreAt w sb O I A cs) {S : Nat -> Prop} (k : Keeps S w w') (hs : ∀ b, O b \/ I b -> ¬ S b) : StoreAt w' sb O I A cs := by
 obtain ⟨g, tb, tr, vb, lr, gr, gl, h⟩ := h
 exact ⟨g, tb, tr, vb, lr, gr, gl, h.gr k hs⟩
theorem StoreAt.grow {w w' : World} {sb : Nat} {O I : Nat -> Prop} {A : AStore} {cs : List G_store_Change} (h : StoreAt w sb O I A cs) (k : Gr w w') : StoreAt w' sb O I A cs := h.keeps k fun _ _ f => f
theorem StoreAt.inO {w : World} {sb : Nat} {O I : Nat -> Prop} {A : AStore} {cs : List G_store_Change} (h : StoreAt w sb O I A cs) : O sb := by obtain ⟨g, tb, tr, vb, lr, gr, gl, h⟩ := h; exact h.inO.1
theorem StoreAt.lt {w : World} {sb : Nat} {O I : Nat -> Prop} {A : AStore} {cs : List G_store_Change} (h : StoreAt w sb O I A cs) : ∀ b, O b -> b < w.heap.size := by obtain ⟨g, tb, tr, vb, lr, gr, gl, h⟩ := h; exact h.lt
abbrev Grew (O O' : Nat -> Prop) (w w' : World) : Prop := Keeps O w w' /\ ∀ b, O' b -> O b \/ w.heap.size <= b
theorem Grew.refl (O : Nat -> Prop) (w : World) : Grew O O w w := ⟨Keeps.refl _ _, fun _ h => .inl h⟩
theorem Grew.trans {O O' O'' : Nat -> Prop} {w w' w'' : World} (h : Grew O O' w w') (k : Grew O' O'' w' w'') : Grew O O'' w w'' :=
 ⟨Keeps.local h.1 k.1 fun b hb => (h.2 b hb).symm, fun b hb => by
  rcases k.2 b hb with h1 | h1
  ·exact h.2 b h1
  ·exact .inr (Nat.le_trans h.1.size h1)⟩
theorem Grew.gr {O : Nat -> Prop} {w w' : World} (h : Gr w w') : Grew O O w w' := ⟨Gr.keeps h, fun _ h => .inl h⟩
theorem Grew.out {O O' D : Nat -> Prop} {w w' : World} (h : Grew O O' w w') (hd : ∀ b, D b -> ¬ O b) : ∀ b, (D b /\ b < w.heap.size) -> ¬ O' b := fun b hb ho => by
 rcases h.2 b ho with h1 | h1
 ·exact hd b hb.1 h1
 ·have := hb.2; omega
theorem StRep.set {w w' : World} {sb : Nat} {O : Nat -> Prop} {g g' : G_store_Store} {tb tr vb lr gr : Nat} {gl : List (Int × G_ledger_State)} {I : Nat -> Prop} {A A' : AStore} {cs : List G_store_Change} (h : StRep w sb O g tb tr vb lr gr gl I A cs) (k : Keeps (· = sb) w w')
  (hc : CellsAt w' sb 0 (t_store_Store.enc g')) (hn : CanSt w' sb 0 14) (e1 : g'.Config = g.Config) (e2 : g'.Tree = g.Tree) (e3 : g'.Votes = g.Votes) (e4 : g'.ledgers = g.ledgers) (e5 : g'.gone = g.gone) (e6 : g'.changes = g.changes)
  (a1 : A'.cfg = A.cfg) (a2 : A'.tree = A.tree) (a3 : A'.votes = A.votes) (a4 : A'.leds = A.leds) (a5 : A'.gone = A.gone) (f1 : g'.Slot = A'.slot) (f2 : g'.Boosted = A'.boosted) (f3 : g'.Justified = A'.just) (f4 : g'.Final = A'.fin) :
  StRep w' sb O g' tb tr vb lr gr gl I A' cs := by
 obtain ⟨d1, d2, d3, d4, d5, _⟩ := h.dis
 exact { cells := hc, can := hn, ptree := e2.trans h.ptree, tree := by rw [a2]; exact h.tree.keeps k (Ne.symm d1) (Ne.symm d2), tcan := h.tcan.keeps k (Ne.symm d1), votes := by rw [a3, e3]; exact h.votes.keeps k (Ne.symm d3), slot := f1, boosted := f2, just := f3, fin := f4, pleds := e4.trans h.pleds, leds := h.leds.keeps k (Ne.symm d4), lis := by rw [a4]; exact h.lis.keeps k fun b hb e => h.nI.1 (e ▸ hb), pgone := e5.trans h.pgone, gone := by rw [a5]; exact h.gone.keeps k (Ne.symm d5), cfg := by rw [a1, e1]; exact h.cfg.keeps k fun b hb e => h.nI.1 (e ▸ hb), chg := by rw [e6]; exact h.chg.keeps k fun b hb e => hb.2.1 e, inO := h.inO, dis := h.dis, nI := h.nI, iOk := fun b hb => ⟨(h.iOk b hb).1, Nat.lt_of_lt_of_le (h.iOk b hb).2 k.size⟩, lt := fun b hb => Nat.lt_of_lt_of_le (h.lt b hb) k.size }
theorem put_part {w : World} {sb : Nat} {us ms vs ts : List Value} (hc : CellsAt w sb 0 (us ++ ms ++ ts)) (hn : CanSt w sb 0 14) (hl : us.length + vs.length + ts.length = 14) (hm : ms.length = vs.length) : CellsAt (putL w sb us.length vs) sb 0 (us ++ vs ++ ts) := by
 rw [List.append_assoc, CellsAt.append, CellsAt.append] at hc
 rw [List.append_assoc, CellsAt.append, CellsAt.append]
 simp only [Nat.zero_add] at hc ⊢
 refine ⟨CellsAt.put_other (.inl (by omega)) hc.1, CellsAt.put ?_, CellsAt.put_other (.inr (by omega)) (by rw [hm] at hc; exact hc.2.2)⟩
 have := hn.sub us.length vs.length (by omega)
 simpa using this
theorem c_tick {w : World} {sb : Nat} {O I : Nat -> Prop} {A : AStore} {cs : List G_store_Change} {x : Int} {Q : QW} (hs : StoreAt w sb O I A cs)
  (h : ∀ w', Grew O O w w' -> StoreAt w' sb O I (A.tick x) cs -> Q (if A.tickErr x = 0 then .nilIface else .iface i_api_Errno (.int .i64 (A.tickErr x))) w') :
  CallsR PP n_f32 #[.pointer (some ⟨sb, 0, none⟩), .int .i64 x] Q w := by
 refine so_f32 _ _ ?_
 unfold sh_f32
 obtain ⟨g, tb, tr, vb, lr, gr, gl, r⟩ := hs
 refine ⟨sb, 0, rfl, ld_i (x := g.Slot) (r.cells.sub 5 1) ?_⟩
 rw [r.slot]
 unfold AStore.tick AStore.tickErr at h
 refine br_i (fun q => ?_) (fun q => ?_)
 ·have q := of_decide_eq_true q
  have := h w (Grew.refl _ _)
  rw [if_pos q, if_neg (by decide), if_neg (by decide)] at this
  exact this ⟨g, tb, tr, vb, lr, gr, gl, r⟩
 ·have q := of_decide_eq_false q
  rw [if_neg q] at h
  refine br_i (fun q2 => ?_) (fun q2 => ?_)
  ·have q2 := of_decide_eq_true q2
   have := h w (Grew.refl _ _)
   rw [if_pos q2, if_neg (by decide), if_neg (by decide)] at this
   exact this ⟨g, tb, tr, vb, lr, gr, gl, r⟩
  ·have q2 := of_decide_eq_false q2
   rw [if_neg q2, if_pos rfl] at h
   refine st_i (r.can.sub 5 1 (by omega)) fun w1 e1 k1 c1 => ?_
   have n1 : CanSt w1 sb 0 14 := by rw [e1]; exact canSt_putL r.can
   refine st_i (n1.sub 6 1 (by omega)) fun w2 e2 k2 c2 => ?_
   have n2 : CanSt w2 sb 0 14 := by rw [e2]; exact canSt_putL n1
   have p1 : CellsAt w1 sb 0 (t_store_Store.enc { g with Slot := x }) := by
    rw [e1]
    exact put_part (us := (t_store_Store.enc g).take 5) (ms := [.int .i64 g.Slot]) (vs := [.int .i64 x]) (ts := (t_store_Store.enc g).drop 6) r.cells r.can rfl rfl
   have p2 : CellsAt w2 sb 0 (t_store_Store.enc { g with Slot := x, Boosted := 0 }) := by
    rw [e2]
    exact put_part (us := (t_store_Store.enc { g with Slot := x }).take 6) (ms := [.int .u64 g.Boosted]) (vs := [.int .u64 0]) (ts := (t_store_Store.enc { g with Slot := x }).drop 7) p1 n1 rfl rfl
   exact h w2 ⟨(k1.trans k2).mono fun b _ e => by subst e; exact r.inO.1, fun _ h => .inl h⟩ ⟨{ g with Slot := x, Boosted := 0 }, tb, tr, vb, lr, gr, gl, r.set (k1.trans k2) p2 n2 rfl rfl rfl rfl rfl rfl rfl rfl rfl rfl rfl rfl rfl r.just r.fin⟩
end Go.Proofs.Ytdefmgkicdhmkaa
namespace Go.Proofs.Ytdefmgkicdhmkaa
open Go Go.Sx
set_option linter.unusedVariables false
theorem chg_plain (x : G_store_Change) : ∀ v ∈ t_store_Change.enc x, plain v = true := by
 intro v hv
 simp at hv
 rcases hv with rfl | rfl | rfl | rfl | rfl | rfl <;> rfl
theorem st_push {w : World} {sb : Nat} {O : Nat -> Prop} {g : G_store_Store} {tb tr vb lr gr : Nat} {gl : List (Int × G_ledger_State)} {I : Nat -> Prop} {A : AStore} {cs : List G_store_Change} {x : G_store_Change} {b4 : Nat} {e : TypeId} {K : World -> Prop} (r : StRep w sb O g tb tr vb lr gr gl I A cs)
    (hl : cs.length <= 2000000) (c4 : CellsAt w b4 0 (t_store_Change.enc x)) (h : ∀ w' O', Grew O O' w w' -> StoreAt w' sb O' I A (cs ++ [x]) -> K w') :
    app e 6 48 w g.changes (Sl.mk (some ⟨b4, 0, none⟩) 1 1) fun s w1 => st tSl w1 sb 13 s fun w2 => K w2 := by
  have hl4 : SlIs t_store_Change (fun _ => True) w ⟨some ⟨b4, 0, none⟩, 1, 1⟩ [x] := ⟨rfl, Nat.le_refl _, .inr ⟨b4, 0, rfl, trivial, by simpa using c4⟩⟩
  refine r.chg.app (fun _ => rfl) chg_plain hl4 (by simp only [List.length_singleton]; omega) fun s w1 k1 o1 => ?_
  obtain ⟨d1, d2, d3, d4, d5, d6, d7, d8, d9, d10, d11, d12, d13, d14, d15⟩ := r.dis
  obtain ⟨i1, i2, i3, i4, i5, i6⟩ := r.inO
  have z1 := k1.size
  have c1 : CellsAt w1 sb 0 (t_store_Store.enc g) := r.cells.keeps k1 fun e => e.2.1 rfl
  have n1 : CanSt w1 sb 0 14 := r.can.keeps k1 fun e => e.2.1 rfl
  refine st_i (n1.sub 13 1 (by omega)) fun w2 e2 k2 c2 => ?_
  have n2 : CanSt w2 sb 0 14 := by rw [e2]; exact canSt_putL n1
  have p2 : CellsAt w2 sb 0 (t_store_Store.enc { g with changes := s }) := by
    rw [e2]
    exact put_part (us := (t_store_Store.enc g).take 13) (ms := tSl.enc g.changes) (vs := tSl.enc s) (ts := []) c1 n1 rfl rfl
  have z2 := k2.size
  have K12 : Keeps (fun b => Free O I sb tb tr vb lr gr b \/ b = sb) w w2 := (k1.mono fun _ _ h => .inl h).trans (k2.mono fun _ _ h => .inr h)
  have hlt := r.lt
  refine h w2 (fun b => O b \/ (b = w.heap.size /\ b < w2.heap.size)) ⟨K12.mono fun b _ hb => ?_, fun b hb => ?_⟩ ⟨{ g with changes := s }, tb, tr, vb, lr, gr, gl, ?_⟩
  · rcases hb with hb | rfl
    · exact hb.1
    · exact i1
  · rcases hb with hb | hb
    · exact .inl hb
    · exact .inr (by omega)
  · have nf : ∀ {b}, (b = tb \/ b = tr \/ b = vb \/ b = lr \/ b = gr) -> ¬ (Free O I sb tb tr vb lr gr b \/ b = sb) := by
      intro b hb hf
      rcases hf with hf | hf
      · have := hf.2; omega
      · omega
    have nI : ∀ b, I b -> ¬ (Free O I sb tb tr vb lr gr b \/ b = sb) := by
      intro b hb hf
      rcases hf with hf | rfl
      · exact hf.2.2.2.2.2.2.2 hb
      · exact r.nI.1 hb
    have hsz : ∀ b, O b -> b ≠ w.heap.size := fun b hb => by have := hlt b hb; omega
    exact { cells := p2, can := n2, ptree := r.ptree, tree := r.tree.keeps K12 (nf (by omega)) (nf (by omega)), tcan := r.tcan.keeps K12 (nf (by omega)), votes := r.votes.keeps K12 (nf (by omega)), slot := r.slot, boosted := r.boosted, just := r.just, fin := r.fin, pleds := r.pleds,
            leds := r.leds.keeps K12 (nf (by omega)), lis := r.lis.keeps K12 nI, pgone := r.pgone, gone := r.gone.keeps K12 (nf (by omega)), cfg := r.cfg.keeps K12 nI,
            chg := ((o1.bound (by decide)).keeps k2 fun b hb e => by
              subst e
              rcases hb.1 with hb | hb
              · exact hb.2.1 rfl
              · exact hsz _ i1 hb).mono fun b hb => by
                rcases hb with ⟨hb | hb, hb2⟩
                · exact ⟨.inl hb.1, hb.2⟩
                · have := hsz _ i1; have := hsz _ i2; have := hsz _ i3; have := hsz _ i4; have := hsz _ i5; have := hsz _ i6
                  exact ⟨.inr ⟨hb, by omega⟩, by omega, by omega, by omega, by omega, by omega, by omega, fun hI => by have := (r.iOk b hI).2; omega⟩,
            inO := ⟨.inl i1, .inl i2, .inl i3, .inl i4, .inl i5, .inl i6⟩, dis := r.dis, nI := r.nI, iOk := fun b hb => ⟨fun ho => ho.elim (r.iOk b hb).1 fun e => by have := (r.iOk b hb).2; omega, by have := (r.iOk b hb).2; omega⟩,
            lt := fun b hb => by
              rcases hb with hb | hb
              · have := hlt b hb; omega
              · exact hb.2 }
theorem takeAll_le {epoch head : Int} : ∀ (who : List Int) (vs : List G_latest_Entry), (takeAll epoch head who vs).1.length <= who.length
 | [], _ => by simp [takeAll]
 | k :: r, vs => by
  have := takeAll_le (epoch := epoch) (head := head) r (ltake vs k epoch head)
  simp only [takeAll, List.length_append, List.length_cons]
  split <;> simp <;> omega
theorem banAll_le : ∀ (who : List Int) (vs : List G_latest_Entry), (banAll who vs).1.length <= who.length
 | [], _ => by simp [banAll]
 | k :: r, vs => by
  have := banAll_le r (lban vs k)
  simp only [banAll, List.length_append, List.length_cons]
  split <;> simp <;> omega
theorem StRep.votes' {w w' : World} {sb : Nat} {O : Nat -> Prop} {g : G_store_Store} {tb tr vb lr gr : Nat} {gl : List (Int × G_ledger_State)} {I : Nat -> Prop} {A : AStore} {cs : List G_store_Change} {vs : List G_latest_Entry} (r : StRep w sb O g tb tr vb lr gr gl I A cs) (k : Keeps (· = vb) w w') (hv : VotesAt w' g.Votes vb vs) :
  StRep w' sb O g tb tr vb lr gr gl I { A with votes := vs } cs := by
 obtain ⟨d1, d2, d3, d4, d5, d6, d7, d8, d9, d10, d11, d12, d13, d14, d15⟩ := r.dis
 exact { cells := r.cells.keeps k d3, can := r.can.keeps k d3, ptree := r.ptree, tree := r.tree.keeps k d7 d10.symm.symm, tcan := r.tcan.keeps k d7, votes := hv, slot := r.slot, boosted := r.boosted, just := r.just, fin := r.fin, pleds := r.pleds, leds := r.leds.keeps k (Ne.symm d13), lis := r.lis.keeps k fun b hb e => r.nI.2.2.2.1 (e ▸ hb), pgone := r.pgone, gone := r.gone.keeps k (Ne.symm d14), cfg := r.cfg.keeps k fun b hb e => r.nI.2.2.2.1 (e ▸ hb), chg := r.chg.keeps k fun b hb e => hb.2.2.2.2.1 e, inO := r.inO, dis := r.dis, nI := r.nI, iOk := fun b hb => ⟨(r.iOk b hb).1, Nat.lt_of_lt_of_le (r.iOk b hb).2 k.size⟩, lt := fun b hb => Nat.lt_of_lt_of_le (r.lt b hb) k.size }
theorem SlIs.bnd {α : Type} {T : Ty α} {D : Nat -> Prop} {w : World} {s : Sl} {xs : List α} (sz : Nat) (hz : ∀ x, (T.enc x).length = sz) (h0 : 0 < sz) (h : SlIs T D w s xs) : SlIs T (fun b => D b /\ b < w.heap.size) w s xs := SlIs.bound hz h0 h
theorem c_attest {w : World} {sb : Nat} {O I D : Nat -> Prop} {A : AStore} {cs : List G_store_Change} {gv : G_api_Vote} {v : AVote} {inside : Bool} {Q : QW} (hs : StoreAt w sb O I A cs) (hw : A.Wf) (hcs : cs.length <= 1000000) (hv : VoteIs D w gv v) (hD : ∀ b, D b -> ¬ O b)
  (h : ∀ w' O', Grew O O' w w' -> StoreAt w' sb O' I (A.attest v inside).2 (cs ++ (A.attest v inside).1) -> Q (if A.attErr v inside = 0 then .nilIface else .iface i_api_Errno (.int .i64 (A.attErr v inside))) w') :
  CallsR PP n_f34 #[.pointer (some ⟨sb, 0, none⟩), t_api_Vote.val gv, .bool inside] Q w := by
 refine so_f34 _ _ ?_
 unfold sh_f34
 have hslots := AStore.mayCfg_slots hw.may
 have hslot := hw.slot
 refine ⟨sb, 0, rfl, al_i fun b2 w1 e1 g1 c1 _ => dw_i fun w2 e2 g2 => ?_⟩
 have G := g1.trans g2
 have z1 := g1.size; have z2 := g2.size
 have l2 : b2 < w1.heap.size := cell_lt c1.1
 have cv := c1.gr g2
 have no2 : ¬ O b2 := fun ho => by have := hs.lt _ ho; omega
 have hs2 := hs.grow G
 have hv2 := hv.gr G
 clear c1 e1 e2
 obtain ⟨g, tb, tr, vb, lr, gr, gl, r⟩ := hs2
 have no : ∀ {k : Int} {w'}, Gr w2 w' -> A.attErr v inside = k -> k ≠ 0 -> Q (.iface i_api_Errno (.int .i64 k)) w' := by
  intro k w' g' hk h0
  have := h w' O (Grew.gr (G.trans g'))
  have ha : A.attest v inside = ([], A) := by unfold AStore.attest; rw [hk, if_neg h0]
  rw [ha, hk, if_neg h0, List.append_nil] at this
  exact this (hs.grow (G.trans g'))
 have cs' : ∀ {w'}, Gr w2 w' -> StRep w' sb O g tb tr vb lr gr gl I A cs := fun g' => r.gr g' fun _ _ f => f
 refine ld_i (x := g.Tree) (r.cells.sub 3 1) (ld_i (x := gv.Head) (cv.sub 1 1) ?_)
 rw [r.ptree, hv.head]
 refine c_tree_Get r.tree fun w3 nn hnn g3 => ⟨_, _, _, _, rfl, dw_i fun w4 e4 g4 => ?_⟩
 have g24 := g3.trans g4
 have r4 := cs' g24
 refine ld_i (x := g.Slot) (r4.cells.sub 5 1) (ld_i (x := g.Config.Slots) (r4.cells.sub 1 1) ?_)
 rw [r.slot, r.cfg.slots]
 refine c_epoch_Of (by unfold I64; omega) ⟨_, rfl, dw_i fun w5 e5 g5 => ?_⟩
 have g25 := g24.trans g5
 have r5 := cs' g25
 refine ld_i (x := g.Config) (r5.cells.sub 0 3) (ld_i (x := gv) (cv.gr g25) (c_vote_Right r5.cfg (hv2.gr g25) fun w6 g6 => ⟨_, rfl, br_i (fun q => ?_) (fun q => ?_)⟩))
 ·have q : voteRight A.cfg v = false := by simpa using q
  exact no (g25.trans g6) (by unfold AStore.attErr; rw [q]; rfl) (by decide)
 have q1 : voteRight A.cfg v = true := by simpa using q
 obtain ⟨v0, v1, v2, v3⟩ := AStore.voteRight_tgt q1
 refine dw_i fun w7 e7 g7 => ?_
 have g27 := g25.trans (g6.trans g7)
 have r7 := cs' g27
 have cv7 := cv.gr g27
 have rs7 := r7.cells.sub 5 1
 refine ld_i (x := gv.Slot) (cv7.sub 0 1) (ld_i (x := g.Slot) rs7 ?_)
 rw [hv.slot, r.slot]
 have E1 : ¬ (v.slot > A.slot \/ (inside = false /\ v.slot = A.slot)) -> A.attErr v inside = (if inside = false /\ v.tgt.Epoch + 1 < A.now then 3
   else if !A.tree.has v.head \/ ((A.tree.get v.head).getD ⟨0, 0, 0⟩).slot > v.slot then 10
   else if A.tree.atS v.head (epochStart v.tgt.Epoch A.cfg.slots) ≠ v.tgt.Root then 9 else 0) := by
  intro hc; unfold AStore.attErr; rw [q1, if_neg (by simp), if_neg hc]
 have J1t : (v.slot > A.slot \/ (inside = false /\ v.slot = A.slot)) -> sh_f34_j1 inside Q sb 0 b2 nn.slot (A.tree.has v.head) (epochOf A.slot A.cfg.slots) true w7 := by
  intro hc
  unfold sh_f34_j1
  refine br_t rfl (no g27 (by unfold AStore.attErr; rw [q1, if_neg (by simp), if_pos hc]) (by decide))
 have J3 : A.attErr v inside = (if !A.tree.has v.head \/ ((A.tree.get v.head).getD ⟨0, 0, 0⟩).slot > v.slot then 10 else if A.tree.atS v.head (epochStart v.tgt.Epoch A.cfg.slots) ≠ v.tgt.Root then 9 else 0) -> v.slot <= A.slot ->
   ∀ x, (x = true ↔ (!A.tree.has v.head) = true \/ ((A.tree.get v.head).getD ⟨0, 0, 0⟩).slot > v.slot) -> sh_f34_j3 Q sb 0 b2 x w7 := by
  intro hE hle x hx
  unfold sh_f34_j3
  refine br_i (fun q => no g27 (by rw [hE, if_pos (hx.1 q)]) (by decide)) (fun q => ?_)
  have hx' : ¬ ((!A.tree.has v.head) = true \/ ((A.tree.get v.head).getD ⟨0, 0, 0⟩).slot > v.slot) := fun e => by rw [hx.2 e] at q; cases q
  rw [if_neg hx'] at hE
  refine dw_i fun w8 e8 g8 => ?_
  have g28 := g27.trans g8
  have r8 := cs' g28
  have cv8 := cv.gr g28
  have ct : ∀ {w'}, Gr w2 w' -> CellsAt w' b2 1 (tU64.enc v.head) /\ CellsAt w' b2 4 (tI64.enc v.tgt.Epoch) /\ CellsAt w' b2 5 (tU64.enc v.tgt.Root) := fun g' => by
   rw [<- hv.head, <- hv.tgt]; exact ⟨(cv.gr g').sub 1 1, (cv.gr g').sub 4 1, (cv.gr g').sub 5 1⟩
  have cT : ∀ {w'}, Gr w2 w' -> CellsAt w' sb 3 (tPtr.enc (some ⟨tb, 0, none⟩)) := fun g' => by rw [<- r.ptree]; exact (cs' g').cells.sub 3 1
  refine ld_i (cT g28) (ld_i (ct g28).1 (ld_i (ct g28).2.1 (ld_i (x := g.Config.Slots) (r8.cells.sub 1 1) (ld_i (ct g28).2.2 ?_))))
  rw [r.cfg.slots]
  refine c_epoch_Start (epochStart_i64 (by omega) ⟨hslots.1, hslots.2.1⟩) ⟨_, rfl, cT g28, (ct g28).1, (ct g28).2.2, c_tree_At r8.tree hw.tree fun w9 g9 => ⟨_, rfl, ?_⟩⟩
  have g29 := g28.trans g9
  refine ⟨(ct g29).2.2, br_i (fun q => ?_) (fun q => ?_)⟩
  ·have q : A.tree.atS v.head (epochStart v.tgt.Epoch A.cfg.slots) ≠ v.tgt.Root := by simpa using q
   exact no g29 (by rw [hE, if_pos q]) (by decide)
  have q : ¬ A.tree.atS v.head (epochStart v.tgt.Epoch A.cfg.slots) ≠ v.tgt.Root := by simpa using q
  rw [if_neg q] at hE
  have ha : A.attest v inside = ((takeAll v.tgt.Epoch v.head v.who A.votes).1, { A with votes := (takeAll v.tgt.Epoch v.head v.who A.votes).2 }) := by unfold AStore.attest; rw [hE, if_pos rfl]
  rw [ha, hE, if_pos rfl] at h
  simp only at h
  have r9 := cs' g29
  have z9 := g29.size
  have hwb : SlIs tI64 (fun b => D b /\ b < w.heap.size) w9 gv.Who v.who := (SlIs.bnd 1 (fun _ => rfl) (by decide) hv.who).gr (G.trans g29)
  have hrise : v.who.length <= 4096 := by
   have hr : rising A.cfg.bal.length none v.who = true := by
    unfold voteRight at q1; simp only [Bool.and_eq_true] at q1; exact q1.2
   obtain ⟨p1, p2, _⟩ := rising_sorted hr
   have key : ∀ (l : List Int) (k : Int), l.Pairwise (· < ·) -> (∀ x ∈ l, k <= x /\ x < A.cfg.bal.length) -> (l.length : Int) <= max 0 (A.cfg.bal.length - k) := by
    intro l
    induction l with
    | nil => intro k _ _; simp; omega
    | cons x l ihl =>
     intro k hp hx
     have hp' := List.pairwise_cons.1 hp
     have := ihl (x + 1) hp'.2 fun y hy => ⟨by have := hp'.1 y hy; omega, (hx y (by simp [hy])).2⟩
     have := hx x (by simp)
     simp only [List.length_cons]
     omega
   have := key v.who 0 p1 p2
   omega
  refine ld_i (x := gv.Who) ((cv.gr g29).sub 6 1) ?_
  have hwl : gv.Who.len = v.who.length := hv.who.1
  refine loop1 (sh_f34_b4 Q sb 0 b2 gv.Who) (fun m i w' => 0 <= i /\ i.toNat <= v.who.length /\ m = v.who.length - i.toNat /\ ∃ O' c' vs', Grew O O' w9 w' /\ StoreAt w' sb O' I { A with votes := vs' } (cs ++ c') /\ c'.length <= i.toNat /\
    takeAll v.tgt.Epoch v.head v.who A.votes = (c' ++ (takeAll v.tgt.Epoch v.head (v.who.drop i.toNat) vs').1, (takeAll v.tgt.Epoch v.head (v.who.drop i.toNat) vs').2))
   ⟨_, by omega, by simp, rfl, O, [], A.votes, Grew.refl _ _, ⟨g, tb, tr, vb, lr, gr, gl, by simpa using r9⟩, by simp, by simp⟩ ?_
  rintro m i w' nxt ⟨h0, hi, rfl, O', c', vs', hg, hst, hcl, htk⟩ hn
  have hz' := hg.1.size
  have no2' : ¬ O' b2 := fun ho => by
   rcases hg.2 _ ho with h1 | h1
   ·exact no2 h1
   ·omega
  have cvk : CellsAt w' b2 0 (t_api_Vote.enc gv) := (cv.gr g29).keeps hg.1 no2
  have hwk := hwb.keeps hg.1 fun b hb => hD b hb.1
  unfold sh_f34_b4
  rw [hwl]
  refine br_i (fun q => ?_) (fun q => ?_)
  ·have q := of_decide_eq_true q
   have hi' : i.toNat < v.who.length := by omega
   rw [List.drop_eq_getElem_cons hi'] at htk
   refine hwk.ixs 1 (fun _ => rfl) h0 hi' fun b o _ hcell => ld_i (x := v.who[i.toNat]) hcell ?_
   generalize v.who[i.toNat] = k at htk
   obtain ⟨g', tb', tr', vb', lr', gr', gl', r'⟩ := hst
   refine ld_i (x := g'.Votes) (r'.cells.sub 4 1) (c_latest_Get r'.votes.is ⟨_, _, rfl, dw_i fun w10 e10 g10 => ?_⟩)
   have r10 := r'.gr g10 fun _ _ f => f
   have ct : ∀ {w'}, CellsAt w' b2 0 (t_api_Vote.enc gv) -> CellsAt w' b2 1 (tU64.enc v.head) /\ CellsAt w' b2 4 (tI64.enc v.tgt.Epoch) := fun hc => by
    rw [<- hv.head, <- hv.tgt]; exact ⟨hc.sub 1 1, hc.sub 4 1⟩
   have cv10 := cvk.gr g10
   refine ld_i (x := g'.Votes) (r10.cells.sub 4 1) (ld_i (ct cv10).2 (ld_i (ct cv10).1 (c_latest_Take r10.votes fun w11 k11 hv11 => ⟨_, rfl, ?_⟩)))
   have r11 := r10.votes' k11 hv11
   simp only [takeAll] at htk
   have et : (i + 1).toNat = i.toNat + 1 := by omega
   have hg11 : Grew O O' w9 w11 := hg.trans ⟨(Gr.keeps g10).trans (k11.mono fun b _ e => by subst e; exact r'.inO.2.2.2.1), fun _ h => .inl h⟩
   have next : ∀ w'' O'' c'', Grew O O'' w9 w'' -> StoreAt w'' sb O'' I { A with votes := ltake vs' k v.tgt.Epoch v.head } (cs ++ c'') -> c''.length <= i.toNat + 1 -> takeAll v.tgt.Epoch v.head v.who A.votes = (c'' ++ (takeAll v.tgt.Epoch v.head (v.who.drop (i.toNat + 1)) (ltake vs' k v.tgt.Epoch v.head)).1, (takeAll v.tgt.Epoch v.head (v.who.drop (i.toNat + 1)) (ltake vs' k v.tgt.Epoch v.head)).2) -> sh_f34_j5 i nxt w'' := by
    intro w'' O'' c'' hg'' hst'' hl'' htk''
    unfold sh_f34_j5
    rw [wrap_i64 (n := i + 1) (by omega) (by omega)]
    exact hn _ _ _ (by omega) ⟨by omega, by omega, rfl, O'', c'', _, hg'', hst'', by omega, by rw [et]; exact htk''⟩
   refine br_i (fun q2 => ?_) (fun q2 => ?_)
   ·rw [if_pos q2] at htk
    refine dw_i fun w12 e12 g12 => ?_
    have r12 := r11.gr g12 fun _ _ f => f
    have cv12 : CellsAt w12 b2 0 (t_api_Vote.enc gv) := (cv10.keeps k11 fun e => no2' (by rw [e]; exact r'.inO.2.2.2.1)).gr g12
    refine ld_i (x := g'.changes) (r12.cells.sub 13 1) (ld_i (ct cv12).1 (alr_i fun b13 w13 e13 g13 c13 s13 => ⟨(r12.gr g13 fun _ _ f => f).cells.sub 13 1, ?_⟩))
    have r13 := r12.gr g13 fun _ _ f => f
    refine st_push r13 (by simp only [List.length_append]; omega) c13 fun w14 O'' hg14 hst14 => ?_
    refine next w14 O'' (c' ++ [⟨1, v.head, 0, k, (lget vs' k).1, (lget vs' k).2⟩]) ((hg11.trans (Grew.gr (g12.trans g13))).trans hg14) (by rw [<- List.append_assoc]; exact hst14) (by simp; omega) ?_
    rw [htk]; simp
   ·rw [if_neg (by rw [q2]; simp)] at htk
    exact next w11 O' c' hg11 ⟨g', tb', tr', vb', lr', gr', gl', r11⟩ (by omega) (by rw [htk]; simp)
  ·have q := of_decide_eq_false q
   rw [List.drop_eq_nil_of_le (by omega)] at htk
   simp only [takeAll, List.append_nil] at htk
   unfold sh_f34_j6
   refine h w' O' ((Grew.gr (G.trans g29)).trans hg) ?_
   rw [htk]; exact hst
 have J2 : v.slot <= A.slot -> A.attErr v inside = (if inside = false /\ v.tgt.Epoch + 1 < A.now then 3
   else if !A.tree.has v.head \/ ((A.tree.get v.head).getD ⟨0, 0, 0⟩).slot > v.slot then 10
   else if A.tree.atS v.head (epochStart v.tgt.Epoch A.cfg.slots) ≠ v.tgt.Root then 9 else 0) -> ∀ x, (x = true ↔ inside = false /\ v.tgt.Epoch + 1 < A.now) -> sh_f34_j2 Q sb 0 b2 nn.slot (A.tree.has v.head) x w7 := by
  intro hle hE x hx
  unfold sh_f34_j2
  refine br_i (fun q => no g27 (by rw [hE, if_pos (hx.1 q)]) (by decide)) (fun q => ?_)
  rw [if_neg (fun e => by rw [hx.2 e] at q; cases q)] at hE
  refine br_i (fun q2 => ?_) (fun q2 => ?_)
  ·exact J3 hE hle true ⟨fun _ => .inl q2, fun _ => rfl⟩
  ·refine ld_i (x := gv.Slot) (cv7.sub 0 1) ?_
   rw [hv.slot]
   refine J3 hE hle _ ?_
   rw [decide_eq_true_eq, hnn]
   exact ⟨.inr, fun e => e.resolve_left (by rw [q2]; simp)⟩
 have J1f : v.slot <= A.slot -> ¬ (v.slot > A.slot \/ (inside = false /\ v.slot = A.slot)) -> sh_f34_j1 inside Q sb 0 b2 nn.slot (A.tree.has v.head) (epochOf A.slot A.cfg.slots) false w7 := by
  intro hle hc
  unfold sh_f34_j1
  refine br_f rfl (br_i (fun q => ?_) (fun q => ?_))
  ·have q : inside = false := by simpa using q
   have : CellsAt w7 b2 4 (tI64.enc v.tgt.Epoch) := by rw [<- hv.tgt]; exact cv7.sub 4 1
   refine ld_i this ?_
   rw [wrap_i64 (n := v.tgt.Epoch + 1) (by omega) (by omega)]
   refine J2 hle (E1 hc) _ ?_
   rw [decide_eq_true_eq]
   exact ⟨fun e => ⟨q, e⟩, fun e => e.2⟩
  ·have q : inside = true := by simpa using q
   refine J2 hle (E1 hc) false ⟨fun e => (by cases e), fun e => (by rw [q] at e; cases e.1)⟩
 refine br_i (fun q => ?_) (fun q => ?_)
 ·have q := of_decide_eq_true q
  exact J1t (.inl q)
 have q := of_decide_eq_false q
 refine br_i (fun q2 => ?_) (fun q2 => ?_)
 ·have q2 : inside = false := by simpa using q2
  refine ld_i (x := gv.Slot) (cv7.sub 0 1) (ld_i (x := g.Slot) rs7 ?_)
  rw [hv.slot, r.slot]
  cases hb : (v.slot == A.slot) with
  | true => exact J1t (.inr ⟨q2, by simpa using hb⟩)
  | false =>
   have hb : ¬ v.slot = A.slot := by simpa using hb
   exact J1f (by omega) (fun e => e.elim (fun e => q e) fun e => hb e.2)
 ·have q2 : inside = true := by simpa using q2
  exact J1f (by omega) (fun e => e.elim (fun e => q e) fun e => (by rw [q2] at e; cases e.1))
end Go.Proofs.Ytdefmgkicdhmkaa
namespace Go.Proofs.Ytdefmgkicdhmkaa
open Go Go.Sx
set_option linter.unusedVariables false
theorem rising_len {n : Nat} {l : List Int} (h : rising n none l = true) : l.length <= n := by
 obtain ⟨p1, p2, _⟩ := rising_sorted h
 have key : ∀ (l : List Int) (k : Int), l.Pairwise (· < ·) -> (∀ x ∈ l, k <= x /\ x < n) -> (l.length : Int) <= max 0 (n - k) := by
  intro l
  induction l with
  | nil => intro k _ _; simp; omega
  | cons x l ihl =>
   intro k hp hx
   have hp' := List.pairwise_cons.1 hp
   have := ihl (x + 1) hp'.2 fun y hy => ⟨by have := hp'.1 y hy; omega, (hx y (by simp [hy])).2⟩
   have := hx x (by simp)
   simp only [List.length_cons]
   omega
 have := key l 0 p1 p2
 omega
theorem proofWho_len {c : ACfg} {p : AProof} : ((proofWho c p).getD []).length <= c.bal.length := by
 unfold proofWho
 split
 ·rename_i hc
  simp only [Bool.and_eq_true] at hc
  have hr := hc.1.1.1
  unfold voteRight at hr
  simp only [Bool.and_eq_true] at hr
  have := rising_len hr.2
  simp only [Option.getD_some]
  exact Nat.le_trans (List.length_filter_le _ _) this
 ·simp
def errV (k : Int) : Ifc := if k = 0 then .nil else .mk i_api_Errno (.int .i64 k)
theorem errV_v (k : Int) : (errV k).v = if k = 0 then .nilIface else .iface i_api_Errno (.int .i64 k) := by
 unfold errV; split <;> rfl
theorem errV_nil (k : Int) : (errV k).isNil = decide (k = 0) := by
 unfold errV
 by_cases h : k = 0
 ·rw [if_pos h]; simp [h, Ifc.isNil]
 ·rw [if_neg h]; simp [h, Ifc.isNil]
theorem c_slash {w : World} {sb : Nat} {O I D : Nat -> Prop} {A : AStore} {cs : List G_store_Change} {gp : G_api_Proof} {p : AProof} {Q : QW} (hs : StoreAt w sb O I A cs) (hw : A.Wf) (hcs : cs.length <= 1000000) (ha : VoteIs D w gp.A p.a) (hb : VoteIs D w gp.B p.b)
  (h : ∀ w' O', Grew O O' w w' -> StoreAt w' sb O' I (A.slash p).2 (cs ++ (A.slash p).1) -> Q (errV (A.slashErr p)).v w') :
  CallsR PP n_f35 #[.pointer (some ⟨sb, 0, none⟩), t_api_Proof.val gp] Q w := by
 refine so_f35 _ _ ?_
 unfold sh_f35
 have hbl := hw.bal.1
 refine ⟨sb, 0, rfl, al_i fun b2 w1 e1 g1 c1 _ => dw_i fun w2 e2 g2 => ?_⟩
 have G := g1.trans g2
 have cp := c1.gr g2
 have hs2 := hs.grow G
 obtain ⟨g, tb, tr, vb, lr, gr, gl, r⟩ := hs2
 refine ld_i (x := g.Config) (r.cells.sub 0 3) (ld_i (x := gp) cp (c_slash_Who r.cfg (by omega) (ha.gr G) (hb.gr G) fun s w3 g3 hwho => ⟨s, errV (A.slashErr p), ?_, ?_⟩))
 ·rw [errV_v]
  unfold AStore.slashErr
  cases (proofWho A.cfg p).isSome <;> rfl
 have hq : ∀ {w'}, sh_f35_j3 Q (errV (A.slashErr p)) w' = Q (errV (A.slashErr p)).v w' := rfl
 have hlen := proofWho_len (c := A.cfg) (p := p)
 unfold AStore.slash at h
 simp only at h
 have z2 := G.size; have z3 := g3.size
 have r3 := r.gr g3 fun _ _ f => f
 generalize (proofWho A.cfg p).getD [] = who at h hwho hlen
 have hwb : SlIs tI64 (fun b => w2.heap.size <= b /\ b < w3.heap.size) w3 s who := SlIs.bnd 1 (fun _ => rfl) (by decide) hwho
 have hout : ∀ b, w2.heap.size <= b /\ b < w3.heap.size -> ¬ O b := fun b hb ho => by have := r.lt b ho; omega
 refine loop1 (sh_f35_b1 Q sb 0 s (errV (A.slashErr p))) (fun m i w' => 0 <= i /\ i.toNat <= who.length /\ m = who.length - i.toNat /\ ∃ O' c' vs', Grew O O' w3 w' /\ StoreAt w' sb O' I { A with votes := vs' } (cs ++ c') /\ c'.length <= i.toNat /\
   banAll who A.votes = (c' ++ (banAll (who.drop i.toNat) vs').1, (banAll (who.drop i.toNat) vs').2))
  ⟨_, by omega, by simp, rfl, O, [], A.votes, Grew.refl _ _, ⟨g, tb, tr, vb, lr, gr, gl, by simpa using r3⟩, by simp, by simp⟩ ?_
 rintro m i w' nxt ⟨h0, hi, rfl, O', c', vs', hg, hst, hcl, htk⟩ hn
 have hwk := hwb.keeps hg.1 hout
 unfold sh_f35_b1
 rw [hwho.1]
 refine br_i (fun q => ?_) (fun q => ?_)
 ·have q := of_decide_eq_true q
  have hi' : i.toNat < who.length := by omega
  rw [List.drop_eq_getElem_cons hi'] at htk
  refine hwk.ixs 1 (fun _ => rfl) h0 hi' fun b o _ hcell => ld_i (x := who[i.toNat]) hcell ?_
  generalize who[i.toNat] = k at htk
  obtain ⟨g', tb', tr', vb', lr', gr', gl', r'⟩ := hst
  refine ld_i (x := g'.Votes) (r'.cells.sub 4 1) (c_latest_Get r'.votes.is ⟨_, _, rfl, ?_⟩)
  refine ld_i (x := g'.Votes) (r'.cells.sub 4 1) (c_latest_Ban r'.votes fun w11 k11 hv11 => ⟨_, rfl, ?_⟩)
  have r11 := r'.votes' k11 hv11
  simp only [banAll] at htk
  have et : (i + 1).toNat = i.toNat + 1 := by omega
  have hg11 : Grew O O' w3 w11 := hg.trans ⟨k11.mono fun b _ e => by subst e; exact r'.inO.2.2.2.1, fun _ h => .inl h⟩
  have next : ∀ w'' O'' c'', Grew O O'' w3 w'' -> StoreAt w'' sb O'' I { A with votes := lban vs' k } (cs ++ c'') -> c''.length <= i.toNat + 1 -> banAll who A.votes = (c'' ++ (banAll (who.drop (i.toNat + 1)) (lban vs' k)).1, (banAll (who.drop (i.toNat + 1)) (lban vs' k)).2) -> sh_f35_j2 i nxt w'' := by
   intro w'' O'' c'' hg'' hst'' hl'' htk''
   unfold sh_f35_j2
   rw [wrap_i64 (n := i + 1) (by omega) (by omega)]
   exact hn _ _ _ (by omega) ⟨by omega, by omega, rfl, O'', c'', _, hg'', hst'', by omega, by rw [et]; exact htk''⟩
  refine br_i (fun q2 => ?_) (fun q2 => ?_)
  ·rw [if_pos q2] at htk
   refine ld_i (x := g'.changes) (r11.cells.sub 13 1) (alr_i fun b13 w13 e13 g13 c13 s13 => ?_)
   have r13 := r11.gr g13 fun _ _ f => f
   refine st_push r13 (by simp only [List.length_append]; omega) c13 fun w14 O'' hg14 hst14 => ?_
   refine next w14 O'' (c' ++ [⟨2, 0, 0, k, (lget vs' k).1, (lget vs' k).2⟩]) ((hg11.trans (Grew.gr g13)).trans hg14) (by rw [<- List.append_assoc]; exact hst14) (by simp; omega) ?_
   rw [htk]; simp
  ·rw [if_neg (by rw [q2]; simp)] at htk
   exact next w11 O' c' hg11 ⟨g', tb', tr', vb', lr', gr', gl', r11⟩ (by omega) (by rw [htk]; simp)
 ·have q := of_decide_eq_false q
  rw [List.drop_eq_nil_of_le (by omega)] at htk
  simp only [banAll, List.append_nil] at htk
  rw [hq]
  refine h w' O' ((Grew.gr (G.trans g3)).trans hg) ?_
  rw [htk]; exact hst
theorem StRep.leds' {w w' : World} {sb : Nat} {O : Nat -> Prop} {g : G_store_Store} {tb tr vb lr gr : Nat} {gl gl' : List (Int × G_ledger_State)} {I : Nat -> Prop} {A : AStore} {cs : List G_store_Change} {ls : List (Int × ALed)} (r : StRep w sb O g tb tr vb lr gr gl I A cs) (k : Keeps (· = lr) w w') (hv : MapAt t_ledger_State w' lr gl') (hl : LedsIs I w' gl' ls) :
  StRep w' sb O g tb tr vb lr gr gl' I { A with leds := ls } cs := by
 obtain ⟨d1, d2, d3, d4, d5, d6, d7, d8, d9, d10, d11, d12, d13, d14, d15⟩ := r.dis
 exact { cells := r.cells.keeps k d4, can := r.can.keeps k d4, ptree := r.ptree, tree := r.tree.keeps k d8 d11, tcan := r.tcan.keeps k d8, votes := r.votes.keeps k d13, slot := r.slot, boosted := r.boosted, just := r.just, fin := r.fin, pleds := r.pleds, leds := hv, lis := hl, pgone := r.pgone, gone := r.gone.keeps k (Ne.symm d15), cfg := r.cfg.keeps k fun b hb e => r.nI.2.2.2.2.1 (e ▸ hb), chg := r.chg.keeps k fun b hb e => hb.2.2.2.2.2.1 e, inO := r.inO, dis := r.dis, nI := r.nI, iOk := fun b hb => ⟨(r.iOk b hb).1, Nat.lt_of_lt_of_le (r.iOk b hb).2 k.size⟩, lt := fun b hb => Nat.lt_of_lt_of_le (r.lt b hb) k.size }
theorem StRep.gone' {w w' : World} {sb : Nat} {O : Nat -> Prop} {g : G_store_Store} {tb tr vb lr gr : Nat} {gl : List (Int × G_ledger_State)} {I : Nat -> Prop} {A : AStore} {cs : List G_store_Change} {gs : List (Int × Bool)} (r : StRep w sb O g tb tr vb lr gr gl I A cs) (k : Keeps (· = gr) w w') (hv : MapAt tBool w' gr gs) :
  StRep w' sb O g tb tr vb lr gr gl I { A with gone := gs } cs := by
 obtain ⟨d1, d2, d3, d4, d5, d6, d7, d8, d9, d10, d11, d12, d13, d14, d15⟩ := r.dis
 exact { cells := r.cells.keeps k d5, can := r.can.keeps k d5, ptree := r.ptree, tree := r.tree.keeps k d9 d12, tcan := r.tcan.keeps k d9, votes := r.votes.keeps k d14, slot := r.slot, boosted := r.boosted, just := r.just, fin := r.fin, pleds := r.pleds, leds := r.leds.keeps k d15, lis := r.lis.keeps k fun b hb e => r.nI.2.2.2.2.2 (e ▸ hb), pgone := r.pgone, gone := hv, cfg := r.cfg.keeps k fun b hb e => r.nI.2.2.2.2.2 (e ▸ hb), chg := r.chg.keeps k fun b hb e => hb.2.2.2.2.2.2.1 e, inO := r.inO, dis := r.dis, nI := r.nI, iOk := fun b hb => ⟨(r.iOk b hb).1, Nat.lt_of_lt_of_le (r.iOk b hb).2 k.size⟩, lt := fun b hb => Nat.lt_of_lt_of_le (r.lt b hb) k.size }
theorem StRep.tree' {w w' : World} {sb : Nat} {O : Nat -> Prop} {g : G_store_Store} {tb tr vb lr gr b2 : Nat} {gl : List (Int × G_ledger_State)} {I : Nat -> Prop} {A : AStore} {cs : List G_store_Change} {t : ATree} (r : StRep w sb O g tb tr vb lr gr gl I A cs) (k : Keeps (· = tb) w w') (hb : w.heap.size <= b2) (hv : TreeAt w' tb b2 t) (hc : CanSt w' tb 0 2) :
    StRep w' sb (fun b => O b \/ b = b2) g tb b2 vb lr gr gl I { A with tree := t } cs := by
  obtain ⟨d1, d2, d3, d4, d5, d6, d7, d8, d9, d10, d11, d12, d13, d14, d15⟩ := r.dis
  obtain ⟨i1, i2, i3, i4, i5, i6⟩ := r.inO
  have l1 := r.lt _ i1; have l2 := r.lt _ i2; have l4 := r.lt _ i4; have l5 := r.lt _ i5; have l6 := r.lt _ i6
  have lb := hv.map.lt
  exact { cells := r.cells.keeps k d1, can := r.can.keeps k d1, ptree := r.ptree, tree := hv, tcan := hc, votes := r.votes.keeps k (Ne.symm d7), slot := r.slot, boosted := r.boosted, just := r.just, fin := r.fin, pleds := r.pleds, leds := r.leds.keeps k (Ne.symm d8), lis := r.lis.keeps k fun b hb e => r.nI.2.1 (e ▸ hb), pgone := r.pgone, gone := r.gone.keeps k (Ne.symm d9), cfg := r.cfg.keeps k fun b hb e => r.nI.2.1 (e ▸ hb),
          chg := (r.chg.keeps k fun b hb e => hb.2.2.1 e).mono fun b hb => ⟨.inl hb.1, hb.2.1, hb.2.2.1, fun e => by have := r.lt _ hb.1; omega, hb.2.2.2.2⟩,
          inO := ⟨.inl i1, .inl i2, .inr rfl, .inl i4, .inl i5, .inl i6⟩, dis := ⟨d1, by omega, d3, d4, d5, by omega, d7, d8, d9, by omega, by omega, by omega, d13, d14, d15⟩,
          nI := ⟨r.nI.1, r.nI.2.1, fun hI => by have := (r.iOk _ hI).2; omega, r.nI.2.2.2⟩, iOk := fun b hb => ⟨fun ho => ho.elim (r.iOk b hb).1 fun e => by have := (r.iOk b hb).2; omega, Nat.lt_of_lt_of_le (r.iOk b hb).2 k.size⟩,
          lt := fun b hb => by
            rcases hb with hb | rfl
            · exact Nat.lt_of_lt_of_le (r.lt b hb) k.size
            · exact lb }
theorem c_raise {w : World} {sb : Nat} {O I : Nat -> Prop} {A : AStore} {cs : List G_store_Change} {j f : G_api_Point} {Q : QW} (hs : StoreAt w sb O I A cs) (hw : A.Wf) (hcs : cs.length <= 1000000) (hj : PtOk j)
  (h : ∀ w' O', Grew O O' w w' -> StoreAt w' sb O' I (A.raise j f).2 (cs ++ (A.raise j f).1) -> Q (.tuple #[]) w') :
  CallsR PP n_f52 #[.pointer (some ⟨sb, 0, none⟩), t_api_Point.val j, t_api_Point.val f] Q w := by
 refine so_f52 _ _ ?_
 unfold sh_f52
 refine ⟨sb, 0, rfl, al_i fun b2 w1 e1 g1 c1 _ => al_i fun b3 w2 e2 g2 c2 _ => dw_i fun w3 e3 g3 => ?_⟩
 have G := g1.trans (g2.trans g3)
 have z1 := g1.size; have z2 := g2.size; have z3 := g3.size
 have l2 : b2 < w1.heap.size := cell_lt c1.1
 have l3 : b3 < w2.heap.size := cell_lt c2.1
 replace c1 := c1.gr (g2.trans g3); replace c2 := c2.gr g3
 have hs3 := hs.grow G
 have no2 : ¬ O b2 := fun ho => by have := hs.lt _ ho; omega
 have no3 : ¬ O b3 := fun ho => by have := hs.lt _ ho; omega
 clear e1 e2 e3
 have hwj := hw.raiseJ hj
 have J2 : ∀ w', Grew O O w3 w' -> StoreAt w' sb O I (A.raiseJ j) cs -> sh_f52_j2 Q sb 0 b3 w' := by
  intro w' gw hst
  have c3 : CellsAt w' b3 0 (t_api_Point.enc f) := c2.keeps gw.1 no3
  unfold sh_f52_j2
  refine dw_i fun w8 e8 g8 => ?_
  obtain ⟨g, tb, tr, vb, lr, gr, gl, r0⟩ := hst
  have r := r0.gr g8 fun _ _ f => f
  replace c3 := c3.gr g8
  have gw8 : Grew O O w3 w8 := gw.trans (Grew.gr g8)
  have hraise : A.raise j f = if (A.raiseJ j).raises f = true then ([⟨3, f.Root, 0, 0, 0, false⟩], (A.raiseJ j).raiseF f) else ([], A.raiseJ j) := rfl
  rw [hraise] at h
  generalize A.raiseJ j = A1 at hwj r r0 h
  have no : ∀ {w'}, Gr w8 w' -> A1.raises f = false -> sh_f52_j3 Q sb 0 b3 true w' := by
   intro w' g' hr
   rw [hr, if_neg (by simp)] at h
   unfold sh_f52_j3
   refine br_t rfl (h w' O ((Grew.gr G).trans (gw8.trans (Grew.gr g'))) ?_)
   rw [List.append_nil]
   exact ⟨g, tb, tr, vb, lr, gr, gl, r.gr g' fun _ _ f => f⟩
  have cF : ∀ {w'}, Gr w8 w' -> CellsAt w' sb 9 (t_api_Point.enc A1.fin) /\ CellsAt w' sb 7 (t_api_Point.enc A1.just) /\ CellsAt w' sb 3 (tPtr.enc (some ⟨tb, 0, none⟩)) := fun g' => by
   rw [<- r.fin, <- r.just, <- r.ptree]
   have := (r.gr g' fun _ _ f => f).cells
   exact ⟨this.sub 9 2, this.sub 7 2, this.sub 3 1⟩
  have c0 := cF (Gr.refl w8)
  refine ld_i (x := f.Epoch) (c3.sub 0 1) (ld_i (x := A1.fin.Epoch) (c0.1.sub 0 1) (br_i (fun q => no (Gr.refl _) ?_) (fun q => ?_)))
  ·have q := of_decide_eq_true q
   unfold AStore.raises; rw [decide_eq_false (show ¬ f.Epoch > A1.fin.Epoch by omega)]; rfl
  have q1 := of_decide_eq_false q
  refine ld_i c0.2.2 (ld_i (x := f.Root) (c3.sub 1 1) (ld_i (x := A1.fin.Root) (c0.1.sub 1 1) (c_tree_Below r.tree hwj.tree fun w9 g9 => ⟨_, rfl, br_i (fun q => no g9 ?_) (fun q => ?_)⟩)))
  ·have q : A1.tree.below f.Root A1.fin.Root = false := by simpa using q
   unfold AStore.raises; rw [q]; simp
  have q2 : A1.tree.below f.Root A1.fin.Root = true := by simpa using q
  have c9 := cF g9
  replace c3 := c3.gr g9
  refine ld_i c9.2.2 (ld_i (x := A1.just.Root) (c9.2.1.sub 1 1) (ld_i (x := f.Root) (c3.sub 1 1) (c_tree_Below (r.gr g9 fun _ _ f => f).tree hwj.tree fun w10 g10 => ⟨_, rfl, ?_⟩)))
  have g810 := g9.trans g10
  cases q3 : A1.tree.below A1.just.Root f.Root with
  | false => exact no g810 (by unfold AStore.raises; rw [q3]; simp)
  | true =>
   have hr : A1.raises f = true := by
    unfold AStore.raises; rw [q2, q3, decide_eq_true (show f.Epoch > A1.fin.Epoch by omega)]; rfl
   rw [hr, if_pos rfl] at h
   simp only at h
   obtain ⟨_, hanc, _⟩ := AStore.raises_anc hwj hr
   obtain ⟨n, hn⟩ := hanc.left
   unfold sh_f52_j3
   have r10 := r.gr g810 fun _ _ f => f
   replace c3 := c3.gr g10
   have gw10 := gw8.trans (Grew.gr g810)
   have zA := gw10.1.size
   refine br_f rfl (ld_i c3 (st_i (r10.can.sub 9 2 (by omega)) fun w11 e11 k11 c11 => dw_i fun w12 e12 g12 => ?_))
   have n11 : CanSt w11 sb 0 14 := by rw [e11]; exact canSt_putL r10.can
   have p11 : CellsAt w11 sb 0 (t_store_Store.enc { g with Final := f }) := by
    rw [e11]
    exact put_part (us := (t_store_Store.enc g).take 9) (ms := t_api_Point.enc g.Final) (vs := t_api_Point.enc f) (ts := (t_store_Store.enc g).drop 11) r10.cells r10.can rfl rfl
   have r11 := r10.set (A' := { A1 with fin := f }) k11 p11 n11 rfl rfl rfl rfl rfl rfl rfl rfl rfl rfl rfl r10.slot r10.boosted r10.just rfl
   have r12 := r11.gr g12 fun _ _ f => f
   have ksb : Keeps O w10 w12 := (k11.mono fun b _ e => by subst e; exact r.inO.1).trans (Gr.keeps g12)
   have gw12 : Grew O O w3 w12 := gw10.trans ⟨ksb, fun _ h => .inl h⟩
   replace c3 : CellsAt w12 b3 0 (t_api_Point.enc f) := c3.keeps ksb no3
   have ct12 : CellsAt w12 sb 3 (tPtr.enc (some ⟨tb, 0, none⟩)) := by rw [<- r.ptree]; exact r12.cells.sub 3 1
   refine ld_i ct12 (ld_i (x := f.Root) (c3.sub 1 1) (c_tree_Cut r12.tree hwj.tree r12.tcan hn fun s13 w13 bm k13 hbm h13 t13 n13 => ⟨s13, rfl, ?_⟩))
   have r13 := r12.tree' k13 hbm t13 n13
   have z12 := gw12.1.size; have z13 := k13.size
   have gw13 : Grew O (fun b => O b \/ b = bm) w3 w13 := gw12.trans ⟨k13.mono fun b _ e => by subst e; exact r.inO.2.1, fun b hb => hb.imp id fun e => by omega⟩
   have no3' : ¬ (O b3 \/ b3 = bm) := fun e => e.elim no3 fun e => by omega
   replace c3 : CellsAt w13 b3 0 (t_api_Point.enc f) := c3.keeps (k13.mono fun b _ e => show O b by subst e; exact r.inO.2.1) no3
   have hF : A1.raiseF f = { A1 with fin := f, tree := (A1.tree.cut f.Root).2, leds := (A1.tree.cut f.Root).1.foldl mdel A1.leds, gone := (A1.tree.cut f.Root).1.foldl (fun g r => mput g r true) A1.gone, boosted := if (A1.tree.cut f.Root).2.has A1.boosted then A1.boosted else 0 } := rfl
   rw [hF] at h
   have hcl : (A1.tree.cut f.Root).1.length <= 1024 := by
    unfold ATree.cut; rw [hn]
    exact Nat.le_trans (List.length_filter_le _ _) (by rw [ATree.roots_length]; exact hwj.tree.small)
   generalize (A1.tree.cut f.Root).1 = gs at h h13 hcl
   generalize (A1.tree.cut f.Root).2 = tc at h r13 t13
   have hsb : SlIs tU64 (fun b => w12.heap.size <= b /\ b < w13.heap.size) w13 s13 gs := SlIs.bnd 1 (fun _ => rfl) (by decide) h13
   refine loop1 (sh_f52_b4 Q sb 0 b3 s13) (fun m i w' => 0 <= i /\ i.toNat <= gs.length /\ m = gs.length - i.toNat /\ Keeps (fun b => b = lr \/ b = gr) w13 w' /\ ∃ gl' ls' gn', StRep w' sb (fun b => O b \/ b = bm) { g with Final := f } tb bm vb lr gr gl' I { A1 with fin := f, tree := tc, leds := ls', gone := gn' } cs /\
     gs.foldl mdel A1.leds = (gs.drop i.toNat).foldl mdel ls' /\ gs.foldl (fun g r => mput g r true) A1.gone = (gs.drop i.toNat).foldl (fun g r => mput g r true) gn')
    ⟨_, by omega, by simp, rfl, Keeps.refl _ _, gl, A1.leds, A1.gone, r13, by simp, by simp⟩ ?_
   rintro m i w' nxt ⟨h0, hi, rfl, kk, gl', ls', gn', rr, hf1, hf2⟩ hnx
   have lgO : ∀ b, b = lr \/ b = gr -> O b := fun b hb => hb.elim (fun e => by subst e; exact r.inO.2.2.2.2.1) fun e => by subst e; exact r.inO.2.2.2.2.2
   have c3k : CellsAt w' b3 0 (t_api_Point.enc f) := c3.keeps kk fun e => no3 (lgO _ e)
   unfold sh_f52_b4
   rw [h13.1]
   refine br_i (fun q => ?_) (fun q => ?_)
   ·have q := of_decide_eq_true q
    have hi' : i.toNat < gs.length := by omega
    rw [List.drop_eq_getElem_cons hi', List.foldl_cons] at hf1 hf2
    have hwk := hsb.keeps kk fun b hb e => by have := r12.lt _ (lgO _ e); omega
    refine hwk.ixs 1 (fun _ => rfl) h0 hi' fun b o _ hcell => ld_i (x := gs[i.toNat]) hcell ?_
    generalize gs[i.toNat] = y at hf1 hf2
    have cl : CellsAt w' sb 11 (tMap.enc (some lr)) := by
     have := rr.cells.sub 11 1
     rw [<- rr.pleds]; exact this
    refine ld_i cl (mdl_i rr.leds fun w14 k14 m14 => ?_)
    have r14 := rr.leds' k14 m14 ((rr.lis.keeps k14 fun b hb e => rr.nI.2.2.2.2.1 (e ▸ hb)).del)
    have cg : CellsAt w14 sb 12 (tMap.enc (some gr)) := by
     have := r14.cells.sub 12 1
     rw [<- r14.pgone]; exact this
    refine ld_i cg (mset_i r14.gone fun w15 k15 m15 => ?_)
    have r15 := r14.gone' k15 m15
    rw [wrap_i64 (n := i + 1) (by omega) (by omega)]
    have et : (i + 1).toNat = i.toNat + 1 := by omega
    exact hnx (gs.length - (i.toNat + 1)) _ _ (by omega) ⟨by omega, by omega, by rw [et], kk.trans ((k14.mono fun b _ e => .inl e).trans (k15.mono fun b _ e => .inr e)), _, _, _, r15, by rw [et]; exact hf1, by rw [et]; exact hf2⟩
   ·have q := of_decide_eq_false q
    rw [List.drop_eq_nil_of_le (by omega)] at hf1 hf2
    simp only [List.foldl_nil] at hf1 hf2
    rw [hf1, hf2] at h
    have gwk : Grew O (fun b => O b \/ b = bm) w3 w' := gw13.trans ⟨kk.mono fun b _ e => .inl (lgO b e), fun _ h => .inl h⟩
    have zk := gwk.1.size
    unfold sh_f52_j5
    refine dw_i fun w14 e14 g14 => ?_
    have r14 := rr.gr g14 fun _ _ f => f
    have c3' := c3k.gr g14
    have ct14 : CellsAt w14 sb 3 (tPtr.enc (some ⟨tb, 0, none⟩)) := by rw [<- r14.ptree]; exact r14.cells.sub 3 1
    have cb14 : CellsAt w14 sb 6 (tU64.enc A1.boosted) := by
     have hb : ({ g with Final := f } : G_store_Store).Boosted = A1.boosted := r14.boosted
     rw [<- hb]; exact r14.cells.sub 6 1
    refine ld_i ct14 (ld_i cb14 (c_tree_Has r14.tree fun w15 g15 => ⟨_, rfl, ?_⟩))
    have r15 := r14.gr g15 fun _ _ f => f
    have c315 := c3'.gr g15
    have gw15 := gwk.trans (Grew.gr (g14.trans g15))
    have J6 : ∀ {w'' bo g''}, Grew (fun b => O b \/ b = bm) (fun b => O b \/ b = bm) w15 w'' -> StRep w'' sb (fun b => O b \/ b = bm) g'' tb bm vb lr gr gl' I { A1 with fin := f, tree := tc, leds := ls', gone := gn', boosted := bo } cs -> bo = (if tc.has A1.boosted = true then A1.boosted else 0) -> sh_f52_j6 Q sb 0 b3 w'' := by
     intro w'' bo g'' gg rx hbo
     rw [<- hbo] at h
     have cx : CellsAt w'' b3 0 (t_api_Point.enc f) := c315.keeps gg.1 no3'
     unfold sh_f52_j6
     refine dw_i fun w16 e16 g16 => ?_
     have r16 := rx.gr g16 fun _ _ f => f
     refine ld_i (x := g''.changes) (r16.cells.sub 13 1) (ld_i (x := f.Root) ((cx.gr g16).sub 1 1) (alr_i fun b17 w17 e17 g17 c17 s17 => ⟨(r16.gr g17 fun _ _ f => f).cells.sub 13 1, ?_⟩))
     refine st_push (r16.gr g17 fun _ _ f => f) (by omega) c17 fun w18 O'' hg18 hst18 => ?_
     exact h w18 O'' ((Grew.gr G).trans (gw15.trans (gg.trans ((Grew.gr (g16.trans g17)).trans hg18)))) hst18
    refine br_i (fun q4 => ?_) (fun q4 => ?_)
    ·have q4 : tc.has A1.boosted = false := by simpa using q4
     refine st_i (r15.can.sub 6 1 (by omega)) fun w16 e16 k16 c16 => ?_
     have n16 : CanSt w16 sb 0 14 := by rw [e16]; exact canSt_putL r15.can
     have p16 : CellsAt w16 sb 0 (t_store_Store.enc { g with Final := f, Boosted := 0 }) := by
      rw [e16]
      exact put_part (us := (t_store_Store.enc { g with Final := f }).take 6) (ms := [.int .u64 g.Boosted]) (vs := [.int .u64 0]) (ts := (t_store_Store.enc { g with Final := f }).drop 7) r15.cells r15.can rfl rfl
     have r16 := r15.set (A' := { A1 with fin := f, tree := tc, leds := ls', gone := gn', boosted := 0 }) k16 p16 n16 rfl rfl rfl rfl rfl rfl rfl rfl rfl rfl rfl r15.slot rfl r15.just r15.fin
     exact J6 ⟨k16.mono fun b _ e => by subst e; exact .inl r.inO.1, fun _ h => .inl h⟩ r16 (by rw [q4]; rfl)
    ·have q4 : tc.has A1.boosted = true := by simpa using q4
     exact J6 (Grew.refl _ _) r15 (by rw [if_pos q4])
 obtain ⟨g, tb, tr, vb, lr, gr, gl, r⟩ := hs3
 refine ld_i (x := j.Epoch) (c1.sub 0 1) ?_
 have cj : CellsAt w3 sb 7 (t_api_Point.enc A.just) := by rw [<- r.just]; exact r.cells.sub 7 2
 have cf : CellsAt w3 sb 9 (t_api_Point.enc A.fin) := by rw [<- r.fin]; exact r.cells.sub 9 2
 refine ld_i (x := A.just.Epoch) (cj.sub 0 1) ?_
 have J1f : ∀ w', Gr w3 w' -> ¬ (j.Epoch > A.just.Epoch /\ A.tree.below j.Root A.fin.Root = true) -> sh_f52_j1 Q sb 0 b2 b3 false w' := by
  intro w' g' hc
  unfold sh_f52_j1
  refine br_f rfl (J2 w' (Grew.gr g') ?_)
  have : A.raiseJ j = A := by unfold AStore.raiseJ; rw [if_neg hc]
  rw [this]
  exact ⟨g, tb, tr, vb, lr, gr, gl, r.gr g' fun _ _ f => f⟩
 refine br_i (fun q => ?_) (fun q => ?_)
 ·have q := of_decide_eq_true q
  have ct : CellsAt w3 sb 3 (tPtr.enc (some ⟨tb, 0, none⟩)) := by rw [<- r.ptree]; exact r.cells.sub 3 1
  refine ld_i ct (ld_i (x := j.Root) (c1.sub 1 1) (ld_i (x := A.fin.Root) (cf.sub 1 1) (c_tree_Below r.tree hw.tree fun w4 g4 => ⟨_, rfl, ?_⟩)))
  cases hb : A.tree.below j.Root A.fin.Root with
  | false => exact J1f w4 g4 (fun e => by rw [hb] at e; cases e.2)
  | true =>
   unfold sh_f52_j1
   have r4 := r.gr g4 fun _ _ f => f
   refine br_t rfl (ld_i (c1.gr g4) (st_i (r4.can.sub 7 2 (by omega)) fun w5 e5 k5 c5 => J2 w5 ((Grew.gr g4).trans ⟨k5.mono fun b _ e => by subst e; exact r.inO.1, fun _ h => .inl h⟩) ?_))
   have n5 : CanSt w5 sb 0 14 := by rw [e5]; exact canSt_putL r4.can
   have p5 : CellsAt w5 sb 0 (t_store_Store.enc { g with Justified := j }) := by
    rw [e5]
    exact put_part (us := (t_store_Store.enc g).take 7) (ms := t_api_Point.enc g.Justified) (vs := t_api_Point.enc j) (ts := (t_store_Store.enc g).drop 9) r4.cells r4.can rfl rfl
   have r5 := r4.set (A' := { A with just := j }) k5 p5 n5 rfl rfl rfl rfl rfl rfl rfl rfl rfl rfl rfl r4.slot r4.boosted rfl r4.fin
   have : A.raiseJ j = { A with just := j } := by unfold AStore.raiseJ; rw [if_pos ⟨q, hb⟩]
   rw [this]
   exact ⟨_, tb, tr, vb, lr, gr, gl, r5⟩
 ·have q := of_decide_eq_false q
  exact J1f w3 (Gr.refl _) (fun e => q e.1)
end Go.Proofs.Ytdefmgkicdhmkaa
