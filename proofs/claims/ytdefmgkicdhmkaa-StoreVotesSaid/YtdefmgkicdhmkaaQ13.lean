/- What the functions do, part 13; for every memory. -/
import Derived.Test.YtdefmgkicdhmkaaQ12
namespace Go.Proofs.Ytdefmgkicdhmkaa
open Go Go.Sx
set_option linter.unusedVariables false
def VotesIs (D : Nat -> Prop) (w : World) : List G_api_Vote -> List AVote -> Prop
 | [], [] => True
 | g :: r, v :: s => VoteIs D w g v /\ VotesIs D w r s
 | _, _ => False
def ProofsIs (D : Nat -> Prop) (w : World) : List G_api_Proof -> List AProof -> Prop
 | [], [] => True
 | g :: r, p :: s => (VoteIs D w g.A p.a /\ VoteIs D w g.B p.b) /\ ProofsIs D w r s
 | _, _ => False
theorem VotesIs.imp {D D' : Nat -> Prop} {w w' : World} (h : ∀ {g v}, VoteIs D w g v -> VoteIs D' w' g v) : ∀ {gs : List G_api_Vote} {vs : List AVote}, VotesIs D w gs vs -> VotesIs D' w' gs vs
 | [], [], _ => trivial
 | _ :: _, _ :: _, hh => ⟨h hh.1, VotesIs.imp h hh.2⟩
theorem ProofsIs.imp {D D' : Nat -> Prop} {w w' : World} (h : ∀ {g v}, VoteIs D w g v -> VoteIs D' w' g v) : ∀ {gs : List G_api_Proof} {vs : List AProof}, ProofsIs D w gs vs -> ProofsIs D' w' gs vs
 | [], [], _ => trivial
 | _ :: _, _ :: _, hh => ⟨⟨h hh.1.1, h hh.1.2⟩, ProofsIs.imp h hh.2⟩
theorem VotesIs.len {D : Nat -> Prop} {w : World} : ∀ {gs : List G_api_Vote} {vs : List AVote}, VotesIs D w gs vs -> gs.length = vs.length
 | [], [], _ => rfl
 | _ :: _, _ :: _, hh => by simp only [List.length_cons, VotesIs.len hh.2]
theorem ProofsIs.len {D : Nat -> Prop} {w : World} : ∀ {gs : List G_api_Proof} {vs : List AProof}, ProofsIs D w gs vs -> gs.length = vs.length
 | [], [], _ => rfl
 | _ :: _, _ :: _, hh => by simp only [List.length_cons, ProofsIs.len hh.2]
theorem VotesIs.get {D : Nat -> Prop} {w : World} : ∀ {gs : List G_api_Vote} {vs : List AVote} {i : Nat} (_ : VotesIs D w gs vs) (h1 : i < gs.length) (h2 : i < vs.length), VoteIs D w gs[i] vs[i]
 | _ :: _, _ :: _, 0, hh, _, _ => hh.1
 | _ :: _, _ :: _, i + 1, hh, h1, h2 => VotesIs.get hh.2 (by simpa using h1) (by simpa using h2)
theorem ProofsIs.get {D : Nat -> Prop} {w : World} : ∀ {gs : List G_api_Proof} {vs : List AProof} {i : Nat} (_ : ProofsIs D w gs vs) (h1 : i < gs.length) (h2 : i < vs.length), VoteIs D w gs[i].A vs[i].a /\ VoteIs D w gs[i].B vs[i].b
 | _ :: _, _ :: _, 0, hh, _, _ => hh.1
 | _ :: _, _ :: _, i + 1, hh, h1, h2 => ProofsIs.get hh.2 (by simpa using h1) (by simpa using h2)
theorem VoteIs.bound {D : Nat -> Prop} {w : World} {g : G_api_Vote} {v : AVote} (h : VoteIs D w g v) : VoteIs (fun b => D b /\ b < w.heap.size) w g v := { h with who := SlIs.bnd 1 (fun _ => rfl) (by decide) h.who }
theorem VoteIs.mono {D D' : Nat -> Prop} {w : World} {g : G_api_Vote} {v : AVote} (h : VoteIs D w g v) (hd : ∀ b, D b -> D' b) : VoteIs D' w g v := { h with who := h.who.mono hd }
structure BlockIs (D : Nat -> Prop) (w : World) (g : G_api_Block) (b : ABlock) : Prop where
 root : g.Root = b.root
 parent : g.Parent = b.parent
 slot : g.Slot = b.slot
 votes : ∃ gs, SlIs t_api_Vote D w g.Votes gs /\ VotesIs D w gs b.votes
 proofs : ∃ gs, SlIs t_api_Proof D w g.Proofs gs /\ ProofsIs D w gs b.proofs
theorem BlockIs.imp {D D' : Nat -> Prop} {w w' : World} {g : G_api_Block} {b : ABlock} (h : BlockIs D w g b) (hv : ∀ {g v}, VoteIs D w g v -> VoteIs D' w' g v) (h1 : ∀ {s xs}, SlIs t_api_Vote D w s xs -> SlIs t_api_Vote D' w' s xs) (h2 : ∀ {s xs}, SlIs t_api_Proof D w s xs -> SlIs t_api_Proof D' w' s xs) : BlockIs D' w' g b := by
 obtain ⟨gs, hs, hvs⟩ := h.votes
 obtain ⟨ps, hp, hps⟩ := h.proofs
 exact ⟨h.root, h.parent, h.slot, ⟨gs, h1 hs, hvs.imp hv⟩, ⟨ps, h2 hp, hps.imp hv⟩⟩
theorem BlockIs.bound {D : Nat -> Prop} {w : World} {g : G_api_Block} {b : ABlock} (h : BlockIs D w g b) : BlockIs (fun b => D b /\ b < w.heap.size) w g b :=
 h.imp VoteIs.bound (SlIs.bnd 7 (fun _ => rfl) (by decide)) (SlIs.bnd 14 (fun _ => rfl) (by decide))
theorem BlockIs.keeps {D S : Nat -> Prop} {w w' : World} {g : G_api_Block} {b : ABlock} (h : BlockIs D w g b) (k : Keeps S w w') (hs : ∀ b, D b -> ¬ S b) : BlockIs D w' g b :=
 h.imp (fun h => h.keeps k hs) (fun h => h.keeps k hs) (fun h => h.keeps k hs)
theorem BlockIs.gr {D : Nat -> Prop} {w w' : World} {g : G_api_Block} {b : ABlock} (h : BlockIs D w g b) (k : Gr w w') : BlockIs D w' g b := h.keeps k fun _ _ f => f
theorem BlockIs.mono {D D' : Nat -> Prop} {w : World} {g : G_api_Block} {b : ABlock} (h : BlockIs D w g b) (hd : ∀ b, D b -> D' b) : BlockIs D' w g b :=
 h.imp (fun h => h.mono hd) (fun h => h.mono hd) (fun h => h.mono hd)
theorem StRep.treeM {w w' : World} {sb : Nat} {O : Nat -> Prop} {g : G_store_Store} {tb tr vb lr gr : Nat} {gl : List (Int × G_ledger_State)} {I : Nat -> Prop} {A : AStore} {cs : List G_store_Change} {t : ATree} (r : StRep w sb O g tb tr vb lr gr gl I A cs) (k : Keeps (· = tr) w w') (hv : TreeAt w' tb tr t) :
  StRep w' sb O g tb tr vb lr gr gl I { A with tree := t } cs := by
 obtain ⟨d1, d2, d3, d4, d5, d6, d7, d8, d9, d10, d11, d12, d13, d14, d15⟩ := r.dis
 exact { cells := r.cells.keeps k d2, can := r.can.keeps k d2, ptree := r.ptree, tree := hv, tcan := r.tcan.keeps k d6, votes := r.votes.keeps k (Ne.symm d10), slot := r.slot, boosted := r.boosted, just := r.just, fin := r.fin, pleds := r.pleds, leds := r.leds.keeps k (Ne.symm d11), lis := r.lis.keeps k fun b hb e => r.nI.2.2.1 (e ▸ hb), pgone := r.pgone, gone := r.gone.keeps k (Ne.symm d12), cfg := r.cfg.keeps k fun b hb e => r.nI.2.2.1 (e ▸ hb), chg := r.chg.keeps k fun b hb e => hb.2.2.2.1 e, inO := r.inO, dis := r.dis, nI := r.nI, iOk := fun b hb => ⟨(r.iOk b hb).1, Nat.lt_of_lt_of_le (r.iOk b hb).2 k.size⟩, lt := fun b hb => Nat.lt_of_lt_of_le (r.lt b hb) k.size }
theorem CfgIs.mono {D D' : Nat -> Prop} {w : World} {g : G_api_Config} {c : ACfg} (h : CfgIs D w g c) (hd : ∀ b, D b -> D' b) : CfgIs D' w g c := { h with bal := h.bal.mono hd }
theorem StRep.led {w w' : World} {sb : Nat} {O : Nat -> Prop} {g : G_store_Store} {tb tr vb lr gr : Nat} {gl : List (Int × G_ledger_State)} {I I' : Nat -> Prop} {A : AStore} {cs : List G_store_Change} {k : Int} {x : G_ledger_State} {l : ALed} (r : StRep w sb O g tb tr vb lr gr gl I A cs) (kk : Keeps (· = lr) w w') (hv : MapAt t_ledger_State w' lr (mput gl k x))
    (hx : LedIs I' w x l) (h1 : ∀ b, I b -> I' b) (h2 : ∀ b, I' b -> ¬ O b /\ b < w.heap.size) :
    StRep w' sb O g tb tr vb lr gr (mput gl k x) I' { A with leds := mput A.leds k l } cs := by
  obtain ⟨d1, d2, d3, d4, d5, d6, d7, d8, d9, d10, d11, d12, d13, d14, d15⟩ := r.dis
  obtain ⟨i1, i2, i3, i4, i5, i6⟩ := r.inO
  have hl : ∀ b, I' b -> ¬ b = lr := fun b hb e => (h2 b hb).1 (e ▸ i5)
  exact { cells := r.cells.keeps kk d4, can := r.can.keeps kk d4, ptree := r.ptree, tree := r.tree.keeps kk d8 d11, tcan := r.tcan.keeps kk d8, votes := r.votes.keeps kk d13, slot := r.slot, boosted := r.boosted, just := r.just, fin := r.fin, pleds := r.pleds, leds := hv, lis := LedsIs.put (hx.keeps kk hl) ((r.lis.mono h1).keeps kk hl), pgone := r.pgone, gone := r.gone.keeps kk (Ne.symm d15), cfg := (r.cfg.keeps kk fun b hb => hl b (h1 b hb)).mono h1,
          chg := (r.chg.keeps kk fun b hb e => hb.2.2.2.2.2.1 e).mono fun b hb => ⟨hb.1, hb.2.1, hb.2.2.1, hb.2.2.2.1, hb.2.2.2.2.1, hb.2.2.2.2.2.1, hb.2.2.2.2.2.2.1, fun hI => (h2 b hI).1 hb.1⟩,
          inO := r.inO, dis := r.dis, nI := ⟨fun h => (h2 _ h).1 i1, fun h => (h2 _ h).1 i2, fun h => (h2 _ h).1 i3, fun h => (h2 _ h).1 i4, fun h => (h2 _ h).1 i5, fun h => (h2 _ h).1 i6⟩,
          iOk := fun b hb => ⟨(h2 b hb).1, Nat.lt_of_lt_of_le (h2 b hb).2 kk.size⟩, lt := fun b hb => Nat.lt_of_lt_of_le (r.lt b hb) kk.size }
theorem c_chain {w : World} {sb : Nat} {x : Int} {Q : QW} (h : ∀ w' c1 c2, Gr w w' -> w.heap.size <= c1 -> w.heap.size <= c2 -> c1 < w'.heap.size -> c2 < w'.heap.size -> CellsAt w' c1 0 (tPtr.enc (some ⟨sb, 0, none⟩)) -> CellsAt w' c2 0 (tU64.enc x) ->
      Q (Fv.mk n_f60 [] [.pointer (some ⟨c1, 0, none⟩), .pointer (some ⟨c2, 0, none⟩)]).v w') :
    CallsR PP n_f42 #[.pointer (some ⟨sb, 0, none⟩), .int .u64 x] Q w := by
  refine so_f42 _ _ ?_
  unfold sh_f42
  refine al_i fun b1 w1 e1 g1 c1 _ => al_i fun b2 w2 e2 g2 c2 _ => ?_
  have z1 := g1.size; have z2 := g2.size
  have l1 := cell_lt c1.1
  exact h w2 b1 b2 (g1.trans g2) (by omega) (by omega) (by omega) (cell_lt c2.1) (c1.gr g2) c2
theorem chain_is {w : World} {sb tb tr c1 c2 : Nat} {t : ATree} {x : Int} (hp : CellsAt w sb 3 (tPtr.enc (some ⟨tb, 0, none⟩))) (ht : TreeAt w tb tr t) (hw : t.Wf) (h1 : CellsAt w c1 0 (tPtr.enc (some ⟨sb, 0, none⟩))) (h2 : CellsAt w c2 0 (tU64.enc x)) :
  IsChain (Fv.mk n_f60 [] [.pointer (some ⟨c1, 0, none⟩), .pointer (some ⟨c2, 0, none⟩)]) (t.atS x) w := by
 intro w' g s Q hq
 refine ⟨n_f60, [], [.pointer (some ⟨c1, 0, none⟩), .pointer (some ⟨c2, 0, none⟩)], rfl, cn_store_Store_chain_c1, ?_⟩
 refine so_f60 (a0 := s) (a1 := some ⟨c1, 0, none⟩) (a2 := some ⟨c2, 0, none⟩) _ _ ?_
 unfold sh_f60
 refine ⟨c1, 0, rfl, c2, 0, rfl, dw_i fun w1 e1 g1 => ?_⟩
 have gg := g.trans g1
 refine ld_i (h1.gr gg) ⟨sb, 0, rfl, ld_i (hp.gr gg) (ld_i (h2.gr gg) (c_tree_At (ht.gr gg) hw fun w2 g2 => ⟨_, rfl, hq w2 (g1.trans g2)⟩))⟩
end Go.Proofs.Ytdefmgkicdhmkaa
namespace Go.Proofs.Ytdefmgkicdhmkaa
open Go Go.Sx
set_option linter.unusedVariables false
theorem attAll_len : ∀ (vs : List AVote) (s : AStore), s.cfg.bal.length <= 4096 -> (AStore.attAll vs s).1.length <= 4096 * vs.length
 | [], _, _ => by simp [AStore.attAll]
 | v :: r, s, h => by
  have h1 := attAll_len r (s.attest v true).2 (by rw [(AStore.same_attest s v true).cfg]; exact h)
  have h2 : (s.attest v true).1.length <= 4096 := by
   unfold AStore.attest
   split
   ·rename_i he
    have hr := (AStore.attErr_ok he).1
    unfold voteRight at hr
    simp only [Bool.and_eq_true] at hr
    have := rising_len hr.2
    exact Nat.le_trans (takeAll_le _ _) (by omega)
   ·simp
  simp only [AStore.attAll, List.length_append, List.length_cons]
  omega
theorem slashAll_len : ∀ (ps : List AProof) (s : AStore), s.cfg.bal.length <= 4096 -> (AStore.slashAll ps s).1.length <= 4096 * ps.length
 | [], _, _ => by simp [AStore.slashAll]
 | p :: r, s, h => by
  have h1 := slashAll_len r (s.slash p).2 h
  have h2 : (s.slash p).1.length <= 4096 := Nat.le_trans (banAll_le _ _) (Nat.le_trans proofWho_len h)
  simp only [AStore.slashAll, List.length_append, List.length_cons]
  omega
theorem propose_tail {w : World} {sb b2 b6 c1 c2 : Nat} {O I D : Nat -> Prop} {A : AStore} {cs0 : List G_store_Change} {gb : G_api_Block} {b : ABlock} {gy : G_ledger_State} {Q : QW} (hw : A.Wf) (hE : A.propErr b = 0) (hU : U64 b.root) (hs : StoreAt w sb O I (A.lay b) cs0) (hcs : cs0.length <= 1001)
  (cb : CellsAt w b2 0 (t_api_Block.enc gb)) (hb : BlockIs D w gb b) (hD : ∀ j, D j -> ¬ O j) (hDl : ∀ j, D j -> j < w.heap.size) (cy : CellsAt w b6 0 (t_ledger_State.enc gy)) (hly : LedIs I w gy (A.newLed b))
  (cc1 : CellsAt w c1 0 (tPtr.enc (some ⟨sb, 0, none⟩))) (cc2 : CellsAt w c2 0 (tU64.enc b.root)) (n2 : ¬ O b2) (n6 : ¬ O b6) (n1 : ¬ O c1) (nn2 : ¬ O c2)
  (h : ∀ w' O', Grew O O' w w' -> StoreAt w' sb O' I (A.propose b).2 (cs0 ++ ((AStore.attAll b.votes (A.lay b)).1 ++ (AStore.slashAll b.proofs (AStore.attAll b.votes (A.lay b)).2).1 ++ (((AStore.slashAll b.proofs (AStore.attAll b.votes (A.lay b)).2).2.boostB b).raise (A.newLed b).just.Current (A.newLed b).just.Final).1 ++
   ((((AStore.slashAll b.proofs (AStore.attAll b.votes (A.lay b)).2).2.boostB b).raise (A.newLed b).just.Current (A.newLed b).just.Final).2.late b (A.newLed b)).1)) -> Q .nilIface w') :
  ld tSl w b2 3 fun x39 => (∃ I2 : Nat -> Int -> World -> Prop, (∃ m, I2 m 0 w) /\ ∀ m x40 w29, I2 m x40 w29 -> sh_f33_b5 (some ⟨sb, 0, none⟩) Q sb 0 b2 (Fv.mk n_f60 [] [.pointer (some ⟨c1, 0, none⟩), .pointer (some ⟨c2, 0, none⟩)]) b6 0 x39 x40 w29 (fun y0 w => ∃ m2, m2 < m /\ I2 m2 y0 w)) := by
 obtain ⟨hwl, hj1, hj2, hlo⟩ := hw.lay hE hU
 obtain ⟨s2, s3, es2, hws2, hsame, es3, hwb, hws3, hhas3, hc3, hs3, hpl, hprop, hwf, hhas, hchg⟩ := AStore.propose_parts hw hE hU
 rw [<- es2, <- es3] at h
 have hslots := AStore.mayCfg_slots hw.may
 have hslot := hw.slot
 obtain ⟨hbs, _, hv16, hp16, _, he0⟩ := AStore.propErr_ok hE
 obtain ⟨pn, hpn, hpns⟩ := (ATree.grown_of he0).par
 have hps := hw.tree.slot _ _ hpn
 have hbal : (A.lay b).cfg.bal.length <= 4096 := Nat.le_trans (m := 12) hw.bal.1 (by decide)
 generalize hfv : (Fv.mk n_f60 [] [.pointer (some ⟨c1, 0, none⟩), .pointer (some ⟨c2, 0, none⟩)]) = fv
 have hout : ∀ {O' : Nat -> Prop} {w' : World}, Grew O O' w w' -> ∀ j, D j -> ¬ O' j := fun hg j hj ho => by
  rcases hg.2 j ho with h1 | h1
  ·exact hD j hj h1
  ·have := hDl j hj; omega
 obtain ⟨gvs, hgv, hvi⟩ := hb.votes
 obtain ⟨gps, hgp, hpi⟩ := hb.proofs
 have lv := hvi.len
 have lp := hpi.len
 have hal := attAll_len b.votes (A.lay b) hbal
 have hsl := slashAll_len b.proofs (AStore.attAll b.votes (A.lay b)).2 (by rw [(AStore.attAll_wf b.votes hwl).2.cfg]; exact hbal)
 have hwa := (AStore.attAll_wf b.votes hwl).1
 have hsa := (AStore.attAll_wf b.votes hwl).2
 refine ld_i (x := gb.Votes) (cb.sub 3 1) ?_
 refine loop1 (sh_f33_b5 (some ⟨sb, 0, none⟩) Q sb 0 b2 fv b6 0 gb.Votes) (fun m i w' => 0 <= i /\ i.toNat <= b.votes.length /\ m = b.votes.length - i.toNat /\ ∃ O' c' Ai, Grew O O' w w' /\ StoreAt w' sb O' I Ai (cs0 ++ c') /\ Ai.Wf /\ c'.length <= 4096 * i.toNat /\ Ai.cfg = A.cfg /\
   AStore.attAll b.votes (A.lay b) = (c' ++ (AStore.attAll (b.votes.drop i.toNat) Ai).1, (AStore.attAll (b.votes.drop i.toNat) Ai).2))
  ⟨_, by omega, by simp, rfl, O, [], A.lay b, Grew.refl _ _, by simpa using hs, hwl, by simp, rfl, by simp⟩ ?_
 rintro m i w' nxt ⟨h0, hi, rfl, O', c', Ai, hg, hst, hwi, hcl, hcf, hat⟩ hnx
 have hz := hg.1.size
 unfold sh_f33_b5
 rw [hgv.1, lv]
 refine br_i (fun q => ?_) (fun q => ?_)
 ·have q := of_decide_eq_true q
  have hi' : i.toNat < b.votes.length := by omega
  have hig : i.toNat < gvs.length := by omega
  rw [List.drop_eq_getElem_cons hi'] at hat
  have hgv' := hgv.keeps hg.1 hD
  refine hgv'.ixs 7 (fun _ => rfl) h0 hig fun bq o _ hcell => ld_i (x := gvs[i.toNat]) hcell ?_
  have hv1 : VoteIs D w' gvs[i.toNat] b.votes[i.toNat] := (hvi.get hig hi').keeps hg.1 hD
  generalize gvs[i.toNat] = gv at hv1
  generalize b.votes[i.toNat] = v at hv1 hat
  refine al_st rfl fun b13 w13 e13 g13 c13 s13 => ld_i c13 ?_
  simp only [AStore.attAll] at hat
  refine c_attest (D := D) (hst.grow g13) hwi (by simp only [List.length_append]; omega) (hv1.gr g13) (hout (hg.trans (Grew.gr g13))) fun w14 O'' hg14 hst14 => ⟨errV (Ai.attErr v true), (errV_v _).symm, ?_⟩
  rw [wrap_i64 (n := i + 1) (by omega) (by omega)]
  have et : (i + 1).toNat = i.toNat + 1 := by omega
  have hl1 : (Ai.attest v true).1.length <= 4096 := by
   have := attAll_len [v] Ai (by rw [hcf]; exact hbal)
   simpa [AStore.attAll] using this
  refine hnx (b.votes.length - (i.toNat + 1)) _ _ (by omega) ⟨by omega, by omega, by rw [et], O'', c' ++ (Ai.attest v true).1, (Ai.attest v true).2, (hg.trans (Grew.gr g13)).trans hg14, by rw [<- List.append_assoc]; exact hst14, hwi.attest v true, by rw [List.length_append]; omega, ?_, ?_⟩
  ·rw [(AStore.same_attest Ai v true).cfg, hcf]
  ·rw [et, hat, List.append_assoc]
 ·have q := of_decide_eq_false q
  rw [List.drop_eq_nil_of_le (by omega)] at hat
  simp only [AStore.attAll, List.append_nil] at hat
  rw [hat] at h es2 hal hsl hwa hsa
  simp only at h es2 hal hsl hwa hsa
  clear hat hnx hcl
  unfold sh_f33_j6
  have cbk : CellsAt w' b2 0 (t_api_Block.enc gb) := cb.keeps hg.1 n2
  refine ld_i (x := gb.Proofs) (cbk.sub 4 1) ?_
  refine loop1 (sh_f33_b7 (some ⟨sb, 0, none⟩) Q sb 0 b2 fv b6 0 gb.Proofs) (fun m i w'' => 0 <= i /\ i.toNat <= b.proofs.length /\ m = b.proofs.length - i.toNat /\ ∃ O'' d' Aj, Grew O O'' w w'' /\ StoreAt w'' sb O'' I Aj (cs0 ++ c' ++ d') /\ Aj.Wf /\ d'.length <= 4096 * i.toNat /\ Aj.cfg = A.cfg /\
    AStore.slashAll b.proofs Ai = (d' ++ (AStore.slashAll (b.proofs.drop i.toNat) Aj).1, (AStore.slashAll (b.proofs.drop i.toNat) Aj).2))
   ⟨_, by omega, by simp, rfl, O', [], Ai, hg, by simpa using hst, hwi, by simp, hcf, by simp⟩ ?_
  clear hg hst hwi hcf hi q h0 cbk hz
  rintro m i w' nxt ⟨h0, hi, rfl, O', d', Aj, hg, hst, hwi, hcl, hcf, hat⟩ hnx
  have hz := hg.1.size
  unfold sh_f33_b7
  rw [hgp.1, lp]
  refine br_i (fun q => ?_) (fun q => ?_)
  ·have q := of_decide_eq_true q
   have hi' : i.toNat < b.proofs.length := by omega
   have hig : i.toNat < gps.length := by omega
   rw [List.drop_eq_getElem_cons hi'] at hat
   have hgp' := hgp.keeps hg.1 hD
   refine hgp'.ixs 14 (fun _ => rfl) h0 hig fun bq o _ hcell => ld_i (x := gps[i.toNat]) hcell ?_
   have hv1 : VoteIs D w' gps[i.toNat].A b.proofs[i.toNat].a /\ VoteIs D w' gps[i.toNat].B b.proofs[i.toNat].b := ⟨(hpi.get hig hi').1.keeps hg.1 hD, (hpi.get hig hi').2.keeps hg.1 hD⟩
   generalize gps[i.toNat] = gp at hv1
   generalize b.proofs[i.toNat] = p at hv1 hat
   refine al_st rfl fun b13 w13 e13 g13 c13 s13 => ld_i c13 ?_
   simp only [AStore.slashAll] at hat
   refine c_slash (D := D) (hst.grow g13) hwi (by simp only [List.length_append]; omega) (hv1.1.gr g13) (hv1.2.gr g13) fun w14 O'' hg14 hst14 => ⟨_, rfl, ?_⟩
   rw [wrap_i64 (n := i + 1) (by omega) (by omega)]
   have et : (i + 1).toNat = i.toNat + 1 := by omega
   have hl1 : (Aj.slash p).1.length <= 4096 := by
    have := slashAll_len [p] Aj (by rw [hcf]; exact hbal)
    simpa [AStore.slashAll] using this
   refine hnx (b.proofs.length - (i.toNat + 1)) _ _ (by omega) ⟨by omega, by omega, by rw [et], O'', d' ++ (Aj.slash p).1, (Aj.slash p).2, (hg.trans (Grew.gr g13)).trans hg14, by rw [<- List.append_assoc]; exact hst14, hwi.slash p, by rw [List.length_append]; omega, hcf, ?_⟩
   rw [et, hat, List.append_assoc]
  ·have q := of_decide_eq_false q
   rw [List.drop_eq_nil_of_le (by omega)] at hat
   simp only [AStore.slashAll, List.append_nil] at hat
   rw [hat] at h es2 hsl
   simp only at h es2 hsl
   subst es2
   have hcl2 : (cs0 ++ c' ++ d').length <= 200000 := by simp only [List.length_append]; omega
   have hat' : (cs0 ++ (c' ++ d' ++ ((s2.boostB b).raise (A.newLed b).just.Current (A.newLed b).just.Final).1 ++ (s3.late b (A.newLed b)).1)) = ((cs0 ++ c' ++ d') ++ ((s2.boostB b).raise (A.newLed b).just.Current (A.newLed b).just.Final).1) ++ (s3.late b (A.newLed b)).1 := by simp only [List.append_assoc]
   rw [hat'] at h
   generalize cs0 ++ c' ++ d' = cs2 at h hst hcl2
   clear hat hnx hcl hat' hal hsl hwa hsa
   unfold sh_f33_j8
   refine dw_i fun w9 e9 g9 => ?_
   obtain ⟨g, tb, tr, vb, lr, gr, gl, r0⟩ := hst
   have r := r0.gr g9 fun _ _ f => f
   have hg9 : Grew O O' w w9 := hg.trans (Grew.gr g9)
   have cb9 : CellsAt w9 b2 0 (t_api_Block.enc gb) := cb.keeps hg9.1 n2
   have cB : ∀ {w'}, CellsAt w' b2 0 (t_api_Block.enc gb) -> CellsAt w' b2 0 (tU64.enc b.root) /\ CellsAt w' b2 2 (tI64.enc b.slot) := fun hc => by
    rw [<- hb.root, <- hb.slot]; exact ⟨hc.sub 0 1, hc.sub 2 1⟩
   have hslt : CellsAt w9 sb 5 (tI64.enc s2.slot) := by rw [<- r.slot]; exact r.cells.sub 5 1
   have hbst : CellsAt w9 sb 6 (tU64.enc s2.boosted) := by rw [<- r.boosted]; exact r.cells.sub 6 1
   have z9 := hg9.1.size
   have lt2 : b2 < w.heap.size := cell_lt cb.1
   have lt6 : b6 < w.heap.size := cell_lt cy.1
   have lc1 : c1 < w.heap.size := cell_lt cc1.1
   have lc2 : c2 < w.heap.size := cell_lt cc2.1
   have J10 : ∀ w', Grew O O' w w' -> StoreAt w' sb O' I (s2.boostB b) cs2 -> sh_f33_j10 (some ⟨sb, 0, none⟩) Q sb 0 b2 fv b6 0 w' := by
    intro w' hg' hst'
    unfold sh_f33_j10
    have c6 : CellsAt w' b6 0 (t_ledger_State.enc gy) := cy.keeps hg'.1 n6
    have cj : CellsAt w' b6 6 (t_api_Point.enc (A.newLed b).just.Current) /\ CellsAt w' b6 8 (t_api_Point.enc (A.newLed b).just.Final) := by rw [<- hly.just]; exact ⟨c6.sub 6 2, c6.sub 8 2⟩
    refine ld_i cj.1 (ld_i cj.2 (c_raise hst' hwb (by omega) hj1.2.1 fun w11 O11 hg11 hst11 => dw_i fun w12 e12 g12 => ?_))
    rw [<- es3] at hst11
    have hrl : ((s2.boostB b).raise (A.newLed b).just.Current (A.newLed b).just.Final).1.length <= 1 := by unfold AStore.raise; simp only; split <;> simp
    have hg12 : Grew O O11 w w12 := (hg'.trans hg11).trans (Grew.gr g12)
    have hst12 := hst11.grow g12
    generalize ((s2.boostB b).raise (A.newLed b).just.Current (A.newLed b).just.Final).1 = d2 at h hst12 hrl
    have c612 : CellsAt w12 b6 0 (t_ledger_State.enc gy) := cy.keeps hg12.1 n6
    have hly12 : LedIs I w12 gy (A.newLed b) := by
     obtain ⟨_, _, _, _, _, _, _, rs⟩ := hs
     exact hly.keeps hg12.1 fun j hj ho => (rs.iOk j hj).1 ho
    have cc1' : CellsAt w12 c1 0 (tPtr.enc (some ⟨sb, 0, none⟩)) := cc1.keeps hg12.1 n1
    have cc2' : CellsAt w12 c2 0 (tU64.enc b.root) := cc2.keeps hg12.1 nn2
    have z12 := hg12.1.size
    obtain ⟨g2, tb2, tr2, vb2, lr2, gr2, gl2, r2⟩ := hst12
    have cT : CellsAt w12 sb 3 (tPtr.enc (some ⟨tb2, 0, none⟩)) := by rw [<- r2.ptree]; exact r2.cells.sub 3 1
    have hchain := chain_is cT r2.tree hws3.tree cc1' cc2'
    rw [hfv] at hchain
    have hok3 : CfgOk s3.cfg := ⟨hws3.bal, by rw [hc3]; exact ⟨hslots.1, hslots.2.1⟩⟩
    have hlo3 : LedOk s3.cfg.bal.length (A.newLed b) := by rw [hc3]; exact hlo
    have J11 : ∀ w' b15, Gr w12 w' -> w12.heap.size <= b15 -> CellsAt w' b15 0 (t_justify_State.enc (pull s3.cfg (A.newLed b) (s3.tree.atS b.root))) -> sh_f33_j11 (some ⟨sb, 0, none⟩) Q sb 0 b2 b15 0 w' := by
     intro w' b15 gw hb15 c15
     unfold sh_f33_j11
     refine dw_i fun w16 e16 g16 => ?_
     have gw16 := gw.trans g16
     have r16 := r2.gr gw16 fun _ _ f => f
     have cb16 : CellsAt w16 b2 0 (t_api_Block.enc gb) := cb.keeps (hg12.trans (Grew.gr gw16)).1 n2
     have cS : ∀ {w'}, Gr w12 w' -> CellsAt w' sb 5 (tI64.enc s3.slot) /\ CellsAt w' sb 1 (tI64.enc s3.cfg.slots) := fun g' => by
      rw [<- r2.slot, <- r2.cfg.slots]; exact ⟨(r2.gr g' fun _ _ f => f).cells.sub 5 1, (r2.gr g' fun _ _ f => f).cells.sub 1 1⟩
     refine ld_i (cB cb16).2 (ld_i (cS gw16).2 (ld_i (cS gw16).1 (ld_i (cS gw16).2 ?_)))
     refine c_epoch_Of (by unfold I64; omega) ⟨_, rfl, (cS gw16).1, (cS gw16).2, c_epoch_Of (by rw [hs3]; unfold I64; omega) ⟨_, rfl, ?_⟩⟩
     have hlate : s3.late b (A.newLed b) = if epochOf b.slot s3.cfg.slots < epochOf s3.slot s3.cfg.slots then s3.raise (pull s3.cfg (A.newLed b) (s3.tree.atS b.root)).Current (pull s3.cfg (A.newLed b) (s3.tree.atS b.root)).Final else ([], s3) := rfl
     rw [hprop, hlate] at h
     refine br_i (fun q5 => ?_) (fun q5 => ?_)
     ·have q5 := of_decide_eq_true q5
      rw [if_pos q5] at h
      have c15' := c15.gr g16
      refine ld_i (x := (pull s3.cfg (A.newLed b) (s3.tree.atS b.root)).Current) (c15'.sub 6 2) (ld_i (x := (pull s3.cfg (A.newLed b) (s3.tree.atS b.root)).Final) (c15'.sub 8 2) (c_raise ⟨g2, tb2, tr2, vb2, lr2, gr2, gl2, r16⟩ hws3 (by simp only [List.length_append]; omega) hpl.2.1 fun w17 O17 hg17 hst17 => ?_))
      unfold sh_f33_j12
      exact h w17 O17 ((hg12.trans (Grew.gr gw16)).trans hg17) hst17
     ·have q5 := of_decide_eq_false q5
      rw [if_neg q5] at h
      unfold sh_f33_j12
      refine h w16 O11 (hg12.trans (Grew.gr gw16)) ?_
      simp only [List.append_nil]
      exact ⟨g2, tb2, tr2, vb2, lr2, gr2, gl2, r16⟩
    refine ld_i (x := g2.Config) (r2.cells.sub 0 3) (ld_i c612 ⟨?_, ?_⟩)
    ·refine c_ledger_Pull r2.cfg hok3 hly12 hlo3 hchain fun w13 g13 => ⟨_, rfl, al_st rfl fun b14 w14 e14 g14 c14 s14 => ?_⟩
     have := g13.size
     exact J11 w14 b14 (g13.trans g14) (by omega) c14
    ·refine al_i fun b14 w14 e14 g14 c14 s14 => ⟨(r2.gr g14 fun _ _ f => f).cells.sub 0 3, c612.gr g14, c_ledger_Pull (r2.gr g14 fun _ _ f => f).cfg hok3 (hly12.gr g14) hlo3 (hchain.gr g14) fun w13 g13 => ⟨_, rfl, st_i (s14.keeps g13 fun f => f) fun w15 e15 k15 c15 => ?_⟩⟩
     exact J11 w15 b14 (Gr.local (g14.trans g13) k15 fun j e => by subst e; omega) (by omega) c15
   have hboost : s2.boostB b = if b.slot = s2.slot /\ s2.boosted = 0 then { s2 with boosted := b.root } else s2 := rfl
   have J9f : ¬ (b.slot = s2.slot /\ s2.boosted = 0) -> sh_f33_j9 (some ⟨sb, 0, none⟩) Q sb 0 b2 fv b6 0 false w9 := by
    intro hc
    unfold sh_f33_j9
    refine br_f rfl (J10 w9 hg9 ?_)
    rw [hboost, if_neg hc]
    exact ⟨g, tb, tr, vb, lr, gr, gl, r⟩
   refine ld_i (cB cb9).2 (ld_i hslt (br_i (fun q1 => ld_i hbst ?_) (fun q1 => ?_)))
   ·have q1 : b.slot = s2.slot := by simpa using q1
    cases hb0 : (s2.boosted == 0) with
    | false =>
     have hb0 : ¬ s2.boosted = 0 := by simpa using hb0
     exact J9f fun e => hb0 e.2
    | true =>
     have hb0 : s2.boosted = 0 := by simpa using hb0
     unfold sh_f33_j9
     refine br_t rfl (ld_i (cB cb9).1 (st_i (r.can.sub 6 1 (by omega)) fun w10 e10 k10 c10 => J10 w10 (hg9.trans ⟨k10.mono fun j _ e => by subst e; exact r.inO.1, fun _ h => .inl h⟩) ?_))
     rw [hboost, if_pos ⟨q1, hb0⟩]
     have n10 : CanSt w10 sb 0 14 := by rw [e10]; exact canSt_putL r.can
     have p10 : CellsAt w10 sb 0 (t_store_Store.enc { g with Boosted := b.root }) := by
      rw [e10]
      exact put_part (us := (t_store_Store.enc g).take 6) (ms := [.int .u64 g.Boosted]) (vs := [.int .u64 b.root]) (ts := (t_store_Store.enc g).drop 7) r.cells r.can rfl rfl
     exact ⟨_, tb, tr, vb, lr, gr, gl, r.set (A' := { s2 with boosted := b.root }) k10 p10 n10 rfl rfl rfl rfl rfl rfl rfl rfl rfl rfl rfl r.slot rfl r.just r.fin⟩
   ·have q1 : ¬ b.slot = s2.slot := by simpa using q1
    exact J9f fun e => q1 e.1
theorem c_propose {w : World} {sb : Nat} {O I D : Nat -> Prop} {A : AStore} {cs : List G_store_Change} {gb : G_api_Block} {b : ABlock} {Q : QW} (hs : StoreAt w sb O I A cs) (hw : A.Wf) (hcs : cs.length <= 1000) (hb : BlockIs D w gb b) (hD : ∀ b, D b -> ¬ O b) (hU : U64 b.root)
  (h : ∀ w' O' I', Grew O O' w w' -> (∀ b, I' b -> I b \/ w.heap.size <= b) -> StoreAt w' sb O' I' (A.propose b).2 (cs ++ (A.propose b).1) -> Q (errV (A.propErr b)).v w') :
  CallsR PP n_f33 #[.pointer (some ⟨sb, 0, none⟩), t_api_Block.val gb] Q w := by
 refine so_f33 _ _ ?_
 unfold sh_f33
 have hslots := AStore.mayCfg_slots hw.may
 have hslot := hw.slot
 refine ⟨sb, 0, rfl, al_i fun b2 w1 e1 g1 c1 _ => dw_i fun w2 e2 g2 => ?_⟩
 have G := g1.trans g2
 have z1 := g1.size; have z2 := g2.size
 have l2 : b2 < w1.heap.size := cell_lt c1.1
 have cb := c1.gr g2
 have hb2 := hb.bound.gr G
 have no2 : ¬ O b2 := fun ho => by have := hs.lt _ ho; omega
 have hs2 := hs.grow G
 clear c1 e1 e2
 obtain ⟨g, tb, tr, vb, lr, gr, gl, r⟩ := hs2
 have no : ∀ {k : Int} {w'}, Gr w2 w' -> A.propErr b = k -> k ≠ 0 -> Q (.iface i_api_Errno (.int .i64 k)) w' := by
  intro k w' g' hk h0
  have := h w' O I (Grew.gr (G.trans g')) (fun _ h => .inl h)
  have ha : A.propose b = ([], A) := by unfold AStore.propose; rw [hk, if_neg h0]
  rw [ha, hk, errV_v, if_neg h0, List.append_nil] at this
  exact this (hs.grow (G.trans g'))
 have cB : ∀ {w'}, CellsAt w' b2 0 (t_api_Block.enc gb) -> CellsAt w' b2 0 (tU64.enc b.root) /\ CellsAt w' b2 1 (tU64.enc b.parent) /\ CellsAt w' b2 2 (tI64.enc b.slot) := fun hc => by
  rw [<- hb.root, <- hb.parent, <- hb.slot]; exact ⟨hc.sub 0 1, hc.sub 1 1, hc.sub 2 1⟩
 have cS : CellsAt w2 sb 5 (tI64.enc A.slot) := by rw [<- r.slot]; exact r.cells.sub 5 1
 refine ld_i (cB cb).2.2 (ld_i cS (br_i (fun q => no (Gr.refl _) ?_ (by decide)) (fun q1 => ?_)))
 ·unfold AStore.propErr; rw [if_pos (of_decide_eq_true q)]
 have q1 := of_decide_eq_false q1
 refine ld_i (cB cb).1 (br_i (fun q => no (Gr.refl _) ?_ (by decide)) (fun q2 => ?_))
 ·have q : b.root = 0 := by simpa using q
  unfold AStore.propErr; rw [if_neg q1, if_pos q]
 have q2 : ¬ b.root = 0 := by simpa using q2
 obtain ⟨gvs, hgv, hvi⟩ := hb2.votes
 obtain ⟨gps, hgp, hpi⟩ := hb2.proofs
 have lv := hvi.len
 have lp := hpi.len
 have E1 : ¬ (b.votes.length > 16 \/ b.proofs.length > 16) -> A.propErr b = if (mget A.gone b.root).getD false then 6 else (A.tree.add b.root b.parent b.slot).1 := by
  intro hc; unfold AStore.propErr; rw [if_neg q1, if_neg q2, if_neg hc]
 have J1 : ∀ x, (x = true ↔ b.votes.length > 16 \/ b.proofs.length > 16) -> sh_f33_j1 (some ⟨sb, 0, none⟩) Q sb 0 b2 x w2 := by
  intro x hx
  unfold sh_f33_j1
  refine br_i (fun q => no (Gr.refl _) (by unfold AStore.propErr; rw [if_neg q1, if_neg q2, if_pos (hx.1 q)]) (by decide)) (fun q => ?_)
  have q3 : ¬ (b.votes.length > 16 \/ b.proofs.length > 16) := fun e => by rw [hx.2 e] at q; cases q
  have E1 := E1 q3
  refine dw_i fun w4 e4 g4 => ?_
  have r4 := r.gr g4 fun _ _ f => f
  have cg : CellsAt w4 sb 12 (tMap.enc (some gr)) := by rw [<- r.pgone]; exact r4.cells.sub 12 1
  refine ld_i cg (ld_i (cB (cb.gr g4)).1 (lkp_i r4.gone ?_))
  refine br_i (fun q => no g4 ?_ (by decide)) (fun q4 => ?_)
  ·rw [E1, if_pos q]
  rw [if_neg (by rw [q4]; simp)] at E1
  refine dw_i fun w5 e5 g5 => ?_
  have g25 := g4.trans g5
  have r5 := r.gr g25 fun _ _ f => f
  have cb5 := cb.gr g25
  have cT5 : CellsAt w5 sb 3 (tPtr.enc (some ⟨tb, 0, none⟩)) := by rw [<- r.ptree]; exact r5.cells.sub 3 1
  refine ld_i cT5 (ld_i (cB cb5).1 (ld_i (cB cb5).2.1 (ld_i (cB cb5).2.2 (c_tree_Add r5.tree hw.tree fun w6 k6 t6 => ?_))))
  refine ⟨errV (A.tree.add b.root b.parent b.slot).1, (errV_v _).symm, ?_⟩
  have ktr : ∀ b, b = tr -> O b := fun b e => by subst e; exact r.inO.2.2.1
  have gw6 : Grew O O w w6 := (Grew.gr (G.trans g25)).trans ⟨k6.mono fun b _ e => ktr b e, fun _ h => .inl h⟩
  rw [errV_nil]
  refine br_i (fun q => ?_) (fun q => ?_)
  ·have q : ¬ (A.tree.add b.root b.parent b.slot).1 = 0 := by simpa using q
   have hst : StoreAt w6 sb O I A cs := by
    have r6 := r5.treeM k6 t6
    rw [ATree.add_bad q] at r6
    exact ⟨g, tb, tr, vb, lr, gr, gl, r6⟩
   have := h w6 O I gw6 (fun _ h => .inl h)
   have ha : A.propose b = ([], A) := by unfold AStore.propose; rw [E1, if_neg q]
   rw [ha, E1, List.append_nil] at this
   exact this hst
  have he0 : (A.tree.add b.root b.parent b.slot).1 = 0 := by simpa using q
  have hE : A.propErr b = 0 := by rw [E1, he0]
  obtain ⟨hwl, hj1, hj2, hlo⟩ := hw.lay hE hU
  obtain ⟨s2, s3, es2, hws2, hsame, es3, hwb, hws3, hhas3, hc3, hs3, hpl, hprop, hwf, hhas, hchg⟩ := AStore.propose_parts hw hE hU
  have hgr := ATree.grown_of he0
  obtain ⟨pn, hpn, hpns⟩ := hgr.par
  have hkp : (mget A.leds b.parent).isSome = true := by rw [hw.lkeys, ATree.has_iff]; exact ⟨pn, hpn⟩
  obtain ⟨lpar, hlp⟩ := Option.isSome_iff_exists.1 hkp
  have hlpo := hw.lok _ _ hlp
  have hps := hw.tree.slot _ _ hpn
  have hrootn : (A.lay b).tree.get b.root = some ⟨b.parent, b.slot, pn.height + 1⟩ := by
   show (A.tree.add b.root b.parent b.slot).2.get b.root = _
   rw [hgr.get, if_pos rfl, hpn]; rfl
  have hcp : ChainPts PtOk A.cfg ((A.tree.add b.root b.parent b.slot).2.atS b.root) := by
   refine AStore.chain_atS hwl.tree hrootn _ fun e a h0 h1 ha => ?_
   obtain ⟨m, hm⟩ := ha.right
   have := hwl.roots a (ATree.has_iff.2 ⟨m, hm⟩)
   exact ⟨h0, h1, ⟨by show (0 : Int) <= a; omega, this.2⟩⟩
  have hok : CfgOk A.cfg := ⟨hw.bal, hslots.1, hslots.2.1⟩
  have hnl : A.newLed b = b.votes.foldl (fun l v => count A.cfg l v ((A.tree.add b.root b.parent b.slot).2.atS b.root)) (advance A.cfg lpar b.slot ((A.tree.add b.root b.parent b.slot).2.atS b.root)) := by unfold AStore.newLed; rw [hlp]; rfl
  have hadv := advance_inv (P := PtOk) (c := A.cfg) (l := lpar) (slot := b.slot) (at_ := (A.tree.add b.root b.parent b.slot).2.atS b.root) hlpo.pts hlpo.e0 hlpo.e1 hlpo.before hlpo.now (by omega) hcp
  rw [hE] at h
  rw [hchg] at h
  have r6 := r5.treeM k6 t6
  have z25 := g25.size; have z6 := k6.size
  have cb6 : CellsAt w6 b2 0 (t_api_Block.enc gb) := cb5.keeps k6 fun e => no2 (ktr _ e)
  refine dw_i fun w7 e7 g7 => ?_
  have r7 := r6.gr g7 fun _ _ f => f
  have cb7 := cb6.gr g7
  refine ld_i (x := g.changes) (r7.cells.sub 13 1) (ld_i (cB cb7).1 (ld_i (cB cb7).2.1 (alr_i fun b8 w8 e8 g8 c8 s8 => ⟨(r7.gr g8 fun _ _ f => f).cells.sub 13 1, ?_⟩)))
  refine st_push (r7.gr g8 fun _ _ f => f) (by omega) c8 fun w9 O9 hg9 hst9 => ?_
  have gw9 : Grew O O9 w w9 := gw6.trans ((Grew.gr (g7.trans g8)).trans hg9)
  have cb9 : CellsAt w9 b2 0 (t_api_Block.enc gb) := (cb7.gr g8).keeps hg9.1 no2
  have z9 := gw9.1.size
  have z78 := (g7.trans g8).size
  have z89 := hg9.1.size
  have hl9 := hst9.lt
  have no29 : ¬ O9 b2 := fun ho => by
   rcases hg9.2 _ ho with h1 | h1
   ·exact no2 h1
   ·omega
  have hD9 : ∀ b, (D b /\ b < w.heap.size) -> ¬ O9 b := gw9.out hD
  have hb9 : BlockIs (fun b => D b /\ b < w.heap.size) w9 gb b := hb.bound.keeps gw9.1 fun b hb' => hD b hb'.1
  refine ld_i (cB cb9).1 (c_chain fun w10 c1 c2 g10 hc1 hc2 hl1 hl2 cc1 cc2 => ⟨_, rfl, ?_⟩)
  have hst10 := hst9.grow g10
  have cb10 := cb9.gr g10
  have z10 := g10.size
  obtain ⟨g', tb', tr', vb', lr', gr', gl', ra⟩ := hst10
  have cT : CellsAt w10 sb 3 (tPtr.enc (some ⟨tb', 0, none⟩)) := by rw [<- ra.ptree]; exact ra.cells.sub 3 1
  have hchain : IsChain (Fv.mk n_f60 [] [.pointer (some ⟨c1, 0, none⟩), .pointer (some ⟨c2, 0, none⟩)]) ((A.tree.add b.root b.parent b.slot).2.atS b.root) w10 := chain_is cT ra.tree hwl.tree cc1 cc2
  generalize hfv : (Fv.mk n_f60 [] [.pointer (some ⟨c1, 0, none⟩), .pointer (some ⟨c2, 0, none⟩)]) = fv at hchain
  refine dw_i fun w11 e11 g11 => ?_
  have r11 := ra.gr g11 fun _ _ f => f
  have cb11 := cb10.gr g11
  have cl11 : CellsAt w11 sb 11 (tMap.enc (some lr')) := by rw [<- r11.pleds]; exact r11.cells.sub 11 1
  obtain ⟨gpar, hgpar, hgl⟩ := r11.lis.get hlp
  refine ld_i (x := g'.Config) (r11.cells.sub 0 3) (ld_i cl11 (ld_i (cB cb11).2.1 (lkp_i r11.leds (ld_i (cB cb11).2.2 ?_))))
  rw [hgpar]
  have hsl : I64 b.slot := by unfold I64; omega
  have z11 := g11.size
  have J2 : ∀ w' b6 gx, Gr w11 w' -> w11.heap.size <= b6 -> CellsAt w' b6 0 (t_ledger_State.enc gx) -> CanSt w' b6 0 13 -> LedIs (fun b => (I b \/ w11.heap.size <= b) /\ b ≠ b6) w' gx (advance A.cfg lpar b.slot ((A.tree.add b.root b.parent b.slot).2.atS b.root)) ->
    sh_f33_j2 (some ⟨sb, 0, none⟩) Q sb 0 b2 fv b6 0 w' := by
   intro w' b6 gx gw hb6 cx sx hlx
   unfold sh_f33_j2
   have gw10 := g11.trans gw
   have zw := gw.size
   have l6 : b6 < w'.heap.size := cell_lt cx.1
   have hb' := (hb9.gr (g10.trans gw10))
   obtain ⟨gvs, hgv, hvi⟩ := hb'.votes
   obtain ⟨gps, hgp, hpi⟩ := hb'.proofs
   have lv := hvi.len
   have lp := hpi.len
   have cbw := cb10.gr gw10
   refine ld_i (x := gb.Votes) (cbw.sub 3 1) ?_
   refine loop1 (sh_f33_b3 (some ⟨sb, 0, none⟩) Q sb 0 b2 fv b6 0 gb.Votes) (fun m i w'' => 0 <= i /\ i.toNat <= b.votes.length /\ m = b.votes.length - i.toNat /\ Keeps (· = b6) w' w'' /\ CanSt w'' b6 0 13 /\
     ∃ gy ly, CellsAt w'' b6 0 (t_ledger_State.enc gy) /\ LedIs (fun b => (I b \/ w11.heap.size <= b) /\ b ≠ b6) w'' gy ly /\ LedOk A.cfg.bal.length ly /\ A.newLed b = (b.votes.drop i.toNat).foldl (fun l v => count A.cfg l v ((A.tree.add b.root b.parent b.slot).2.atS b.root)) ly)
    ⟨_, by omega, by simp, rfl, Keeps.refl _ _, sx, gx, _, cx, hlx, ⟨hadv.2.1, hadv.2.2.1, hadv.1, hadv.2.2.2.1, hadv.2.2.2.2⟩, by simpa using hnl⟩ ?_
   rintro m i w'' nxt ⟨h0, hi, rfl, k6', s6, gy, ly, cy, hly, hlyo, hfold⟩ hnx
   have G11 : Gr w11 w'' := Gr.local gw k6' fun j e => by subst e; exact hb6
   have G10 := g11.trans G11
   have z'' := G11.size
   have zk6 := k6'.size
   unfold sh_f33_b3
   rw [hgv.1, lv]
   have cb'' := cb10.gr G10
   refine br_i (fun q => ?_) (fun q => ?_)
   ·have q := of_decide_eq_true q
    have hi' : i.toNat < b.votes.length := by omega
    have hig : i.toNat < gvs.length := by omega
    rw [List.drop_eq_getElem_cons hi', List.foldl_cons] at hfold
    have hv1 := hvi.get hig hi'
    have hgv'' : SlIs t_api_Vote (fun b => D b /\ b < w.heap.size) w'' gb.Votes gvs := hgv.keeps k6' fun j hj e => by subst e; omega
    refine hgv''.ixs 7 (fun _ => rfl) h0 hig fun bq o _ hcell => ld_i (x := gvs[i.toNat]) hcell ?_
    have hv2 : VoteIs (fun b => D b /\ b < w.heap.size) w'' gvs[i.toNat] b.votes[i.toNat] := hv1.keeps k6' fun j hj e => by subst e; omega
    generalize gvs[i.toNat] = gv at hv2
    generalize b.votes[i.toNat] = v at hv2 hfold
    refine al_st rfl fun b13 w13 e13 g13 c13 s13 => dw_i fun w14 e14 g14 => ?_
    have g1314 := g13.trans g14
    have r14 := (ra.gr (G10.trans g1314) fun _ _ f => f)
    refine ld_i (x := g'.Config) (r14.cells.sub 0 3) (ld_i (x := gy) (cy.gr g1314) (ld_i (x := gv) (c13.gr g14) ?_))
    have hcc : CfgIs I w14 g'.Config A.cfg := r14.cfg
    refine c_ledger_Count hcc hok (hly.gr g1314) hlyo (hv2.gr g1314) (hchain.gr (G10.trans g1314)) fun w15 g15' g15 hl15 => ⟨_, _, rfl, ?_⟩
    have z14 := g1314.size; have z15 := g15.size
    refine st_i ((s6.keeps g1314 fun f => f).keeps g15 fun f => f) fun w16 e16 k16 c16 => ?_
    rw [wrap_i64 (n := i + 1) (by omega) (by omega)]
    have et : (i + 1).toNat = i.toNat + 1 := by omega
    have hcj := count_just A.cfg ly v ((A.tree.add b.root b.parent b.slot).2.atS b.root)
    refine hnx (b.votes.length - (i.toNat + 1)) _ _ (by omega) ⟨by omega, by omega, by rw [et], k6'.trans ((Gr.keeps (g1314.trans g15)).trans k16), by rw [e16]; exact canSt_putL ((s6.keeps g1314 fun f => f).keeps g15 fun f => f), g15', _, c16, ?_, ⟨by rw [hcj.2.1]; exact hlyo.e0, by rw [hcj.2.1]; exact hlyo.e1, by rw [hcj.1]; exact hlyo.pts, by rw [hcj.2.2.1]; exact hlyo.before, by rw [hcj.2.2.2]; exact hlyo.now⟩, by rw [et]; exact hfold⟩
    refine (hl15.mono (D' := fun b => (I b \/ w11.heap.size <= b) /\ b ≠ b6) fun j hj => ?_).keeps k16 fun j hj e => hj.2 e
    rcases hj with hj | hj
    ·exact hj
    ·exact ⟨.inr (by omega), by omega⟩
   ·have q := of_decide_eq_false q
    rw [List.drop_eq_nil_of_le (by omega)] at hfold
    simp only [List.foldl_nil] at hfold
    unfold sh_f33_j4
    refine dw_i fun w13 e13 g13 => ?_
    have G13 := G10.trans g13
    have r13 := ra.gr G13 fun _ _ f => f
    have cl13 : CellsAt w13 sb 11 (tMap.enc (some lr')) := by rw [<- r13.pleds]; exact r13.cells.sub 11 1
    have cb13 := cb''.gr g13
    have z13 := g13.size
    refine ld_i cl13 (ld_i (cB cb13).1 (ld_i (x := gy) (cy.gr g13) (mset_i r13.leds fun w14 k14 m14 => ?_)))
    have hly13 := (hly.gr g13).bound
    have r14 := r13.led (I' := fun j => I j \/ (w11.heap.size <= j /\ j < w13.heap.size /\ j ≠ b6)) k14 m14 (l := ly) (hly13.mono fun j hj => by
      rcases hj.1.1 with h1 | h1
      ·exact .inl h1
      ·exact .inr ⟨h1, hj.2, hj.1.2⟩) (fun j hj => .inl hj) (fun j hj => by
      rcases hj with h1 | ⟨h1, h2, _⟩
      ·exact r13.iOk j h1
      ·exact ⟨fun ho => by have := hl9 _ ho; omega, h2⟩)
    generalize hI' : (fun j => I j \/ (w11.heap.size <= j /\ j < w13.heap.size /\ j ≠ b6)) = I' at r14
    have hlr : lr' < w9.heap.size := hl9 _ r13.inO.2.2.2.2.1
    have z14 := k14.size
    rw [<- hfold] at r14 hly13
    have hst14 : StoreAt w14 sb O9 I' (A.lay b) (cs ++ [⟨0, b.root, b.parent, 0, 0, false⟩]) := ⟨_, _, _, _, _, _, _, r14⟩
    have c6 : CellsAt w14 b6 0 (t_ledger_State.enc gy) := (cy.gr g13).keeps k14 (by omega)
    have cb14 : CellsAt w14 b2 0 (t_api_Block.enc gb) := cb13.keeps k14 fun e => no29 (by rw [e]; exact r13.inO.2.2.2.2.1)
    have gO : Grew O O9 w w14 := gw9.trans ((Grew.gr (g10.trans G13)).trans ⟨k14.mono fun j _ e => by subst e; exact r13.inO.2.2.2.2.1, fun _ h => .inl h⟩)
    have hI'' : ∀ j, I' j -> I j \/ w.heap.size <= j := fun j hj => by
     rw [<- hI'] at hj
     rcases hj with h1 | h1
     ·exact .inl h1
     ·exact .inr (by omega)
    have hb14 : BlockIs (fun b => D b /\ b < w.heap.size) w14 gb b := hb.bound.keeps gO.1 fun j hj => hD j hj.1
    have hly14 : LedIs I' w14 gy (A.newLed b) := by
     rw [<- hI']
     refine (hly13.mono fun j hj => ?_).keeps k14 fun j hj e => ?_
     ·rcases hj.1.1 with h1 | h1
      ·exact .inl h1
      ·exact .inr ⟨h1, hj.2, hj.1.2⟩
     ·subst e
      rcases hj with h1 | ⟨h1, _⟩
      ·exact (r13.iOk _ h1).1 r13.inO.2.2.2.2.1
      ·omega
    have cc1' : CellsAt w14 c1 0 (tPtr.enc (some ⟨sb, 0, none⟩)) := (cc1.gr G13).keeps k14 (by omega)
    have cc2' : CellsAt w14 c2 0 (tU64.enc b.root) := (cc2.gr G13).keeps k14 (by omega)
    have z0 := gO.1.size
    have n6 : ¬ O9 b6 := fun ho => by have := hl9 _ ho; omega
    have n1 : ¬ O9 c1 := fun ho => by have := hl9 _ ho; omega
    have n2 : ¬ O9 c2 := fun ho => by have := hl9 _ ho; omega
    have l6' : b6 < w14.heap.size := cell_lt c6.1
    have := propose_tail (Q := Q) hw hE hU hst14 (by simp only [List.length_append, List.length_singleton]; omega) cb14 hb14 hD9 (fun j hj => by have := hj.2; omega) c6 hly14 cc1' cc2' no29 n6 n1 n2 fun w' O' hg' hst' => by
     have hx := h w' O' I' (gO.trans hg') hI''
     rw [errV_v, if_pos rfl, es3, es2] at hx
     refine hx ?_
     rw [List.append_assoc] at hst'
     exact hst'
    rw [hfv] at this
    exact this
  refine ⟨?_, ?_⟩
  ·refine c_ledger_Advance r11.cfg hok hgl hlpo hsl (by omega) hcp (hchain.gr g11) fun w13 gx g13 hlx => ⟨gx, rfl, al_st rfl fun b14 w14 e14 g14 c14 s14 => ?_⟩
   have z13 := g13.size
   refine J2 w14 b14 gx (g13.trans g14) (by omega) c14 s14 ((hlx.bound.gr g14).mono fun j hj => ⟨hj.1, by omega⟩)
  ·refine al_i fun b14 w14 e14 g14 c14 s14 => ?_
   have r14 := r11.gr g14 fun _ _ f => f
   have cb14 := cb11.gr g14
   have cl14 : CellsAt w14 sb 11 (tMap.enc (some lr')) := by rw [<- r14.pleds]; exact r14.cells.sub 11 1
   have z14 := g14.size
   have l14 : b14 < w14.heap.size := cell_lt c14.1
   refine ⟨r14.cells.sub 0 3, cl14, (cB cb14).2.1, ⟨_, r14.leds, hgpar⟩, (cB cb14).2.2, ?_⟩
   refine c_ledger_Advance r14.cfg hok (hgl.gr g14) hlpo hsl (by omega) hcp (hchain.gr (g11.trans g14)) fun w13 gx g13 hlx => ⟨gx, rfl, st_i (s14.keeps g13 fun f => f) fun w15 e15 k15 c15 => ?_⟩
   have z13 := g13.size
   refine J2 w15 b14 gx (Gr.local (g14.trans g13) k15 fun j e => by subst e; omega) (by omega) c15 (by rw [e15]; exact canSt_putL (s14.keeps g13 fun f => f)) ((hlx.mono (D' := fun j => (I j \/ w11.heap.size <= j) /\ j ≠ b14) fun j hj => ?_).keeps k15 fun j hj e => hj.2 e)
   rcases hj with hj | hj
   ·exact ⟨.inl hj, fun e => by have := (r11.iOk j hj).2; omega⟩
   ·exact ⟨.inr (by omega), by omega⟩
 refine ld_i (x := gb.Votes) (cb.sub 3 1) ?_
 rw [hgv.1, lv]
 refine br_i (fun q => ?_) (fun q => ?_)
 ·have q := of_decide_eq_true q
  exact J1 true ⟨fun _ => .inl (by omega), fun _ => rfl⟩
 ·have q := of_decide_eq_false q
  refine ld_i (x := gb.Proofs) (cb.sub 4 1) ?_
  rw [hgp.1, lp]
  refine J1 _ ?_
  rw [decide_eq_true_eq]
  exact ⟨fun e => .inr (by omega), fun e => by omega⟩
end Go.Proofs.Ytdefmgkicdhmkaa
namespace Go.Proofs.Ytdefmgkicdhmkaa
open Go Go.Sx
set_option linter.unusedVariables false
structure EventIs (D : Nat -> Prop) (w : World) (g : G_api_Event) (e : AEvent) : Prop where
 kind : g.Kind = e.kind
 slot : g.Slot = e.slot
 block : BlockIs D w g.Block e.block
 vote : VoteIs D w g.Vote e.vote
 pa : VoteIs D w g.Proof.A e.proof.a
 pb : VoteIs D w g.Proof.B e.proof.b
 root : U64 e.block.root
theorem EventIs.keeps {D S : Nat -> Prop} {w w' : World} {g : G_api_Event} {e : AEvent} (h : EventIs D w g e) (k : Keeps S w w') (hs : ∀ b, D b -> ¬ S b) : EventIs D w' g e :=
 { h with block := h.block.keeps k hs, vote := h.vote.keeps k hs, pa := h.pa.keeps k hs, pb := h.pb.keeps k hs }
theorem EventIs.gr {D : Nat -> Prop} {w w' : World} {g : G_api_Event} {e : AEvent} (h : EventIs D w g e) (k : Gr w w') : EventIs D w' g e := h.keeps k fun _ _ f => f
theorem EventIs.mono {D D' : Nat -> Prop} {w : World} {g : G_api_Event} {e : AEvent} (h : EventIs D w g e) (hd : ∀ b, D b -> D' b) : EventIs D' w g e :=
 { h with block := h.block.mono hd, vote := h.vote.mono hd, pa := h.pa.mono hd, pb := h.pb.mono hd }
theorem EventIs.bound {D : Nat -> Prop} {w : World} {g : G_api_Event} {e : AEvent} (h : EventIs D w g e) : EventIs (fun b => D b /\ b < w.heap.size) w g e :=
 { h with block := h.block.bound, vote := h.vote.bound, pa := h.pa.bound, pb := h.pb.bound }
theorem c_Apply {w : World} {sb : Nat} {O I D : Nat -> Prop} {A : AStore} {cs : List G_store_Change} {ge : G_api_Event} {e : AEvent} {Q : QW} (hs : StoreAt w sb O I A cs) (hw : A.Wf) (he : EventIs D w ge e) (hD : ∀ b, D b -> ¬ O b)
  (h : ∀ w' O' I' s, Grew O O' w w' -> (∀ b, I' b -> I b \/ w.heap.size <= b) -> StoreAt w' sb O' I' (A.apply e).2 (A.apply e).1 -> SlIs t_store_Change O' w' s (A.apply e).1 -> Q (.tuple #[.slice s.a s.len s.cap, (errV (A.applyErr e)).v]) w') :
  CallsR PP n_f12 #[.pointer (some ⟨sb, 0, none⟩), t_api_Event.val ge] Q w := by
 refine so_f12 _ _ ?_
 unfold sh_f12
 refine ⟨sb, 0, rfl, al_i fun b2 w1 e1 g1 c1 _ => ?_⟩
 have z1 := g1.size
 have l2 : b2 < w1.heap.size := cell_lt c1.1
 have hs1 := hs.grow g1
 have no2 : ¬ O b2 := fun ho => by have := hs.lt _ ho; omega
 obtain ⟨g, tb, tr, vb, lr, gr, gl, r⟩ := hs1
 refine st_i (r.can.sub 13 1 (by omega)) fun w2 e2 k2 c2 => ?_
 have n2 : CanSt w2 sb 0 14 := by rw [e2]; exact canSt_putL r.can
 have p2 : CellsAt w2 sb 0 (t_store_Store.enc { g with changes := nilSl }) := by
  rw [e2]
  exact put_part (us := (t_store_Store.enc g).take 13) (ms := tSl.enc g.changes) (vs := tSl.enc nilSl) (ts := []) r.cells r.can rfl rfl
 have r' : StRep w1 sb O { g with changes := nilSl } tb tr vb lr gr gl I A [] -> StRep w2 sb O { g with changes := nilSl } tb tr vb lr gr gl I A [] := fun r0 =>
  r0.set k2 p2 n2 rfl rfl rfl rfl rfl rfl rfl rfl rfl rfl rfl r.slot r.boosted r.just r.fin
 have hs2 : StoreAt w2 sb O I A [] := by
  obtain ⟨d1, d2, d3, d4, d5, _⟩ := r.dis
  exact ⟨{ g with changes := nilSl }, tb, tr, vb, lr, gr, gl, { cells := p2, can := n2, ptree := r.ptree, tree := r.tree.keeps k2 (Ne.symm d1) (Ne.symm d2), tcan := r.tcan.keeps k2 (Ne.symm d1), votes := r.votes.keeps k2 (Ne.symm d3), slot := r.slot, boosted := r.boosted, just := r.just, fin := r.fin, pleds := r.pleds, leds := r.leds.keeps k2 (Ne.symm d4), lis := r.lis.keeps k2 fun b hb e => r.nI.1 (e ▸ hb), pgone := r.pgone, gone := r.gone.keeps k2 (Ne.symm d5), cfg := r.cfg.keeps k2 fun b hb e => r.nI.1 (e ▸ hb), chg := OwnP.nil, inO := r.inO, dis := r.dis, nI := r.nI, iOk := fun b hb => ⟨(r.iOk b hb).1, Nat.lt_of_lt_of_le (r.iOk b hb).2 k2.size⟩, lt := fun b hb => Nat.lt_of_lt_of_le (r.lt b hb) k2.size }⟩
 clear r'
 have hk2 : ∀ b, b = sb -> O b := fun b e => by subst e; exact r.inO.1
 have gw2 : Grew O O w w2 := (Grew.gr g1).trans ⟨k2.mono fun b _ e => hk2 b e, fun _ h => .inl h⟩
 have c2' : CellsAt w2 b2 0 (t_api_Event.enc ge) := c1.keeps k2 fun e => no2 (hk2 _ e)
 have z2 := k2.size
 have he2 : EventIs (fun b => D b /\ b < w.heap.size) w2 ge e := he.bound.keeps gw2.1 fun b hb => hD b hb.1
 have hD2 : ∀ b, (D b /\ b < w.heap.size) -> ¬ O b := fun b hb => hD b hb.1
 have fin : ∀ {w' O' I' k cs'} {A' : AStore}, Grew O O' w2 w' -> (∀ b, I' b -> I b \/ w2.heap.size <= b) -> StoreAt w' sb O' I' A' cs' -> (A.apply e).2 = A' -> (A.apply e).1 = cs' -> A.applyErr e = k -> sh_f12_j1 Q sb 0 (errV k) w' := by
  intro w' O' I' k cs' A' hg hI hst e1 e2 e3
  unfold sh_f12_j1
  subst e1 e2 e3
  obtain ⟨g', tb', tr', vb', lr', gr', gl', r'⟩ := hst
  refine ld_i (x := g'.changes) (r'.cells.sub 13 1) (h w' O' I' g'.changes (gw2.trans hg) (fun b hb => (hI b hb).imp id fun e => by omega) ⟨g', tb', tr', vb', lr', gr', gl', r'⟩ (r'.chg.is.mono fun b hb => hb.1))
 have fin2 : ∀ {w' O' I' k cs'} {A' : AStore}, Grew O O' w2 w' -> (∀ b, I' b -> I b \/ w2.heap.size <= b) -> StoreAt w' sb O' I' A' cs' -> (A.apply e).2 = A' -> (A.apply e).1 = cs' -> A.applyErr e = k -> ∃ x : Ifc, (errV k).v = x.v /\ sh_f12_j1 Q sb 0 x w' :=
  fun hg hI hst e1 e2 e3 => ⟨_, rfl, fin hg hI hst e1 e2 e3⟩
 have hid : ∀ b, I b -> I b \/ w2.heap.size <= b := fun _ h => .inl h
 refine ld_i (x := ge.Kind) (c2'.sub 0 1) ?_
 rw [he.kind]
 have ap : A.apply e = if e.kind = 0 then ([], A.tick e.slot) else if e.kind = 1 then A.propose e.block else if e.kind = 2 then A.attest e.vote false else if e.kind = 3 then A.slash e.proof else ([], A) := rfl
 have ae : A.applyErr e = if e.kind = 0 then A.tickErr e.slot else if e.kind = 1 then A.propErr e.block else if e.kind = 2 then A.attErr e.vote false else if e.kind = 3 then A.slashErr e.proof else 1 := rfl
 refine br_i (fun q => ?_) (fun q => ?_)
 ·have q : e.kind = 0 := by simpa using q
  rw [if_pos q] at ap ae
  refine ld_i (x := ge.Slot) (c2'.sub 1 1) ?_
  rw [he.slot]
  refine c_tick hs2 fun w3 hg3 hst3 => ?_
  rw [<- errV_v]
  exact fin2 hg3 hid hst3 (by rw [ap]) (by rw [ap]) ae
 have q0 : ¬ e.kind = 0 := by simpa using q
 rw [if_neg q0] at ap ae
 refine br_i (fun q => ?_) (fun q => ?_)
 ·have q : e.kind = 1 := by simpa using q
  rw [if_pos q] at ap ae
  refine ld_i (x := ge.Block) (c2'.sub 2 5) (c_propose hs2 hw (by simp) he2.block hD2 he.root fun w3 O3 I3 hg3 hI3 hst3 => ?_)
  exact fin2 hg3 hI3 hst3 (by rw [ap]) (by rw [ap]; simp) ae
 have q1 : ¬ e.kind = 1 := by simpa using q
 rw [if_neg q1] at ap ae
 refine br_i (fun q => ?_) (fun q => ?_)
 ·have q : e.kind = 2 := by simpa using q
  rw [if_pos q] at ap ae
  refine ld_i (x := ge.Vote) (c2'.sub 7 7) (c_attest hs2 hw (by simp) he2.vote hD2 fun w3 O3 hg3 hst3 => ?_)
  rw [<- errV_v]
  exact fin2 hg3 hid hst3 (by rw [ap]) (by rw [ap]; simp) ae
 have q2 : ¬ e.kind = 2 := by simpa using q
 rw [if_neg q2] at ap ae
 refine br_i (fun q => ?_) (fun q => ?_)
 ·have q : e.kind = 3 := by simpa using q
  rw [if_pos q] at ap ae
  refine ld_i (x := ge.Proof) (c2'.sub 14 14) (c_slash (D := fun b => D b /\ b < w.heap.size) hs2 hw (by simp) he2.pa he2.pb fun w3 O3 hg3 hst3 => ?_)
  exact fin2 hg3 hid hst3 (by rw [ap]) (by rw [ap]; simp) ae
 have q3 : ¬ e.kind = 3 := by simpa using q
 rw [if_neg q3] at ap ae
 exact fin (Grew.refl _ _) hid hs2 (by rw [ap]) (by rw [ap]) ae
theorem MapAt.other {α β : Type} {T : Ty α} {T' : Ty β} {w : World} {r : Nat} (h : MapAt T w r ([] : List (Int × α))) : MapAt T' w r ([] : List (Int × β)) := by
 obtain ⟨ents, clock, h1, h2, h3, h4⟩ := h
 refine ⟨ents, clock, h1, ?_, by simp, h4⟩
 unfold EntsOf at h2 ⊢
 simpa using h2
theorem VotesAt.lt {w : World} {s : Sl} {b n : Nat} {x : G_latest_Entry} (h : VotesAt w s b (List.replicate n x)) (hn : 1 <= n) : b < w.heap.size := by
 have := h.can
 rw [List.length_replicate] at this
 obtain ⟨k, hk⟩ := Nat.exists_eq_succ_of_ne_zero (show n * 4 ≠ 0 by omega)
 rw [hk] at this
 obtain ⟨⟨v, hv'⟩, _⟩ := this
 exact cell_lt hv'
set_option maxHeartbeats 8000000 in
theorem c_store_Of {w : World} {D : Nat -> Prop} {gc : G_api_Config} {c : ACfg} {Q : QW} (hc : CfgIs D w gc c) (hb : ∀ b ∈ c.bal, 0 <= b /\ b <= 4294967296) (hm : mayCfg c = true)
    (h : ∀ w' sb O I, Gr w w' -> (∀ b, O b -> w.heap.size <= b) -> (∀ b, I b -> w.heap.size <= b) -> StoreAt w' sb O I (AStore.of c) [] -> Q (.tuple #[.pointer (some ⟨sb, 0, none⟩), .nilIface]) w') :
    CallsR PP n_f10 #[t_api_Config.val gc] Q w := by
  refine so_f10 _ _ ?_
  unfold sh_f10
  have hsl := AStore.mayCfg_slots hm
  refine al_i fun b1 w1 e1 g1 c1 s1 => ld_i (x := gc) c1 (c_config_May (hc.gr g1) fun w2 g2 => ⟨_, rfl, br_f (by rw [hm]; rfl) (al_i fun b2 w3 e3 g3 c3 s3 => st_i s3 fun w4 e4 k4 c4 => ?_)⟩)
  have z1 := g1.size; have z2 := g2.size; have z3 := g3.size; have z4 := k4.size
  have l1 : b1 < w1.heap.size := cell_lt c1.1
  have l2 : b2 < w3.heap.size := cell_lt c3.1
  have g24 : Gr w2 w4 := Gr.local g3 k4 fun j e => by subst e; omega
  have G4 := g1.trans (g2.trans g24)
  have c14 := c1.gr (g2.trans g24)
  have s14 := s1.keeps (g2.trans g24) fun f => f
  refine ld_i (x := gc.Balances) (c14.sub 0 1) (app_copy (T := tU64) (fun _ => rfl) (fun y v hv => by simp at hv; subst hv; rfl) Nat.zero_lt_one (hc.bal.gr G4) (by omega) fun s5 w5 g5 o5 => st_i ((s14.keeps g5 fun f => f).sub 0 1 (by show 0 + 1 <= 3; omega)) fun w6 e6 k6 c6 => dw_i fun w7 e7 g7 => ?_)
  have z5 := g5.size; have z6 := k6.size; have z7 := g7.size
  have cC : CellsAt w7 b1 0 (t_api_Config.enc { gc with Balances := s5 }) := by
    have h0 := c14.gr g5
    have : CellsAt w6 b1 1 [.int .i64 gc.Slots, .int .i64 gc.Boost] := by rw [e6]; exact CellsAt.put_other (.inr (by simp)) (h0.sub 1 2)
    exact (show CellsAt w6 b1 0 (t_api_Config.enc { gc with Balances := s5 }) from ⟨c6.1, this⟩).gr g7
  have cP : CellsAt w7 b2 0 (t_api_Point.enc ⟨0, 1⟩) := ((c4.gr g5).keeps k6 (by omega)).gr g7
  have G : Gr w w7 := (Gr.local (G4.trans g5) k6 fun j e => by subst e; omega).trans g7
  have hI : SlIs tU64 (fun b => w4.heap.size <= b /\ b < w5.heap.size) w7 s5 c.bal := (o5.is.keeps k6 fun b hb e => by subst e; omega).gr g7
  have hbl : ({ gc with Balances := s5 } : G_api_Config).Balances.len = c.bal.length := hI.1
  have hcC : CfgIs (fun b => w4.heap.size <= b /\ b < w5.heap.size) w7 { gc with Balances := s5 } c := { slots := hc.slots, boost := hc.boost, bal := hI, islots := hc.islots, iboost := hc.iboost }
  have cS := cC.sub 0 1
  clear c1 s1 c3 s3 c14 s14 c4 e1 e3 e4 e6 e7 hI
  generalize hgc : ({ gc with Balances := s5 } : G_api_Config) = gc' at cC cS hcC hbl
  have FIN : ∀ (wk : World) (tb tr vb lb gb : Nat) (sv : Sl) (gl : G_ledger_State) (ld : Nat), Gr w7 wk -> TreeAt wk tb tr (ATree.one 1 0) -> CanSt wk tb 0 2 -> VotesAt wk sv vb (List.replicate c.bal.length ⟨false, 0, 0, false⟩) -> MapAt t_ledger_State wk lb (mput [] 1 gl) -> LedIs (fun b => w7.heap.size <= b /\ b < wk.heap.size /\ b ≠ tb /\ b ≠ tr /\ b ≠ vb /\ b ≠ lb /\ b ≠ gb) wk gl (ledOpen c 1) -> MapAt tBool wk gb [] ->
      (w7.heap.size <= tb /\ w7.heap.size <= tr /\ w7.heap.size <= vb /\ w7.heap.size <= lb /\ w7.heap.size <= gb) -> (tb ≠ tr /\ tb ≠ vb /\ tb ≠ lb /\ tb ≠ gb /\ tr ≠ vb /\ tr ≠ lb /\ tr ≠ gb /\ vb ≠ lb /\ vb ≠ gb /\ lb ≠ gb) ->
      al t_store_Store ld wk (⟨gc', some ⟨tb, 0, none⟩, sv, 0, 0, ⟨0, 1⟩, ⟨0, 1⟩, some lb, some gb, nilSl⟩ : G_store_Store) fun b w' => sh_f10_j1 Q b 0 w' := by
    intro wk tb tr vb lb gb sv gl ld gk ht htc hv hm hl hg hlo hdis
    refine al_i fun sb ws es gs cs ss => ?_
    unfold sh_f10_j1
    have zk := gk.size; have zs := gs.size
    have lts : sb < ws.heap.size := cell_lt cs.1
    have lt1 : tb < wk.heap.size := cell_lt ht.cells.1
    have lt2 := ht.map.lt
    have lt4 := hm.lt
    have lt5 := hg.lt
    have lt3 : vb < wk.heap.size := by
      have := hv.can
      rw [List.length_replicate] at this
      obtain ⟨k, hk⟩ := Nat.exists_eq_succ_of_ne_zero (show c.bal.length * 4 ≠ 0 by omega)
      rw [hk] at this
      obtain ⟨⟨v, hv'⟩, _⟩ := this
      exact cell_lt hv'
    have zw := G.size
    refine h ws sb (fun b => b = sb \/ b = tb \/ b = tr \/ b = vb \/ b = lb \/ b = gb) (fun b => (w4.heap.size <= b /\ b < w5.heap.size) \/ (w7.heap.size <= b /\ b < wk.heap.size /\ b ≠ tb /\ b ≠ tr /\ b ≠ vb /\ b ≠ lb /\ b ≠ gb)) (G.trans (gk.trans gs)) (fun b hb => by omega) (fun b hb => by have := G4.size; omega) ⟨(⟨gc', some ⟨tb, 0, none⟩, sv, 0, 0, ⟨0, 1⟩, ⟨0, 1⟩, some lb, some gb, nilSl⟩ : G_store_Store), tb, tr, vb, lb, gb, mput [] 1 gl, ?_⟩
    exact { cells := cs, can := ss, ptree := rfl, tree := ht.gr gs, tcan := htc.keeps gs fun f => f, votes := hv.gr gs, slot := rfl, boosted := rfl, just := rfl, fin := rfl, pleds := rfl, leds := hm.gr gs, lis := ⟨rfl, (hl.gr gs).mono fun b hb => .inr hb, trivial⟩, pgone := rfl, gone := hg.gr gs, cfg := (hcC.gr (gk.trans gs)).mono fun b hb => .inl hb, chg := OwnP.nil,
            inO := ⟨.inl rfl, by omega, by omega, by omega, by omega, by omega⟩, dis := ⟨by omega, by omega, by omega, by omega, by omega, by omega, by omega, by omega, by omega, by omega, by omega, by omega, by omega, by omega, by omega⟩, nI := ⟨by omega, by omega, by omega, by omega, by omega, by omega⟩, iOk := fun b hb => ⟨by omega, by omega⟩, lt := fun b hb => by omega }
  have gk : Gr w7 w7 := Gr.refl w7
  refine ld_i cC (ld_i cS (ld_i cP (ld_i cP (ld_i cC ?_))))
  rw [hbl]
  have hn4 : c.bal.length <= 4096 := by omega
  have hn1 : 1 <= c.bal.length := by omega
  clear hc
  repeat' first
    | refine And.intro cC ?_
    | refine And.intro cP ?_
    | refine And.intro cS ?_
    | (
      refine c_tree_Of fun w' tb tr g q1 q2 q3 ht htc => ⟨_, rfl, ?_⟩
      have y1 := cell_lt ht.cells.1; have y2 := ht.map.lt
      have z := g.size
      replace gk := gk.trans g; replace cC := cC.gr g; replace cP := cP.gr g; replace cS := cS.gr g
      try replace hv := hv.gr g
      try replace hl := hl.gr g
      try replace hmA := hmA.gr g
      try replace hgA := hgA.gr g
      try replace hmB := hmB.gr g
      try replace hgB := hgB.gr g)
    | (
      refine c_latest_Of hn4 fun sv vb w' q1 g hv => ⟨sv, rfl, ?_⟩
      have y1 := hv.lt hn1
      have z := g.size
      replace gk := gk.trans g; replace cC := cC.gr g; replace cP := cP.gr g; replace cS := cS.gr g
      try replace ht := ht.gr g
      try replace htc := htc.keeps g fun f => f
      try replace hl := hl.gr g
      try replace hmA := hmA.gr g
      try replace hgA := hgA.gr g
      try replace hmB := hmB.gr g
      try replace hgB := hgB.gr g)
    | (
      refine c_ledger_Open (hcC.gr gk) hn4 fun w' gl g hl0 => ⟨gl, rfl, ?_⟩
      have hl := hl0.bound
      clear hl0
      have z := g.size
      replace gk := gk.trans g; replace cC := cC.gr g; replace cP := cP.gr g; replace cS := cS.gr g
      try replace ht := ht.gr g
      try replace htc := htc.keeps g fun f => f
      try replace hv := hv.gr g
      try replace hmA := hmA.gr g
      try replace hgA := hgA.gr g
      try replace hmB := hmB.gr g
      try replace hgB := hgB.gr g)
    | (
      have q0 := hmA
      clear q0
      refine mkm_i t_ledger_State fun r w' q1 g hmB => ?_
      have hgB : MapAt tBool w' r [] := MapAt.other hmB
      have y1 := hmB.lt
      have z := g.size
      replace gk := gk.trans g; replace cC := cC.gr g; replace cP := cP.gr g; replace cS := cS.gr g
      try replace ht := ht.gr g
      try replace htc := htc.keeps g fun f => f
      try replace hv := hv.gr g
      try replace hl := hl.gr g
      try replace hmA := hmA.gr g
      try replace hgA := hgA.gr g)
    | (
      refine mkm_i t_ledger_State fun r w' q1 g hmA => ?_
      have hgA : MapAt tBool w' r [] := MapAt.other hmA
      have y1 := hmA.lt
      have z := g.size
      replace gk := gk.trans g; replace cC := cC.gr g; replace cP := cP.gr g; replace cS := cS.gr g
      try replace ht := ht.gr g
      try replace htc := htc.keeps g fun f => f
      try replace hv := hv.gr g
      try replace hl := hl.gr g)
    | (
      refine mset_i hmA fun w' k hmA => ?_
      clear hgA
      have z := k.size
      replace gk := Gr.local gk k fun j e => by omega
      replace cC := cC.keeps k (by have := cell_lt cC.1; omega); replace cP := cP.keeps k (by omega); replace cS := cC.sub 0 1
      try replace ht := ht.keeps k (by omega) (by omega)
      try replace htc := htc.keeps k (by omega)
      try replace hv := hv.keeps k (by omega)
      try replace hl := hl.keeps k fun b hb e => by omega
      try replace hgB := hgB.keeps k (by omega))
    | (
      refine mset_i hmB fun w' k hmB => ?_
      clear hgB
      have z := k.size
      replace gk := Gr.local gk k fun j e => by omega
      replace cC := cC.keeps k (by omega); replace cP := cP.keeps k (by omega); replace cS := cC.sub 0 1
      try replace ht := ht.keeps k (by omega) (by omega)
      try replace htc := htc.keeps k (by omega)
      try replace hv := hv.keeps k (by omega)
      try replace hl := hl.keeps k fun b hb e => by omega
      try replace hgA := hgA.keeps k (by omega))
    | exact FIN _ _ _ _ _ _ _ _ _ gk ht htc hv hmA (hl.mono fun b hb => by omega) hgB (by omega) (by omega)
    | exact FIN _ _ _ _ _ _ _ _ _ gk ht htc hv hmB (hl.mono fun b hb => by omega) hgA (by omega) (by omega)
    | refine And.intro ?_ ?_
end Go.Proofs.Ytdefmgkicdhmkaa
namespace Go.Proofs.Ytdefmgkicdhmkaa
open Go Go.Sx
set_option linter.unusedVariables false
theorem ItAt.keeps {α : Type} {T : Ty α} {S : Nat -> Prop} {w w' : World} {it r : Nat} {rem : List (Int × α)} {cur : Option (Int × α)} (h : ItAt T w it (some r) rem cur) (k : Keeps S w w') (h1 : ¬ S it) (h2 : ¬ S r) : ItAt T w' it (some r) rem cur := by
 obtain ⟨ents, clock, seen, hit, hmap, rest⟩ := h
 exact ⟨ents, clock, seen, At.keeps hit k h1, At.keeps hmap k h2, rest⟩
end Go.Proofs.Ytdefmgkicdhmkaa
namespace Go.Proofs.Ytdefmgkicdhmkaa
open Go Go.Sx
set_option linter.unusedVariables false
theorem SlIs.cut1 {α : Type} {T : Ty α} {sz : Nat} {D : Nat -> Prop} {w : World} {s : Sl} {x : α} {r : List α} (hz : ∀ x, (T.enc x).length = sz) (h : SlIs T D w s (x :: r)) : SlIs T D w (s.cut sz 1 s.len s.cap) r := by
 have hl := h.1
 have hc := h.2.1
 simp only [List.length_cons] at hl
 refine ⟨by show s.len - 1 = r.length; omega, by show s.len - 1 <= s.cap - 1; omega, ?_⟩
 cases r with
 | nil => exact .inl rfl
 | cons y r =>
  right
  rcases h.2.2 with e | ⟨b, o, ha, hd, hcell⟩
  ·cases e
  ·refine ⟨b, o + sz, ?_, hd, ?_⟩
   ·unfold Sl.cut
    simp only [List.length_cons] at hl
    rw [if_neg (by omega), ha]
    simp [Addr.add]
   ·rw [List.flatMap_cons, CellsAt.append, hz] at hcell
    exact hcell.2
structure MkAt (w : World) (mb sb : Nat) (Dn Db : Nat -> Prop) (bsl : Sl) (bs : List Int) : Prop where
 ex : ∃ nsl ns, CellsAt w mb 0 (t_psephoslaw14_maker.enc ⟨some ⟨sb, 0, none⟩, nsl, bsl⟩) /\ SlIs tU8 Dn w nsl ns /\ (∀ x ∈ ns, 0 <= x /\ x <= 255) /\ OwnP tU64 1 Db w bsl bs
 can : CanSt w mb 0 3
 nd : ¬ Dn mb /\ ¬ Db mb
 bne : bs ≠ []
 bok : ∀ x ∈ bs, 1 <= x /\ x <= 1000
 bl : bs.length <= 500
 dl : ∀ b, Dn b \/ Db b -> b < w.heap.size
theorem MkAt.keeps {w w' : World} {mb sb : Nat} {Dn Db S : Nat -> Prop} {bsl : Sl} {bs : List Int} (h : MkAt w mb sb Dn Db bsl bs) (k : Keeps S w w') (h1 : ¬ S mb) (h2 : ∀ b, Dn b -> ¬ S b) (h3 : ∀ b, Db b -> ¬ S b) : MkAt w' mb sb Dn Db bsl bs := by
 obtain ⟨nsl, ns, a, b, c, d⟩ := h.ex
 exact { h with ex := ⟨nsl, ns, a.keeps k h1, b.keeps k h2, c, d.keeps k h3⟩, can := h.can.keeps k h1, dl := fun b hb => Nat.lt_of_lt_of_le (h.dl b hb) k.size }
theorem MkAt.gr {w w' : World} {mb sb : Nat} {Dn Db : Nat -> Prop} {bsl : Sl} {bs : List Int} (h : MkAt w mb sb Dn Db bsl bs) (k : Gr w w') : MkAt w' mb sb Dn Db bsl bs := h.keeps k (fun f => f) (fun _ _ f => f) fun _ _ f => f
theorem MkAt.lt {w : World} {mb sb : Nat} {Dn Db : Nat -> Prop} {bsl : Sl} {bs : List Int} (h : MkAt w mb sb Dn Db bsl bs) : mb < w.heap.size := by obtain ⟨⟨v, hv⟩, _⟩ := h.can; exact cell_lt hv
theorem c_next {w : World} {mb sb : Nat} {Dn Db : Nat -> Prop} {bsl : Sl} {bs : List Int} {n : Int} {Q : QW} (hm : MkAt w mb sb Dn Db bsl bs) (hn : 1 <= n)
  (h : ∀ w' x, Keeps (· = mb) w w' -> MkAt w' mb sb Dn Db bsl bs -> 0 <= x -> x < n -> Q (.int .i64 x) w') :
  CallsR PP n_f48 #[.pointer (some ⟨mb, 0, none⟩), .int .i64 n] Q w := by
 refine so_f48 _ _ ?_
 unfold sh_f48
 obtain ⟨nsl, ns, hc, hs, hr, hb⟩ := hm.ex
 refine ⟨mb, 0, rfl, ld_i (x := nsl) (hc.sub 1 1) (br_i (fun q => h w 0 (Keeps.refl _ _) hm (by omega) (by omega)) (fun q => ?_))⟩
 cases ns with
 | nil => rw [hs.1] at q; simp at q
 | cons x r =>
  refine ld_i (x := nsl) (hc.sub 1 1) (hs.ixs 1 (fun _ => rfl) (by omega) (by simp) fun b o _ hx => ld_i (x := x) hx (ld_i (x := nsl) (hc.sub 1 1) ⟨⟨by omega, by rw [hs.1]; simp; omega⟩, ?_⟩))
  refine st_i (hm.can.sub 1 1 (by omega)) fun w1 e1 k1 c1 => ⟨by omega, ?_⟩
  have hx := hr x (by simp)
  rw [wrap_i64 (n := x) (by omega) (by omega), Int.tmod_eq_emod_of_nonneg hx.1]
  have h0 := Int.emod_nonneg x (show n ≠ 0 by omega)
  have h1 := Int.emod_lt_of_pos x (show 0 < n by omega)
  refine h w1 _ k1 ?_ h0 h1
  refine { ex := ⟨nsl.cut 1 1 nsl.len nsl.cap, r, ?_, SlIs.cut1 (fun _ => rfl) (hs.keeps k1 fun b hb e => hm.nd.1 (e ▸ hb)), fun y hy => hr y (by simp [hy]), hb.keeps k1 fun b hb e => hm.nd.2 (e ▸ hb)⟩, can := by rw [e1]; exact canSt_putL hm.can, nd := hm.nd, bne := hm.bne, bok := hm.bok, bl := hm.bl, dl := fun b hb => Nat.lt_of_lt_of_le (hm.dl b hb) k1.size }
  have a0 : CellsAt w1 mb 0 (tPtr.enc (some ⟨sb, 0, none⟩)) := by rw [e1]; exact CellsAt.put_other (.inl (by simp)) (hc.sub 0 1)
  have a2 : CellsAt w1 mb 2 (tSl.enc bsl) := by rw [e1]; exact CellsAt.put_other (.inr (by simp)) (hc.sub 2 1)
  exact ⟨a0.1, c1.1, a2⟩
theorem c_mblock {w : World} {mb sb : Nat} {Dn Db : Nat -> Prop} {bsl : Sl} {bs : List Int} {Q : QW} (hm : MkAt w mb sb Dn Db bsl bs)
  (h : ∀ w' x, Keeps (· = mb) w w' -> MkAt w' mb sb Dn Db bsl bs -> x ∈ bs -> Q (.int .u64 x) w') :
  CallsR PP n_f49 #[.pointer (some ⟨mb, 0, none⟩)] Q w := by
 refine so_f49 _ _ ?_
 unfold sh_f49
 refine ⟨mb, 0, rfl, c_next hm (by omega) fun w1 x k1 m1 h0 h1 => ⟨_, rfl, ?_⟩⟩
 have hl := hm.bl
 have hp := List.length_pos_iff.2 hm.bne
 refine br_i (fun q => dw_i fun w2 e2 g2 => ?_) (fun q => dw_i fun w2 e2 g2 => ?_)
 ·have m2 := m1.gr g2
  obtain ⟨nsl, ns, hc, hs, hr, hb⟩ := m2.ex
  have hbl := hb.1
  refine ld_i (x := bsl) (hc.sub 2 1) (ld_i (x := bsl) (hc.sub 2 1) ?_)
  rw [hbl, wrap_i64 (n := (bs.length : Int) - 1) (by omega) (by omega)]
  refine hb.is.ixs 1 (fun _ => rfl) (by omega) (by omega) fun b o _ hx => ld_i (x := bs[((bs.length : Int) - 1).toNat]) hx ?_
  exact h w2 _ (k1.trans (Gr.keeps g2)) m2 (List.getElem_mem _)
 ·have m2 := m1.gr g2
  obtain ⟨nsl, ns, hc, hs, hr, hb⟩ := m2.ex
  have hbl := hb.1
  refine ld_i (x := bsl) (hc.sub 2 1) (ld_i (x := bsl) (hc.sub 2 1) ?_)
  rw [hbl]
  refine c_next m2 (by omega) fun w3 y k3 m3 hy0 hy1 => ⟨_, rfl, ?_⟩
  have hb3 := hb.keeps k3 fun b hb e => m2.nd.2 (e ▸ hb)
  obtain ⟨nsl', ns', hc', _⟩ := m3.ex
  have hy : y.toNat < bs.length := by omega
  refine ⟨hc'.sub 2 1, hb3.is.ixs 1 (fun _ => rfl) hy0 hy fun b o _ hx => ld_i (x := bs[y.toNat]) hx ?_⟩
  exact h w3 _ (k1.trans ((Gr.keeps g2).trans k3)) m3 (List.getElem_mem _)
theorem MkAt.far {w w' : World} {mb sb : Nat} {Dn Db S : Nat -> Prop} {bsl : Sl} {bs : List Int} (h : MkAt w mb sb Dn Db bsl bs) (k : Keeps S w w') (hs : ∀ b, S b -> b ≠ mb /\ ¬ Dn b /\ ¬ Db b) : MkAt w' mb sb Dn Db bsl bs :=
 h.keeps k (fun e => (hs _ e).1 rfl) (fun b hb e => (hs b e).2.1 hb) fun b hb e => (hs b e).2.2 hb
theorem c_mvote {w : World} {mb sb : Nat} {O I Dn Db : Nat -> Prop} {A : AStore} {cs : List G_store_Change} {bsl : Sl} {bs : List Int} {head slot : Int} {Q : QW} (hm : MkAt w mb sb Dn Db bsl bs) (hs : StoreAt w sb O I A cs) (hw : A.Wf) (hO : ¬ O mb /\ ¬ I mb)
  (hsl : 0 <= slot /\ slot <= 1099511627776) (h : ∀ w' gv v, Keeps (· = mb) w w' -> MkAt w' mb sb Dn Db bsl bs -> VoteIs (w.heap.size <= ·) w' gv v -> Q (t_api_Vote.val gv) w') :
  CallsR PP n_f50 #[.pointer (some ⟨mb, 0, none⟩), .int .u64 head, .int .i64 slot] Q w := by
 refine so_f50 _ _ ?_
 unfold sh_f50
 have hslots := AStore.mayCfg_slots hw.may
 have lmb := hm.lt
 refine ⟨mb, 0, rfl, al_i fun b2 w1 e1 g1 c1 s1 => ?_⟩
 have z1 := g1.size
 have l2 : b2 < w1.heap.size := cell_lt c1.1
 have cM : ∀ {w'}, MkAt w' mb sb Dn Db bsl bs -> CellsAt w' mb 0 (tPtr.enc (some ⟨sb, 0, none⟩)) := fun m => by obtain ⟨nsl, ns, hc, _⟩ := m.ex; exact hc.sub 0 1
 have m1 := hm.gr g1
 obtain ⟨g, tb, tr, vb, lr, gr, gl, r⟩ := hs.grow g1
 refine ld_i (cM m1) ⟨sb, 0, rfl, ld_i (x := g.Config) (r.cells.sub 0 3) (al_st rfl fun b4 w2 e2 g2 c2 s2 => al_st rfl fun b5 w3 e3 g3 c3 s3 => ?_)⟩
 have z2 := g2.size; have z3 := g3.size
 have l4 : b4 < w2.heap.size := cell_lt c2.1
 have l5 : b5 < w3.heap.size := cell_lt c3.1
 have G := g1.trans (g2.trans g3)
 have R : ∀ {w'}, Gr w1 w' -> StRep w' sb O g tb tr vb lr gr gl I A cs := fun g' => r.gr g' fun _ _ f => f
 have c43 := c2.gr g3
 refine ld_i (x := g.Config.Slots) (c43.sub 1 1) ?_
 rw [r.cfg.slots]
 refine c_epoch_Of (by unfold I64; omega) ⟨_, rfl, dw_i fun w4 e4 g4 => ?_⟩
 have n0 := epochOf_nonneg slot A.cfg.slots
 have n1 := epochOf_le slot A.cfg.slots
 have z4 := g4.size
 have g14 := g2.trans (g3.trans g4)
 have R4 := R g14
 have cT : ∀ {w'}, Gr w1 w' -> CellsAt w' sb 3 (tPtr.enc (some ⟨tb, 0, none⟩)) := fun g' => by rw [<- r.ptree]; exact (R g').cells.sub 3 1
 have m4 := m1.gr g14
 have c44 := c43.gr g4
 have cSl : CellsAt w4 b4 1 (tI64.enc A.cfg.slots) := by rw [<- r.cfg.slots]; exact c44.sub 1 1
 refine ld_i (cM m4) ⟨sb, 0, rfl, ld_i (cT g14) (ld_i cSl (c_epoch_Start (epochStart_i64 (by omega) ⟨hslots.1, hslots.2.1⟩) ⟨_, rfl, cM m4, cT g14, c_tree_At R4.tree hw.tree fun w5 g5 => ⟨_, rfl, ?_⟩⟩))⟩
 have z5 := g5.size
 have s5 := s3.keeps (g4.trans g5) fun f => f
 have c5 : CellsAt w5 b5 0 (t_api_Vote.enc ⟨slot, head, ⟨0, 0⟩, ⟨0, 0⟩, nilSl⟩) := c3.gr (g4.trans g5)
 generalize A.tree.atS head (epochStart (epochOf slot A.cfg.slots) A.cfg.slots) = tr0
 refine st_i (s5.sub 4 2 (by show 4 + 2 <= 7; omega)) fun w6 e6 k6 c6 => ?_
 have z6 := k6.size
 have s6 : CanSt w6 b5 0 7 := by rw [e6]; exact canSt_putL s5
 have c60 : CellsAt w6 b5 0 (t_api_Vote.enc ⟨slot, head, ⟨0, 0⟩, ⟨epochOf slot A.cfg.slots, tr0⟩, nilSl⟩) := by
  have a : CellsAt w6 b5 0 [.int .i64 slot, .int .u64 head, .int .i64 0, .int .u64 0] := by rw [e6]; exact CellsAt.put_other (.inl (by simp)) (c5.sub 0 4)
  have b : CellsAt w6 b5 6 [.slice nilSl.a nilSl.len nilSl.cap] := by rw [e6]; exact CellsAt.put_other (.inr (by simp)) (c5.sub 6 1)
  exact ⟨a.1, a.2.1, a.2.2.1, a.2.2.2.1, c6.1, c6.2.1, b⟩
 have g16 : Gr w1 w6 := Gr.local (g14.trans g5) k6 fun j e => by subst e; omega
 have m6 := m1.gr g16
 have R6 := R g16
 have cJ : CellsAt w6 sb 7 (t_api_Point.enc A.just) := by rw [<- r.just]; exact R6.cells.sub 7 2
 refine ld_i (cM m6) ⟨sb, 0, rfl, ld_i cJ (st_i (s6.sub 2 2 (by omega)) fun w7 e7 k7 c7 => ?_)⟩
 have z7 := k7.size
 have s7 : CanSt w7 b5 0 7 := by rw [e7]; exact canSt_putL s6
 have c70 : CellsAt w7 b5 0 (t_api_Vote.enc ⟨slot, head, A.just, ⟨epochOf slot A.cfg.slots, tr0⟩, nilSl⟩) := by
  have a : CellsAt w7 b5 0 [.int .i64 slot, .int .u64 head] := by rw [e7]; exact CellsAt.put_other (.inl (by simp)) (c60.sub 0 2)
  have b : CellsAt w7 b5 4 [.int .i64 (epochOf slot A.cfg.slots), .int .u64 tr0, .slice nilSl.a nilSl.len nilSl.cap] := by rw [e7]; exact CellsAt.put_other (.inr (by simp)) (c60.sub 4 3)
  exact ⟨a.1, a.2.1, c7.1, c7.2.1, b⟩
 have g17 : Gr w1 w7 := Gr.local g16 k7 fun j e => by subst e; omega
 have m7 := m1.gr g17
 refine c_next m7 (by omega) fun w8 x8 k8 m8 h80 h81 => ⟨_, rfl, c_next m8 (by omega) fun w9 x9 k9 m9 h90 h91 => ⟨_, rfl, ?_⟩⟩
 have z8 := k8.size; have z9 := k9.size
 have k79 : Keeps (· = mb) w7 w9 := k8.trans k9
 have c90 := c70.keeps k79 (by omega)
 have s9 := s7.keeps k79 (by omega)
 have c49 : CellsAt w9 b4 0 (t_api_Config.enc g.Config) := (((c44.gr g5).keeps k6 (by omega)).keeps k7 (by omega)).keeps k79 (by omega)
 have kw9 : Keeps (· = mb) w w9 := (Gr.keeps (g1.trans g17)).trans k79
 have J1 : ∀ x14, sh_f50_j1 (some ⟨mb, 0, none⟩) Q b2 b4 b5 x14 w9 := by
  intro x14
  unfold sh_f50_j1
  refine ld_i (x := g.Config.Balances) (c49.sub 0 1) ?_
  have hbl : g.Config.Balances.len = A.cfg.bal.length := r.cfg.bal.1
  have hb4 := hw.bal.1
  have hdl := hm.dl
  have hnb : ∀ b, w.heap.size <= b -> b ≠ mb /\ ¬ Dn b /\ ¬ Db b := fun b hb => ⟨by omega, fun e => by have := hdl b (.inl e); omega, fun e => by have := hdl b (.inr e); omega⟩
  refine loop1 (sh_f50_b2 (some ⟨mb, 0, none⟩) Q b2 b5 x14 g.Config.Balances) (fun m i w' => 0 <= i /\ i.toNat <= A.cfg.bal.length /\ m = A.cfg.bal.length - i.toNat /\ Keeps (· = b5) w9 w' /\ CanSt w' b5 0 7 /\
    ∃ sw ws, CellsAt w' b5 0 (t_api_Vote.enc ⟨slot, head, A.just, ⟨epochOf slot A.cfg.slots, tr0⟩, sw⟩) /\ OwnS tI64 1 w9.heap.size w' sw ws /\ (∀ k ∈ ws, I64 k) /\ ws.length <= i.toNat)
   ⟨_, by omega, by simp, rfl, Keeps.refl _ _, s9, nilSl, [], c90, OwnS.nil, by simp, by simp⟩ ?_
  rintro m i w' nxt ⟨h0, hi, rfl, kk, sk, sw, ws, ck, ho, hI, hwl⟩ hnx
  have hz := kk.size
  unfold sh_f50_b2
  rw [hbl]
  refine br_i (fun q => ⟨h0, ?_⟩) (fun q => ?_)
  ·have q := of_decide_eq_true q
   have next : ∀ w'', Keeps (· = b5) w9 w'' -> CanSt w'' b5 0 7 -> (∃ sw ws, CellsAt w'' b5 0 (t_api_Vote.enc ⟨slot, head, A.just, ⟨epochOf slot A.cfg.slots, tr0⟩, sw⟩) /\ OwnS tI64 1 w9.heap.size w'' sw ws /\ (∀ k ∈ ws, I64 k) /\ ws.length <= i.toNat + 1) -> sh_f50_j3 i nxt w'' := by
    intro w'' a1 a4 a5
    unfold sh_f50_j3
    rw [wrap_i64 (n := i + 1) (by omega) (by omega)]
    have et : (i + 1).toNat = i.toNat + 1 := by omega
    exact hnx (A.cfg.bal.length - (i.toNat + 1)) _ _ (by omega) ⟨by omega, by omega, by rw [et], a1, a4, by rw [et]; exact a5⟩
   refine br_i (fun q2 => ?_) (fun q2 => next w' kk sk ⟨sw, ws, ck, ho, hI, by omega⟩)
   refine ld_i (x := sw) (ck.sub 6 1) (alr_i fun b8 w10 e10 g10 c10 s10 => ?_)
   have z10 := g10.size
   have hl10 : SlIs tI64 (fun _ => True) w10 ⟨some ⟨b8, 0, none⟩, 1, 1⟩ [i] := ⟨rfl, Nat.le_refl _, .inr ⟨b8, 0, rfl, trivial, by simpa using c10⟩⟩
   refine (ho.gr g10).app (fun _ => rfl) (fun y v hv => by simp at hv; subst hv; rfl) hl10 (by omega) (by simp only [List.length_singleton]; omega) fun s' w11 k11 ho11 => ?_
   have z11 := k11.size
   have kn : Keeps (fun b => w9.heap.size <= b) w' w11 := (Gr.keeps g10).trans (k11.mono fun b _ e => e.1)
   have c11 := ck.keeps kn (by omega)
   have s11 := sk.keeps kn (by omega)
   refine st_i (s11.sub 6 1 (by omega)) fun w12 e12 k12 c12 => next w12 ((Keeps.local (kk.trans (Gr.keeps g10)) k11 fun j e => .inl e.1).trans k12) (by rw [e12]; exact canSt_putL s11) ⟨s', ws ++ [i], ?_, ho11.keeps k12 fun b hb e => by subst e; omega, ?_, by simp; omega⟩
   ·have a : CellsAt w12 b5 0 ((t_api_Vote.enc ⟨slot, head, A.just, ⟨epochOf slot A.cfg.slots, tr0⟩, sw⟩).take 6) := by rw [e12]; exact CellsAt.put_other (.inl (by simp)) (c11.sub 0 6)
    exact ⟨a.1, a.2.1, a.2.2.1, a.2.2.2.1, a.2.2.2.2.1, a.2.2.2.2.2.1, c12⟩
   ·intro k hk
    rcases List.mem_append.1 hk with hk | hk
    ·exact hI k hk
    ·simp at hk; subst hk; unfold I64; omega
  ·
   unfold sh_f50_j4
   have mk := m9.far kk fun b e => by subst e; exact hnb _ (by omega)
   have kw' : Keeps (· = mb) w w' := Keeps.local kw9 kk fun j e => .inl (by subst e; omega)
   have hzz := kw'.size
   have J5 : ∀ w'' src rt, Keeps (fun b => b = mb \/ b = b5) w' w'' -> MkAt w'' mb sb Dn Db bsl bs -> CellsAt w'' b5 0 (t_api_Vote.enc ⟨slot, head, src, ⟨epochOf slot A.cfg.slots, rt⟩, sw⟩) -> sh_f50_j5 Q b2 b5 w'' := by
    intro w'' src rt k'' m'' c''
    unfold sh_f50_j5
    have s2' : CanSt w'' b2 0 7 := (((((((s1.keeps (g2.trans g3) fun f => f).keeps (g4.trans g5) fun f => f).keeps k6 (by omega)).keeps k7 (by omega)).keeps k79 (by omega)).keeps kk (by omega)).keeps k'' (by omega))
    have z'' := k''.size
    refine ld_i c'' (st_i s2' fun w13 e13 k13 c13 => ld_i c13 ?_)
    have z13 := k13.size
    refine h w13 _ ⟨slot, head, src, ⟨epochOf slot A.cfg.slots, rt⟩, ws⟩ (Keeps.local (Keeps.local kw' k'' fun j e => ?_) k13 fun j e => .inl (by subst e; omega)) (m''.far k13 fun b e => by subst e; exact hnb _ (by omega)) ?_
    ·rcases e with e | e
     ·exact .inr e
     ·exact .inl (by subst e; omega)
    ·refine { slot := rfl, head := rfl, src := rfl, tgt := rfl, who := ?_, islot := by unfold I64; simp only; omega, itgt := by unfold I64; simp only; omega, iwho := hI, len := by simp only; omega }
     exact ((ho.is.keeps k'' fun b hb e => by omega).keeps k13 fun b hb e => by subst e; omega).mono fun b hb => by omega
   refine c_next mk (by omega) fun w10 x10 k10 m10 h100 h101 => ⟨_, rfl, ?_⟩
   have c10 := ck.keeps k10 (by omega)
   have s10 := sk.keeps k10 (by omega)
   have z10 := k10.size
   have k10' : Keeps (fun b => b = mb \/ b = b5) w' w10 := k10.mono fun b _ e => .inl e
   refine br_i (fun q1 => ?_) (fun q1 => br_i (fun q2 => ?_) (fun q2 => J5 w10 _ _ k10' m10 c10))
   ·refine c_next m10 (by omega) fun w11 x11 k11 m11 h110 h111 => ⟨_, rfl, ?_⟩
    have c11 := c10.keeps k11 (by omega)
    have s11 := s10.keeps k11 (by omega)
    refine st_i (s11.sub 2 2 (by omega)) fun w12 e12 k12 c12 => J5 w12 ⟨x11, 1⟩ tr0 (k10'.trans ((k11.mono fun b _ e => .inl e).trans (k12.mono fun b _ e => .inr e))) (m11.far k12 fun b e => by subst e; exact hnb _ (by omega)) ?_
    have a : CellsAt w12 b5 0 [.int .i64 slot, .int .u64 head] := by rw [e12]; exact CellsAt.put_other (.inl (by simp)) (c11.sub 0 2)
    have b : CellsAt w12 b5 4 [.int .i64 (epochOf slot A.cfg.slots), .int .u64 tr0, .slice sw.a sw.len sw.cap] := by rw [e12]; exact CellsAt.put_other (.inr (by simp)) (c11.sub 4 3)
    exact ⟨a.1, a.2.1, c12.1, c12.2.1, b⟩
   ·refine c_mblock m10 fun w11 x11 k11 m11 hx => ⟨_, rfl, ?_⟩
    have c11 := c10.keeps k11 (by omega)
    have s11 := s10.keeps k11 (by omega)
    refine st_i (s11.sub 5 1 (by omega)) fun w12 e12 k12 c12 => J5 w12 A.just x11 (k10'.trans ((k11.mono fun b _ e => .inl e).trans (k12.mono fun b _ e => .inr e))) (m11.far k12 fun b e => by subst e; exact hnb _ (by omega)) ?_
    have a : CellsAt w12 b5 0 ((t_api_Vote.enc ⟨slot, head, A.just, ⟨epochOf slot A.cfg.slots, tr0⟩, sw⟩).take 5) := by rw [e12]; exact CellsAt.put_other (.inl (by simp)) (c11.sub 0 5)
    have b : CellsAt w12 b5 6 [.slice sw.a sw.len sw.cap] := by rw [e12]; exact CellsAt.put_other (.inr (by simp)) (c11.sub 6 1)
    exact ⟨a.1, a.2.1, a.2.2.1, a.2.2.2.1, a.2.2.2.2.1, c12.1, b⟩
 refine br_i (fun q => J1 _) (fun q => J1 _)
end Go.Proofs.Ytdefmgkicdhmkaa
namespace Go.Proofs.Ytdefmgkicdhmkaa
open Go Go.Sx
set_option linter.unusedVariables false
def zeroV : AVote := ⟨0, 0, ⟨0, 0⟩, ⟨0, 0⟩, []⟩
def zeroB : ABlock := ⟨0, 0, 0, [], []⟩
def zeroP : AProof := ⟨zeroV, zeroV⟩
theorem zeroV_is {D : Nat -> Prop} {w : World} : VoteIs D w ⟨0, 0, ⟨0, 0⟩, ⟨0, 0⟩, nilSl⟩ zeroV := ⟨rfl, rfl, rfl, rfl, SlIs.nil, by unfold I64 zeroV; simp, by unfold I64 zeroV; simp, by simp [zeroV], by simp [zeroV]⟩
theorem zeroB_is {D : Nat -> Prop} {w : World} : BlockIs D w ⟨0, 0, 0, nilSl, nilSl⟩ zeroB := ⟨rfl, rfl, rfl, ⟨[], SlIs.nil, trivial⟩, ⟨[], SlIs.nil, trivial⟩⟩
structure Made (slot : Int) (n : Nat) (e : AEvent) : Prop where
 tick : e.kind = 0 -> e.slot <= slot + 3
 root : e.block.root <= n + 2
 root0 : 0 <= e.block.root
 root1 : e.kind = 1 -> 1 <= e.block.root
theorem vote_plain (x : G_api_Vote) : ∀ v ∈ t_api_Vote.enc x, plain v = true := by
 intro v hv
 simp at hv
 rcases hv with rfl | rfl | rfl | rfl | rfl | rfl | rfl <;> rfl
theorem proof_plain (x : G_api_Proof) : ∀ v ∈ t_api_Proof.enc x, plain v = true := by
 intro v hv
 simp at hv
 rcases hv with rfl | rfl | rfl | rfl | rfl | rfl | rfl | rfl | rfl | rfl | rfl | rfl | rfl | rfl <;> rfl
theorem VotesIs.snoc {D : Nat -> Prop} {w : World} {g : G_api_Vote} {v : AVote} (h : VoteIs D w g v) : ∀ {gs : List G_api_Vote} {vs : List AVote}, VotesIs D w gs vs -> VotesIs D w (gs ++ [g]) (vs ++ [v])
 | [], [], _ => ⟨h, trivial⟩
 | _ :: _, _ :: _, hh => ⟨hh.1, VotesIs.snoc h hh.2⟩
set_option maxHeartbeats 1000000 in
theorem c_mevent {w : World} {mb sb : Nat} {O I Dn Db : Nat -> Prop} {A : AStore} {cs : List G_store_Change} {bsl : Sl} {bs : List Int} {Q : QW} (hm : MkAt w mb sb Dn Db bsl bs) (hs : StoreAt w sb O I A cs) (hw : A.Wf) (hO : ¬ O mb /\ ¬ I mb)
    (h : ∀ w' ge e, Keeps (· = mb) w w' -> MkAt w' mb sb Dn Db bsl bs -> EventIs (w.heap.size <= ·) w' ge e -> Made A.slot bs.length e -> Q (t_api_Event.val ge) w') :
    CallsR PP n_f31 #[.pointer (some ⟨mb, 0, none⟩)] Q w := by
  refine so_f31 _ _ ?_
  unfold sh_f31
  have hslot := hw.slot
  have lmb := hm.lt
  have hbl := hm.bl
  have hdl := hm.dl
  have hnb : ∀ b, w.heap.size <= b -> b ≠ mb /\ ¬ Dn b /\ ¬ Db b := fun b hb => ⟨by omega, fun e => by have := hdl b (.inl e); omega, fun e => by have := hdl b (.inr e); omega⟩
  refine ⟨mb, 0, rfl, al_i fun b2 w1 e1 g1 c1 s1 => ?_⟩
  have z1 := g1.size
  have l2 : b2 < w1.heap.size := cell_lt c1.1
  have cM : ∀ {w'}, MkAt w' mb sb Dn Db bsl bs -> CellsAt w' mb 0 (tPtr.enc (some ⟨sb, 0, none⟩)) /\ CellsAt w' mb 2 (tSl.enc bsl) := fun m => by obtain ⟨nsl, ns, hc, _⟩ := m.ex; exact ⟨hc.sub 0 1, hc.sub 2 1⟩
  have m1 := hm.gr g1
  obtain ⟨g, tb, tr, vb, lr, gr, gl, r⟩ := hs.grow g1
  have cS : CellsAt w1 sb 5 (tI64.enc A.slot) := by rw [<- r.slot]; exact r.cells.sub 5 1
  have R : ∀ {w'}, Keeps (fun b => b = mb \/ w1.heap.size <= b) w1 w' -> StRep w' sb O g tb tr vb lr gr gl I A cs := fun k => r.gr k fun b hb e => by
    rcases e with rfl | e
    · exact hb.elim hO.1 hO.2
    · rcases hb with hb | hb
      · have := r.lt b hb; omega
      · have := (r.iOk b hb).2; omega
  refine ld_i (cM m1).1 ⟨sb, 0, rfl, ld_i cS (c_next m1 (by omega) fun w2 x2 k2 m2 h20 h21 => ⟨_, rfl, ?_⟩)⟩
  have z2 := k2.size
  have fin : ∀ w' (ge0 ge : G_api_Event) (e : AEvent) (S : Nat -> Prop), Keeps S w1 w' -> (∀ b, S b -> b ≠ b2 /\ (b = mb \/ w.heap.size <= b)) -> MkAt w' mb sb Dn Db bsl bs -> EventIs (fun b => w.heap.size <= b /\ b ≠ b2) w' ge e -> Made A.slot bs.length e -> st t_api_Event w' b2 0 ge fun w5 => ld t_api_Event w5 b2 0 fun x => Q (t_api_Event.val x) w5 := by
    intro w' ge0 ge e S k hS m he hmade
    have s' : CanSt w' b2 0 28 := s1.keeps k fun hh => (hS _ hh).1 rfl
    have z := k.size
    refine st_i s' fun w5 e5 k5 c5 => ld_i c5 ?_
    have kw : Keeps (· = mb) w w5 := Keeps.local (Keeps.local (Gr.keeps g1) k fun j hj => (hS j hj).2.symm) k5 fun j hj => .inl (by subst hj; omega)
    exact h w5 ge e kw (m.far k5 fun b hb => by subst hb; exact hnb _ (by omega)) ((he.keeps k5 fun b hb hb2 => hb.2 hb2).mono fun b hb => hb.1) hmade
  have kS : ∀ {w'}, Keeps (· = mb) w1 w' -> ∀ b, (b = mb) -> b ≠ b2 /\ (b = mb \/ w.heap.size <= b) := fun _ b e => ⟨by subst e; omega, .inl e⟩
  have J1t : sh_f31_j1 (some ⟨mb, 0, none⟩) Q mb 0 b2 A.slot x2 true w2 := by
    unfold sh_f31_j1
    refine br_t rfl (c_next m2 (by omega) fun w4 x4 k4 m4 h40 h41 => ⟨_, rfl, ?_⟩)
    rw [wrap_i64 (n := A.slot + x4) (by omega) (by omega)]
    refine fin w4 ⟨0, 0, ⟨0, 0, 0, nilSl, nilSl⟩, ⟨0, 0, ⟨0, 0⟩, ⟨0, 0⟩, nilSl⟩, ⟨⟨0, 0, ⟨0, 0⟩, ⟨0, 0⟩, nilSl⟩, ⟨0, 0, ⟨0, 0⟩, ⟨0, 0⟩, nilSl⟩⟩⟩ _ ⟨0, A.slot + x4, zeroB, zeroV, zeroP⟩ (· = mb) (k2.trans k4) (kS (k2.trans k4)) m4 ⟨rfl, rfl, zeroB_is, zeroV_is, zeroV_is, zeroV_is, by unfold U64 zeroB; simp⟩ ⟨fun _ => by show A.slot + x4 <= _; omega, by simp [zeroB]; omega, by simp [zeroB], fun e => (by cases e)⟩
  have J1f : sh_f31_j1 (some ⟨mb, 0, none⟩) Q mb 0 b2 A.slot x2 false w2 := by
    unfold sh_f31_j1
    refine br_f rfl (br_i (fun q => ?_) (fun q => br_i (fun q => ?_) (fun q => ?_)))
    ·
      refine c_mblock m2 fun w3 par k3 m3 hpar => ⟨_, rfl, ?_⟩
      have k13 : Keeps (· = mb) w1 w3 := k2.trans k3
      have R3 := R (k13.mono fun b _ e => .inl e)
      have cT : CellsAt w3 sb 3 (tPtr.enc (some ⟨tb, 0, none⟩)) := by rw [<- r.ptree]; exact R3.cells.sub 3 1
      refine ld_i (cM m3).1 ⟨sb, 0, rfl, ld_i cT (c_tree_Get R3.tree fun w4 nn hnn g4 => ⟨_, _, _, _, rfl, dw_i fun w5 e5 g5 => ?_⟩)⟩
      have g45 := g4.trans g5
      have m5 := m3.gr g45
      have k15 : Keeps (· = mb) w1 w5 := k13.trans (Gr.keeps g45)
      have z3 := k13.size; have z5 := g45.size
      obtain ⟨nsl5, ns5, hc5, _, _, hb5⟩ := m5.ex
      have hlen : bsl.len = bs.length := hb5.1
      have hns : 0 <= nn.slot /\ nn.slot <= 1099511627776 := by
        rw [hnn]
        cases hg : A.tree.get par with
        | none => simp
        | some nn => have := hw.tree.slot _ _ hg; simp only [Option.getD_some]; omega
      have hroot : ∀ x, 0 <= x -> x < 20 -> IntKind.u64.wrap (IntKind.i64.wrap (IntKind.i64.wrap ((bsl.len : Int) + 1) + IntKind.i64.wrap (Int.tdiv x 19))) = bs.length + 1 + x / 19 := by
        intro x h0 h1
        rw [hlen, Int.tdiv_eq_ediv_of_nonneg h0, wrap_i64 (n := (bs.length : Int) + 1) (by omega) (by omega), wrap_i64 (n := x / 19) (by omega) (by omega), wrap_i64 (n := (bs.length : Int) + 1 + x / 19) (by omega) (by omega), wrap_u64 (n := (bs.length : Int) + 1 + x / 19) (by omega) (by omega)]
      have J2 : ∀ w' b8 root sl, Keeps (fun b => b = mb \/ (b = b8)) w5 w' -> w5.heap.size <= b8 -> MkAt w' mb sb Dn Db bsl bs -> CellsAt w' b8 0 (t_api_Block.enc ⟨root, par, sl, nilSl, nilSl⟩) -> CanSt w' b8 0 5 -> 1 <= root -> root <= bs.length + 2 -> sh_f31_j2 (some ⟨mb, 0, none⟩) Q b2 A.slot par b8 0 w' := by
        intro w' b8 root sl k8 hb8 m8 c8 s8 hr1 hr2
        unfold sh_f31_j2
        have l8 : b8 < w'.heap.size := cell_lt c8.1
        have z8 := k8.size
        refine c_next m8 (by omega) fun w9 x9 k9 m9 h90 h91 => ⟨_, rfl, ?_⟩
        have c9 := c8.keeps k9 (by omega)
        have s9 := s8.keeps k9 (by omega)
        have z9 := k9.size
        have KS9 : Keeps (fun b => b = mb \/ w1.heap.size <= b) w1 w9 :=
          Keeps.local (Keeps.local (k15.mono fun b _ e => .inl e) k8 fun j e => by rcases e with e | e
                                                                                   · exact .inr (.inl e)
                                                                                   · exact .inr (.inr (by omega))) k9 fun j e => .inr (.inl e)
        have hbn : ∀ b, w1.heap.size <= b -> b ≠ mb /\ ¬ Dn b /\ ¬ Db b := fun b hb => hnb b (by omega)
        have J5 : ∀ wk vsl psl gvs vs gps ps (D : Nat -> Prop), Keeps (fun b => b = mb \/ w1.heap.size <= b) w1 wk -> MkAt wk mb sb Dn Db bsl bs -> CellsAt wk b8 0 (t_api_Block.enc ⟨root, par, sl, vsl, psl⟩) -> SlIs t_api_Vote D wk vsl gvs -> VotesIs D wk gvs vs -> SlIs t_api_Proof D wk psl gps -> ProofsIs D wk gps ps -> (∀ b, D b -> w9.heap.size <= b) ->
            sh_f31_j5 Q b2 b8 0 wk := by
          intro wk vsl psl gvs vs gps ps D kk mk ck h1 h2 h3 h4 hD
          unfold sh_f31_j5
          refine ld_i ck (fin wk ⟨0, 0, ⟨0, 0, 0, nilSl, nilSl⟩, ⟨0, 0, ⟨0, 0⟩, ⟨0, 0⟩, nilSl⟩, ⟨⟨0, 0, ⟨0, 0⟩, ⟨0, 0⟩, nilSl⟩, ⟨0, 0, ⟨0, 0⟩, ⟨0, 0⟩, nilSl⟩⟩⟩ _ ⟨1, 0, ⟨root, par, sl, vs, ps⟩, zeroV, zeroP⟩ _ kk (fun b hb => ⟨by omega, by omega⟩) mk ⟨rfl, rfl, ?_, zeroV_is, zeroV_is, zeroV_is, by unfold U64; simp only; omega⟩ ⟨fun e => (by cases e), hr2, by show 0 <= root; omega, fun _ => hr1⟩)
          exact BlockIs.mono (D := D) ⟨rfl, rfl, rfl, ⟨gvs, h1, h2⟩, ⟨gps, h3, h4⟩⟩ fun b hb => by have := hD b hb; omega
        refine loop1 (sh_f31_b3 (some ⟨mb, 0, none⟩) Q b2 A.slot par b8 0) (fun m i wk => m = i.toNat /\ 0 <= i /\ i <= 2 /\ w9.heap.size <= wk.heap.size /\ MkAt wk mb sb Dn Db bsl bs /\ Keeps (fun b => b = mb \/ w1.heap.size <= b) w1 wk /\ CanSt wk b8 0 5 /\
            ∃ vsl gvs vs P Dv, CellsAt wk b8 0 (t_api_Block.enc ⟨root, par, sl, vsl, nilSl⟩) /\ OwnP t_api_Vote 7 P wk vsl gvs /\ VotesIs Dv wk gvs vs /\ (∀ b, P b \/ Dv b -> w9.heap.size <= b /\ b < wk.heap.size) /\ (∀ b, P b -> ¬ Dv b) /\ gvs.length + i.toNat <= 2)
          ⟨_, rfl, h90, by omega, Nat.le_refl _, m9, KS9, s9, nilSl, [], [], fun _ => False, fun _ => False, c9, OwnP.nil, trivial, fun b hb => by simp at hb, fun b hb => hb.elim, by simp; omega⟩ ?_
        rintro m i wk nxt ⟨rfl, h0, hi, hz, mk, kk, sk, vsl, gvs, vs, P, Dv, ck, ho, hv, hPD, hdis, hgl⟩ hnx
        unfold sh_f31_b3
        refine br_i (fun q => ?_) (fun q => ?_)
        · have q := of_decide_eq_true q
          refine dw_i fun wa ea ga => ?_
          have ca := ck.gr ga
          refine ld_i (x := vsl) (ca.sub 3 1) (c_next (mk.gr ga) (by omega) fun wb xb kb mb' hb0 hb1 => ⟨_, rfl, ?_⟩)
          have za := ga.size; have zb := kb.size
          have kab : Keeps (· = mb) wk wb := (Gr.keeps ga).trans kb
          have cb := ck.keeps kab (by omega)
          have KSb : Keeps (fun b => b = mb \/ w1.heap.size <= b) w1 wb := Keeps.local kk kab fun j e => .inr (.inl e)
          rw [wrap_i64 (n := A.slot - xb) (by omega) (by omega)]
          refine ⟨cb.sub 3 1, c_mvote mb' ⟨g, tb, tr, vb, lr, gr, gl, R KSb⟩ hw hO (by split <;> omega) fun wc gv v kc mc hvc => ⟨_, rfl, ?_⟩⟩
          have zc := kc.size
          have cc := cb.keeps kc (by omega)
          refine ⟨cc.sub 3 1, alr_i fun b9 wd ed gd cd sd => ⟨(cc.gr gd).sub 3 1, ?_⟩⟩
          have zd := gd.size
          have kad : Keeps (· = mb) wk wd := (kab.trans kc).trans (Gr.keeps gd)
          have hod : OwnP t_api_Vote 7 P wd vsl gvs := ho.keeps kad fun b hb e => by have := hPD b (.inl hb); omega
          have hvd : VotesIs (fun b => Dv b \/ (wb.heap.size <= b /\ b < wc.heap.size)) wd (gvs ++ [gv]) (vs ++ [v]) := by
            refine VotesIs.snoc ?_ ?_
            · exact (hvc.bound.gr gd).mono fun b hb => .inr hb
            · exact hv.imp fun hx => (hx.keeps kad fun b hb e => by have := hPD b (.inr hb); omega).mono fun b hb => .inl hb
          have hl9 : SlIs t_api_Vote (fun _ => True) wd ⟨some ⟨b9, 0, none⟩, 1, 1⟩ [gv] := ⟨rfl, Nat.le_refl _, .inr ⟨b9, 0, rfl, trivial, by simpa using cd⟩⟩
          refine hod.app (fun _ => rfl) vote_plain hl9 (by simp only [List.length_singleton]; omega) fun s' we ke oe => ?_
          have ze := ke.size
          have sd' : CanSt wd b8 0 5 := sk.keeps kad (by omega)
          have nP8 : ¬ P b8 := fun e => by have := hPD _ (.inl e); omega
          have se := sd'.keeps ke nP8
          have ce := (cc.gr gd).keeps ke nP8
          refine st_i (se.sub 3 1 (by omega)) fun wf ef kf cf => ?_
          rw [wrap_i64 (n := i - 1) (by omega) (by omega)]
          have zf := kf.size
          have KSf : Keeps (fun b => b = mb \/ w1.heap.size <= b) w1 wf := by
            refine Keeps.local (Keeps.local (Keeps.local kk kad fun j e => .inr (.inl e)) ke fun j e => .inr (.inr ?_)) kf fun j e => .inr (.inr (by subst e; omega))
            have := hPD j (.inl e); omega
          refine hnx (i - 1).toNat _ _ (by omega) ⟨rfl, by omega, by omega, by omega, ?_, KSf, by rw [ef]; exact canSt_putL se, s', gvs ++ [gv], vs ++ [v], fun b => (P b \/ b = wd.heap.size) /\ b < we.heap.size, fun b => Dv b \/ (wb.heap.size <= b /\ b < wc.heap.size), ?_, (oe.bound (by decide)).keeps kf fun b hb e => by
              subst e
              rcases hb.1 with hb | hb
              · exact nP8 hb
              · omega, ?_, fun b hb => ?_, fun b hb hd => ?_, by simp; omega⟩
          · exact ((mc.gr gd).far ke fun b hb => hbn b (by have := hPD b (.inl hb); omega)).far kf fun b hb => by subst hb; exact hbn _ (by omega)
          · have a : CellsAt wf b8 0 [.int .u64 root, .int .u64 par, .int .i64 sl] := by rw [ef]; exact CellsAt.put_other (.inl (by simp)) (ce.sub 0 3)
            have b : CellsAt wf b8 4 [.slice nilSl.a nilSl.len nilSl.cap] := by rw [ef]; exact CellsAt.put_other (.inr (by simp)) (ce.sub 4 1)
            exact ⟨a.1, a.2.1, a.2.2.1, cf.1, b⟩
          · refine hvd.imp fun hx => (hx.keeps ke fun b hb e => ?_).keeps kf fun b hb e => ?_
            · rcases hb with hb | hb
              · exact hdis b e hb
              · have := hPD b (.inl e); omega
            · subst e
              rcases hb with hb | hb
              · have := hPD _ (.inr hb); omega
              · omega
          · rcases hb with hb | hb
            · rcases hb.1 with h1 | h1
              · have := hPD b (.inl h1); omega
              · omega
            · rcases hb with h1 | h1
              · have := hPD b (.inr h1); omega
              · omega
          · rcases hb.1 with h1 | h1
            · rcases hd with h2 | h2
              · exact hdis b h1 h2
              · have := hPD b (.inl h1); omega
            · rcases hd with h2 | h2
              · have := hPD b (.inr h2); omega
              · omega
        ·
          unfold sh_f31_j4
          refine c_next mk (by omega) fun wa xa ka ma ha0 ha1 => ⟨_, rfl, ?_⟩
          have za := ka.size
          have ca := ck.keeps ka (by omega)
          have sa := sk.keeps ka (by omega)
          have KSa : Keeps (fun b => b = mb \/ w1.heap.size <= b) w1 wa := Keeps.local kk ka fun j e => .inr (.inl e)
          have hoa : OwnP t_api_Vote 7 P wa vsl gvs := ho.keeps ka fun b hb e => by have := hPD b (.inl hb); omega
          have hva : VotesIs Dv wa gvs vs := hv.imp fun hx => hx.keeps ka fun b hb e => by have := hPD b (.inr hb); omega
          refine br_i (fun q => ?_) (fun q => J5 wa vsl nilSl gvs vs [] [] (fun b => P b \/ Dv b) KSa ma ca (hoa.is.mono fun b hb => .inl hb) (hva.imp fun hx => hx.mono fun b hb => .inr hb) SlIs.nil trivial fun b hb => (hPD b hb).1)
          refine c_mvote ma ⟨g, tb, tr, vb, lr, gr, gl, R KSa⟩ hw hO hslot fun wb gv v kb mb' hvb => ⟨_, rfl, ?_⟩
          have zb := kb.size
          refine al_st rfl fun b10 wc ec gc cc sc => ld_i cc (al_i fun b11 wd ed gd cd sd => st_i sd fun we ee ke ce => ?_)
          have zc := gc.size; have zd := gd.size; have ze := ke.size
          have sde : CanSt we b11 0 7 := by rw [ee]; exact canSt_putL sd
          have l10 : b10 < wc.heap.size := cell_lt cc.1
          refine st_i (sde.sub 1 1 (by omega)) fun wf ef kf cf => ?_
          have zf := kf.size
          have k1011 : Keeps (· = b11) wd wf := ke.trans kf
          have gbf : Gr wb wf := Gr.local (gc.trans gd) k1011 fun j e => by subst e; omega
          have cf0 : CellsAt wf b11 0 (t_api_Vote.enc { gv with Head := 1 }) := by
            have a : CellsAt wf b11 0 [.int .i64 gv.Slot] := by rw [ef]; exact CellsAt.put_other (.inl (by simp)) (ce.sub 0 1)
            have b : CellsAt wf b11 2 ((t_api_Vote.enc gv).drop 2) := by rw [ef]; exact CellsAt.put_other (.inr (by simp)) (ce.sub 2 5)
            exact ⟨a.1, cf.1, b⟩
          have c10f : CellsAt wf b10 0 (t_api_Vote.enc gv) := (cc.gr gd).keeps k1011 (by omega)
          have cB : CellsAt wf b8 0 (t_api_Block.enc ⟨root, par, sl, vsl, nilSl⟩) := (ca.keeps kb (by omega)).gr gbf
          refine ld_i (x := nilSl) (cB.sub 4 1) (ld_i c10f (ld_i cf0 (alr_i fun b12 wg eg gg cg sg => ?_)))
          have zg := gg.size
          have hl12 : SlIs t_api_Proof (fun b => wf.heap.size <= b) wg ⟨some ⟨b12, 0, none⟩, 1, 1⟩ [⟨gv, { gv with Head := 1 }⟩] := ⟨rfl, Nat.le_refl _, .inr ⟨b12, 0, rfl, by omega, by simpa using cg⟩⟩
          refine (OwnP.nil (T := t_api_Proof) (sz := 14) (D := fun _ => False)).app (fun _ => rfl) proof_plain hl12 (by simp) fun s' wh kh oh => ?_
          have gfh : Gr wf wh := gg.trans (kh.mono fun b _ f => f)
          have zh := gfh.size
          have sh : CanSt wh b8 0 5 := ((sa.keeps kb (by omega)).keeps gbf fun f => f).keeps gfh fun f => f
          refine st_i (sh.sub 4 1 (by omega)) fun wi ei ki ci => ?_
          have zi := ki.size
          have gbh := gbf.trans gfh
          have KSi : Keeps (fun b => b = mb \/ w1.heap.size <= b) w1 wi := Keeps.local (Keeps.local (Keeps.local KSa kb fun j e => .inr (.inl e)) (Gr.keeps (S := fun _ => False) gbh) fun j e => e.elim) ki fun j e => .inr (.inr (by subst e; omega))
          have hvi : VoteIs (fun b => wa.heap.size <= b /\ b < wb.heap.size) wi gv v := (hvb.bound.gr gbh).keeps ki fun b hb e => by subst e; omega
          refine J5 wi vsl s' gvs vs [⟨gv, { gv with Head := 1 }⟩] [⟨v, { v with head := 1 }⟩] (fun b => P b \/ Dv b \/ wa.heap.size <= b) KSi ((mb'.gr gbh).far ki fun b hb => by subst hb; exact hbn _ (by omega)) ?_ ?_ ?_ ?_ ?_ ?_
          · have a : CellsAt wi b8 0 ((t_api_Block.enc ⟨root, par, sl, vsl, nilSl⟩).take 4) := by rw [ei]; exact CellsAt.put_other (.inl (by simp)) ((cB.gr gfh).sub 0 4)
            exact ⟨a.1, a.2.1, a.2.2.1, a.2.2.2.1, ci⟩
          · exact (((hoa.keeps kb fun b hb e => by have := hPD b (.inl hb); omega).gr gbh).keeps ki fun b hb e => by have := hPD b (.inl hb); subst e; omega).is.mono fun b hb => .inl hb
          · exact hva.imp fun hx => (((hx.keeps kb fun b hb e => by have := hPD b (.inr hb); omega).gr gbh).keeps ki fun b hb e => by have := hPD b (.inr hb); subst e; omega).mono fun b hb => .inr (.inl hb)
          · exact (oh.keeps ki fun b hb e => by
              subst e
              rcases hb with hb | hb
              · exact hb
              · omega).is.mono fun b hb => by
                rcases hb with hb | hb
                · exact hb.elim
                · exact .inr (.inr (by omega))
          · have hv2 : VoteIs (fun b => P b \/ Dv b \/ wa.heap.size <= b) wi gv v := hvi.mono fun b hb => .inr (.inr hb.1)
            exact ⟨⟨hv2, { hv2 with head := rfl }⟩, trivial⟩
          · intro b hb
            rcases hb with hb | hb | hb
            · exact (hPD b (.inl hb)).1
            · exact (hPD b (.inr hb)).1
            · omega
      have cB5 := (cM m5).2
      refine ld_i cB5 ⟨?_, ?_⟩
      · refine c_next m5 (by omega) fun w6 x6 k6 m6 h60 h61 => ⟨_, rfl, (cM m6).2, ⟨?_, ?_⟩⟩
        · refine c_next m6 (by omega) fun w7 x7 k7 m7 h70 h71 => ⟨_, rfl, (cM m7).2, al_i fun b8 w8 e8 g8 c8 s8 => ⟨(cM (m7.gr g8)).2, st_i s8 fun w9 e9 k9 c9 => ?_⟩⟩
          have z6 := k6.size; have z7 := k7.size; have z8 := g8.size
          rw [hroot x6 h60 h61] at c9
          exact J2 w9 b8 _ _ ((((k6.trans k7).mono fun b _ e => .inl e).trans (Gr.keeps g8)).trans (k9.mono fun b _ e => .inr e)) (by omega) ((m7.gr g8).far k9 fun b hb => by subst hb; exact hnb _ (by omega)) c9 (by rw [e9]; exact canSt_putL s8) (by omega) (by omega)
        · refine al_i fun b8 w8 e8 g8 c8 s8 => ⟨(cM (m6.gr g8)).2, c_next (m6.gr g8) (by omega) fun w7 x7 k7 m7 h70 h71 => ⟨_, rfl, (cM m7).2, st_i (s8.keeps k7 (by have := k6.size; omega)) fun w9 e9 k9 c9 => ?_⟩⟩
          have z6 := k6.size; have z7 := k7.size; have z8 := g8.size
          rw [hroot x6 h60 h61] at c9
          exact J2 w9 b8 _ _ ((((k6.mono fun b _ e => .inl e).trans (Gr.keeps g8)).trans (k7.mono fun b _ e => .inl e)).trans (k9.mono fun b _ e => .inr e)) (by omega) (m7.far k9 fun b hb => by subst hb; exact hnb _ (by omega)) c9 (by rw [e9]; exact canSt_putL (s8.keeps k7 (by omega))) (by omega) (by omega)
      · refine al_i fun b8 w8 e8 g8 c8 s8 => ⟨(cM (m5.gr g8)).2, c_next (m5.gr g8) (by omega) fun w6 x6 k6 m6 h60 h61 => ⟨_, rfl, (cM m6).2, c_next m6 (by omega) fun w7 x7 k7 m7 h70 h71 => ⟨_, rfl, (cM m7).2, ?_⟩⟩⟩
        have z6 := k6.size; have z7 := k7.size; have z8 := g8.size
        refine st_i (s8.keeps (k6.trans k7) (by omega)) fun w9 e9 k9 c9 => ?_
        rw [hroot x6 h60 h61] at c9
        exact J2 w9 b8 _ _ (((Gr.keeps g8).trans ((k6.trans k7).mono fun b _ e => .inl e)).trans (k9.mono fun b _ e => .inr e)) (by omega) (m7.far k9 fun b hb => by subst hb; exact hnb _ (by omega)) c9 (by rw [e9]; exact canSt_putL (s8.keeps (k6.trans k7) (by omega))) (by omega) (by omega)
    ·
      refine c_mblock m2 fun w3 hd k3 m3 hpar => ⟨_, rfl, c_next m3 (by omega) fun w4 x4 k4 m4 h40 h41 => ⟨_, rfl, ?_⟩⟩
      have k14 : Keeps (· = mb) w1 w4 := (k2.trans k3).trans k4
      have KS4 : Keeps (fun b => b = mb \/ w1.heap.size <= b) w1 w4 := k14.mono fun b _ e => .inl e
      have z4 := k14.size
      rw [wrap_i64 (n := A.slot - x4) (by omega) (by omega)]
      refine c_mvote m4 ⟨g, tb, tr, vb, lr, gr, gl, R KS4⟩ hw hO (by split <;> omega) fun w5 gv v k5 m5 hv5 => ⟨_, rfl, ?_⟩
      refine fin w5 ⟨0, 0, ⟨0, 0, 0, nilSl, nilSl⟩, ⟨0, 0, ⟨0, 0⟩, ⟨0, 0⟩, nilSl⟩, ⟨⟨0, 0, ⟨0, 0⟩, ⟨0, 0⟩, nilSl⟩, ⟨0, 0, ⟨0, 0⟩, ⟨0, 0⟩, nilSl⟩⟩⟩ _ ⟨2, 0, zeroB, v, zeroP⟩ (· = mb) (k14.trans k5) (kS (k14.trans k5)) m5 ⟨rfl, rfl, zeroB_is, hv5.mono fun b hb => by omega, zeroV_is, zeroV_is, by unfold U64 zeroB; simp⟩ ⟨fun e => (by cases e), by simp [zeroB]; omega, by simp [zeroB], fun e => (by cases e)⟩
    ·
      unfold sh_f31_j6
      refine c_mblock m2 fun w3 hd k3 m3 hpar => ⟨_, rfl, ?_⟩
      have k13 : Keeps (· = mb) w1 w3 := k2.trans k3
      refine c_mvote m3 ⟨g, tb, tr, vb, lr, gr, gl, R (k13.mono fun b _ e => .inl e)⟩ hw hO hslot fun w4 gv v k4 m4 hv4 => ⟨_, rfl, ?_⟩
      have z3 := k13.size; have z4 := k4.size
      refine al_st rfl fun b10 wc ec gc cc sc => ld_i cc (al_i fun b11 wd ed gd cd sd => st_i sd fun we ee ke ce => ?_)
      have zc := gc.size; have zd := gd.size; have ze := ke.size
      have sde : CanSt we b11 0 7 := by rw [ee]; exact canSt_putL sd
      have l10 : b10 < wc.heap.size := cell_lt cc.1
      have l11 : b11 < wd.heap.size := cell_lt cd.1
      have g4e : Gr w4 we := Gr.local (gc.trans gd) ke fun j e => by subst e; omega
      refine c_next (m4.gr g4e) (by omega) fun wf xf kf mf hf0 hf1 => ⟨_, rfl, ?_⟩
      have zf := kf.size
      rw [wrap_u64 (n := xf) (by omega) (by omega)]
      refine st_i ((sde.keeps kf (by omega)).sub 1 1 (by omega)) fun wg eg kg cg => ?_
      have zg := kg.size
      have cef := ce.keeps kf (by omega)
      have cg0 : CellsAt wg b11 0 (t_api_Vote.enc { gv with Head := xf }) := by
        have a : CellsAt wg b11 0 [.int .i64 gv.Slot] := by rw [eg]; exact CellsAt.put_other (.inl (by simp)) (cef.sub 0 1)
        have b : CellsAt wg b11 2 ((t_api_Vote.enc gv).drop 2) := by rw [eg]; exact CellsAt.put_other (.inr (by simp)) (cef.sub 2 5)
        exact ⟨a.1, cg.1, b⟩
      have c10g : CellsAt wg b10 0 (t_api_Vote.enc gv) := (((cc.gr gd).keeps ke (by omega)).keeps kf (by omega)).keeps kg (by omega)
      have hvg : VoteIs (fun b => w3.heap.size <= b /\ b < w4.heap.size) wg gv v := ((hv4.bound.gr g4e).keeps kf fun b hb e => by subst e; omega).keeps kg fun b hb e => by subst e; omega
      have hvg2 : VoteIs (fun b => w.heap.size <= b /\ b ≠ b2) wg gv v := hvg.mono fun b hb => by omega
      have KSg : Keeps (fun b => b = mb \/ w1.heap.size <= b) w1 wg := Keeps.local (Keeps.local (Keeps.local (Keeps.local (k13.mono fun b _ e => .inl e) k4 fun j e => .inr (.inl e)) (Gr.keeps (S := fun _ => False) g4e) fun j e => e.elim) kf fun j e => .inr (.inl e)) kg fun j e => .inr (.inr (by subst e; omega))
      refine ld_i c10g (ld_i cg0 (fin wg ⟨0, 0, ⟨0, 0, 0, nilSl, nilSl⟩, ⟨0, 0, ⟨0, 0⟩, ⟨0, 0⟩, nilSl⟩, ⟨⟨0, 0, ⟨0, 0⟩, ⟨0, 0⟩, nilSl⟩, ⟨0, 0, ⟨0, 0⟩, ⟨0, 0⟩, nilSl⟩⟩⟩ _ ⟨3, 0, zeroB, zeroV, ⟨v, { v with head := xf }⟩⟩ _ KSg (fun b hb => ⟨by omega, by omega⟩) (mf.far kg fun b hb => by subst hb; exact hnb _ (by omega)) ⟨rfl, rfl, zeroB_is, zeroV_is, hvg2, { hvg2 with head := rfl }, by unfold U64 zeroB; simp⟩ ⟨fun e => (by cases e), by simp [zeroB]; omega, by simp [zeroB], fun e => (by cases e)⟩))
  refine br_i (fun q => J1t) (fun q => ?_)
  cases hz : (A.slot == 0) with
  | true => exact J1t
  | false => exact J1f
end Go.Proofs.Ytdefmgkicdhmkaa
namespace Go.Proofs.Ytdefmgkicdhmkaa
open Go Go.Sx
set_option linter.unusedVariables false
structure CfgGood (c : ACfg) : Prop where
 slots : 1 <= c.slots /\ c.slots <= 4
 boost : 0 <= c.boost /\ c.boost <= 100
 len : c.bal.length = 6
 bal : ∀ b ∈ c.bal, 0 <= b /\ b <= 255
theorem CfgGood.may {c : ACfg} (h : CfgGood c) : mayCfg c = true := by
 have h1 := h.slots; have h2 := h.boost; have h3 := h.len
 unfold mayCfg
 simp only [Bool.and_eq_true, decide_eq_true_eq, List.all_eq_true]
 refine ⟨⟨⟨⟨⟨⟨by omega, by omega⟩, by omega⟩, by omega⟩, by omega⟩, by omega⟩, fun b hb => by have := h.bal b hb; omega⟩
theorem CfgGood.ok {c : ACfg} (h : CfgGood c) : okBal c := ⟨by have := h.len; omega, fun b hb => by have := h.bal b hb; omega⟩
theorem CfgGood.b32 {c : ACfg} (h : CfgGood c) : ∀ b ∈ c.bal, 0 <= b /\ b <= 4294967296 := h.ok.2
theorem c_Config {w : World} {D : Nat -> Prop} {s : Sl} {xs : List Int} {a1 a2 : Int} {Q : QW} (hs : SlIs tU8 D w s xs) (hx : ∀ x ∈ xs, 0 <= x /\ x <= 255) (h1 : 0 <= a1 /\ a1 <= 255) (h2 : 0 <= a2 /\ a2 <= 255)
  (h : ∀ w' gc c, Gr w w' -> CfgIs (w.heap.size <= ·) w' gc c -> CfgGood c -> c.slots = 1 + a1 % 4 -> c.boost = a2 % 101 -> Q (t_api_Config.val gc) w') :
  CallsR PP n_f9 #[.slice s.a s.len s.cap, .int .u8 a1, .int .u8 a2] Q w := by
 refine so_f9 _ _ ?_
 unfold sh_f9
 refine al_i fun b1 w1 e1 g1 c1 s1 => al_i fun b2 w2 e2 g2 c2 s2 => st_i s2 fun w3 e3 k3 c3 => ?_
 rw [Int.tmod_eq_emod_of_nonneg h1.1, Int.tmod_eq_emod_of_nonneg h2.1, wrap_i64 (n := a1 % 4) (by omega) (by omega), wrap_i64 (n := a2 % 101) (by omega) (by omega), wrap_i64 (n := 1 + a1 % 4) (by omega) (by omega)] at c3
 have z1 := g1.size; have z2 := g2.size; have z3 := k3.size
 have l1 : b1 < w1.heap.size := cell_lt c1.1
 have l2 : b2 < w2.heap.size := cell_lt c2.1
 have s3 : CanSt w3 b2 0 3 := by rw [e3]; exact canSt_putL s2
 have G : Gr w w3 := Gr.local (g1.trans g2) k3 fun j e => by subst e; omega
 have s13 : CanSt w3 b1 0 3 := (s1.keeps g2 fun f => f).keeps k3 (by omega)
 refine loop1 (sh_f9_b1 s Q b1 b2) (fun m i w' => 0 <= i /\ i <= 6 /\ m = 6 - i.toNat /\ Keeps (· = b2) w3 w' /\ CanSt w' b2 0 3 /\ ∃ sw ws, CellsAt w' b2 0 (t_api_Config.enc ⟨sw, 1 + a1 % 4, a2 % 101⟩) /\ OwnS tU64 1 w3.heap.size w' sw ws /\ (∀ k ∈ ws, 0 <= k /\ k <= 255) /\ (ws.length : Int) = i)
  ⟨_, by omega, by omega, rfl, Keeps.refl _ _, s3, nilSl, [], c3, OwnS.nil, by simp, by simp⟩ ?_
 rintro m i w4 nxt ⟨h0, hi, rfl, k4, s4, sw, ws, c4, o4, hw, hl⟩ hnx
 have z4 := k4.size
 have hs4 : SlIs tU8 (fun b => D b /\ b < w.heap.size) w4 s xs := ((SlIs.bnd 1 (fun _ => rfl) (by decide) hs).gr G).keeps k4 fun b hb e => by subst e; omega
 unfold sh_f9_b1
 refine br_i (fun q => ?_) (fun q => ?_)
 ·have q := of_decide_eq_true q
  have J2 : ∀ x, 0 <= x -> x <= 255 -> sh_f9_j2 b2 i nxt x w4 := by
   intro x hx0 hx1
   unfold sh_f9_j2
   refine ld_i (x := sw) (c4.sub 0 1) (alr_i fun b8 w10 e10 g10 c10 s10 => ?_)
   have z10 := g10.size
   have hl10 : SlIs tU64 (fun _ => True) w10 ⟨some ⟨b8, 0, none⟩, 1, 1⟩ [x] := ⟨rfl, Nat.le_refl _, .inr ⟨b8, 0, rfl, trivial, by simpa using c10⟩⟩
   refine (o4.gr g10).app (fun _ => rfl) (fun y v hv => by simp at hv; subst hv; rfl) hl10 (by omega) (by simp only [List.length_singleton]; omega) fun s' w11 k11 ho11 => ?_
   have kn : Keeps (fun b => w3.heap.size <= b) w4 w11 := (Gr.keeps g10).trans (k11.mono fun b _ e => e.1)
   have c11 := c4.keeps kn (by omega)
   have s11 := s4.keeps kn (by omega)
   refine st_i (s11.sub 0 1 (by omega)) fun w12 e12 k12 c12 => ?_
   rw [wrap_i64 (n := i + 1) (by omega) (by omega)]
   refine hnx (6 - (i + 1).toNat) _ _ (by omega) ⟨by omega, by omega, rfl, (Keeps.local (k4.trans (Gr.keeps g10)) k11 fun j e => .inl e.1).trans k12, by rw [e12]; exact canSt_putL s11, s', ws ++ [x], ?_, ho11.keeps k12 fun b hb e => by subst e; omega, ?_, by simp; omega⟩
   ·have b : CellsAt w12 b2 1 [.int .i64 (1 + a1 % 4), .int .i64 (a2 % 101)] := by rw [e12]; exact CellsAt.put_other (.inr (by simp)) (c11.sub 1 2)
    exact ⟨c12.1, b⟩
   ·intro k hk
    rcases List.mem_append.1 hk with hk | hk
    ·exact hw k hk
    ·simp at hk; subst hk; exact ⟨hx0, hx1⟩
  rw [hs.1]
  refine br_i (fun q1 => ?_) (fun q1 => J2 10 (by omega) (by omega))
  have q1 := of_decide_eq_true q1
  have hi' : i.toNat < xs.length := by omega
  refine hs4.ixs 1 (fun _ => rfl) h0 hi' fun b o _ hcl => ld_i (x := xs[i.toNat]) hcl ?_
  have hxx := hx _ (List.getElem_mem hi')
  rw [wrap_u64 (n := xs[i.toNat]) (by omega) (by omega)]
  exact J2 _ hxx.1 hxx.2
 ·have q := of_decide_eq_false q
  unfold sh_f9_j3
  refine ld_i c4 (st_i (s13.keeps k4 (by omega)) fun w5 e5 k5 c5 => ld_i c5 ?_)
  refine h w5 _ ⟨ws, 1 + a1 % 4, a2 % 101⟩ (Gr.local (Gr.local G k4 fun j e => by subst e; omega) k5 fun j e => by subst e; omega) { slots := rfl, boost := rfl, bal := (o4.is.keeps k5 fun b hb e => by subst e; omega).mono fun b hb => by omega, islots := by unfold I64; simp only; omega, iboost := by unfold I64; simp only; omega } ⟨(show 1 <= 1 + a1 % 4 /\ 1 + a1 % 4 <= 4 by omega), (show 0 <= a2 % 101 /\ a2 % 101 <= 100 by omega), by simp only; omega, hw⟩ rfl rfl
inductive All2 {α β : Type} (R : α -> β -> Prop) : List α -> List β -> Prop
 | nil : All2 R [] []
 | cons {a : α} {b : β} {r : List α} {s : List β} (h : R a b) (hr : All2 R r s) : All2 R (a :: r) (b :: s)
theorem All2.imp {α β : Type} {R R' : α -> β -> Prop} (h : ∀ {a b}, R a b -> R' a b) {r : List α} {s : List β} (hh : All2 R r s) : All2 R' r s := by
 induction hh with
 | nil => exact .nil
 | cons h1 _ ih => exact .cons (h h1) ih
theorem All2.len {α β : Type} {R : α -> β -> Prop} {r : List α} {s : List β} (hh : All2 R r s) : r.length = s.length := by
 induction hh with
 | nil => rfl
 | cons h1 _ ih => simp only [List.length_cons, ih]
theorem All2.get {α β : Type} {R : α -> β -> Prop} {r : List α} {s : List β} (hh : All2 R r s) : ∀ {i : Nat} (h1 : i < r.length) (h2 : i < s.length), R r[i] s[i] := by
 induction hh with
 | nil => intro i h1; simp at h1
 | cons h _ ih =>
  intro i h1 h2
  cases i with
  | zero => exact h
  | succ i => exact ih (by simpa using h1) (by simpa using h2)
theorem All2.snoc {α β : Type} {R : α -> β -> Prop} {r : List α} {s : List β} {a : α} {b : β} (hh : All2 R r s) (h : R a b) : All2 R (r ++ [a]) (s ++ [b]) := by
 induction hh with
 | nil => exact .cons h .nil
 | cons h1 _ ih => exact .cons h1 ih
abbrev EventsIs (D : Nat -> Prop) (w : World) : List G_api_Event -> List AEvent -> Prop := All2 (EventIs D w)
structure Small (e : AEvent) : Prop where
 tick : e.kind = 0 -> e.slot <= 400
 root : 0 <= e.block.root /\ e.block.root <= 200
theorem event_plain (x : G_api_Event) : ∀ v ∈ t_api_Event.enc x, plain v = true := by
 intro v hv
 simp at hv
 rcases hv with rfl | rfl | rfl | rfl | rfl | rfl | rfl | rfl | rfl | rfl | rfl | rfl | rfl | rfl | rfl | rfl | rfl | rfl | rfl | rfl | rfl | rfl | rfl | rfl | rfl | rfl | rfl | rfl <;> rfl
theorem apply_slot {A : AStore} {e : AEvent} (h0 : 0 <= A.slot) : (A.apply e).2.slot = A.slot \/ (e.kind = 0 /\ (A.apply e).2.slot = e.slot) := by
 unfold AStore.apply
 split
 ·rename_i hk
  unfold AStore.tick
  split
  ·exact .inr ⟨hk, rfl⟩
  ·exact .inl rfl
 ·split
  ·left
   unfold AStore.propose
   split
   ·simp only
    have h1 := AStore.raise_cfg ((AStore.slashAll e.block.proofs (AStore.attAll e.block.votes (A.lay e.block)).2).2.boostB e.block) (A.newLed e.block).just.Current (A.newLed e.block).just.Final
    have h2 := (AStore.boostB_same (AStore.slashAll e.block.proofs (AStore.attAll e.block.votes (A.lay e.block)).2).2 e.block).2.2.2.2.1
    have hA : ∀ (vs : List AVote) (s : AStore), (AStore.attAll vs s).2.slot = s.slot := by
     intro vs
     induction vs with
     | nil => intro s; rfl
     | cons v r ih => intro s; simp only [AStore.attAll]; rw [ih, (AStore.same_attest s v true).slot]
    have hS : ∀ (vs : List AProof) (s : AStore), (AStore.slashAll vs s).2.slot = s.slot := by
     intro vs
     induction vs with
     | nil => intro s; rfl
     | cons v r ih => intro s; simp only [AStore.slashAll]; rw [ih]; rfl
    have h3 : ∀ (s : AStore) l, (s.late e.block l).2.slot = s.slot := by
     intro s l
     unfold AStore.late
     split
     ·exact (AStore.raise_cfg _ _ _).2.1
     ·rfl
    rw [h3, h1.2.1, h2, hS, hA]; rfl
   ·rfl
  ·split
   ·left; unfold AStore.attest; split <;> rfl
   ·split <;> exact .inl rfl
end Go.Proofs.Ytdefmgkicdhmkaa
