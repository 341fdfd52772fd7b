/- What the functions do, part 11; for every memory. -/
import Derived.Test.YtdefmgkicdhmkaaQ10
namespace Go.Sx
open Go
set_option linter.unusedVariables false
structure PtOk (p : G_api_Point) : Prop where
 e0 : 0 <= p.Epoch
 e1 : p.Epoch <= 1099511627776
 r : U64 p.Root
def JPts (P : G_api_Point -> Prop) (s : G_justify_State) : Prop := P s.Previous /\ P s.Current /\ P s.Final
theorem JPts.mono {P R : G_api_Point -> Prop} {s : G_justify_State} (h : JPts P s) (hr : ∀ p, P p -> R p) : JPts R s := ⟨hr _ h.1, hr _ h.2.1, hr _ h.2.2⟩
theorem jNext_pts {P : G_api_Point -> Prop} {s : G_justify_State} {e : Int} {b n : Bool} {p q : G_api_Point} (h : JPts P s) (hp : P p) (hq : P q) : JPts P (jNext s e b n p q) := by
 refine ⟨h.2.1, ?_, ?_⟩
 ·show P (if n then q else if b then p else s.Current)
  split
  ·exact hq
  ·split
   ·exact hp
   ·exact h.2.1
 ·unfold jNext
  simp only
  split
  ·exact h.2.1
  ·split
   ·exact h.2.1
   ·split
    ·exact h.1
    ·split
     ·exact h.1
     ·exact h.2.2
structure LedOk (n : Nat) (l : ALed) : Prop where
 e0 : 0 <= l.epoch
 e1 : l.epoch <= 1099511627776
 pts : JPts PtOk l.just
 before : l.before.length = n
 now : l.now.length = n
def ChainPts (P : G_api_Point -> Prop) (c : ACfg) (at_ : Int -> Int) : Prop := ∀ e, 0 <= e -> e <= 1099511627776 -> P (pointOf c e at_)
theorem pull_pts {P : G_api_Point -> Prop} {c : ACfg} {l : ALed} {at_ : Int -> Int} (h : JPts P l.just) (h1 : l.epoch <= 1099511627776) (hc : ChainPts P c at_) : JPts P (pull c l at_) := by
 unfold pull
 split
 ·exact h
 ·exact jNext_pts h (hc _ (by omega) (by omega)) (hc _ (by omega) h1)
theorem mem_endsOf {a b slots e : Int} (h : e ∈ endsOf a b slots) : epochOf a slots <= e /\ e < epochOf b slots := by
 unfold endsOf at h
 obtain ⟨k, hk, rfl⟩ := List.mem_map.1 h
 have := List.mem_range.1 hk
 omega
theorem foldl_inv {α β : Type} {f : α -> β -> α} {I : α -> Prop} : ∀ {l : List β} {a : α}, I a -> (∀ a b, b ∈ l -> I a -> I (f a b)) -> I (l.foldl f a)
 | [], _, h, _ => h
 | b :: l, a, h, hs => foldl_inv (l := l) (hs a b (by simp) h) fun a b' hb => hs a b' (List.mem_cons_of_mem _ hb)
theorem advance_inv {P : G_api_Point -> Prop} {c : ACfg} {l : ALed} {slot : Int} {at_ : Int -> Int} (h : JPts P l.just) (h0 : 0 <= l.epoch) (h1 : l.epoch <= 1099511627776) (hb : l.before.length = c.bal.length) (hn : l.now.length = c.bal.length)
  (hs : slot <= 1099511627776) (hc : ChainPts P c at_) :
  JPts P (advance c l slot at_).just /\ 0 <= (advance c l slot at_).epoch /\ (advance c l slot at_).epoch <= 1099511627776 /\ (advance c l slot at_).before.length = c.bal.length /\ (advance c l slot at_).now.length = c.bal.length := by
 unfold advance
 refine foldl_inv (I := fun (l : ALed) => JPts P l.just /\ 0 <= l.epoch /\ l.epoch <= 1099511627776 /\ l.before.length = c.bal.length /\ l.now.length = c.bal.length) ⟨h, h0, h1, hb, hn⟩ ?_
 rintro l e he ⟨i1, i2, i3, i4, i5⟩
 have := mem_endsOf he
 have h3 := epochOf_nonneg (l.epoch * max 1 c.slots) c.slots
 have h4 := epochOf_le slot c.slots
 have h5 := epochOf_nonneg slot c.slots
 have h6 : 0 <= e := by
  have h7 := mem_endsOf he
  exact Int.le_trans (epochOf_nonneg _ _) h7.1
 refine ⟨pull_pts i1 i3 hc, ?_, ?_, i5, by simp [step1]⟩
 ·show 0 <= e + 1; omega
 ·show e + 1 <= _; omega
theorem marks_length : ∀ (who : List Int) (bs : List Bool), (marks bs who).length = bs.length
 | [], _ => rfl
 | k :: r, bs => by
  show (marks (bs.set k.toNat true) r).length = _
  rw [marks_length r, List.length_set]
theorem count_just (c : ACfg) (l : ALed) (v : AVote) (at_ : Int -> Int) : (count c l v at_).just = l.just /\ (count c l v at_).epoch = l.epoch /\ (count c l v at_).before.length = l.before.length /\ (count c l v at_).now.length = l.now.length := by
 unfold count
 split
 ·split
  ·exact ⟨rfl, rfl, rfl, marks_length _ _⟩
  ·exact ⟨rfl, rfl, marks_length _ _, rfl⟩
 ·exact ⟨rfl, rfl, rfl, rfl⟩
theorem counts_just (c : ACfg) (at_ : Int -> Int) : ∀ (vs : List AVote) (l : ALed), (vs.foldl (fun l v => count c l v at_) l).just = l.just /\ (vs.foldl (fun l v => count c l v at_) l).epoch = l.epoch /\
  (vs.foldl (fun l v => count c l v at_) l).before.length = l.before.length /\ (vs.foldl (fun l v => count c l v at_) l).now.length = l.now.length
 | [], l => ⟨rfl, rfl, rfl, rfl⟩
 | v :: r, l => by
  have h1 := counts_just c at_ r (count c l v at_)
  have h2 := count_just c l v at_
  simp only [List.foldl_cons]
  exact ⟨h1.1.trans h2.1, h1.2.1.trans h2.2.1, h1.2.2.1.trans h2.2.2.1, h1.2.2.2.trans h2.2.2.2⟩
structure EntOk (e : G_latest_Entry) : Prop where
 e0 : 0 <= e.Epoch
 e1 : e.Epoch <= 1099511627776
 r : U64 e.Root
namespace AStore
def OnChain (s : AStore) (r : Int) (p : G_api_Point) : Prop := mget s.gone p.Root = some true \/ s.tree.below r p.Root = true
structure Wf (s : AStore) : Prop where
 may : mayCfg s.cfg = true
 bal : okBal s.cfg
 tree : s.tree.Wf
 roots : ∀ r, s.tree.has r = true -> 1 <= r /\ r <= 18446744073709551615
 slot : 0 <= s.slot /\ s.slot <= 1099511627776
 slots : ∀ r n, s.tree.get r = some n -> n.slot <= s.slot
 vlen : s.votes.length = s.cfg.bal.length
 vok : ∀ e ∈ s.votes, EntOk e
 boosted : s.boosted = 0 \/ s.tree.has s.boosted = true
 just : PtOk s.just
 fin : PtOk s.fin
 first : s.fin.Root = s.tree.first
 jf : s.tree.below s.just.Root s.fin.Root = true
 lnodup : (s.leds.map (·.1)).Nodup
 lkeys : ∀ r, (mget s.leds r).isSome = s.tree.has r
 lok : ∀ r l, mget s.leds r = some l -> LedOk s.cfg.bal.length l
 chain : ∀ r l, mget s.leds r = some l -> JPts (s.OnChain r) l.just
 gone : ∀ r, mget s.gone r = some true -> s.tree.has r = false
 gnodup : (s.gone.map (·.1)).Nodup
theorem mayCfg_slots {c : ACfg} (h : mayCfg c = true) : 1 <= c.slots /\ c.slots <= 64 /\ 0 <= c.boost /\ c.boost <= 100 /\ 1 <= c.bal.length /\ c.bal.length <= 4096 := by
 unfold mayCfg at h
 simp only [Bool.and_eq_true, decide_eq_true_eq] at h
 omega
theorem has_one {root slot r : Int} : (ATree.one root slot).has r = decide (r = root) := by
 unfold ATree.has ATree.get ATree.one
 simp only [mget]
 split <;> simp [*]
theorem one_get {root slot r : Int} : (ATree.one root slot).get r = if r = root then some ⟨root, slot, 0⟩ else none := by
 unfold ATree.get ATree.one
 simp only [mget]
theorem one_wf {root slot : Int} (h : 0 <= slot) (h1 : slot <= 1099511627776) : (ATree.one root slot).Wf := by
 refine ⟨by simp [ATree.one], ⟨_, by rw [one_get]; exact if_pos rfl⟩, ?_, ?_, by simp [ATree.one]⟩
 ·intro r n hn hne
  rw [one_get] at hn
  split at hn
  ·rename_i e; exact absurd e hne
  ·cases hn
 ·intro r n hn
  rw [one_get] at hn
  split at hn
  ·injection hn with hn; subst hn; simp only; omega
  ·cases hn
theorem of_wf {c : ACfg} (hm : mayCfg c = true) (hb : okBal c) : (AStore.of c).Wf := by
 have hw : (ATree.one 1 0).Wf := one_wf (by omega) (by omega)
 have h11 : (ATree.one 1 0).below 1 1 = true := (ATree.below_iff hw).2 (.refl (by rw [one_get]; exact if_pos rfl))
 have p1 : PtOk ⟨0, 1⟩ := ⟨by simp, by simp, by unfold U64; simp⟩
 refine ⟨hm, hb, hw, ?_, ⟨Int.le_refl _, by show (0 : Int) <= _; omega⟩, ?_, by simp [AStore.of], ?_, .inl rfl, p1, p1, rfl, h11, by simp [AStore.of], ?_, ?_, ?_, ?_, by simp [AStore.of]⟩
 ·intro r hr
  have : r = 1 := by simpa [AStore.of, has_one] using hr
  omega
 ·intro r n hn
  change (ATree.one 1 0).get r = some n at hn
  rw [one_get] at hn
  split at hn
  ·injection hn with hn; subst hn; exact Int.le_refl _
  ·cases hn
 ·intro e he
  have : e = ⟨false, 0, 0, false⟩ := by
   have := List.eq_of_mem_replicate he
   exact this
  subst this
  exact ⟨by simp, by simp, by unfold U64; simp⟩
 ·intro r
  change (mget [(1, ledOpen c 1)] r).isSome = (ATree.one 1 0).has r
  rw [has_one]
  simp only [mget]
  split <;> simp [*]
 ·intro r l hl
  change mget [(1, ledOpen c 1)] r = some l at hl
  simp only [mget] at hl
  split at hl
  ·injection hl with hl; subst hl
   exact ⟨by simp [ledOpen], by simp [ledOpen], ⟨p1, p1, p1⟩, by simp [ledOpen, AStore.of], by simp [ledOpen, AStore.of]⟩
  ·cases hl
 ·intro r l hl
  change mget [(1, ledOpen c 1)] r = some l at hl
  simp only [mget] at hl
  split at hl
  ·rename_i e; subst e
   injection hl with hl; subst hl
   exact ⟨.inr h11, .inr h11, .inr h11⟩
  ·cases hl
 ·intro r hr
  simp [AStore.of, mget] at hr
theorem lgetD_ok {es : List G_latest_Entry} (h : ∀ e ∈ es, EntOk e) (k : Int) : EntOk (lgetD es k) := by
 unfold lgetD
 rw [List.getD_eq_getElem?_getD]
 cases hk : es[k.toNat]? with
 | none => exact ⟨by simp, by simp, by unfold U64; simp⟩
 | some e => exact h e (List.mem_of_getElem? hk)
theorem ltake_ok {es : List G_latest_Entry} (h : ∀ e ∈ es, EntOk e) {k epoch root : Int} (h0 : 0 <= epoch) (h1 : epoch <= 1099511627776) (hr : U64 root) : ∀ e ∈ ltake es k epoch root, EntOk e := by
 unfold ltake
 split
 ·intro e he
  rcases List.mem_or_eq_of_mem_set he with h2 | h2
  ·exact h e h2
  ·subst h2; exact ⟨h0, h1, hr⟩
 ·exact h
theorem lban_ok {es : List G_latest_Entry} (h : ∀ e ∈ es, EntOk e) {k : Int} : ∀ e ∈ lban es k, EntOk e := by
 unfold lban
 split
 ·intro e he
  rcases List.mem_or_eq_of_mem_set he with h2 | h2
  ·exact h e h2
  ·subst h2
   have := lgetD_ok h k
   exact ⟨this.e0, this.e1, this.r⟩
 ·exact h
theorem takeAll_ok {epoch head : Int} (h0 : 0 <= epoch) (h1 : epoch <= 1099511627776) (hr : U64 head) : ∀ (who : List Int) {es : List G_latest_Entry}, (∀ e ∈ es, EntOk e) ->
  (∀ e ∈ (takeAll epoch head who es).2, EntOk e) /\ (takeAll epoch head who es).2.length = es.length
 | [], es, h => ⟨h, rfl⟩
 | k :: r, es, h => by
  have := takeAll_ok h0 h1 hr r (ltake_ok h (k := k) h0 h1 hr)
  exact ⟨this.1, this.2.trans (ltake_length _ _ _ _)⟩
theorem banAll_ok : ∀ (who : List Int) {es : List G_latest_Entry}, (∀ e ∈ es, EntOk e) -> (∀ e ∈ (banAll who es).2, EntOk e) /\ (banAll who es).2.length = es.length
 | [], es, h => ⟨h, rfl⟩
 | k :: r, es, h => by
  have := banAll_ok r (lban_ok h (k := k))
  exact ⟨this.1, this.2.trans (lban_length _ _)⟩
theorem Wf.votes {s : AStore} (h : s.Wf) {vs : List G_latest_Entry} (hl : vs.length = s.votes.length) (ho : ∀ e ∈ vs, EntOk e) : ({ s with votes := vs } : AStore).Wf :=
  { may := h.may, bal := h.bal, tree := h.tree, roots := h.roots, slot := h.slot, slots := h.slots, vlen := hl.trans h.vlen, vok := ho, boosted := h.boosted, just := h.just, fin := h.fin, first := h.first, jf := h.jf, lnodup := h.lnodup,
    lkeys := h.lkeys, lok := h.lok, chain := h.chain, gone := h.gone, gnodup := h.gnodup }
theorem voteRight_tgt {c : ACfg} {v : AVote} (h : voteRight c v = true) : 0 <= v.slot /\ v.tgt.Epoch = epochOf v.slot c.slots /\ 0 <= v.tgt.Epoch /\ v.tgt.Epoch <= v.slot := by
 unfold voteRight at h
 simp only [Bool.and_eq_true, decide_eq_true_eq] at h
 have h2 := epochOf_nonneg v.slot c.slots
 have h3 := epochOf_le v.slot c.slots
 omega
theorem attErr_ok {s : AStore} {v : AVote} {inside : Bool} (h : s.attErr v inside = 0) : voteRight s.cfg v = true /\ v.slot <= s.slot /\ s.tree.has v.head = true := by
 unfold attErr at h
 split at h
 ·simp at h
 ·rename_i h1
  split at h
  ·simp at h
  ·rename_i h2
   split at h
   ·simp at h
   ·split at h
    ·simp at h
    ·rename_i h4
     refine ⟨by simpa using h1, ?_, ?_⟩
     ·rcases Int.lt_or_le s.slot v.slot with h5 | h5
      ·exact absurd (.inl h5) h2
      ·exact h5
     ·cases hh : s.tree.has v.head with
      | true => rfl
      | false => exact absurd (.inl (by rw [hh]; rfl)) h4
theorem Wf.attest {s : AStore} (h : s.Wf) (v : AVote) (inside : Bool) : (s.attest v inside).2.Wf := by
 unfold AStore.attest
 split
 ·rename_i he
  obtain ⟨h1, h2, h3⟩ := attErr_ok he
  obtain ⟨h4, h5, h6, h7⟩ := voteRight_tgt h1
  have hs := h.slot
  have hr := h.roots _ h3
  have := takeAll_ok (epoch := v.tgt.Epoch) (head := v.head) h6 (by omega) ⟨by omega, hr.2⟩ v.who h.vok
  exact h.votes this.2 this.1
 ·exact h
theorem Wf.slash {s : AStore} (h : s.Wf) (p : AProof) : (s.slash p).2.Wf := by
 unfold AStore.slash
 have := banAll_ok ((proofWho s.cfg p).getD []) h.vok
 exact h.votes this.2 this.1
structure Same (s u : AStore) : Prop where
 cfg : u.cfg = s.cfg
 tree : u.tree = s.tree
 slot : u.slot = s.slot
 boosted : u.boosted = s.boosted
 just : u.just = s.just
 fin : u.fin = s.fin
 leds : u.leds = s.leds
 gone : u.gone = s.gone
theorem Same.refl (s : AStore) : Same s s := ⟨rfl, rfl, rfl, rfl, rfl, rfl, rfl, rfl⟩
theorem Same.trans {a b c : AStore} (h : Same a b) (k : Same b c) : Same a c :=
 ⟨k.cfg.trans h.cfg, k.tree.trans h.tree, k.slot.trans h.slot, k.boosted.trans h.boosted, k.just.trans h.just, k.fin.trans h.fin, k.leds.trans h.leds, k.gone.trans h.gone⟩
theorem same_attest (s : AStore) (v : AVote) (inside : Bool) : Same s (s.attest v inside).2 := by
 unfold AStore.attest
 split
 ·exact ⟨rfl, rfl, rfl, rfl, rfl, rfl, rfl, rfl⟩
 ·exact Same.refl s
theorem same_slash (s : AStore) (p : AProof) : Same s (s.slash p).2 := ⟨rfl, rfl, rfl, rfl, rfl, rfl, rfl, rfl⟩
theorem attAll_wf : ∀ (vs : List AVote) {s : AStore}, s.Wf -> (attAll vs s).2.Wf /\ Same s (attAll vs s).2
 | [], s, h => ⟨h, Same.refl s⟩
 | v :: r, s, h => by
  have := attAll_wf r (h.attest v true)
  exact ⟨this.1, (same_attest s v true).trans this.2⟩
theorem slashAll_wf : ∀ (ps : List AProof) {s : AStore}, s.Wf -> (slashAll ps s).2.Wf /\ Same s (slashAll ps s).2
 | [], s, h => ⟨h, Same.refl s⟩
 | p :: r, s, h => by
  have := slashAll_wf r (h.slash p)
  exact ⟨this.1, (same_slash s p).trans this.2⟩
theorem Wf.tick {s : AStore} (h : s.Wf) (x : Int) : (s.tick x).Wf := by
 unfold AStore.tick
 split
 ·rename_i he
  unfold tickErr at he
  split at he
  ·simp at he
  ·split at he
   ·simp at he
   ·have hs := h.slot
    have hsl : ∀ r n, s.tree.get r = some n -> n.slot <= x := fun r n hn => Int.le_trans (h.slots r n hn) (by omega)
    have hx : 0 <= x /\ x <= 1099511627776 := ⟨by omega, by omega⟩
    exact { may := h.may, bal := h.bal, tree := h.tree, roots := h.roots, slot := hx, slots := hsl, vlen := h.vlen, vok := h.vok, boosted := .inl rfl, just := h.just, fin := h.fin, first := h.first, jf := h.jf, lnodup := h.lnodup, lkeys := h.lkeys, lok := h.lok, chain := h.chain, gone := h.gone, gnodup := h.gnodup }
 ·exact h
theorem propErr_ok {s : AStore} {b : ABlock} (h : s.propErr b = 0) : b.slot <= s.slot /\ b.root ≠ 0 /\ b.votes.length <= 16 /\ b.proofs.length <= 16 /\ mget s.gone b.root ≠ some true /\ (s.tree.add b.root b.parent b.slot).1 = 0 := by
 unfold propErr at h
 split at h
 ·simp at h
 ·rename_i h1
  split at h
  ·simp at h
  ·rename_i h2
   split at h
   ·simp at h
   ·rename_i h3
    split at h
    ·simp at h
    ·rename_i h4
     refine ⟨by omega, h2, by omega, by omega, ?_, h⟩
     intro e; rw [e] at h4; simp at h4
theorem chain_atS {t : ATree} (hw : t.Wf) {r : Int} {n : G_tree_node} (hr : t.get r = some n) (c : ACfg) {P : G_api_Point -> Prop} (h : ∀ e a, 0 <= e -> e <= 1099511627776 -> t.Anc r a -> P ⟨e, a⟩) : ChainPts P c (t.atS r) := by
 intro e h0 h1
 unfold pointOf
 rw [Int.max_eq_right h0]
 exact h e _ h0 h1 (ATree.atS_anc hw hr _)
theorem Wf.lay {s : AStore} (h : s.Wf) {b : ABlock} (he : s.propErr b = 0) (hb : U64 b.root) : (s.lay b).Wf /\ JPts PtOk (s.newLed b).just /\ JPts ((s.lay b).OnChain b.root) (s.newLed b).just /\ LedOk s.cfg.bal.length (s.newLed b) := by
 obtain ⟨h1, h2, _, _, h5, h6⟩ := propErr_ok he
 have hg := ATree.grown_of h6
 have hw := ATree.Wf.add h.tree h6 (by have := h.slot; omega)
 obtain ⟨p, hp, hps⟩ := hg.par
 have hkp : (mget s.leds b.parent).isSome = true := by rw [h.lkeys, ATree.has_iff]; exact ⟨p, hp⟩
 obtain ⟨lp, hlp⟩ := Option.isSome_iff_exists.1 hkp
 have hlo := h.lok _ _ hlp
 have hlc := h.chain _ _ hlp
 have hroot : (s.tree.add b.root b.parent b.slot).2.get b.root = some ⟨b.parent, b.slot, p.height + 1⟩ := by rw [hg.get, if_pos rfl, hp]; rfl
 have hbs : b.slot <= 1099511627776 := by have := h.slot; omega
 have hu : ∀ {r}, (s.tree.add b.root b.parent b.slot).2.has r = true ↔ r = b.root \/ s.tree.has r = true := by
  intro r
  rw [ATree.has_iff, ATree.has_iff, hg.get]
  by_cases e : r = b.root
  ·rw [if_pos e]; simp [e]
  ·rw [if_neg e]; simp [e]
 have hroots : ∀ r, (s.tree.add b.root b.parent b.slot).2.has r = true -> 1 <= r /\ r <= 18446744073709551615 := by
  intro r hr
  rcases hu.1 hr with rfl | hr
  ·have := hb; unfold U64 at this; omega
  ·exact h.roots r hr
 have honew : ∀ q : G_api_Point, s.OnChain b.parent q -> (s.lay b).OnChain b.root q := by
  intro q hq
  rcases hq with hq | hq
  ·exact .inl hq
  ·refine .inr ((ATree.below_iff hw).2 ((hg.anc_iff h.tree).2 (.inr ⟨rfl, .inr ((ATree.below_iff h.tree).1 hq)⟩)))
 have cp : ChainPts (fun q => PtOk q /\ (s.lay b).OnChain b.root q) s.cfg ((s.tree.add b.root b.parent b.slot).2.atS b.root) := by
  refine chain_atS hw hroot _ fun e a h0 h1 ha => ?_
  obtain ⟨m, hm⟩ := ha.right
  have := hroots a (ATree.has_iff.2 ⟨m, hm⟩)
  exact ⟨⟨h0, h1, ⟨by show (0 : Int) <= a; omega, this.2⟩⟩, .inr ((ATree.below_iff hw).2 ha)⟩
 have hadv := advance_inv (P := fun q => PtOk q /\ (s.lay b).OnChain b.root q) (c := s.cfg) (l := lp) (slot := b.slot) (at_ := (s.tree.add b.root b.parent b.slot).2.atS b.root)
  ⟨⟨hlo.pts.1, honew _ hlc.1⟩, ⟨hlo.pts.2.1, honew _ hlc.2.1⟩, ⟨hlo.pts.2.2, honew _ hlc.2.2⟩⟩ hlo.e0 hlo.e1 hlo.before hlo.now hbs cp
 have hcnt := counts_just s.cfg ((s.tree.add b.root b.parent b.slot).2.atS b.root) b.votes (advance s.cfg lp b.slot ((s.tree.add b.root b.parent b.slot).2.atS b.root))
 have hnew : s.newLed b = b.votes.foldl (fun l v => count s.cfg l v ((s.tree.add b.root b.parent b.slot).2.atS b.root)) (advance s.cfg lp b.slot ((s.tree.add b.root b.parent b.slot).2.atS b.root)) := by
  unfold newLed; rw [hlp]; rfl
 rw [<- hnew] at hcnt
 obtain ⟨a1, a2, a3, a4, a5⟩ := hadv
 have hj : JPts (fun q => PtOk q /\ (s.lay b).OnChain b.root q) (s.newLed b).just := by rw [hcnt.1]; exact a1
 have hlok : LedOk s.cfg.bal.length (s.newLed b) := ⟨by rw [hcnt.2.1]; exact a2, by rw [hcnt.2.1]; exact a3, hj.mono fun _ h => h.1, by rw [hcnt.2.2.1]; exact a4, by rw [hcnt.2.2.2]; exact a5⟩
 refine ⟨?_, hj.mono fun _ h => h.1, hj.mono fun _ h => h.2, hlok⟩
 have old : ∀ r q, s.OnChain r q -> (s.lay b).OnChain r q := by
  intro r q hq
  rcases hq with hq | hq
  ·exact .inl hq
  ·exact .inr ((ATree.below_iff hw).2 (hg.anc_old _ ((ATree.below_iff h.tree).1 hq)))
 refine { may := h.may, bal := h.bal, tree := hw, roots := hroots, slot := h.slot, slots := ?_, vlen := h.vlen, vok := h.vok, boosted := ?_, just := h.just, fin := h.fin, first := ?_, jf := ?_, lnodup := mput_nodup h.lnodup, lkeys := ?_, lok := ?_, chain := ?_, gone := ?_, gnodup := h.gnodup }
 ·intro r n hn
  change (s.tree.add b.root b.parent b.slot).2.get r = some n at hn
  rw [hg.get] at hn
  split at hn
  ·injection hn with hn; subst hn; exact h1
  ·exact h.slots r n hn
 ·rcases h.boosted with e | e
  ·exact .inl e
  ·exact .inr (hu.2 (.inr e))
 ·show s.fin.Root = (s.tree.add b.root b.parent b.slot).2.first
  rw [hg.first]; exact h.first
 ·exact (ATree.below_iff hw).2 (hg.anc_old _ ((ATree.below_iff h.tree).1 h.jf))
 ·intro r
  show (mget (mput s.leds b.root (s.newLed b)) r).isSome = (s.tree.add b.root b.parent b.slot).2.has r
  rw [mget_mput, Bool.eq_iff_iff, hu]
  by_cases e : r = b.root
  ·simp [e]
  ·rw [if_neg e, h.lkeys]; simp [e]
 ·intro r l hl
  change mget (mput s.leds b.root (s.newLed b)) r = some l at hl
  rw [mget_mput] at hl
  split at hl
  ·injection hl with hl; subst hl; exact hlok
  ·exact h.lok r l hl
 ·intro r l hl
  change mget (mput s.leds b.root (s.newLed b)) r = some l at hl
  rw [mget_mput] at hl
  split at hl
  ·rename_i e; subst e
   injection hl with hl; subst hl; exact hj.mono fun _ h => h.2
  ·exact (h.chain r l hl).mono (old r)
 ·intro r hr
  have h7 := h.gone r hr
  show (s.tree.add b.root b.parent b.slot).2.has r = false
  cases hh : (s.tree.add b.root b.parent b.slot).2.has r with
  | false => rfl
  | true =>
   rcases hu.1 hh with e | e
   ·subst e; exact absurd hr h5
   ·rw [h7] at e; cases e
theorem Wf.boostB {s : AStore} (h : s.Wf) {b : ABlock} (hb : s.tree.has b.root = true) : (s.boostB b).Wf := by
 unfold AStore.boostB
 split
 ·exact { may := h.may, bal := h.bal, tree := h.tree, roots := h.roots, slot := h.slot, slots := h.slots, vlen := h.vlen, vok := h.vok, boosted := .inr hb, just := h.just, fin := h.fin, first := h.first, jf := h.jf, lnodup := h.lnodup, lkeys := h.lkeys, lok := h.lok, chain := h.chain, gone := h.gone, gnodup := h.gnodup }
 ·exact h
theorem Wf.raiseJ {s : AStore} (h : s.Wf) {j : G_api_Point} (hj : PtOk j) : (s.raiseJ j).Wf := by
 unfold AStore.raiseJ
 split
 ·rename_i hc
  exact { may := h.may, bal := h.bal, tree := h.tree, roots := h.roots, slot := h.slot, slots := h.slots, vlen := h.vlen, vok := h.vok, boosted := h.boosted, just := hj, fin := h.fin, first := h.first, jf := hc.2, lnodup := h.lnodup, lkeys := h.lkeys, lok := h.lok, chain := h.chain, gone := h.gone, gnodup := h.gnodup }
 ·exact h
theorem mget_mdel_all {α : Type} {r : Int} : ∀ (gs : List Int) {es : List (Int × α)}, (es.map (·.1)).Nodup -> ((gs.foldl mdel es).map (·.1)).Nodup /\ mget (gs.foldl mdel es) r = if r ∈ gs then none else mget es r
 | [], es, h => ⟨h, by simp⟩
 | g :: gs, es, h => by
  have hn : ((mdel es g).map (·.1)).Nodup := mdel_nodup h
  have ih := mget_mdel_all (r := r) gs hn
  refine ⟨ih.1, ?_⟩
  show mget (gs.foldl mdel (mdel es g)) r = _
  rw [ih.2, mget_mdel h]
  by_cases e1 : r ∈ gs
  ·simp [e1]
  ·by_cases e2 : r = g <;> simp [e1, e2]
theorem mget_mput_all {r : Int} : ∀ (gs : List Int) {es : List (Int × Bool)}, (es.map (·.1)).Nodup -> ((gs.foldl (fun g r => mput g r true) es).map (·.1)).Nodup /\ mget (gs.foldl (fun g r => mput g r true) es) r = if r ∈ gs then some true else mget es r
 | [], es, h => ⟨h, by simp⟩
 | g :: gs, es, h => by
  have ih := mget_mput_all (r := r) gs (mput_nodup (k := g) (x := true) h)
  refine ⟨ih.1, ?_⟩
  show mget (gs.foldl (fun g r => mput g r true) (mput es g true)) r = _
  rw [ih.2, mget_mput]
  by_cases e1 : r ∈ gs
  ·simp [e1]
  ·by_cases e2 : r = g <;> simp [e1, e2]
theorem raises_anc {s : AStore} (h : s.Wf) {f : G_api_Point} (hr : s.raises f = true) : s.fin.Epoch < f.Epoch /\ s.tree.Anc f.Root s.tree.first /\ s.tree.Anc s.just.Root f.Root := by
 unfold raises at hr
 simp only [Bool.and_eq_true, decide_eq_true_eq] at hr
 refine ⟨by omega, ?_, (ATree.below_iff h.tree).1 hr.2⟩
 rw [<- h.first]
 exact (ATree.below_iff h.tree).1 hr.1.2
theorem mem_cut_gone {t : ATree} {root r : Int} {n : G_tree_node} (hn : t.get root = some n) : r ∈ (t.cut root).1 ↔ t.has r = true /\ t.below r root = false := by
 unfold ATree.cut
 rw [hn]
 simp only [List.mem_filter, ATree.mem_roots, Bool.not_eq_true']
theorem Wf.raiseF {s : AStore} (h : s.Wf) {f : G_api_Point} (hf : PtOk f) (hr : s.raises f = true) : (s.raiseF f).Wf := by
 obtain ⟨h1, h2, h3⟩ := raises_anc h hr
 obtain ⟨n, hn⟩ := h2.left
 have c := ATree.cutTo_of h.tree hn
 have hw := ATree.Wf.cut h.tree hn
 have hmd := fun r => mget_mdel_all (r := r) (s.tree.cut f.Root).1 h.lnodup
 have hmp := fun r => mget_mput_all (r := r) (s.tree.cut f.Root).1 h.gnodup
 have hled : ∀ r l, mget (s.raiseF f).leds r = some l -> mget s.leds r = some l /\ r ∉ (s.tree.cut f.Root).1 := by
  intro r l hl
  change mget ((s.tree.cut f.Root).1.foldl mdel s.leds) r = some l at hl
  rw [(hmd r).2] at hl
  split at hl
  ·cases hl
  ·rename_i e; exact ⟨hl, e⟩
 have hstay : ∀ r, s.tree.has r = true -> r ∉ (s.tree.cut f.Root).1 -> s.tree.Anc r f.Root := by
  intro r hr hg
  rw [mem_cut_gone hn] at hg
  refine (ATree.below_iff h.tree).1 ?_
  cases hb : s.tree.below r f.Root with
  | true => rfl
  | false => exact absurd ⟨hr, hb⟩ hg
 refine { may := h.may, bal := h.bal, tree := hw, roots := ?_, slot := h.slot, slots := ?_, vlen := h.vlen, vok := h.vok, boosted := ?_, just := h.just, fin := hf, first := ?_, jf := ?_, lnodup := (hmd 0).1, lkeys := ?_, lok := ?_, chain := ?_, gone := ?_, gnodup := (hmp 0).1 }
 ·intro r hr
  change (s.tree.cut f.Root).2.has r = true at hr
  rw [c.has h.tree] at hr
  obtain ⟨m, hm⟩ := ((ATree.below_iff h.tree).1 hr).left
  exact h.roots r (ATree.has_iff.2 ⟨m, hm⟩)
 ·intro r m hm
  obtain ⟨_, q, hq, hs, _⟩ := c.get_old h.tree hm
  have := h.slots r q hq
  show m.slot <= s.slot
  omega
 ·show (if (s.tree.cut f.Root).2.has s.boosted = true then s.boosted else 0) = 0 \/ (s.tree.cut f.Root).2.has (if (s.tree.cut f.Root).2.has s.boosted = true then s.boosted else 0) = true
  split
  ·rename_i e; exact .inr e
  ·exact .inl rfl
 ·show f.Root = (s.tree.cut f.Root).2.first
  rw [c.first]
 ·show (s.tree.cut f.Root).2.below s.just.Root f.Root = true
  rw [ATree.below_iff hw, c.anc h.tree]
  exact ⟨h3, .refl hn⟩
 ·intro r
  show (mget ((s.tree.cut f.Root).1.foldl mdel s.leds) r).isSome = (s.tree.cut f.Root).2.has r
  rw [(hmd r).2, c.has h.tree]
  split
  ·rename_i e
   rw [mem_cut_gone hn] at e
   rw [e.2]; rfl
  ·rename_i e
   rw [h.lkeys]
   cases hh : s.tree.has r with
   | true => exact ((ATree.below_iff h.tree).2 (hstay r hh e)).symm
   | false =>
    cases hb : s.tree.below r f.Root with
    | false => rfl
    | true =>
     obtain ⟨m, hm⟩ := ((ATree.below_iff h.tree).1 hb).left
     rw [ATree.has_iff.2 ⟨m, hm⟩] at hh; cases hh
 ·intro r l hl
  exact h.lok r l (hled r l hl).1
 ·intro r l hl
  obtain ⟨hl1, hl2⟩ := hled r l hl
  have hhas : s.tree.has r = true := by rw [<- h.lkeys, hl1]; rfl
  have hra := hstay r hhas hl2
  refine (h.chain r l hl1).mono ?_
  intro p hp
  by_cases hg : p.Root ∈ (s.tree.cut f.Root).1
  ·left
   show mget ((s.tree.cut f.Root).1.foldl (fun g r => mput g r true) s.gone) p.Root = some true
   rw [(hmp p.Root).2, if_pos hg]
  ·rcases hp with hp | hp
   ·left
    show mget ((s.tree.cut f.Root).1.foldl (fun g r => mput g r true) s.gone) p.Root = some true
    rw [(hmp p.Root).2, if_neg hg]; exact hp
   ·right
    have ha := (ATree.below_iff h.tree).1 hp
    obtain ⟨m, hm⟩ := ha.right
    show (s.tree.cut f.Root).2.below r p.Root = true
    rw [ATree.below_iff hw, c.anc h.tree]
    exact ⟨ha, hstay _ (ATree.has_iff.2 ⟨m, hm⟩) hg⟩
 ·intro r hr
  change mget ((s.tree.cut f.Root).1.foldl (fun g r => mput g r true) s.gone) r = some true at hr
  rw [(hmp r).2] at hr
  show (s.tree.cut f.Root).2.has r = false
  rw [c.has h.tree]
  split at hr
  ·rename_i e
   rw [mem_cut_gone hn] at e
   exact e.2
  ·have := h.gone r hr
   cases hb : s.tree.below r f.Root with
   | false => rfl
   | true =>
    obtain ⟨m, hm⟩ := ((ATree.below_iff h.tree).1 hb).left
    rw [ATree.has_iff.2 ⟨m, hm⟩] at this; cases this
theorem Wf.raise {s : AStore} (h : s.Wf) {j f : G_api_Point} (hj : PtOk j) (hf : PtOk f) : (s.raise j f).2.Wf := by
 unfold AStore.raise
 simp only
 split
 ·rename_i hr
  exact (h.raiseJ hj).raiseF hf hr
 ·exact h.raiseJ hj
theorem raise_stays {s : AStore} (h : s.Wf) {j f : G_api_Point} (hj : PtOk j) {r : Int} (hr : s.tree.has r = true) (hc : s.OnChain r f) : (s.raise j f).2.tree.has r = true := by
 unfold AStore.raise
 simp only
 have hwj := h.raiseJ hj
 have ht : (s.raiseJ j).tree = s.tree := by unfold AStore.raiseJ; split <;> rfl
 have hg : (s.raiseJ j).gone = s.gone := by unfold AStore.raiseJ; split <;> rfl
 split
 ·rename_i hrs
  obtain ⟨h1, h2, h3⟩ := raises_anc hwj hrs
  obtain ⟨n, hn⟩ := h2.left
  show ((s.raiseJ j).tree.cut f.Root).2.has r = true
  rw [(ATree.cutTo_of hwj.tree hn).has hwj.tree, ht]
  rcases hc with hc | hc
  ·have := hwj.gone f.Root (by rw [hg]; exact hc)
   rw [ATree.has_iff.2 ⟨n, hn⟩] at this; cases this
  ·exact hc
 ·rw [ht]; exact hr
theorem raise_cfg (s : AStore) (j f : G_api_Point) : (s.raise j f).2.cfg = s.cfg /\ (s.raise j f).2.slot = s.slot /\ (s.raise j f).2.votes = s.votes := by
 unfold AStore.raise AStore.raiseJ
 simp only
 split <;> split <;> exact ⟨rfl, rfl, rfl⟩
theorem propose_parts {s : AStore} (h : s.Wf) {b : ABlock} (he : s.propErr b = 0) (hb : U64 b.root) :
  ∃ s2 s3 : AStore, s2 = (slashAll b.proofs (attAll b.votes (s.lay b)).2).2 /\ s2.Wf /\ Same (s.lay b) s2 /\ s3 = ((s2.boostB b).raise (s.newLed b).just.Current (s.newLed b).just.Final).2 /\ (s2.boostB b).Wf /\ s3.Wf /\ s3.tree.has b.root = true /\
   s3.cfg = s.cfg /\ s3.slot = s.slot /\ JPts PtOk (pull s3.cfg (s.newLed b) (s3.tree.atS b.root)) /\ (s.propose b).2 = (s3.late b (s.newLed b)).2 /\ (s.propose b).2.Wf /\ (s.propose b).2.tree.has b.root = true /\
   (s.propose b).1 = ⟨0, b.root, b.parent, 0, 0, false⟩ :: ((attAll b.votes (s.lay b)).1 ++ (slashAll b.proofs (attAll b.votes (s.lay b)).2).1 ++ ((s2.boostB b).raise (s.newLed b).just.Current (s.newLed b).just.Final).1 ++ (s3.late b (s.newLed b)).1) := by
 obtain ⟨hl, hj1, hj2, hlo⟩ := h.lay he hb
 obtain ⟨ha, hsa⟩ := attAll_wf b.votes hl
 obtain ⟨hs, hss⟩ := slashAll_wf b.proofs ha
 have hsame := hsa.trans hss
 obtain ⟨_, _, _, _, _, h6⟩ := propErr_ok he
 have hg := ATree.grown_of h6
 have hasl : (s.lay b).tree.has b.root = true := by
  rw [ATree.has_iff]
  show ∃ n, (s.tree.add b.root b.parent b.slot).2.get b.root = some n
  rw [hg.get, if_pos rfl]; exact ⟨_, rfl⟩
 generalize e2 : (slashAll b.proofs (attAll b.votes (s.lay b)).2).2 = s2 at hs hsame hss
 have has2 : s2.tree.has b.root = true := by rw [hsame.tree]; exact hasl
 have hbt : (s2.boostB b).tree = s2.tree /\ (s2.boostB b).gone = s2.gone /\ (s2.boostB b).cfg = s2.cfg /\ (s2.boostB b).slot = s2.slot := by unfold AStore.boostB; split <;> exact ⟨rfl, rfl, rfl, rfl⟩
 have hwb := hs.boostB has2
 have h3 := hwb.raise hj1.2.1 hj1.2.2
 have hoc : ∀ p, (s.lay b).OnChain b.root p -> (s2.boostB b).OnChain b.root p := by
  intro p hp
  unfold OnChain at hp ⊢
  rw [hbt.1, hbt.2.1, hsame.tree, hsame.gone]; exact hp
 have hh3 := raise_stays hwb (f := (s.newLed b).just.Final) hj1.2.1 (by rw [hbt.1]; exact has2) (hoc _ hj2.2.2)
 have hcfg := raise_cfg (s2.boostB b) (s.newLed b).just.Current (s.newLed b).just.Final
 generalize e3 : ((s2.boostB b).raise (s.newLed b).just.Current (s.newLed b).just.Final).2 = s3 at h3 hh3 hcfg
 have hc3 : s3.cfg = s.cfg := by rw [hcfg.1, hbt.2.2.1, hsame.cfg]; rfl
 have hs3 : s3.slot = s.slot := by rw [hcfg.2.1, hbt.2.2.2, hsame.slot]; rfl
 obtain ⟨n3, hn3⟩ := ATree.has_iff.1 hh3
 have hpl : JPts PtOk (pull s3.cfg (s.newLed b) (s3.tree.atS b.root)) := by
  refine pull_pts hj1 hlo.e1 (chain_atS h3.tree hn3 _ fun e a h0 h1 ha => ?_)
  obtain ⟨m, hm⟩ := ha.right
  have := h3.roots a (ATree.has_iff.2 ⟨m, hm⟩)
  exact ⟨h0, h1, ⟨by show (0 : Int) <= a; omega, this.2⟩⟩
 have hprop : (s.propose b).2 = (s3.late b (s.newLed b)).2 /\ (s.propose b).1 = ⟨0, b.root, b.parent, 0, 0, false⟩ :: ((attAll b.votes (s.lay b)).1 ++ (slashAll b.proofs (attAll b.votes (s.lay b)).2).1 ++ ((s2.boostB b).raise (s.newLed b).just.Current (s.newLed b).just.Final).1 ++ (s3.late b (s.newLed b)).1) := by
  unfold AStore.propose
  rw [if_pos he]
  simp only [e2, e3]
  exact ⟨trivial, trivial⟩
 have hj3 : JPts (s3.OnChain b.root) (s.newLed b).just := by
  have hl3 : mget s3.leds b.root = some (s.newLed b) := by
   have hk : (mget s3.leds b.root).isSome = true := by rw [h3.lkeys]; exact hh3
   have hsub : ∀ r l, mget s3.leds r = some l -> mget (s.lay b).leds r = some l := by
    intro r l hl
    rw [<- e3] at hl
    have hbl : (s2.boostB b).leds = s2.leds := by unfold AStore.boostB; split <;> rfl
    have hjl : ((s2.boostB b).raiseJ (s.newLed b).just.Current).leds = s2.leds := by rw [<- hbl]; unfold AStore.raiseJ; split <;> rfl
    unfold AStore.raise at hl
    simp only at hl
    split at hl
    ·change mget ((((s2.boostB b).raiseJ (s.newLed b).just.Current).tree.cut (s.newLed b).just.Final.Root).1.foldl mdel ((s2.boostB b).raiseJ (s.newLed b).just.Current).leds) r = some l at hl
     rw [(mget_mdel_all (r := r) _ (by rw [hjl]; exact hs.lnodup)).2] at hl
     split at hl
     ·cases hl
     ·rw [hjl, hsame.leds] at hl; exact hl
    ·rw [hjl, hsame.leds] at hl; exact hl
   obtain ⟨l, hl⟩ := Option.isSome_iff_exists.1 hk
   have := hsub _ _ hl
   change mget (mput s.leds b.root (s.newLed b)) b.root = some l at this
   rw [mget_mput, if_pos rfl] at this
   rw [hl, this]
  exact h3.chain _ _ hl3
 have hj4 : JPts (s3.OnChain b.root) (pull s3.cfg (s.newLed b) (s3.tree.atS b.root)) :=
  pull_pts hj3 hlo.e1 (chain_atS h3.tree hn3 _ fun e a h0 h1 ha => .inr ((ATree.below_iff h3.tree).2 ha))
 have hlate : (s3.late b (s.newLed b)).2.Wf /\ (s3.late b (s.newLed b)).2.tree.has b.root = true := by
  unfold AStore.late
  split
  ·exact ⟨h3.raise hpl.2.1 hpl.2.2, raise_stays h3 hpl.2.1 hh3 hj4.2.2⟩
  ·exact ⟨h3, hh3⟩
 refine ⟨s2, s3, rfl, hs, hsame, e3.symm, hwb, h3, hh3, hc3, hs3, hpl, hprop.1, ?_, ?_, ?_⟩
 ·rw [hprop.1]; exact hlate.1
 ·rw [hprop.1]; exact hlate.2
 ·exact hprop.2
theorem Wf.propose {s : AStore} (h : s.Wf) {b : ABlock} (hb : U64 b.root) : (s.propose b).2.Wf := by
 by_cases he : s.propErr b = 0
 ·obtain ⟨_, _, _, _, _, _, _, _, _, _, _, _, _, h, _⟩ := propose_parts h he hb
  exact h
 ·unfold AStore.propose
  rw [if_neg he]; exact h
theorem Wf.apply {s : AStore} (h : s.Wf) {e : AEvent} (hb : U64 e.block.root) : (s.apply e).2.Wf := by
 unfold AStore.apply
 split
 ·exact h.tick _
 ·split
  ·exact h.propose hb
  ·split
   ·exact h.attest _ _
   ·split
    ·exact h.slash _
    ·exact h
end AStore
end Go.Sx
namespace Go.Sx
open Go
set_option linter.unusedVariables false
namespace AStore
theorem apply_err {s : AStore} {e : AEvent} (h : s.applyErr e ≠ 0) : s.apply e = ([], s) \/ (e.kind = 3 /\ s.apply e = ([], { s with votes := s.votes })) := by
 unfold applyErr at h
 unfold AStore.apply
 split
 ·rename_i h0
  rw [if_pos h0] at h
  left; unfold AStore.tick; rw [if_neg h]
 ·rename_i h0
  rw [if_neg h0] at h
  split
  ·rename_i h1
   rw [if_pos h1] at h
   left; unfold AStore.propose; rw [if_neg h]
  ·rename_i h1
   rw [if_neg h1] at h
   split
   ·rename_i h2
    rw [if_pos h2] at h
    left; unfold AStore.attest; rw [if_neg h]
   ·rename_i h2
    rw [if_neg h2] at h
    split
    ·rename_i h3
     rw [if_pos h3] at h
     right
     refine ⟨h3, ?_⟩
     unfold slashErr at h
     unfold AStore.slash
     cases hp : proofWho s.cfg e.proof with
     | none => rfl
     | some w => rw [hp] at h; simp at h
    ·exact .inl rfl
theorem apply_err' {s : AStore} {e : AEvent} (h : s.applyErr e ≠ 0) : s.apply e = ([], s) := by
 rcases apply_err h with h | ⟨_, h⟩ <;> exact h
theorem tick_ok {s : AStore} {x : Int} (h : s.tickErr x = 0) : (s.tick x).slot = x /\ (s.tick x).boosted = 0 := by
 unfold AStore.tick
 rw [if_pos h]; exact ⟨rfl, rfl⟩
theorem raise_boost {s : AStore} (h : s.Wf) {j f : G_api_Point} (hj : PtOk j) : (s.raise j f).2.boosted = s.boosted \/ ((s.raise j f).2.boosted = 0 /\ (s.raise j f).2.tree.has s.boosted = false) := by
 unfold AStore.raise
 simp only
 have hb : (s.raiseJ j).boosted = s.boosted := by unfold AStore.raiseJ; split <;> rfl
 split
 ·show (if ((s.raiseJ j).tree.cut f.Root).2.has (s.raiseJ j).boosted = true then (s.raiseJ j).boosted else 0) = s.boosted \/ _
  rw [hb]
  split
  ·exact .inl rfl
  ·rename_i e
   right
   refine ⟨?_, ?_⟩
   ·show (if ((s.raiseJ j).tree.cut f.Root).2.has (s.raiseJ j).boosted = true then (s.raiseJ j).boosted else 0) = 0
    rw [hb, if_neg e]
   ·show ((s.raiseJ j).tree.cut f.Root).2.has s.boosted = false
    simpa using e
 ·exact .inl hb
theorem raise_has {s : AStore} (h : s.Wf) {j f : G_api_Point} (hj : PtOk j) {r : Int} (hr : s.tree.has r = false) : (s.raise j f).2.tree.has r = false := by
 unfold AStore.raise
 simp only
 have ht : (s.raiseJ j).tree = s.tree := by unfold AStore.raiseJ; split <;> rfl
 split
 ·rename_i hrs
  have hwj := h.raiseJ hj
  obtain ⟨h1, h2, h3⟩ := raises_anc hwj hrs
  obtain ⟨n, hn⟩ := h2.left
  show ((s.raiseJ j).tree.cut f.Root).2.has r = false
  rw [(ATree.cutTo_of hwj.tree hn).has hwj.tree, ht]
  cases hb : s.tree.below r f.Root with
  | false => rfl
  | true =>
   obtain ⟨m, hm⟩ := ((ATree.below_iff h.tree).1 hb).left
   rw [ATree.has_iff.2 ⟨m, hm⟩] at hr; cases hr
 ·rw [ht]; exact hr
theorem raise_boost2 {s : AStore} (h : s.Wf) {j f : G_api_Point} (hj : PtOk j) {x : Int} (hx : s.boosted = x \/ s.tree.has x = false) (h0 : s.tree.has 0 = false) : (s.raise j f).2.boosted = x \/ (s.raise j f).2.tree.has x = false := by
 rcases hx with hx | hx
 ·rcases raise_boost h (f := f) hj with e | ⟨e1, e2⟩
  ·exact .inl (e.trans hx)
  ·right; rw [<- hx]; exact e2
 ·exact .inr (raise_has h hj hx)
theorem Wf.no0 {s : AStore} (h : s.Wf) : s.tree.has 0 = false := by
 cases hh : s.tree.has 0 with
 | false => rfl
 | true => have := h.roots 0 hh; omega
theorem propose_boost {s : AStore} (h : s.Wf) {b : ABlock} (he : s.propErr b = 0) (hb : U64 b.root) :
  (s.propose b).2.slot = s.slot /\ ((s.propose b).2.boosted = (if s.boosted = 0 /\ b.slot = s.slot then b.root else s.boosted) \/ (s.propose b).2.tree.has (if s.boosted = 0 /\ b.slot = s.slot then b.root else s.boosted) = false) := by
 obtain ⟨hl, hj1, hj2, hlo⟩ := h.lay he hb
 obtain ⟨s2, s3, e2, hs2, hsame, e3, hwb, h3, hh3, hc3, hs3, hpl, e4, h4, _, _⟩ := propose_parts h he hb
 have h0b := hwb.no0
 have hbb : (s2.boostB b).boosted = (if s.boosted = 0 /\ b.slot = s.slot then b.root else s.boosted) := by
  have hb2 : s2.boosted = s.boosted := hsame.boosted
  have hs2' : s2.slot = s.slot := hsame.slot
  unfold AStore.boostB
  rw [hb2, hs2']
  split
  ·rename_i hc
   rw [if_pos ⟨hc.2, hc.1⟩]
  ·rename_i hc
   rw [if_neg (fun e => hc ⟨e.2, e.1⟩)]; exact hb2
 have h5 := raise_boost2 hwb (j := (s.newLed b).just.Current) (f := (s.newLed b).just.Final) hj1.2.1 (.inl hbb) h0b
 rw [<- e3] at h5
 rw [e4]
 unfold AStore.late
 split
 ·refine ⟨(raise_cfg s3 _ _).2.1.trans hs3, ?_⟩
  exact raise_boost2 h3 hpl.2.1 h5 h3.no0
 ·exact ⟨hs3, h5⟩
theorem raise_up (s : AStore) (j f : G_api_Point) : s.just.Epoch <= (s.raise j f).2.just.Epoch /\ s.fin.Epoch <= (s.raise j f).2.fin.Epoch /\ ((s.raise j f).1 = [] /\ (s.raise j f).2.fin = s.fin \/ (s.raise j f).1 = [⟨3, (s.raise j f).2.fin.Root, 0, 0, 0, false⟩] /\ s.fin.Epoch < (s.raise j f).2.fin.Epoch) := by
 have h1 : s.just.Epoch <= (s.raiseJ j).just.Epoch := by
  unfold AStore.raiseJ
  split
  ·rename_i h; show s.just.Epoch <= j.Epoch; omega
  ·exact Int.le_refl _
 have h2 : (s.raiseJ j).fin = s.fin := by unfold AStore.raiseJ; split <;> rfl
 unfold AStore.raise
 simp only
 split
 ·rename_i hr
  unfold raises at hr
  simp only [Bool.and_eq_true, decide_eq_true_eq, h2] at hr
  refine ⟨h1, ?_, .inr ⟨rfl, ?_⟩⟩
  ·show s.fin.Epoch <= f.Epoch; omega
  ·show s.fin.Epoch < f.Epoch; omega
 ·refine ⟨h1, by rw [h2]; exact Int.le_refl _, .inl ⟨rfl, h2⟩⟩
theorem boostB_same (s : AStore) (b : ABlock) : (s.boostB b).just = s.just /\ (s.boostB b).fin = s.fin /\ (s.boostB b).tree = s.tree /\ (s.boostB b).cfg = s.cfg /\ (s.boostB b).slot = s.slot /\ (s.boostB b).votes = s.votes /\ (s.boostB b).leds = s.leds /\ (s.boostB b).gone = s.gone := by
 unfold AStore.boostB; split <;> exact ⟨rfl, rfl, rfl, rfl, rfl, rfl, rfl, rfl⟩
structure CutLast (f0 : G_api_Point) (cs : List G_store_Change) (f1 : G_api_Point) : Prop where
 no : f1 = f0 -> ∀ c ∈ cs, c.Kind ≠ 3
 yes : f1 ≠ f0 -> ∃ l, cs = l ++ [⟨3, f1.Root, 0, 0, 0, false⟩]
theorem late_up (s : AStore) (b : ABlock) (l : ALed) : s.just.Epoch <= (s.late b l).2.just.Epoch /\ s.fin.Epoch <= (s.late b l).2.fin.Epoch /\ ((s.late b l).1 = [] /\ (s.late b l).2.fin = s.fin \/ (s.late b l).1 = [⟨3, (s.late b l).2.fin.Root, 0, 0, 0, false⟩] /\ s.fin.Epoch < (s.late b l).2.fin.Epoch) := by
 unfold AStore.late
 split
 ·exact raise_up _ _ _
 ·exact ⟨Int.le_refl _, Int.le_refl _, .inl ⟨rfl, rfl⟩⟩
theorem takeAll_kind {epoch head : Int} : ∀ (who : List Int) (vs : List G_latest_Entry), ∀ c ∈ (takeAll epoch head who vs).1, c.Kind = 1
 | [], _, c, h => by simp [takeAll] at h
 | k :: r, vs, c, h => by
  simp only [takeAll, List.mem_append] at h
  rcases h with h | h
  ·split at h
   ·simp at h; subst h; rfl
   ·simp at h
  ·exact takeAll_kind r _ c h
theorem banAll_kind : ∀ (who : List Int) (vs : List G_latest_Entry), ∀ c ∈ (banAll who vs).1, c.Kind = 2
 | [], _, c, h => by simp [banAll] at h
 | k :: r, vs, c, h => by
  simp only [banAll, List.mem_append] at h
  rcases h with h | h
  ·split at h
   ·simp at h; subst h; rfl
   ·simp at h
  ·exact banAll_kind r _ c h
theorem attest_kind {s : AStore} {v : AVote} {inside : Bool} : ∀ c ∈ (s.attest v inside).1, c.Kind = 1 := by
 unfold AStore.attest
 split
 ·exact takeAll_kind _ _
 ·intro c h; simp at h
theorem slash_kind {s : AStore} {p : AProof} : ∀ c ∈ (s.slash p).1, c.Kind = 2 := banAll_kind _ _
theorem attAll_kind : ∀ (vs : List AVote) (s : AStore), ∀ c ∈ (attAll vs s).1, c.Kind = 1
 | [], _, c, h => by simp [attAll] at h
 | v :: r, s, c, h => by
  simp only [attAll, List.mem_append] at h
  rcases h with h | h
  ·exact attest_kind c h
  ·exact attAll_kind r _ c h
theorem slashAll_kind : ∀ (ps : List AProof) (s : AStore), ∀ c ∈ (slashAll ps s).1, c.Kind = 2
 | [], _, c, h => by simp [slashAll] at h
 | v :: r, s, c, h => by
  simp only [slashAll, List.mem_append] at h
  rcases h with h | h
  ·exact slash_kind c h
  ·exact slashAll_kind r _ c h
theorem propose_told {s : AStore} (h : s.Wf) {b : ABlock} (he : s.propErr b = 0) (hb : U64 b.root) :
  (∃ r, (s.propose b).1 = ⟨0, b.root, b.parent, 0, 0, false⟩ :: r) /\ CutLast s.fin (s.propose b).1 (s.propose b).2.fin /\ s.just.Epoch <= (s.propose b).2.just.Epoch /\ s.fin.Epoch <= (s.propose b).2.fin.Epoch := by
 obtain ⟨s2, s3, e2, hs2, hsame, e3, hwb, h3, hh3, hc3, hs3, hpl, e4, h4, _, e5⟩ := propose_parts h he hb
 have hf2 : s2.fin = s.fin := hsame.fin
 have hj2 : s2.just = s.just := hsame.just
 have hbb := boostB_same s2 b
 have hu := raise_up (s2.boostB b) (s.newLed b).just.Current (s.newLed b).just.Final
 rw [<- e3, hbb.1, hbb.2.1, hf2, hj2] at hu
 have hl := late_up s3 b (s.newLed b)
 refine ⟨⟨_, e5⟩, ?_, ?_, ?_⟩
 ·rw [e5, e4]
  have hk1 : ∀ c ∈ (attAll b.votes (s.lay b)).1 ++ (slashAll b.proofs (attAll b.votes (s.lay b)).2).1, c.Kind ≠ 3 := by
   intro c hc
   rcases List.mem_append.1 hc with hc | hc
   ·rw [attAll_kind _ _ c hc]; decide
   ·rw [slashAll_kind _ _ c hc]; decide
  generalize (attAll b.votes (s.lay b)).1 ++ (slashAll b.proofs (attAll b.votes (s.lay b)).2).1 = A at hk1
  generalize ((s2.boostB b).raise (s.newLed b).just.Current (s.newLed b).just.Final).1 = B at hu
  generalize (s3.late b (s.newLed b)).1 = C at hl
  generalize (s3.late b (s.newLed b)).2 = s4 at hl
  constructor
  ·intro e c hc
   have hB : B = [] := by
    rcases hu.2.2 with ⟨e1, _⟩ | ⟨_, e2⟩
    ·exact e1
    ·have := hl.2.1; rw [e] at this; omega
   have hC : C = [] := by
    rcases hl.2.2 with ⟨e1, _⟩ | ⟨_, e2⟩
    ·exact e1
    ·have := hu.2.1; rw [e] at e2; omega
   subst hB hC
   simp only [List.append_nil, List.mem_cons] at hc
   rcases hc with rfl | hc
   ·simp
   ·exact hk1 c hc
  ·intro e
   rcases hl.2.2 with ⟨hC, e1⟩ | ⟨hC, e2⟩
   ·rcases hu.2.2 with ⟨hB, e3⟩ | ⟨hB, e4⟩
    ·exact absurd (e1.trans e3) e
    ·subst hC hB
     exact ⟨⟨0, b.root, b.parent, 0, 0, false⟩ :: A, by rw [e1]; simp⟩
   ·subst hC
    exact ⟨⟨0, b.root, b.parent, 0, 0, false⟩ :: (A ++ B), by simp⟩
 ·rw [e4]; omega
 ·rw [e4]; omega
theorem apply_up {s : AStore} (h : s.Wf) {e : AEvent} (hb : U64 e.block.root) : s.just.Epoch <= (s.apply e).2.just.Epoch /\ s.fin.Epoch <= (s.apply e).2.fin.Epoch := by
 unfold AStore.apply
 split
 ·unfold AStore.tick; split <;> exact ⟨Int.le_refl _, Int.le_refl _⟩
 ·split
  ·by_cases he : s.propErr e.block = 0
   ·exact (propose_told h he hb).2.2
   ·unfold AStore.propose; rw [if_neg he]; exact ⟨Int.le_refl _, Int.le_refl _⟩
  ·split
   ·unfold AStore.attest; split <;> exact ⟨Int.le_refl _, Int.le_refl _⟩
   ·split <;> exact ⟨Int.le_refl _, Int.le_refl _⟩
theorem lgetD_set {es : List G_latest_Entry} {k j : Int} {x : G_latest_Entry} (h0 : 0 <= k) (h1 : 0 <= j) (h : j ≠ k) : lgetD (es.set k.toNat x) j = lgetD es j := by
 unfold lgetD
 rw [List.getD_eq_getElem?_getD, List.getD_eq_getElem?_getD, List.getElem?_set_ne (by omega)]
theorem ltake_other {es : List G_latest_Entry} {k j epoch root : Int} (h1 : 0 <= j) (h : j ≠ k) : lgetD (ltake es k epoch root) j = lgetD es j := by
 unfold ltake
 split
 ·rename_i hc
  unfold lcanTake at hc
  simp only [Bool.and_eq_true, decide_eq_true_eq] at hc
  exact lgetD_set hc.1.1.1 h1 h
 ·rfl
theorem lban_other {es : List G_latest_Entry} {k j : Int} (h1 : 0 <= j) (h : j ≠ k) : lgetD (lban es k) j = lgetD es j := by
 unfold lban
 split
 ·rename_i hc
  unfold lcanBan at hc
  simp only [Bool.and_eq_true, decide_eq_true_eq] at hc
  exact lgetD_set hc.1.1 h1 h
 ·rfl
def tell1 (epoch head : Int) (vs : List G_latest_Entry) (k : Int) : List G_store_Change := if lcanTake vs k epoch then [⟨1, head, 0, k, (lget vs k).1, (lget vs k).2⟩] else []
def tell2 (vs : List G_latest_Entry) (k : Int) : List G_store_Change := if lcanBan vs k then [⟨2, 0, 0, k, (lget vs k).1, (lget vs k).2⟩] else []
theorem lget_congr {es us : List G_latest_Entry} {k : Int} (hl : es.length = us.length) (h : lgetD es k = lgetD us k) : lget es k = lget us k := by
 unfold lget; rw [h, hl]
theorem lcanTake_congr {es us : List G_latest_Entry} {k e : Int} (hl : es.length = us.length) (h : lgetD es k = lgetD us k) : lcanTake es k e = lcanTake us k e := by
 unfold lcanTake; rw [h, hl]
theorem lcanBan_congr {es us : List G_latest_Entry} {k : Int} (hl : es.length = us.length) (h : lgetD es k = lgetD us k) : lcanBan es k = lcanBan us k := by
 unfold lcanBan; rw [h, hl]
theorem takeAll_told {epoch head : Int} {vs : List G_latest_Entry} : ∀ {who : List Int} {us : List G_latest_Entry}, who.Pairwise (· < ·) -> (∀ k ∈ who, 0 <= k /\ lgetD us k = lgetD vs k) -> us.length = vs.length ->
  (takeAll epoch head who us).1 = who.flatMap (tell1 epoch head vs)
 | [], _, _, _, _ => rfl
 | k :: r, us, hp, hk, hl => by
  have hp' := List.pairwise_cons.1 hp
  have h1 := hk k (by simp)
  simp only [takeAll, List.flatMap_cons]
  rw [takeAll_told (vs := vs) hp'.2 (fun j hj => ⟨(hk j (by simp [hj])).1, by rw [ltake_other (hk j (by simp [hj])).1 (by have := hp'.1 j hj; omega)]; exact (hk j (by simp [hj])).2⟩) (by rw [ltake_length]; exact hl)]
  unfold tell1
  rw [lcanTake_congr hl h1.2, lget_congr hl h1.2]
theorem banAll_told {vs : List G_latest_Entry} : ∀ {who : List Int} {us : List G_latest_Entry}, who.Pairwise (· < ·) -> (∀ k ∈ who, 0 <= k /\ lgetD us k = lgetD vs k) -> us.length = vs.length ->
  (banAll who us).1 = who.flatMap (tell2 vs)
 | [], _, _, _, _ => rfl
 | k :: r, us, hp, hk, hl => by
  have hp' := List.pairwise_cons.1 hp
  have h1 := hk k (by simp)
  simp only [banAll, List.flatMap_cons]
  rw [banAll_told (vs := vs) hp'.2 (fun j hj => ⟨(hk j (by simp [hj])).1, by rw [lban_other (hk j (by simp [hj])).1 (by have := hp'.1 j hj; omega)]; exact (hk j (by simp [hj])).2⟩) (by rw [lban_length]; exact hl)]
  unfold tell2
  rw [lcanBan_congr hl h1.2, lget_congr hl h1.2]
end AStore
end Go.Sx
namespace Go.Sx
open Go Go.RowKit Go.Maps Go.Sort Go.Shelf Go.Proofs
set_option linter.unusedVariables false
set_option linter.unusedSimpArgs false
abbrev encU : Int -> Value := Value.int .u64
section
variable {α : Type} {T : Ty α} {F : Fence} {n : Nat} {P : Program} {ops : Array Oper} {rest : List Oper} {o : Oper} {a : Act} {Q : Exit -> Act -> World -> Prop} {w : World}
theorem ItAt.left {w : World} {it r : Nat} {rem : List (Int × α)} {cur : Option (Int × α)} (h : ItAt T w it (some r) rem cur) : w.rangeLeft r it = rem.length := by
 obtain ⟨ents, clock, seen, hit, hmap, _, he, _⟩ := h
 simp only [World.rangeLeft, hmap, hit, leftOf]
 have := congrArg List.length he
 simp only [List.length_map] at this
 rw [<- this, <- Array.length_toList, Array.toList_filter]
theorem ItAt.walks {w w' : World} {it r : Nat} {rem : List (Int × α)} {cur : Option (Int × α)} (h : ItAt T w it (some r) rem cur) (k : KeepsWalks w w') : ItAt T w' it (some r) rem cur := by
 obtain ⟨ents, clock, seen, hit, hmap, rest⟩ := h
 exact ⟨ents, clock, seen, k.same _ _ hit rfl, k.same _ _ hmap rfl, rest⟩
theorem ItAt.iter_walk {w : World} {it r : Nat} {rem : List (Int × α)} {cur : Option (Int × α)} (h : ItAt T w it (some r) rem cur) : ∃ o : Obj, w.heap[it]? = some o /\ o.isWalk = true := by
 obtain ⟨ents, clock, seen, hit, _⟩ := h
 exact ⟨_, hit, rfl⟩
theorem setB_grown (w : World) (r : Nat) (o : Obj) : w.grownBy (setB w r o) (some r) :=
 ⟨rfl, rfl, rfl, by simp [setB], fun k hk hne => by rw [setB_at, if_neg (fun e => hne (by rw [e.1]))]⟩
theorem drewB_grown {w w1 : World} (r : Nat) (o : Obj) (h : w1 = w \/ w1 = w.drew) : w.grownBy (setB w1 r o) (some r) := by
 rcases h with rfl | rfl
 ·exact setB_grown _ _ _
 ·have := setB_grown w.drew r o
  exact ⟨this.1, this.2, this.3, this.4, this.5⟩
theorem opW_run {P : Program} {N : Nat} {o : Oper} {f : Fr} {w : World} {K : QW} (h : OpW P N o f w K) : (∃ v w', (execOp (evF N f) o).run P w = .ok (.value v) w' /\ K v w') \/ (∃ w', (execOp (evF N f) o).run P w = .ok .skip w' /\ K undef w') \/
  ∃ g args w', (execOp (evF N f) o).run P w = .ok (.enter g args) w' /\ CallsR P g args K w' := by
 unfold OpW at h
 split at h
 ·rename_i v w' e; exact .inl ⟨v, w', e, h⟩
 ·rename_i w' e; exact .inr (.inl ⟨w', e, h⟩)
 ·rename_i g args w' e; exact .inr (.inr ⟨g, args, w', e, h⟩)
 ·exact h.elim
theorem li_range {t e : TypeId} (hg : o.guard = none) (m : Operand) (hop : o.op = .range t m) (ht : isMapU P t = some e) {r : Nat} {es : List (Int × α)} (hm : a.eval m = .map (some r)) (h : MapAt T w r es)
  (hK : ∀ w', ItAt T w' w.heap.size (some r) es none -> w.grownBy w' none -> w'.heap.size = w.heap.size + 1 -> wpListIn F n P ops Q rest (a.put o.dst (.pointer (some ⟨w.heap.size, 0, none⟩))) w') :
  wpListIn F n P ops Q (o :: rest) a w := by
 refine wpListIn_plain hg fun K' hK' => ?_
 have hrun : ∃ ob, (execOp a.eval o).run P w = .ok (.value (.pointer (some ⟨w.heap.size, 0, none⟩))) (w.alloc ob) /\ ItAt T (w.alloc ob) w.heap.size (some r) es none := by
  have hw := pw_range (P := P) (n := 0) (f := fun _ => undef) (w := w) (d := none) (ty := 0) (ps := "") (af := #[]) (g := none) (T := T) (t := t) (x := .const (.map (some r))) (m := some r) (es := es) (K := fun v w' => ∃ ob, v = .pointer (some ⟨w.heap.size, 0, none⟩) /\ w' = w.alloc ob /\ ItAt T w' w.heap.size (some r) es none)
   ht rfl h (fun it w' ob e1 e2 hi => ⟨ob, by rw [e1], e2, by rw [<- e1]; exact hi⟩)
  have he : ∀ q : Oper, q.op = .range t (.const (.map (some r))) -> (execOp (evF 0 fun _ => undef) q).run P w = (execOp a.eval o).run P w := by
   intro q hq
   simp only [execOp, hq, hop, hm, evF]
  rcases opW_run hw with ⟨v, w', e1, ob, rfl, rfl, hi⟩ | ⟨w', e1, ob, h1, _⟩ | ⟨g, args, w', e1, _⟩
  ·rw [he _ rfl] at e1; exact ⟨ob, e1, hi⟩
  ·exact absurd h1 (by simp [undef])
  ·exfalso
   simp only [execOp, evF, Instr.range] at e1
   obtain ⟨kt, hu, hk⟩ := isMapU_of ht
   obtain ⟨ents, clock, hw', _⟩ := h
   simp only [run_bind, run_underlying' hu, run_getMap hw', run_pure, run_new] at e1
   cases e1
 obtain ⟨ob, hrun, hi⟩ := hrun
 unfold Oper.wpIn
 refine ⟨?_, ?_⟩
 ·simp [Oper.about, hop]
 ·rw [Oper.semAt_plain F _ _ (by rw [hop]; intro c hc'; cases hc'), hrun]
  exact hK' _ _ (hK _ hi (World.grownBy_alloc w ob none) (by simp))
theorem li_next (hg : o.guard = none) (x : Operand) (hop : o.op = .next x false) {it r : Nat} {rem : List (Int × α)} {cur : Option (Int × α)} (hx : a.eval x = .pointer (some ⟨it, 0, none⟩)) (hi : ItAt T w it (some r) rem cur)
  (hend : rem = [] -> wpListIn F n P ops Q rest (a.put o.dst (.tuple #[.bool false])) w)
  (hgo : ∀ la p lb w', rem = la ++ p :: lb -> ItAt T w' it (some r) (la ++ lb) (some p) -> w.grownBy w' (some it) -> w'.heap.size = w.heap.size -> wpListIn F n P ops Q rest (a.put o.dst (.tuple #[.bool true, .int .u64 p.1, T.val p.2])) w') :
  wpListIn F n P ops Q (o :: rest) a w := by
 refine wpListIn_plain hg fun K' hK' => ?_
 have hw := pw_next (P := P) (n := 0) (f := fun _ => undef) (w := w) (d := none) (ty := o.type) (ps := "") (af := #[]) (g := none) (T := T) (x := .const (.pointer (some ⟨it, 0, none⟩))) (m := some r) (rem := rem) (cur := cur)
  (K := fun v w' => wpListIn F n P ops Q rest (a.put o.dst v) w' /\ v ≠ undef) rfl hi (fun e => ⟨hend e, by simp [undef]⟩)
  (fun la p lb w1 ob e1 e2 hi2 => ⟨hgo la p lb _ e1 hi2 (drewB_grown it ob e2) (by rcases e2 with rfl | rfl <;> simp [setB] <;> rfl), by simp [undef]⟩)
 have he : ∀ q : Oper, q.op = .next (.const (.pointer (some ⟨it, 0, none⟩))) false -> q.type = o.type -> (execOp (evF 0 fun _ => undef) q).run P w = (execOp a.eval o).run P w := by
  intro q hq hq2
  simp only [execOp, hq, hop, hx, evF, hq2]
 unfold Oper.wpIn
 refine ⟨by simp [Oper.about, hop], ?_⟩
 rw [Oper.semAt_plain F _ _ (by rw [hop]; intro c hc'; cases hc')]
 rcases opW_run hw with ⟨v, w', e1, h1⟩ | ⟨w', e1, h1⟩ | ⟨g, args, w', e1, _⟩
 ·rw [he ⟨none, .next (.const (.pointer (some ⟨it, 0, none⟩))) false, o.type, "", #[], none⟩ rfl rfl] at e1; rw [e1]; exact hK' _ _ h1.1
 ·exact absurd rfl h1.2
 ·exfalso
  simp only [execOp, evF] at e1
  have hne : ∀ (s : Sem Value), (do let v <- s; pure (Next.value v)).run P w ≠ .ok (.enter g args) w' := by
   intro s h
   rw [run_bind] at h
   cases hs : s.run P w with
   | ok v u => rw [hs] at h; simp only [run_pure] at h; cases h
   | halt x u => rw [hs] at h; cases h
  exact hne _ e1
end
structure LayU (P : Program) (ρ : Ren) : Prop where
 mixed : P.follows .mixedOrders = true
 f10 : Bears P (ρ.f 10) (SlBodyZ.n10 ρ)
 f11 : Bears P (ρ.f 11) (SlBodyZ.n11 ρ)
 t0 : P.underlying (ρ.t 0) = some (TypeDesc.tuple #[])
 a0 : ∀ w, (isAgg (ρ.t 0)).run P w = .ok false w
 z0 : ∀ w, (Go.sizeOf (ρ.t 0)).run P w = .ok 1 w
 v0 : ∀ w, (zeroValue (ρ.t 0)).run P w = .ok (Value.tuple #[]) w
 t4 : P.underlying (ρ.t 4) = some (TypeDesc.bool)
 a4 : ∀ w, (isAgg (ρ.t 4)).run P w = .ok false w
 z4 : ∀ w, (Go.sizeOf (ρ.t 4)).run P w = .ok 1 w
 v4 : ∀ w, (zeroValue (ρ.t 4)).run P w = .ok (Value.bool false) w
 t23 : P.underlying (ρ.t 23) = some (TypeDesc.map (ρ.t 26) (ρ.t 3))
 a23 : ∀ w, (isAgg (ρ.t 23)).run P w = .ok false w
 z23 : ∀ w, (Go.sizeOf (ρ.t 23)).run P w = .ok 1 w
 v23 : ∀ w, (zeroValue (ρ.t 23)).run P w = .ok (Value.map none) w
 t24 : P.underlying (ρ.t 24) = some (TypeDesc.slice (ρ.t 26))
 a24 : ∀ w, (isAgg (ρ.t 24)).run P w = .ok false w
 z24 : ∀ w, (Go.sizeOf (ρ.t 24)).run P w = .ok 1 w
 v24 : ∀ w, (zeroValue (ρ.t 24)).run P w = .ok (Value.slice none 0 0) w
 t26 : P.underlying (ρ.t 26) = some (TypeDesc.int IntKind.u64)
 a26 : ∀ w, (isAgg (ρ.t 26)).run P w = .ok false w
 z26 : ∀ w, (Go.sizeOf (ρ.t 26)).run P w = .ok 1 w
 v26 : ∀ w, (zeroValue (ρ.t 26)).run P w = .ok (Value.int IntKind.u64 0) w
 t28 : P.underlying (ρ.t 28) = some (TypeDesc.func #[ρ.t 33] #[] false)
 a28 : ∀ w, (isAgg (ρ.t 28)).run P w = .ok false w
 z28 : ∀ w, (Go.sizeOf (ρ.t 28)).run P w = .ok 1 w
 v28 : ∀ w, (zeroValue (ρ.t 28)).run P w = .ok (Value.nilFunc) w
 t33 : P.underlying (ρ.t 33) = some (TypeDesc.func #[ρ.t 26] #[ρ.t 4] false)
 a33 : ∀ w, (isAgg (ρ.t 33)).run P w = .ok false w
 z33 : ∀ w, (Go.sizeOf (ρ.t 33)).run P w = .ok 1 w
 v33 : ∀ w, (zeroValue (ρ.t 33)).run P w = .ok (Value.nilFunc) w
 i26 : (P.info? (ρ.t 26)).map (fun i => (i.zero, i.size, i.bytes)) = some (some (.int .u64 0), 1, 8)
 m23 : isMapU P (ρ.t 23) = some (ρ.t 3)
section
variable {P : Program} {ρ : Ren} {α : Type} {T : Ty α}
set_option maxRecDepth 100000 in
set_option maxHeartbeats 1000000 in
theorem keysU_in (L : LayU P ρ) (F : Fence) (n : Nat) (h10 : F.fn (ρ.f 10)) (hro : F.round = none) (hn : 1 <= n) (l Bm r : Nat) (es : List (Int × α)) (J : List Int -> World -> Prop)
  (hY : ∀ pre x W, J pre W -> pre.length < es.length -> YieldAt F (n - 1) P l #[encU x] W fun e W' => e = .returned (.bool true) /\ J (pre ++ [x]) W' /\ KeepsWalks W W')
  (W : World) (hJ : AbidesFrom W.heap.size J) (hm : W.cell? ⟨Bm, 0, none⟩ = some (.map (some r))) (hown : MapAt T W r es) (h0 : J [] W) :
  CallsIn F n P (ρ.f 10) #[.func (.yield l) #[] #[], .pointer (some ⟨Bm, 0, none⟩)] W fun e W' => (∃ v, e = .returned v) /\ ∃ ss : List Int, ss.Perm (es.map (·.1)) /\ J ss W' := by
 have mixed := L.mixed; have t0 := L.t0; have a0 := L.a0; have z0 := L.z0; have v0 := L.v0; have t4 := L.t4; have a4 := L.a4; have z4 := L.z4; have v4 := L.v4; have t23 := L.t23; have a23 := L.a23; have z23 := L.z23; have v23 := L.v23; have t26 := L.t26; have a26 := L.a26; have z26 := L.z26; have v26 := L.v26; have t33 := L.t33; have a33 := L.a33; have z33 := L.z33; have v33 := L.v33
 have u0 := run_underlying L.t0; have u4 := run_underlying L.t4; have u23 := run_underlying L.t23; have u26 := run_underlying L.t26; have u33 := run_underlying L.t33
 obtain ⟨_, _, FG⟩ := L.f10
 refine callsIn_of_wp FG rfl h10 ?_ hro
 simp only [SlBodyZ.n10_ntmps ρ, List.size_toArray, List.length_cons, List.length_nil, Nat.reduceAdd, Nat.reduceSub, Array.replicate_succ, Array.replicate_zero, List.push_toArray, List.append_toArray, List.nil_append, List.cons_append]
 gi_wp2_with (first
  | (gi_at_range; refine li_range (T := T) rfl _ rfl L.m23 rfl hown ?_; intro w0 hrg0 hg0 hs0)
  | gi_in)
 go_frame
 gi_loopw [3] (fun _ wr => ∃ (rem : List (Int × α)) (cur : Option (Int × α)) (ss : List Int), ItAt T wr W.heap.size (some r) rem cur /\ ss.length + rem.length = es.length /\ (ss ++ rem.map (·.1)).Perm (es.map (·.1)) /\ J ss wr)
  (fun _ wr => wr.rangeLeft r W.heap.size)
 case atStart =>
  exact ⟨_, _, [], hrg0, by simp, by simp, hJ [] W w0 none h0 hg0 (fun r e => by cases e)⟩
 case round =>
  obtain ⟨rem, cur, ss, hrg, hcs, hC, hJs⟩ := hrel
  gi_wp2_with (first
   | (gi_at_next; refine li_next (T := T) rfl _ rfl rfl hrg ?_ ?_)
   | gi_in)
  ·
   intro hc0
   subst hc0
   gi_wp2
   go_end0
   exact ⟨⟨_, rfl⟩, ss, by simpa using hC, hJs⟩
  ·
   intro la k x lb w2 hrem hrg2 hg2 hs2
   have hJ2 : J ss w2 := hJ ss wr w2 (some W.heap.size) hJs hg2 (fun r e => by cases e; exact ⟨Nat.le_refl _, hrg.iter_walk⟩)
   have hlen : rem.length = la.length + lb.length + 1 := by rw [hrem]; simp; omega
   obtain ⟨fn, tmps, assign, body, hy, hR⟩ := hY ss k w2 hJ2 (by omega)
   have hen : (Instr.entry (.pointer (some ⟨W.heap.size, 0, none⟩))).run P w2 = .ok (.tuple #[.int .u64 k, T.val x]) w2 := by
    have := pv_entry (P := P) (n := 0) (f := fun _ => undef) (w := w2) (d := none) (ty := 0) (ps := "") (af := #[]) (g := none) (T := T) (x := .const (.pointer (some ⟨W.heap.size, 0, none⟩))) rfl hrg2
    unfold OpV at this
    simp only [execOp, evF] at this
    rw [run_bind] at this
    cases hs : (Instr.entry (.pointer (some ⟨W.heap.size, 0, none⟩))).run P w2 with
    | ok v u => rw [hs] at this; simp only [run_pure] at this; cases this; rfl
    | halt x u => rw [hs] at this; cases this
   clear hs2
   gi_wp2
   refine hR.mono ?_
   rintro e W3 ⟨rfl, hJ3, hk3⟩
   gi_wp2
   have hrg3 := hrg2.walks hk3
   go_roundw
   case rel =>
    refine ⟨_, _, ss ++ [k], hrg3, by simp; omega, ?_, hJ3⟩
    refine List.Perm.trans ?_ hC
    rw [hrem]
    simp only [List.map_append, List.map_cons, List.append_assoc, List.singleton_append]
    refine List.Perm.append_left ss ?_
    exact (List.perm_middle (l₁ := la.map (·.1)) (l₂ := lb.map (·.1))).symm
   case measure => rw [hrg3.left, hrg.left, List.length_append]; omega
theorem keysU_gives (L : LayU P ρ) (F : Fence) (n : Nat) (h10 : F.fn (ρ.f 10)) (hro : F.round = none) (hn : 1 <= n) (Bm r : Nat) (es : List (Int × α)) (w : World) (hBm : Bm < w.heap.size)
  (hm : w.cell? ⟨Bm, 0, none⟩ = some (.map (some r))) (hown : MapAt T w r es) :
  SeqGives F n P (ρ.f 10) #[.pointer (some ⟨Bm, 0, none⟩)] encU (fun ss => ss.Perm (es.map (·.1))) es.length w := fun l J W hW hJ hY h0 => by
 have hown' : MapAt T W r es := by
  have hbl := hown.lt
  obtain ⟨ents, clock, hb, h⟩ := hown
  exact ⟨ents, clock, (hW.block r hbl).trans hb, h⟩
 exact keysU_in L F n h10 hro hn l Bm r es J hY W hJ ((hW.cell (p := ⟨Bm, 0, none⟩) hBm).trans hm) hown' h0
structure ApAtU (ρ : Ren) (w0 : World) (fn : FuncId) (sv : Value) (Bs l D : Nat) (ss : List Int) (W : World) : Prop where
 box : ∃ v, W.heap[Bs]? = some (.cells #[v] (ρ.t 24) (0, 0)) /\ W.ownsRow w0.heap.size (ρ.t 26) 1 v ss.length (ss.map encU) /\ (v = .slice none 0 0 ↔ ss = [])
 L : W.heap[l]? = some (.loop (AnyZI.apRec ρ fn sv Bs D .ready none))
 K : W.heap[D]? = some (.deferred (some []))
 below : Below w0.heap.size w0 W
theorem apU_abides (ρ : Ren) (w0 : World) (fn : FuncId) (sv : Value) (Bs l D B : Nat) (hB : w0.heap.size <= B) : AbidesFrom B (ApAtU ρ w0 fn sv Bs l D) := fun s W W' row h hg hrow => by
 have hrow' : ∀ r, row = some r -> ∃ o : Obj, W.heap[r]? = some o /\ o.isWalk = true := fun r e => (hrow r e).2
 obtain ⟨v, hv, hr, hn⟩ := h.box
 exact ⟨⟨v, (grownBy_keeps hg hrow' hv rfl).trans hv, ownsRow_abides_a hr hg hrow', hn⟩, (grownBy_keeps hg hrow' h.L rfl).trans h.L, (grownBy_keeps hg hrow' h.K rfl).trans h.K,
  h.below.grown hg h.below.size (fun k e => Nat.le_trans hB (hrow k e).1)⟩
set_option maxRecDepth 100000 in
set_option maxHeartbeats 2000000 in
theorem apYieldU (L : LayU P ρ) (F : Fence) (m : Nat) (w0 : World) (fn : FuncId) (hfn : F.fn fn) (sv : Value) (Bs l D : Nat) (hBl : Bs ≠ l) (hDl : D ≠ l) (hDB : D ≠ Bs) (h0B : w0.heap.size <= Bs) (h0l : w0.heap.size <= l)
    (N : Nat) (hN : N <= maxLen) (hNb : N * 8 <= 140737488355328) (ss : List Int) (x : Int) (W : World) (h : ApAtU ρ w0 fn sv Bs l D ss W) (hlen : ss.length < N) :
    YieldAt F m P l #[encU x] W fun e W' => e = .returned (.bool true) /\ ApAtU ρ w0 fn sv Bs l D (ss ++ [x]) W' /\ KeepsWalks W W' := by
  have mixed := L.mixed; have t0 := L.t0; have a0 := L.a0; have z0 := L.z0; have v0 := L.v0; have t24 := L.t24; have a24 := L.a24; have z24 := L.z24; have v24 := L.v24; have t26 := L.t26; have a26 := L.a26; have z26 := L.z26; have v26 := L.v26; have t28 := L.t28; have a28 := L.a28; have z28 := L.z28; have v28 := L.v28
  have hne : ρ.t 24 ≠ ρ.t 26 := fun e => by have h := L.t24; rw [e, L.t26] at h; cases h
  have u0 := run_underlying L.t0; have u24 := run_underlying L.t24; have u26 := run_underlying L.t26; have u28 := run_underlying L.t28
  obtain ⟨i0, hi, hz0, hz1, hz2⟩ := info_parts L.i26
  obtain ⟨v, hv, hrow, _⟩ := h.box
  refine ⟨fn, #[.slice none 0 0, sv, .pointer (some ⟨Bs, 0, none⟩), undef, .slice none 0 0, undef, sv, encU x, undef, undef, undef, undef, undef], AnyZI.apAssign ρ, AnyZI.apBody ρ, by simpa [AnyZI.apRec] using run_yield (P := P) (args := #[encU x]) h.L rfl, roundIn_of_wpIn hfn ?_⟩
  have hl : l < W.heap.size := (Array.getElem?_eq_some_iff.1 h.L).1
  have hbr := run_beginRound (P := P) h.L rfl
  obtain ⟨W2, hW2⟩ : ∃ W2, W.putObj l (.loop { AnyZI.apRec ρ fn sv Bs D .ready none with state := .busy }) = W2 := ⟨_, rfl⟩
  rw [hW2] at hbr
  have hg2 : W.grownBy W2 (some l) := by rw [<- hW2]; exact grownBy_putObj_a _ _ _
  have hk2 : KeepsWalks W W2 := by rw [<- hW2]; exact KeepsWalks.putObj _ h.L rfl
  have hv2 : W2.heap[Bs]? = some (.cells #[v] (ρ.t 24) (0, 0)) := by rw [<- hW2]; exact (World.putObj_heap_other hBl).trans hv
  have hK2 : W2.heap[D]? = some (.deferred (some [])) := by rw [<- hW2]; exact (World.putObj_heap_other hDl).trans h.K
  have hL2 : W2.heap[l]? = some (.loop { AnyZI.apRec ρ fn sv Bs D .ready none with state := .busy }) := by rw [<- hW2]; exact World.putObj_heap_same hl
  have hrow2 : W2.ownsRow w0.heap.size (ρ.t 26) 1 v ss.length (ss.map encU) := hrow.kept hg2 (ownsRow_ne_a hrow h.L (fun cur e => by first | cases e | exact hne (Obj.cells.inj e).2.1))
  have hb2 : Below w0.heap.size w0 W2 := h.below.grown hg2 h.below.size (fun k e => by cases e; exact h0l)
  obtain ⟨hc2, hf2⟩ := cell_of_box_a hv2
  have hBlt : Bs < W2.heap.size := (Array.getElem?_eq_some_iff.1 hv2).1
  have hl2 : l < W2.heap.size := (Array.getElem?_eq_some_iff.1 hL2).1
  have hDlt : D < W2.heap.size := (Array.getElem?_eq_some_iff.1 hK2).1
  have ne_of : ∀ {j : Nat} {o : Obj}, W2.heap[j]? = some o -> (∀ cur, o ≠ .cells cur (ρ.t 26) (0, 0)) -> some j ≠ v.ownBlock := fun hj hno => by
    rcases ownsRow_ne_a hrow2 hj hno with e | e
    · rw [e]; simp
    · exact fun e' => e e'.symm
  clear hW2
  unfold AnyZI.apAssign
  gi_wp2_with gi_round_op_a
  unfold AnyZI.apBody
  gi_wp2_with (first
    | (gi_at_builtin; refine wpListIn_append_own _ rfl _ _ (ρ.t 24) rfl w0.heap.size (ρ.t 26) i0 (.int .u64 0) 1 8 L.t24 hi hz0 hz1 hz2 rfl (by decide) _ _ _ rfl (hrow2.alloc _) ⟨W2.heap.size, 0, none⟩ 1 1 [encU x] rfl rfl (cell_one_new _ _ _) (by simp [Value.oneCell', encU]) (by omega) (by omega) (by have := hb2.size; simp; omega) ?_; intro v' w3 hown' hg3 hnil3
       have hv3 : w3.heap[Bs]? = some (.cells #[v] (ρ.t 24) (0, 0)) := (hg3.block Bs (by simp; omega) (ne_of hv2 (fun cur e => by first | cases e | exact hne (Obj.cells.inj e).2.1))).trans ((Below.heap_alloc _ _ Bs hBlt).trans hv2)
       obtain ⟨hc3, hf3⟩ := cell_of_box_a hv3
       obtain ⟨g', cap', cur', rfl, hbase', hgb', hr1, hr2, hr3, hr4⟩ : ∃ g' cap' cur', v' = .slice (some ⟨g', 0, none⟩) (ss.length + 1) cap' /\ w0.heap.size <= g' /\ w3.heap[g']? = some (.cells cur' (ρ.t 26) (0, 0)) /\ ss.length + 1 <= cap' /\ cap' <= maxLen /\ cur'.size = cap' * 1 /\ cur'.toList.take ((ss.length + 1) * 1) = ss.map encU ++ [encU x] := by
         rcases hown'.2 with ⟨_, h0⟩ | h'
         · exact absurd h0 (by omega)
         · exact h'
       go_frame)
    | gi_round_op_a)
  have hg3' : (W2.alloc (.cells #[encU x] (ρ.t 26))).grownBy w3 v.ownBlock := hg3
  have hL3 : w3.heap[l]? = some (.loop { AnyZI.apRec ρ fn sv Bs D .ready none with state := .busy }) := (hg3'.block l (by simp; omega) (ne_of hL2 (fun cur e => by first | cases e | exact hne (Obj.cells.inj e).2.1))).trans ((Below.heap_alloc _ _ l hl2).trans hL2)
  have hK3 : w3.heap[D]? = some (.deferred (some [])) := (hg3'.block D (by simp; omega) (ne_of hK2 (fun cur e => by first | cases e | exact hne (Obj.cells.inj e).2.1))).trans ((Below.heap_alloc _ _ D hDlt).trans hK2)
  obtain ⟨w4, hw4⟩ : ∃ w4, w3.setCell ⟨Bs, 0, none⟩ (.slice (some ⟨g', 0, none⟩) (ss.length + 1) cap') = w4 := ⟨_, rfl⟩
  rw [hw4]
  have hg4 : w3.grownBy w4 (some Bs) := by rw [<- hw4]; exact grownBy_setCell0_a _ _ _
  have hv4 : w4.heap[Bs]? = some (.cells #[.slice (some ⟨g', 0, none⟩) (ss.length + 1) cap'] (ρ.t 24) (0, 0)) := by rw [<- hw4]; exact heap_setCell_box_a _ hv3
  have hL4 : w4.heap[l]? = some (.loop { AnyZI.apRec ρ fn sv Bs D .ready none with state := .busy }) := (hg4.block l (Array.getElem?_eq_some_iff.1 hL3).1 (fun e => hBl (by cases e; rfl))).trans hL3
  have hK4 : w4.heap[D]? = some (.deferred (some [])) := (hg4.block D (Array.getElem?_eq_some_iff.1 hK3).1 (fun e => hDB (by cases e; rfl))).trans hK3
  have hrow4 := hown'.kept hg4 (ownsRow_ne_a hown' hv3 (fun cur e => by first | cases e | exact hne (Obj.cells.inj e).2.1))
  have hl4 : l < w4.heap.size := (Array.getElem?_eq_some_iff.1 hL4).1
  have hb3 : Below w0.heap.size w0 w3 := (hb2.alloc hb2.size _).grown hg3' (by have := hb2.size; simp; omega) (fun k e => (hrow2.lt k e).1)
  have hb4 : Below w0.heap.size w0 w4 := hb3.grown hg4 hb3.size (fun k e => by cases e; exact h0B)
  have hk4 : KeepsWalks W w4 := ((hk2.trans (KeepsWalks.alloc _ _)).trans (KeepsWalks.of_grownBy hg3' (ownsRow_not_walk_a (hrow2.alloc _)))).trans (by rw [<- hw4]; exact KeepsWalks.setCell _ _ _)
  clear hw4
  refine ⟨_, _, run_endRound none hL4, rfl, ⟨⟨_, (World.putObj_heap_other hBl).trans hv4, ?_, by simp⟩, World.putObj_heap_same hl4, (World.putObj_heap_other hDl).trans hK4, hb4.grown (grownBy_putObj_a _ _ _) hb4.size (fun k e => by cases e; exact h0l)⟩, hk4.trans (KeepsWalks.putObj _ hL4 rfl)⟩
  have := hrow4.kept (grownBy_putObj_a w4 l (.loop { { AnyZI.apRec ρ fn sv Bs D .ready none with state := .busy } with state := if (none : Option Code).isNone then .ready else .done, pending := none })) (ownsRow_ne_a hrow4 hL4 (fun cur e => by first | cases e | exact hne (Obj.cells.inj e).2.1))
  simpa using this
set_option maxRecDepth 100000 in
set_option maxHeartbeats 2000000 in
theorem appendSeqU_in (L : LayU P ρ) (F : Fence) (n : Nat) (h11 : F.fn (ρ.f 11)) (hro : F.round = none) (hn : 2 <= n) (g : Nat) (lb : Array Value) (hFg : F.fn g) (eg : ∀ args w, (callFunc g args).run P w = .ok (.enter g args) w)
    (S : List Int -> Prop) (N : Nat) (hN : N <= maxLen) (hNb : N * 8 <= 140737488355328) (w : World) (hseq : SeqGives F (n - 1) P g lb encU S N w) :
    CallsIn F n P (ρ.f 11) #[.slice none 0 0, .func (.func g) #[] lb] w fun e w' => ∃ (v : Value) (ss : List Int), e = .returned v /\ S ss /\ w'.ownsRow w.heap.size (ρ.t 26) 1 v ss.length (ss.map encU) /\ (v = .slice none 0 0 ↔ ss = []) /\ Below w.heap.size w w' := by
  have h1 : 1 <= n := by omega
  have mixed := L.mixed; have t0 := L.t0; have a0 := L.a0; have z0 := L.z0; have v0 := L.v0; have t24 := L.t24; have a24 := L.a24; have z24 := L.z24; have v24 := L.v24; have t26 := L.t26; have a26 := L.a26; have z26 := L.z26; have v26 := L.v26; have t28 := L.t28; have a28 := L.a28; have z28 := L.z28; have v28 := L.v28
  have hne : ρ.t 24 ≠ ρ.t 26 := fun e => by have h := L.t24; rw [e, L.t26] at h; cases h
  have u0 := run_underlying L.t0; have u24 := run_underlying L.t24; have u26 := run_underlying L.t26; have u28 := run_underlying L.t28
  obtain ⟨_, _, FG⟩ := L.f11
  refine callsIn_of_wp_marks FG rfl h11 ?_ hro
  simp only [SlBodyZ.n11_ntmps ρ, List.size_toArray, List.length_cons, List.length_nil, Nat.reduceAdd, Nat.reduceSub, Array.replicate_succ, Array.replicate_zero, List.push_toArray, List.append_toArray, List.nil_append, List.cons_append]
  gi_wp2
  refine wpIn_rangeFunc ?_
  intro fn hfn
  rw [hro]
  obtain ⟨W0, hW0⟩ : ∃ W0, w.alloc (.cells #[.slice none 0 0] (ρ.t 24)) = W0 := ⟨_, rfl⟩
  have hs0 : W0.heap.size = w.heap.size + 1 := by rw [<- hW0]; simp
  have hv0 : W0.heap[w.heap.size]? = some (.cells #[.slice none 0 0] (ρ.t 24) (0, 0)) := by rw [<- hW0]; exact World.alloc_heap_new w _
  have hb0 : Below w.heap.size w W0 := by rw [<- hW0]; exact (Below.refl _ w).alloc (Nat.le_refl _) _
  rw [hW0]
  obtain ⟨W1, hW1⟩ : ∃ W1, (W0.alloc (.deferred (some []))).alloc (.loop (AnyZI.apRec ρ fn (.func (.func g) #[] lb) w.heap.size W0.heap.size .ready none)) = W1 := ⟨_, rfl⟩
  have hold : ∀ k, k < W0.heap.size -> W1.heap[k]? = W0.heap[k]? := fun k hk => by
    rw [<- hW1]; exact (Below.heap_alloc _ _ k (by simp; omega)).trans (Below.heap_alloc _ _ k hk)
  have hb1 : Below w.heap.size w W1 := by rw [<- hW1]; exact (hb0.alloc hb0.size _).alloc (by have := hb0.size; simp; omega) _
  have hs1 : W1.heap.size = W0.heap.size + 2 := by rw [<- hW1]; simp
  have hM : ApAtU ρ w fn (.func (.func g) #[] lb) w.heap.size (W0.heap.size + 1) W0.heap.size [] W1 :=
    ⟨⟨_, (hold w.heap.size (by omega)).trans hv0, ⟨rfl, .inl ⟨rfl, rfl⟩⟩, by simp⟩,
     by rw [<- hW1]; have := World.alloc_heap_new (W0.alloc (.deferred (some []))) (.loop (AnyZI.apRec ρ fn (.func (.func g) #[] lb) w.heap.size W0.heap.size .ready none)); rwa [World.size_alloc] at this,
     by rw [<- hW1]; exact (Below.heap_alloc _ _ _ (by simp)).trans (World.alloc_heap_new W0 _), hb1⟩
  refine ⟨W0.heap.size + 1, [{ target := .collected W0.heap.size, args := #[] }], W1, { target := .fn (.func g) lb, args := #[.func (.yield (W0.heap.size + 1)) #[] #[]] }, W1, g,
    #[.func (.yield (W0.heap.size + 1)) #[] #[]] ++ lb, W1, ?_, ?_, ?_, ?_, fun _ => h1, ?_⟩
  · rw [<- hW1]; exact run_enterLoop_outer _ _ _ _ _
  · simp [resolve, go_sem]
  · intro f' hf'; simp [Target.leads] at hf'; subst hf'; exact hFg
  · simp [invoke, go_sem, eg]
  · refine (hseq (W0.heap.size + 1) (ApAtU ρ w fn (.func (.func g) #[] lb) w.heap.size (W0.heap.size + 1) W0.heap.size) W1 hb1 (apU_abides ρ _ _ _ _ _ _ _ hb1.size)
      (fun pre x W hJ hl => apYieldU { L with } F (n - 1 - 1) w fn hfn _ w.heap.size (W0.heap.size + 1) W0.heap.size (by omega) (by omega) (by omega) (Nat.le_refl _) (by omega) N hN hNb pre x W hJ hl) hM).mono ?_
    rintro e W2 ⟨⟨v0, rfl⟩, ss, hS, h2⟩
    obtain ⟨v, hv, hrow, hnil⟩ := h2.box
    have hend := run_endLoop (P := P) h2.L (by simp [AnyZI.apRec])
    obtain ⟨W3, hW3⟩ : ∃ W3, W2.putObj (W0.heap.size + 1) (.loop { AnyZI.apRec ρ fn (.func (.func g) #[] lb) w.heap.size W0.heap.size .ready none with state := .exhausted }) = W3 := ⟨_, rfl⟩
    rw [hW3] at hend
    have hg3 : W2.grownBy W3 (some (W0.heap.size + 1)) := by rw [<- hW3]; exact grownBy_putObj_a _ _ _
    have hv3 : W3.heap[w.heap.size]? = some (.cells #[v] (ρ.t 24) (0, 0)) := by rw [<- hW3]; exact (World.putObj_heap_other (by omega)).trans hv
    have hK3 : W3.heap[W0.heap.size]? = some (.deferred (some [])) := by rw [<- hW3]; exact (World.putObj_heap_other (by omega)).trans h2.K
    have hrow3 := hrow.kept hg3 (ownsRow_ne_a hrow h2.L (fun cur e => by first | cases e | exact hne (Obj.cells.inj e).2.1))
    have hb3 : Below w.heap.size w W3 := h2.below.grown hg3 h2.below.size (fun k e => by cases e; omega)
    obtain ⟨hc3, hf3⟩ := cell_of_box_a hv3
    clear hW3
    refine ⟨none, W3, hend, ?_⟩
    gi_wp2
    rw [<- hs0]
    refine ⟨by simp, .inl ⟨_, _, rfl, run_takeDeferred hK3, ?_⟩⟩
    exact ⟨_, results_tmp rfl _ _ _, v, ss, rfl, hS, hrow3.kept (grownBy_putObj_a _ _ _) (ownsRow_ne_a hrow3 hK3 (fun cur e => by first | cases e | exact hne (Obj.cells.inj e).2.1)), hnil, hb3.grown (grownBy_putObj_a _ _ _) hb3.size (fun k e => by cases e; omega)⟩
end
end Go.Sx
namespace Go.Proofs.Ytdefmgkicdhmkaa
open Go Go.Sx Go.Shelf
def rhoK : Ren := ⟨fun k => if k = 10 then 89 else if k = 11 then 91 else 0, fun k => if k = 0 then 0 else if k = 3 then 109 else if k = 4 then 4 else if k = 23 then 111 else if k = 24 then 24 else if k = 26 then 36 else if k = 28 then 152 else if k = 33 then 70 else 0, fun x => x⟩
theorem layU : LayU PP rhoK where
 mixed := mixed
 f10 := ⟨_, by kernel_rfl, Try.func89⟩
 f11 := ⟨_, by kernel_rfl, Try.func91⟩
 t0 := Try.underlying0
 a0 := Try.isAgg0
 z0 := Try.sizeOf0
 v0 := Try.zeroValue0
 t4 := Try.underlying4
 a4 := Try.isAgg4
 z4 := Try.sizeOf4
 v4 := Try.zeroValue4
 t23 := Try.underlying111
 a23 := Try.isAgg111
 z23 := Try.sizeOf111
 v23 := Try.zeroValue111
 t24 := Try.underlying24
 a24 := Try.isAgg24
 z24 := Try.sizeOf24
 v24 := Try.zeroValue24
 t26 := Try.underlying36
 a26 := Try.isAgg36
 z26 := Try.sizeOf36
 v26 := Try.zeroValue36
 t28 := Try.underlying152
 a28 := Try.isAgg152
 z28 := Try.sizeOf152
 v28 := Try.zeroValue152
 t33 := Try.underlying70
 a33 := Try.isAgg70
 z33 := Try.sizeOf70
 v33 := Try.zeroValue70
 i26 := by kernel_rfl
 m23 := by kernel_rfl
abbrev n_keysIter : Nat := 89
theorem enters_keysIter : ∀ args w, (callFunc n_keysIter args).run PP w = .ok (.enter n_keysIter args) w := enters_of Try.func89 (by kernel_rfl) rfl
end Go.Proofs.Ytdefmgkicdhmkaa
namespace Go.Proofs.Ytdefmgkicdhmkaa
open Go Go.Sx
set_option linter.unusedVariables false
def IsChain (g : Fv) (at_ : Int -> Int) (w : World) : Prop :=
 ∀ w', Gr w w' -> ∀ (s : Int) (Q : QW), (∀ w'', Gr w' w'' -> Q (.int .u64 (at_ s)) w'') ->
  ∃ (k : Nat) (fi ca : List Value), g.v = .func (.func k) fi.toArray ca.toArray /\ CallOk PP k /\ CallsR PP k (fi ++ ([.int .i64 s] : List Value) ++ ca).toArray Q w'
theorem IsChain.gr {g : Fv} {at_ : Int -> Int} {w w' : World} (h : IsChain g at_ w) (k : Gr w w') : IsChain g at_ w' := fun w'' g2 => h w'' (k.trans g2)
structure LedIs (D : Nat -> Prop) (w : World) (g : G_ledger_State) (l : ALed) : Prop where
 just : g.Justify = l.just
 epoch : g.Epoch = l.epoch
 before : SlIs tBool D w g.Before l.before
 now : SlIs tBool D w g.Now l.now
theorem LedIs.keeps {D S : Nat -> Prop} {w w' : World} {g : G_ledger_State} {l : ALed} (h : LedIs D w g l) (k : Keeps S w w') (hs : ∀ b, D b -> ¬ S b) : LedIs D w' g l :=
 { h with before := h.before.keeps k hs, now := h.now.keeps k hs }
theorem LedIs.gr {D : Nat -> Prop} {w w' : World} {g : G_ledger_State} {l : ALed} (h : LedIs D w g l) (k : Gr w w') : LedIs D w' g l := h.keeps k fun _ _ f => f
theorem LedIs.mono {D D' : Nat -> Prop} {w : World} {g : G_ledger_State} {l : ALed} (h : LedIs D w g l) (hd : ∀ b, D b -> D' b) : LedIs D' w g l :=
 { h with before := h.before.mono hd, now := h.now.mono hd }
theorem max0 (e : Int) : (if e > 0 then e else 0) = max 0 e := by split <;> omega
theorem epochStart_i64 {e slots : Int} (h1 : e <= 1099511627776) (hs : 1 <= slots /\ slots <= 64) : I64 (epochStart e slots) := by
 unfold epochStart I64
 have h0 : (0 : Int) <= max 0 e := by omega
 have h2 : max 0 e <= 1099511627776 := by omega
 rw [show max 1 slots = slots by omega]
 have h3 : max 0 e * slots <= 1099511627776 * 64 := Int.mul_le_mul h2 hs.2 (by omega) (by omega)
 have h4 : 0 <= max 0 e * slots := Int.mul_nonneg h0 (by omega)
 omega
theorem c_ledger_point {D : Nat -> Prop} {gc : G_api_Config} {c : ACfg} {e : Int} {g : Fv} {at_ : Int -> Int} {Q : QW} {w : World} (hc : CfgIs D w gc c) (he : I64 (epochStart e c.slots)) (hg : IsChain g at_ w)
  (h : ∀ w', Gr w w' -> Q (t_api_Point.val (pointOf c e at_)) w') : CallsR PP n_f40 #[t_api_Config.val gc, .int .i64 e, g.v] Q w := by
 refine so_f40 _ _ ?_
 unfold sh_f40
 refine al_i fun b1 w1 e1 g1 c1 _ => al_i fun b2 w2 e2 g2 c2 s2 => ?_
 replace c1 := c1.gr g2
 refine ld_i (x := gc.Slots) (c1.sub 1 1) ?_
 rw [hc.slots]
 refine c_epoch_Start he ⟨_, rfl, ?_⟩
 refine hg w2 (g1.trans g2) _ _ fun w3 g3 => ⟨_, rfl, ?_⟩
 refine st_i (s2.keeps g3 fun f => f) fun w4 e4 k4 c4 => ld_i c4 ?_
 rw [max0]
 refine h w4 (Gr.local (g1.trans (g2.trans g3)) k4 fun j ej => ?_)
 subst ej
 have := g1.size
 omega
theorem filterMap_congr' {α β : Type} {f g : α -> Option β} : ∀ {l : List α}, (∀ x ∈ l, f x = g x) -> l.filterMap f = l.filterMap g
 | [], _ => rfl
 | x :: r, h => by rw [List.filterMap_cons, List.filterMap_cons, h x (by simp), filterMap_congr' fun y hy => h y (List.mem_cons_of_mem _ hy)]
theorem whoOf_aux : ∀ (bs : List Bool) (i : Nat), i <= bs.length -> whoOf (bs.take i) = ((List.range i).filterMap fun k => if bs.getD k false then some (k : Int) else none)
 | bs, i, h => by
  unfold whoOf
  rw [List.length_take, Nat.min_eq_left h]
  refine filterMap_congr' fun k hk => ?_
  have := List.mem_range.1 hk
  rw [List.getD_eq_getElem?_getD, List.getD_eq_getElem?_getD, List.getElem?_take_of_lt this]
theorem whoOf_succ {bs : List Bool} {i : Nat} (h : i < bs.length) : whoOf (bs.take (i + 1)) = whoOf (bs.take i) ++ (if bs[i] then [(i : Int)] else []) := by
 rw [whoOf_aux bs (i + 1) h, whoOf_aux bs i (by omega), List.range_succ, List.filterMap_append]
 congr 1
 rw [List.filterMap_cons, List.getD_eq_getElem?_getD, List.getElem?_eq_getElem h]
 cases bs[i] <;> rfl
theorem whoOf_length (bs : List Bool) : (whoOf bs).length <= bs.length := by
 unfold whoOf
 refine Nat.le_trans (List.length_filterMap_le _ _) ?_
 rw [List.length_range]; exact Nat.le_refl _
theorem c_ledger_who {D : Nat -> Prop} {s : Sl} {bs : List Bool} {Q : QW} {w : World} (hs : SlIs tBool D w s bs) (hl : bs.length <= 1000000)
  (h : ∀ s' w', Gr w w' -> SlIs tI64 (w.heap.size <= ·) w' s' (whoOf bs) -> Q (.slice s'.a s'.len s'.cap) w') : CallsR PP n_f46 #[.slice s.a s.len s.cap] Q w := by
 refine so_f46 _ _ ?_
 unfold sh_f46
 refine loop2 (sh_f46_b1 s Q) (fun m o i w' => 0 <= i /\ i.toNat <= bs.length /\ m = bs.length - i.toNat /\ Gr w w' /\ OwnS tI64 1 w.heap.size w' o (whoOf (bs.take i.toNat)))
  ⟨_, by omega, by simp, rfl, Gr.refl _, by simpa [whoOf] using OwnS.nil⟩ ?_
 rintro m o i w1 nxt ⟨h0, hi, rfl, g1, ho⟩ hn
 unfold sh_f46_b1
 rw [hs.1]
 have hsz := g1.size
 refine br_i (fun q => ?_) (fun q => ?_)
 ·have q := of_decide_eq_true q
  have hi' : i.toNat < bs.length := by omega
  have hw := whoOf_succ hi'
  refine (hs.gr g1).ixs 1 (fun _ => rfl) h0 hi' fun b o' _ hc => ld_i (x := bs[i.toNat]) hc ?_
  have et : (i + 1).toNat = i.toNat + 1 := by omega
  have next : ∀ s' w', Gr w w' -> OwnS tI64 1 w.heap.size w' s' (whoOf (bs.take (i.toNat + 1))) -> sh_f46_j2 i nxt s' w' := by
   intro s' w' g' ho'
   unfold sh_f46_j2
   rw [wrap_i64 (n := i + 1) (by omega) (by omega)]
   exact hn _ _ _ _ (by omega) ⟨by omega, by omega, rfl, g', by rw [et]; exact ho'⟩
  rw [hw] at next
  have hol := whoOf_length (bs.take i.toNat)
  rw [List.length_take] at hol
  refine br_i (fun q1 => ?_) (fun q1 => ?_)
  ·rw [if_pos q1] at next
   refine alr_i fun b2 w2 e2 g2 c2 s2 => ?_
   have hl2 : SlIs tI64 (fun _ => True) w2 ⟨some ⟨b2, 0, none⟩, 1, 1⟩ [i] := ⟨rfl, Nat.le_refl _, .inr ⟨b2, 0, rfl, trivial, by simpa using c2⟩⟩
   have h2 := g2.size
   refine (ho.gr g2).app (fun _ => rfl) (fun y v hv => by simp at hv; subst hv; rfl) hl2 (by omega) (by simp only [List.length_singleton]; omega) fun s' w3 k3 ho3 => ?_
   rw [show ((i.toNat : Nat) : Int) = i by omega] at next
   exact next s' w3 (Gr.local (g1.trans g2) k3 fun j e => e.1) ho3
  ·rw [if_neg (by rw [q1]; simp), List.append_nil] at next
   exact next o w1 g1 ho
 ·have q := of_decide_eq_false q
  have : i.toNat = bs.length := by omega
  rw [this, List.take_length] at ho
  unfold sh_f46_j3
  exact h o w1 g1 ho.is
theorem c_justify_Next {s : G_justify_State} {e : Int} {bf nw : Bool} {p q : G_api_Point} {Q : QW} {w : World} (hs : JPts (fun p => 0 <= p.Epoch /\ p.Epoch <= 1099511627776) s)
  (h : ∀ w', Gr w w' -> Q (t_justify_State.val (jNext s e bf nw p q)) w') : CallsR PP n_f47 #[t_justify_State.val s, .int .i64 e, .bool bf, .bool nw, t_api_Point.val p, t_api_Point.val q] Q w := by
 refine so_f47 _ _ ?_
 unfold sh_f47
 refine al_i fun b1 w1 e1 g1 c1 _ => al_i fun b2 w2 e2 g2 c2 _ => al_i fun b3 w3 e3 g3 c3 _ => al_i fun b4 w4 e4 g4 c4 s4 => dw_i fun w5 e5 g5 => ?_
 have g05 := g1.trans (g2.trans (g3.trans (g4.trans g5)))
 replace c1 := c1.gr (g2.trans (g3.trans (g4.trans g5)))
 replace c2 := c2.gr (g3.trans (g4.trans g5))
 replace c3 := c3.gr (g4.trans g5)
 replace s4 := s4.keeps g5 fun f => f
 have z1 := g1.size; have z2 := g2.size; have z3 := g3.size; have z4 := g4.size; have z5 := g5.size
 have l4 : b4 < w5.heap.size := by
  obtain ⟨⟨v, hv⟩, _⟩ := s4
  exact cell_lt hv
 have hb4 : w.heap.size <= b4 := by omega
 clear e1 e2 e3 e4 e5 g1 g2 g3 g4 g5 c4
 have end8 : ∀ w6 b11 r, Gr w w6 -> CellsAt w6 b11 0 (t_justify_State.enc r) -> CanSt w6 b4 0 10 -> r = jNext s e bf nw p q -> sh_f47_j8 Q b4 b11 w6 := by
  rintro w6 b11 r g6 c6 s6 rfl
  unfold sh_f47_j8
  refine ld_i c6 (st_i s6 fun w7 e7 k7 c7 => ld_i c7 (h w7 (Gr.local g6 k7 fun j ej => ?_)))
  subst ej; exact hb4
 have fin : ∀ w6 b11 (r : G_justify_State) (x : G_api_Point), Gr w w6 -> w.heap.size <= b11 -> b11 ≠ b4 -> CellsAt w6 b11 0 (t_justify_State.enc r) -> CanSt w6 b11 0 10 -> CanSt w6 b4 0 10 ->
   ({ r with Final := x } : G_justify_State) = jNext s e bf nw p q -> st t_api_Point w6 b11 8 x fun w7 => sh_f47_j8 Q b4 b11 w7 := by
  intro w6 b11 r x g6 hb11 hne c6 s11 s6 hr
  refine st_i (s11.sub 8 2 (by omega)) fun w7 e7 k7 c7 => ?_
  refine end8 w7 b11 { r with Final := x } (Gr.local g6 k7 fun j ej => by subst ej; exact hb11) ?_ (s6.keeps k7 hne.symm) hr
  have := CellsAt.put_other (us := [.int .i64 x.Epoch, .int .u64 x.Root]) (p := 8) (vs := [.bool r.Bits.e0, .bool r.Bits.e1, .bool r.Bits.e2, .bool r.Bits.e3, .int .i64 r.Previous.Epoch, .int .u64 r.Previous.Root, .int .i64 r.Current.Epoch, .int .u64 r.Current.Root]) (o := 0) (b := b11) (w := w6) (.inl (by simp)) (c6.sub 0 8)
  rw [show putL w6 b11 8 [.int .i64 x.Epoch, .int .u64 x.Root] = w7 from e7.symm] at this
  exact (CellsAt.append (vs := [.bool r.Bits.e0, .bool r.Bits.e1, .bool r.Bits.e2, .bool r.Bits.e3, .int .i64 r.Previous.Epoch, .int .u64 r.Previous.Root, .int .i64 r.Current.Epoch, .int .u64 r.Current.Root]) (us := [.int .i64 x.Epoch, .int .u64 x.Root])).2 ⟨this, c7⟩
 have main : ∀ w6 b9 o1 b10 o2, Gr w5 w6 -> CellsAt w6 b9 o1 (t_api_Point.enc s.Current) -> CellsAt w6 b10 o2 (t_api_Point.enc s.Previous) -> w5.heap.size <= b9 -> w5.heap.size <= b10 -> sh_f47_j1 e bf nw Q b1 b2 b3 b4 b9 o1 b10 o2 w6 := by
  intro w6 b9 o1 b10 o2 g6 c9 c10 hb9 hb10
  unfold sh_f47_j1
  replace c1 := c1.gr g6
  have hz6 := g6.size
  have l9 : b9 < w6.heap.size := cell_lt c9.1
  have l10 : b10 < w6.heap.size := cell_lt c10.1
  have l1 : b1 < w6.heap.size := cell_lt c1.1
  have l2 : b2 < w6.heap.size := cell_lt (c2.gr g6).1
  have l3 : b3 < w6.heap.size := cell_lt (c3.gr g6).1
  refine ld_i (x := s.Current) (c1.sub 6 2) (ld_i (x := s.Current) (c1.sub 6 2) (ld_i (x := s.Final) (c1.sub 8 2) (al_i fun b11 w7 e7 g7 c7 s7 => ?_)))
  have hz7 := g7.size
  refine st_i s7 fun w8 e8 k8 c8 => ?_
  have s8 : CanSt w8 b11 0 10 := by rw [e8]; exact canSt_putL s7
  have g8 : Gr w6 w8 := g7.local k8 fun j ej => by subst ej; omega
  replace c1 := c1.gr g8
  refine ld_i (x := s.Bits.e0) (c1.sub 0 1) (ld_i (x := s.Bits.e1) (c1.sub 1 1) (ld_i (x := s.Bits.e2) (c1.sub 2 1) (st_i (s8.sub 0 4 (by omega)) fun w9 e9 k9 c9' => ?_)))
  have s9 : CanSt w9 b11 0 10 := by rw [e9]; exact canSt_putL s8
  have g9 : Gr w6 w9 := g8.local k9 fun j ej => by subst ej; omega
  have parts : ∀ {w' : World} {r : G_justify_State}, CellsAt w' b11 0 (t_Arr4_bool.enc r.Bits) -> CellsAt w' b11 4 (t_api_Point.enc r.Previous) -> CellsAt w' b11 6 (t_api_Point.enc r.Current) -> CellsAt w' b11 8 (t_api_Point.enc r.Final) -> CellsAt w' b11 0 (t_justify_State.enc r) := by
   intro w' r h1 h2 h3 h4
   exact ⟨h1.1, h1.2.1, h1.2.2.1, h1.2.2.2.1, h2.1, h2.2.1, h3.1, h3.2.1, h4.1, h4.2.1, trivial⟩
  have p9a : CellsAt w9 b11 4 (t_api_Point.enc s.Current) := by rw [e9]; exact CellsAt.put_other (.inr (by simp)) (c8.sub 4 2)
  have p9b : CellsAt w9 b11 6 (t_api_Point.enc s.Current) := by rw [e9]; exact CellsAt.put_other (.inr (by simp)) (c8.sub 6 2)
  have p9c : CellsAt w9 b11 8 (t_api_Point.enc s.Final) := by rw [e9]; exact CellsAt.put_other (.inr (by simp)) (c8.sub 8 2)
  have hb11 : w6.heap.size <= b11 := by omega
  have j3 : ∀ w' (r : G_justify_State), Gr w6 w' -> CellsAt w' b11 0 (t_justify_State.enc r) -> CanSt w' b11 0 10 -> r.Bits = ⟨nw, bf || s.Bits.e0, s.Bits.e1, s.Bits.e2⟩ -> r.Previous = s.Current ->
    r.Current = (if nw then q else if bf then p else s.Current) -> r.Final = s.Final -> sh_f47_j3 e Q b4 b9 o1 b10 o2 b11 w' := by
   intro w' r g' c' s' hB hP hC hF
   unfold sh_f47_j3
   refine ld_i (x := r.Bits) (c'.sub 0 4) (al_i fun b12 w10 e10 g10 c10' s10 => st_i s10 fun w11 e11 k11 c11 => ?_)
   have hz' := g'.size
   have hz10 := g10.size
   have g11 : Gr w' w11 := g10.local k11 fun j ej => by subst ej; omega
   have g611 := g'.trans g11
   have g011 := g05.trans (g6.trans g611)
   have c11r := c'.gr g11
   have s11r : CanSt w11 b11 0 10 := s'.keeps g11 fun f => f
   have s114 : CanSt w11 b4 0 10 := s4.keeps (g6.trans g611) fun f => f
   have hne : b11 ≠ b4 := by omega
   have cur := (c9.gr g611)
   have prv := (c10.gr g611)
   have fin' : ∀ x, x = (jNext s e bf nw p q).Final -> st t_api_Point w11 b11 8 x fun w7 => sh_f47_j8 Q b4 b11 w7 := by
    intro x hx
    refine fin w11 b11 r x g011 (by omega) hne c11r s11r s114 ?_
    subst hx
    cases r
    simp only at hB hP hC hF
    subst hB hP hC hF
    rfl
   have stay : s.Final = (jNext s e bf nw p q).Final -> sh_f47_j8 Q b4 b11 w11 := by
    intro hx
    refine end8 w11 b11 r g011 c11r s114 ?_
    cases r
    simp only at hB hP hC hF
    subst hB hP hC
    rw [hF, hx]
    rfl
   have hjf : (jNext s e bf nw p q).Final = if (nw && (bf || s.Bits.e0) && decide (s.Current.Epoch + 1 = e)) = true then s.Current
     else if (nw && (bf || s.Bits.e0) && s.Bits.e1 && decide (s.Current.Epoch + 2 = e)) = true then s.Current
     else if ((bf || s.Bits.e0) && s.Bits.e1 && decide (s.Previous.Epoch + 2 = e)) = true then s.Previous
     else if ((bf || s.Bits.e0) && s.Bits.e1 && s.Bits.e2 && decide (s.Previous.Epoch + 3 = e)) = true then s.Previous else s.Final := rfl
   rw [hjf] at fin' stay
   rw [hB] at c11
   generalize (bf || s.Bits.e0) = b1' at fin' stay c11
   generalize s.Bits.e1 = b2' at fin' stay c11
   generalize s.Bits.e2 = b3' at fin' stay c11
   obtain ⟨hP0, hC0, _⟩ := hs
   have wr : ∀ (x k : Int), 0 <= x -> x <= 1099511627776 -> 0 <= k -> k <= 3 -> (IntKind.i64.wrap (x + k) == e) = decide (x + k = e) := by
    intro x k h0 h1 h2 h3
    rw [wrap_i64 (n := x + k) (by omega) (by omega)]
    by_cases he : x + k = e <;> simp [he]
   have f0 : ld tBool w11 b12 0 = fun k => ld tBool w11 b12 (0 + 0) k := rfl
   have J7 : ∀ x, (x = true -> s.Previous = (if (nw && b1' && decide (s.Current.Epoch + 1 = e)) = true then s.Current
     else if (nw && b1' && b2' && decide (s.Current.Epoch + 2 = e)) = true then s.Current
     else if (b1' && b2' && decide (s.Previous.Epoch + 2 = e)) = true then s.Previous
     else if (b1' && b2' && b3' && decide (s.Previous.Epoch + 3 = e)) = true then s.Previous else s.Final)) -> (x = false -> s.Final = (if (nw && b1' && decide (s.Current.Epoch + 1 = e)) = true then s.Current
     else if (nw && b1' && b2' && decide (s.Current.Epoch + 2 = e)) = true then s.Current
     else if (b1' && b2' && decide (s.Previous.Epoch + 2 = e)) = true then s.Previous
     else if (b1' && b2' && b3' && decide (s.Previous.Epoch + 3 = e)) = true then s.Previous else s.Final)) -> sh_f47_j7 Q b4 b10 o2 b11 x w11 := by
    intro x hT hF
    unfold sh_f47_j7
    exact br_i (fun q => ld_i prv (fin' _ (hT q))) (fun q => stay (hF q))
   have J6 : ∀ x, x = (b1' && b2' && decide (s.Previous.Epoch + 2 = e)) -> (nw && b1' && decide (s.Current.Epoch + 1 = e)) = false -> (nw && b1' && b2' && decide (s.Current.Epoch + 2 = e)) = false -> sh_f47_j6 e Q b4 b10 o2 b11 b12 x w11 := by
    intro x hx hf1 hf2
    rw [hf1, hf2] at fin' J7
    simp only [Bool.false_eq_true, if_false] at fin' J7
    unfold sh_f47_j6
    refine br_i (fun qx => ld_i prv (fin' _ ?_)) (fun qx => ?_)
    ·rw [<- hx, if_pos qx]
    ·rw [<- hx, qx] at J7
     simp only [Bool.false_eq_true, if_false] at J7
     have F : (b1' && b2' && b3' && decide (s.Previous.Epoch + 3 = e)) = false -> sh_f47_j7 Q b4 b10 o2 b11 false w11 := by
      intro hz
      rw [hz] at J7
      exact J7 false (fun f => by cases f) (fun _ => rfl)
     refine ld_i (x := b1') (c11.sub 1 1) (br_i (fun q1 => ld_i (x := b2') (c11.sub 2 1) (br_i (fun q2 => ld_i (x := b3') (c11.sub 3 1) (br_i (fun q3 => ld_i (x := s.Previous.Epoch) (prv.sub 0 1) ?_) (fun q3 => F (by rw [q3]; simp)))) (fun q2 => F (by rw [q2]; simp)))) (fun q1 => F (by rw [q1]; simp)))
     rw [wr _ 3 hP0.1 hP0.2 (by omega) (by omega)]
     rw [q1, q2, q3] at J7
     simp only [Bool.and_true, Bool.true_and] at J7
     refine J7 _ (fun hT => ?_) (fun hF => ?_)
     ·rw [if_pos hT]
     ·rw [if_neg (by rw [hF]; simp)]
   have J5 : ∀ x, x = (nw && b1' && b2' && decide (s.Current.Epoch + 2 = e)) -> (nw && b1' && decide (s.Current.Epoch + 1 = e)) = false -> sh_f47_j5 e Q b4 b9 o1 b10 o2 b11 b12 x w11 := by
    intro x hx hf1
    unfold sh_f47_j5
    refine br_i (fun qx => ld_i cur (fin' _ ?_)) (fun qx => ?_)
    ·rw [hf1, <- hx, if_pos qx]; rfl
    ·have hf2 : (nw && b1' && b2' && decide (s.Current.Epoch + 2 = e)) = false := by rw [<- hx]; exact qx
     have F : (b1' && b2' && decide (s.Previous.Epoch + 2 = e)) = false -> sh_f47_j6 e Q b4 b10 o2 b11 b12 false w11 := fun hz => J6 false hz.symm hf1 hf2
     refine ld_i (x := b1') (c11.sub 1 1) (br_i (fun q1 => ld_i (x := b2') (c11.sub 2 1) (br_i (fun q2 => ld_i (x := s.Previous.Epoch) (prv.sub 0 1) ?_) (fun q2 => F (by rw [q2]; simp)))) (fun q1 => F (by rw [q1]; simp)))
     rw [wr _ 2 hP0.1 hP0.2 (by omega) (by omega)]
     exact J6 _ (by rw [q1, q2]; rfl) hf1 hf2
   have J4 : ∀ x, x = (nw && b1' && decide (s.Current.Epoch + 1 = e)) -> sh_f47_j4 e Q b4 b9 o1 b10 o2 b11 b12 x w11 := by
    intro x hx
    unfold sh_f47_j4
    refine br_i (fun qx => ld_i cur (fin' _ ?_)) (fun qx => ?_)
    ·rw [<- hx, if_pos qx]
    ·have hf1 : (nw && b1' && decide (s.Current.Epoch + 1 = e)) = false := by rw [<- hx]; exact qx
     have F : (nw && b1' && b2' && decide (s.Current.Epoch + 2 = e)) = false -> sh_f47_j5 e Q b4 b9 o1 b10 o2 b11 b12 false w11 := fun hz => J5 false hz.symm hf1
     refine ld_i (x := nw) (c11.sub 0 1) (br_i (fun q0 => ld_i (x := b1') (c11.sub 1 1) (br_i (fun q1 => ld_i (x := b2') (c11.sub 2 1) (br_i (fun q2 => ld_i (x := s.Current.Epoch) (cur.sub 0 1) ?_) (fun q2 => F (by rw [q2]; simp)))) (fun q1 => F (by rw [q1]; simp)))) (fun q0 => F (by rw [q0]; simp)))
     rw [wr _ 2 hC0.1 hC0.2 (by omega) (by omega)]
     exact J5 _ (by rw [q0, q1, q2]; rfl) hf1
   have F : (nw && b1' && decide (s.Current.Epoch + 1 = e)) = false -> sh_f47_j4 e Q b4 b9 o1 b10 o2 b11 b12 false w11 := fun hz => J4 false hz.symm
   refine ld_i (x := nw) (c11.sub 0 1) (br_i (fun q0 => ld_i (x := b1') (c11.sub 1 1) (br_i (fun q1 => ld_i (x := s.Current.Epoch) (cur.sub 0 1) ?_) (fun q1 => F (by rw [q1]; simp)))) (fun q0 => F (by rw [q0]; simp)))
   rw [wr _ 1 hC0.1 hC0.2 (by omega) (by omega)]
   exact J4 _ (by rw [q0, q1]; rfl)
  have j2 : ∀ w' (r : G_justify_State), Gr w6 w' -> CellsAt w' b11 0 (t_justify_State.enc r) -> CanSt w' b11 0 10 -> r.Bits = ⟨false, bf || s.Bits.e0, s.Bits.e1, s.Bits.e2⟩ -> r.Previous = s.Current ->
    r.Current = (if bf then p else s.Current) -> r.Final = s.Final -> sh_f47_j2 e nw Q b3 b4 b9 o1 b10 o2 b11 w' := by
   intro w' r g' c' s' hB hP hC hF
   unfold sh_f47_j2
   refine br_i (fun qn => ?_) (fun qn => ?_)
   ·refine ld_i (x := q) ((c3.gr (g6.trans g'))) (st_i (s'.sub 6 2 (by omega)) fun w10 e10 k10 c10' => ?_)
    have s10 : CanSt w10 b11 0 10 := by rw [e10]; exact canSt_putL s'
    refine st_i (s10.sub 0 1 (by omega)) fun w11 e11 k11 c11 => ?_
    have s11 : CanSt w11 b11 0 10 := by rw [e11]; exact canSt_putL s10
    refine j3 w11 ⟨⟨true, r.Bits.e1, r.Bits.e2, r.Bits.e3⟩, r.Previous, q, r.Final⟩ (Gr.local g' (k10.trans k11) fun j ej => by subst ej; exact hb11) ?_ s11 ?_ hP ?_ hF
    ·have p0 : CellsAt w10 b11 0 (t_Arr4_bool.enc r.Bits) := by rw [e10]; exact CellsAt.put_other (.inl (by simp)) (c'.sub 0 4)
     have pa : CellsAt w10 b11 4 (t_api_Point.enc r.Previous) := by rw [e10]; exact CellsAt.put_other (.inl (by simp)) (c'.sub 4 2)
     have pc : CellsAt w10 b11 8 (t_api_Point.enc r.Final) := by rw [e10]; exact CellsAt.put_other (.inr (by simp)) (c'.sub 8 2)
     refine parts ?_ ?_ ?_ ?_
     ·have : CellsAt w11 b11 1 [.bool r.Bits.e1, .bool r.Bits.e2, .bool r.Bits.e3] := by rw [e11]; exact CellsAt.put_other (.inr (by simp)) (p0.sub 1 3)
      exact ⟨c11.1, this⟩
     ·rw [e11]; exact CellsAt.put_other (.inr (by simp)) pa
     ·rw [e11]; exact CellsAt.put_other (.inr (by simp)) c10'
     ·rw [e11]; exact CellsAt.put_other (.inr (by simp)) pc
    ·rw [hB, qn]
    ·rw [qn]; rfl
   ·refine j3 w' r g' c' s' ?_ hP ?_ hF
    ·rw [hB, qn]
    ·rw [qn, hC]; rfl
  refine br_i (fun qb => ?_) (fun qb => ?_)
  ·refine ld_i (x := p) (c2.gr (g6.trans g9)) (st_i (s9.sub 6 2 (by omega)) fun w10 e10 k10 c10' => ?_)
   have s10 : CanSt w10 b11 0 10 := by rw [e10]; exact canSt_putL s9
   refine st_i (s10.sub 1 1 (by omega)) fun w11 e11 k11 c11 => ?_
   have s11 : CanSt w11 b11 0 10 := by rw [e11]; exact canSt_putL s10
   refine j2 w11 ⟨⟨false, true, s.Bits.e1, s.Bits.e2⟩, s.Current, p, s.Final⟩ (Gr.local g9 (k10.trans k11) fun j ej => by subst ej; exact hb11) ?_ s11 ?_ rfl ?_ rfl
   ·have p0 : CellsAt w10 b11 0 [.bool false, .bool s.Bits.e0, .bool s.Bits.e1, .bool s.Bits.e2] := by rw [e10]; exact CellsAt.put_other (.inl (by simp)) c9'
    have pa : CellsAt w10 b11 4 (t_api_Point.enc s.Current) := by rw [e10]; exact CellsAt.put_other (.inl (by simp)) p9a
    have pc : CellsAt w10 b11 8 (t_api_Point.enc s.Final) := by rw [e10]; exact CellsAt.put_other (.inr (by simp)) p9c
    refine parts ?_ ?_ ?_ ?_
    ·have h1 : CellsAt w11 b11 0 [.bool false] := by rw [e11]; exact CellsAt.put_other (.inl (by simp)) (p0.sub 0 1)
     have h2 : CellsAt w11 b11 2 [.bool s.Bits.e1, .bool s.Bits.e2] := by rw [e11]; exact CellsAt.put_other (.inr (by simp)) (p0.sub 2 2)
     exact ⟨h1.1, c11.1, h2⟩
    ·rw [e11]; exact CellsAt.put_other (.inr (by simp)) pa
    ·rw [e11]; exact CellsAt.put_other (.inr (by simp)) c10'
    ·rw [e11]; exact CellsAt.put_other (.inr (by simp)) pc
   ·rw [qb]; rfl
   ·rw [qb]; rfl
  ·refine j2 w9 ⟨⟨false, s.Bits.e0, s.Bits.e1, s.Bits.e2⟩, s.Current, s.Current, s.Final⟩ g9 (parts c9' p9a p9b p9c) s9 ?_ rfl ?_ rfl
   ·rw [qb]; rfl
   ·rw [qb]; rfl
 refine ld_i (x := s.Current) (c1.sub 6 2) (ld_i (x := s.Previous) (c1.sub 4 2) ⟨?_, ?_⟩)
 ·refine al_i fun b5 w6 e6 g6 c6 s6 => ⟨(c1.gr g6).sub 6 2, (c1.gr g6).sub 4 2, al_i fun b6 w7 e7 g7 c7 s7 => ⟨(c1.gr (g6.trans g7)).sub 6 2, (c1.gr (g6.trans g7)).sub 4 2, st_i (s6.keeps g7 fun f => f) fun w8 e8 k8 c8 => ?_⟩⟩
  have z6 := g6.size; have z7 := g7.size
  have hb1 : b1 < w5.heap.size := cell_lt c1.1
  have hb6 : b5 < w6.heap.size := cell_lt c6.1
  have g8 : Gr w5 w8 := (g6.trans g7).local k8 fun j ej => by subst ej; omega
  refine ⟨(c1.gr g8).sub 4 2, st_i (s7.keeps k8 (by omega)) fun w9 e9 k9 c9 => ?_⟩
  exact main w9 b5 0 b6 0 (g8.local k9 fun j ej => by subst ej; omega) (c8.keeps k9 (by omega)) c9 (by omega) (by omega)
 ·refine al_i fun b5 w6 e6 g6 c6 s6 => ⟨(c1.gr g6).sub 6 2, (c1.gr g6).sub 4 2, al_i fun b6 w7 e7 g7 c7 s7 => ⟨(c1.gr (g6.trans g7)).sub 6 2, (c1.gr (g6.trans g7)).sub 4 2, st_i s7 fun w8 e8 k8 c8 => ?_⟩⟩
  have z6 := g6.size; have z7 := g7.size
  have hb1 : b1 < w5.heap.size := cell_lt c1.1
  have hb6 : b5 < w6.heap.size := cell_lt c6.1
  have g8 : Gr w5 w8 := (g6.trans g7).local k8 fun j ej => by subst ej; omega
  refine ⟨(c1.gr g8).sub 4 2, st_i ((s6.keeps g7 fun f => f).keeps k8 (by omega)) fun w9 e9 k9 c9 => ?_⟩
  exact main w9 b6 0 b5 0 (g8.local k9 fun j ej => by subst ej; omega) (c8.keeps k9 (by omega)) c9 (by omega) (by omega)
end Go.Proofs.Ytdefmgkicdhmkaa
