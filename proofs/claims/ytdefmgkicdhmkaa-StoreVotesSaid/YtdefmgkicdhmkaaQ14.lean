/- What the functions do, part 14; for every memory. -/
import Derived.Test.YtdefmgkicdhmkaaQ13
namespace Go.Proofs.Ytdefmgkicdhmkaa
open Go Go.Sx
set_option linter.unusedVariables false
theorem StoreAt.iOk {w : World} {sb : Nat} {O I : Nat -> Prop} {A : AStore} {cs : List G_store_Change} (h : StoreAt w sb O I A cs) : ∀ b, I b -> ¬ O b /\ b < w.heap.size := by obtain ⟨g, tb, tr, vb, lr, gr, gl, h⟩ := h; exact h.iOk
structure MkInv (w : World) (mb sb : Nat) (Dn : Nat -> Prop) (x6 : Sl) (w' : World) (A : AStore) (O I Db P J : Nat -> Prop) (cs : List G_store_Change) (bsl : Sl) (bs : List Int) (gs : List G_api_Event) (es : List AEvent) : Prop where
 gr : Gr w w'
 mke : MkAt w' mb sb Dn Db bsl bs
 st : StoreAt w' sb O I A cs
 wf : A.Wf
 own : OwnP t_api_Event 28 P w' x6 gs
 evs : EventsIs J w' gs es
 I0 : ∀ b, I b -> J b
 m0 : w.heap.size <= mb
 O0 : ∀ b, O b -> w.heap.size <= b
 D0 : ∀ b, Db b -> w.heap.size <= b
 P0 : ∀ b, P b -> w.heap.size <= b /\ b < w'.heap.size
 J0 : ∀ b, J b -> w.heap.size <= b /\ b < w'.heap.size
 dm : ¬ O mb /\ ¬ P mb /\ ¬ J mb
 dO : ∀ b, O b -> ¬ Db b /\ ¬ P b /\ ¬ J b
 dD : ∀ b, Db b -> ¬ P b /\ ¬ J b
 dP : ∀ b, P b -> ¬ J b
 dn : ∀ b, Dn b -> b < w.heap.size
 len : es.length <= 120
 slot : A.slot <= 3 * es.length
 blen : bs.length <= 1 + es.length
 small : ∀ e ∈ es, Small e
set_option maxHeartbeats 1000000 in
theorem c_Make {w : World} {D D' : Nat -> Prop} {gc : G_api_Config} {c : ACfg} {s : Sl} {xs : List Int} {Q : QW} (hc : CfgIs D w gc c) (hg : CfgGood c) (hs : SlIs tU8 D' w s xs) (hx : ∀ x ∈ xs, 0 <= x /\ x <= 255)
  (h : ∀ w' s' gs es, Gr w w' -> SlIs t_api_Event (w.heap.size <= ·) w' s' gs -> EventsIs (w.heap.size <= ·) w' gs es -> es.length <= 120 -> (∀ e ∈ es, Small e) -> Q (.slice s'.a s'.len s'.cap) w') :
  CallsR PP n_f11 #[t_api_Config.val gc, .slice s.a s.len s.cap] Q w := by
 refine so_f11 _ _ ?_
 unfold sh_f11
 refine al_i fun b1 w1 e1 g1 c1 _ => ld_i (x := gc) c1 (c_store_Of (hc.gr g1) hg.b32 hg.may fun w2 sb O I g2 hO hI st => ⟨some ⟨sb, 0, none⟩, .nil, rfl, br_f rfl (br_f rfl ?_)⟩)
 have z1 := g1.size; have z2 := g2.size
 have hwf := AStore.of_wf hg.may hg.ok
 have stx := st
 obtain ⟨g, tb, tr, vb, lr, gr, gl, r⟩ := st
 have cT : CellsAt w2 sb 3 (tPtr.enc (some ⟨tb, 0, none⟩)) := by rw [<- r.ptree]; exact r.cells.sub 3 1
 refine ⟨sb, 0, rfl, ld_i cT ?_⟩
 clear r
 unfold sh_f11_j1
 refine br_f rfl (alr_i fun b3 w4 e4 g4 c4 s4 => al_i fun b4 w5 e5 g5 c5 s5 => ?_)
 have z4 := g4.size; have z5 := g5.size
 have l3 : b3 < w4.heap.size := cell_lt c4.1
 have l4 : b4 < w5.heap.size := cell_lt c5.1
 have hO5 := stx.lt
 have hI5 := stx.iOk
 have G5 : Gr w w5 := g1.trans (g2.trans (g4.trans g5))
 have hsn := SlIs.bnd 1 (fun _ => rfl) (by decide) hs
 have hown : OwnP tU64 1 (· = b3) w5 ⟨some ⟨b3, 0, none⟩, 1, 1⟩ [1] := (show OwnP tU64 1 (· = b3) w4 ⟨some ⟨b3, 0, none⟩, 1, 1⟩ [1] from ⟨rfl, Nat.le_refl _, .inr ⟨b3, rfl, rfl, by simpa using c4, by simpa using s4⟩⟩).gr g5
 refine loop1 (sh_f11_b2 Q (some ⟨sb, 0, none⟩) b4) (fun m x6 w' => ∃ A O I Db P J cs bsl bs gs es, MkInv w b4 sb (fun b => D' b /\ b < w.heap.size) x6 w' A O I Db P J cs bsl bs gs es /\ m = 120 - es.length)
  ⟨_, AStore.of c, O, I, (· = b3), fun _ => False, I, [], _, [1], [], [], { gr := G5, mke := ⟨⟨s, xs, c5, hsn.gr G5, hx, hown⟩, s5, ⟨fun e => by omega, fun e => by omega⟩, by simp, by simp, by simp, fun b hb => by omega⟩, st := (stx.grow (g4.trans g5)), wf := hwf, own := OwnP.nil, evs := .nil, I0 := fun _ h => h, m0 := by omega, O0 := fun b hb => by have := hO b hb; omega, D0 := fun b hb => by subst hb; omega, P0 := fun b hb => hb.elim, J0 := fun b hb => by have := hI b hb; have := hI5 b hb; omega, dm := ⟨fun e => by have := hO5 _ e; omega, fun e => e, fun e => by have := hI5 _ e; omega⟩, dO := fun b hb => ⟨fun e => by have := hO5 _ hb; omega, fun e => e, fun e => (hI5 b e).1 hb⟩, dD := fun b hb => ⟨fun e => e, fun e => by have := hI5 _ e; omega⟩, dP := fun b hb => hb.elim, dn := fun b hb => hb.2, len := by simp, slot := by show (0:Int) <= _; simp, blen := by simp, small := by simp }, rfl⟩ ?_
 clear hown c5 s5 c4 s4 stx hO hI hO5 hI5
 rintro m x6 w6 nxt ⟨A, O, I, Db, P, J, cs, bsl, bs, gs, es, v, rfl⟩ hnx
 have vl := v.evs.len
 have vm := v.m0
 have hxl : x6.len = gs.length := v.own.1
 have hend : sh_f11_j6 Q x6 w6 := h w6 x6 gs es v.gr (v.own.is.mono fun b hb => (v.P0 b hb).1) (v.evs.imp fun hh => hh.mono fun b hb => (v.J0 b hb).1) v.len v.small
 have hmC := v.mke
 obtain ⟨nsl, ns, hc6, hn6, hnr, hb6⟩ := v.mke.ex
 unfold sh_f11_b2
 have hf : sh_f11_j3 Q (some ⟨sb, 0, none⟩) b4 x6 nxt false w6 := br_f rfl hend
 refine ld_i (hc6.sub 1 1) (br_i (fun q => ?_) (fun q => hf))
 unfold sh_f11_j3
 refine br_i (fun q2 => ?_) (fun q2 => hend)
 have q2 := of_decide_eq_true q2
 have hlt : es.length < 120 := by omega
 have hOl := v.st.lt
 have hIl := v.st.iOk
 have hDl := v.mke.dl
 refine c_mevent v.mke v.st v.wf ⟨v.dm.1, fun e => v.dm.2.2 (v.I0 _ e)⟩ fun w8 ge e k8 m8 he8 made => ⟨ge, rfl, al_i fun b5 w9 e9 g9 c9 s9 => st_i s9 fun w10 e10 k10 c10 => ld_i c10 ?_⟩
 have z8 := k8.size; have z9 := g9.size; have z10 := k10.size
 have l6 := hmC.lt
 have l5 : b5 < w9.heap.size := cell_lt c9.1
 have hb5 : w8.heap.size <= b5 := by omega
 have G810 : Gr w8 w10 := Gr.local g9 k10 fun j e => by subst e; omega
 have K610 : Keeps (· = b4) w6 w10 := Keeps.local k8 (Gr.keeps (S := fun _ => False) G810) fun j e => e.elim
 have st10 : StoreAt w10 sb O I A cs := v.st.keeps K610 fun b hb e => by subst e; exact hb.elim v.dm.1 fun hi => v.dm.2.2 (v.I0 _ hi)
 have he10 : EventIs (fun b => w6.heap.size <= b /\ b < w8.heap.size) w10 ge e := he8.bound.gr G810
 refine c_Apply st10 v.wf he10 (fun b hb ho => by have := hOl b ho; omega) fun w11 O' I' sch grew hI' st11 hsl => ⟨sch, errV (A.applyErr e), rfl, ?_⟩
 have z11 := grew.1.size
 have nO5 : ¬ O b5 := fun e => by have := hOl _ e; omega
 have c11 : CellsAt w11 b5 0 (t_api_Event.enc ge) := c10.keeps grew.1 nO5
 have m10 : MkAt w10 b4 sb (fun b => D' b /\ b < w.heap.size) Db bsl bs := m8.gr G810
 have m11 : MkAt w11 b4 sb (fun b => D' b /\ b < w.heap.size) Db bsl bs := m10.keeps grew.1 v.dm.1 (fun b hb ho => by have := v.O0 b ho; omega) fun b hb ho => (v.dO b ho).1 hb
 have wf' := v.wf.apply he10.root
 have hsl' : (A.apply e).2.slot <= 3 * (es.length + 1 : Nat) := by
  have h1 := v.slot
  rcases apply_slot (e := e) v.wf.slot.1 with h2 | ⟨h2, h3⟩
  ·rw [h2]; omega
  ·rw [h3]; have := made.tick h2; omega
 have hO'l := st11.lt
 have hI'l := st11.iOk
 have K611 : Keeps (fun b => b = b4 \/ O b) w6 w11 := Keeps.local (K610.mono fun b _ e => .inl e) grew.1 fun j e => .inr (.inr e)
 have G11 : Gr w w11 := Gr.local v.gr K611 fun j e => by
  rcases e with rfl | e
  ·exact v.m0
  ·exact v.O0 j e
 have J5 : ∀ (w12 : World) (bsl' : Sl) (bs' : List Int) (Db' : Nat -> Prop), Keeps (fun b => b = b4 \/ Db b) w11 w12 -> MkAt w12 b4 sb (fun b => D' b /\ b < w.heap.size) Db' bsl' bs' -> (∀ b, Db' b -> Db b \/ w11.heap.size <= b) -> bs'.length <= 1 + (es.length + 1) -> sh_f11_j5 x6 nxt b5 w12 := by
  intro w12 bsl' bs' Db' k12 m12 hD' hbl
  have z12 := k12.size
  unfold sh_f11_j5
  have nD5 : ¬ (b5 = b4 \/ Db b5) := fun e => by
   rcases e with e | e
   ·omega
   ·have := hDl _ (.inr e); omega
  refine ld_i (c11.keeps k12 nD5) (alr_i fun b7 w18 e18 g18 c18 s18 => ?_)
  have z18 := g18.size
  have K618 : Keeps (fun b => b = b4 \/ O b \/ Db b) w6 w18 := Keeps.local (Keeps.local (K611.mono fun b _ e => e.imp id .inl) k12 fun j e => .inr (e.imp id .inr)) (Gr.keeps (S := fun _ => False) g18) fun j e => e.elim
  have own18 : OwnP t_api_Event 28 P w18 x6 gs := v.own.keeps K618 fun b hb e => by
   rcases e with rfl | e | e
   ·exact v.dm.2.1 hb
   ·exact (v.dO b e).2.1 hb
   ·exact (v.dD b e).1 hb
  have hl7 : SlIs t_api_Event (fun _ => True) w18 ⟨some ⟨b7, 0, none⟩, 1, 1⟩ [ge] := ⟨rfl, Nat.le_refl _, .inr ⟨b7, 0, rfl, trivial, by simpa using c18⟩⟩
  refine own18.app (fun _ => rfl) event_plain hl7 (by simp only [List.length_singleton]; omega) fun s' w19 k19 o19 => ?_
  have z19 := k19.size
  have K619 : Keeps (fun b => b = b4 \/ O b \/ Db b \/ P b) w6 w19 := Keeps.local (K618.mono fun b _ e => by rcases e with e | e | e <;> simp [e]) k19 fun j e => .inr (.inr (.inr (.inr e)))
  have K1119 : Keeps (fun b => b = b4 \/ Db b \/ P b) w11 w19 := Keeps.local (Keeps.local (k12.mono fun b _ e => e.imp id .inl) (Gr.keeps (S := fun _ => False) g18) fun j e => e.elim) k19 fun j e => .inr (.inr (.inr e))
  refine hnx (120 - (es ++ [e]).length) s' w19 (by simp; omega) ⟨(A.apply e).2, O', I', Db', fun b => (P b \/ b = w18.heap.size) /\ b < w19.heap.size, fun b => J b \/ I' b \/ (w6.heap.size <= b /\ b < w8.heap.size), (A.apply e).1, bsl', bs', gs ++ [ge], es ++ [e], ?_, rfl⟩
  have hP6 : ∀ b, P b -> b < w6.heap.size := fun b hb => (v.P0 b hb).2
  have hJ6 : ∀ b, J b -> b < w6.heap.size := fun b hb => (v.J0 b hb).2
  have hI6 : ∀ b, I' b -> J b \/ (w10.heap.size <= b /\ b < w11.heap.size) := fun b hb => by
   have h1 := (hI'l b hb).2
   rcases hI' b hb with h2 | h2
   ·exact .inl (v.I0 b h2)
   ·exact .inr ⟨h2, h1⟩
  have hO6 : ∀ b, O' b -> O b \/ (w10.heap.size <= b /\ b < w11.heap.size) := fun b hb => by
   have h1 := hO'l b hb
   rcases grew.2 b hb with h2 | h2
   ·exact .inl h2
   ·exact .inr ⟨h2, h1⟩
  refine { gr := ?_, mke := ?_, st := ?_, wf := wf', own := (o19.bound (by decide)), evs := ?_, I0 := fun b hb => .inr (.inl hb), m0 := v.m0, O0 := ?_, D0 := ?_, P0 := ?_, J0 := ?_, dm := ?_, dO := ?_, dD := ?_, dP := ?_, dn := fun b hb => hb.2, len := by simp; omega, slot := by simpa using hsl', blen := by simp; omega, small := ?_ }
  ·refine Gr.local v.gr K619 fun j e => ?_
   rcases e with rfl | e | e | e
   ·exact v.m0
   ·exact v.O0 j e
   ·exact v.D0 j e
   ·exact (v.P0 j e).1
  ·refine (m12.gr g18).far k19 fun b hb => ⟨fun e => v.dm.2.1 (e ▸ hb), fun e => by have := (v.P0 b hb).1; omega, fun e => ?_⟩
   rcases hD' b e with h1 | h1
   ·exact (v.dD b h1).1 hb
   ·have := hP6 b hb; omega
  ·refine st11.keeps K1119 fun b hb e => ?_
   rcases hb with hb | hb
   ·rcases hO6 b hb with h1 | h1
    ·rcases e with rfl | e | e
     ·exact v.dm.1 h1
     ·exact (v.dO b h1).1 e
     ·exact (v.dO b h1).2.1 e
    ·rcases e with rfl | e | e
     ·omega
     ·have := hDl _ (.inr e); omega
     ·have := hP6 b e; omega
   ·rcases hI6 b hb with h1 | h1
    ·rcases e with rfl | e | e
     ·exact v.dm.2.2 h1
     ·exact (v.dD b e).2 h1
     ·exact v.dP b e h1
    ·rcases e with rfl | e | e
     ·omega
     ·have := hDl _ (.inr e); omega
     ·have := hP6 b e; omega
  ·have ha : All2 (EventIs (fun b => J b \/ I' b \/ (w6.heap.size <= b /\ b < w8.heap.size)) w19) gs es := by
    refine v.evs.imp fun hh => ?_
    refine (EventIs.keeps hh K619 fun b hb e => ?_).mono fun b hb => .inl hb
    rcases e with e | e | e | e
    ·subst e; exact v.dm.2.2 hb
    ·exact (v.dO b e).2.2 hb
    ·exact (v.dD b e).2 hb
    ·exact v.dP b e hb
   have hn : EventIs (fun b => J b \/ I' b \/ (w6.heap.size <= b /\ b < w8.heap.size)) w19 ge e := by
    refine ((he10.keeps grew.1 fun b hb ho => by have := hOl b ho; omega).keeps K1119 fun b hb e => ?_).mono fun b hb => .inr (.inr hb)
    rcases e with e | e | e
    ·omega
    ·have := hDl _ (.inr e); omega
    ·have := hP6 b e; omega
   exact All2.snoc ha hn
  ·intro b hb
   rcases hO6 b hb with h1 | h1
   ·exact v.O0 b h1
   ·omega
  ·intro b hb
   rcases hD' b hb with h1 | h1
   ·exact v.D0 b h1
   ·omega
  ·rintro b ⟨hb | hb, hb2⟩
   ·exact ⟨(v.P0 b hb).1, hb2⟩
   ·exact ⟨by omega, hb2⟩
  ·rintro b (hb | hb | hb)
   ·have := v.J0 b hb; omega
   ·rcases hI6 b hb with h1 | h1
    ·have := v.J0 b h1; omega
    ·omega
   ·omega
  ·refine ⟨fun ho => ?_, ?_, ?_⟩
   ·rcases hO6 _ ho with h1 | h1
    ·exact v.dm.1 h1
    ·omega
   ·rintro ⟨hb | hb, _⟩
    ·exact v.dm.2.1 hb
    ·omega
   ·rintro (hb | hb | hb)
    ·exact v.dm.2.2 hb
    ·rcases hI6 _ hb with h1 | h1
     ·exact v.dm.2.2 h1
     ·omega
    ·omega
  ·intro b hb
   refine ⟨fun hd => ?_, ?_, ?_⟩
   ·rcases hO6 _ hb with h1 | h1
    ·rcases hD' b hd with h2 | h2
     ·exact (v.dO b h1).1 h2
     ·have := hOl b h1; omega
    ·rcases hD' b hd with h2 | h2
     ·have := hDl _ (.inr h2); omega
     ·omega
   ·rintro ⟨hp | hp, _⟩
    ·rcases hO6 _ hb with h1 | h1
     ·exact (v.dO b h1).2.1 hp
     ·have := hP6 b hp; omega
    ·have := hO'l b hb; omega
   ·rintro (hj | hj | hj)
    ·rcases hO6 _ hb with h1 | h1
     ·exact (v.dO b h1).2.2 hj
     ·have := hJ6 b hj; omega
    ·exact (hI'l b hj).1 hb
    ·rcases hO6 _ hb with h1 | h1
     ·have := hOl b h1; omega
     ·omega
  ·intro b hb
   have hb' : Db b \/ w11.heap.size <= b := hD' b hb
   have hb'' := m12.dl b (.inr hb)
   refine ⟨?_, ?_⟩
   ·rintro ⟨hp | hp, _⟩
    ·rcases hb' with h1 | h1
     ·exact (v.dD b h1).1 hp
     ·have := hP6 b hp; omega
    ·omega
   ·rintro (hj | hj | hj)
    ·rcases hb' with h1 | h1
     ·exact (v.dD b h1).2 hj
     ·have := hJ6 b hj; omega
    ·rcases hI6 b hj with h2 | h2
     ·rcases hb' with h1 | h1
      ·exact (v.dD b h1).2 h2
      ·have := hJ6 b h2; omega
     ·rcases hb' with h1 | h1
      ·have := hDl _ (.inr h1); omega
      ·omega
    ·rcases hb' with h1 | h1
     ·have := hDl _ (.inr h1); omega
     ·omega
  ·rintro b ⟨hp | hp, _⟩
   ·have h6 := hP6 b hp
    rintro (hj | hj | hj)
    ·exact v.dP b hp hj
    ·rcases hI6 b hj with h2 | h2
     ·exact v.dP b hp h2
     ·omega
    ·omega
   ·rintro (hj | hj | hj)
    ·have := hJ6 b hj; omega
    ·rcases hI6 b hj with h2 | h2
     ·have := hJ6 b h2; omega
     ·omega
    ·omega
  ·intro e' he'
   rcases List.mem_append.1 he' with he' | he'
   ·exact v.small e' he'
   ·simp at he'
    subst he'
    have h1 := v.slot; have h2 := v.blen; have h3 := made.root; have h4 := made.root0
    exact ⟨fun hk => by have := made.tick hk; omega, by omega⟩
 have J5' : sh_f11_j5 x6 nxt b5 w11 := J5 w11 bsl bs Db (Keeps.refl _ _) m11 (fun b hb => .inl hb) (by have := v.blen; omega)
 rw [errV_nil]
 refine br_i (fun q3 => ?_) (fun q3 => br_f rfl J5')
 refine ld_i (x := ge.Kind) (c11.sub 0 1) ?_
 unfold sh_f11_j4
 refine br_i (fun q4 => ?_) (fun q4 => J5')
 have q4 : e.kind = 1 := by rw [<- he8.kind]; simpa using q4
 refine dw_i fun w13 e13 g13 => ?_
 have m13 := m11.gr g13
 have z13 := g13.size
 obtain ⟨nsl', ns', hc', hn', hr', hb'⟩ := m13.ex
 have c13 := c11.gr g13
 have hroot : ge.Block.Root = e.block.root := he8.block.root
 refine ld_i (x := bsl) (hc'.sub 2 1) (ld_i (x := ge.Block.Root) (c13.sub 2 1) (alr_i fun b6 w14 e14 g14 c14 s14 => ⟨((hc'.gr g14).sub 2 1), ?_⟩))
 have z14 := g14.size
 have hl6 : SlIs tU64 (fun _ => True) w14 ⟨some ⟨b6, 0, none⟩, 1, 1⟩ [ge.Block.Root] := ⟨rfl, Nat.le_refl _, .inr ⟨b6, 0, rfl, trivial, by simpa using c14⟩⟩
 refine (hb'.gr g14).app (fun _ => rfl) (fun y v hv => by simp at hv; subst hv; rfl) hl6 (by have := hmC.bl; simp only [List.length_singleton]; omega) fun s' w15 k15 o15 => ?_
 have z15 := k15.size
 have m14 := m13.gr g14
 have s15 : CanSt w15 b4 0 3 := m14.can.keeps k15 m14.nd.2
 have c15 : CellsAt w15 b4 0 (t_psephoslaw14_maker.enc ⟨some ⟨sb, 0, none⟩, nsl', bsl⟩) := (hc'.gr g14).keeps k15 m14.nd.2
 refine st_i (s15.sub 2 1 (by omega)) fun w16 e16 k16 c16 => ?_
 have z16 := k16.size
 have o15' := (o15.bound (by decide)).keeps k16 fun b hb e => by
  subst e
  rcases hb.1 with h1 | h1
  ·exact m14.nd.2 h1
  ·omega
 refine J5 w16 s' (bs ++ [ge.Block.Root]) _ (Keeps.local (Keeps.local ((Gr.keeps g13).trans (Gr.keeps g14)) k15 fun j e => .inr (.inr e)) k16 fun j e => .inr (.inl e)) ⟨⟨nsl', ns', ⟨(show CellsAt w16 b4 0 ((t_psephoslaw14_maker.enc ⟨some ⟨sb, 0, none⟩, nsl', bsl⟩).take 2) from by rw [e16]; exact CellsAt.put_other (.inl (by simp)) (c15.sub 0 2)).1, (show CellsAt w16 b4 0 ((t_psephoslaw14_maker.enc ⟨some ⟨sb, 0, none⟩, nsl', bsl⟩).take 2) from by rw [e16]; exact CellsAt.put_other (.inl (by simp)) (c15.sub 0 2)).2.1, c16⟩, ((hn'.gr g14).keeps k15 fun b hb hd => by have := v.D0 b hd; omega).keeps k16 fun b hb e => by have := v.m0; omega, hr', o15'⟩, by rw [e16]; exact canSt_putL s15, ⟨m14.nd.1, fun hh => ?_⟩, by simp, ?_, by have := v.blen; simp; omega, fun b hb => ?_⟩ (fun b hb => ?_) (by have := v.blen; simp; omega)
 ·rcases hh.1 with h1 | h1
  ·exact m14.nd.2 h1
  ·omega
 ·intro x hx
  rcases List.mem_append.1 hx with hx | hx
  ·exact hmC.bok x hx
  ·simp at hx
   subst hx
   have := made.root1 q4; have := made.root; have := v.blen; rw [hroot]; omega
 ·rcases hb with hb | hb
  ·have := v.gr.size; omega
  ·omega
 ·rcases hb.1 with h1 | h1
  ·exact .inl h1
  ·exact .inr (by omega)
end Go.Proofs.Ytdefmgkicdhmkaa
namespace Go.Proofs.Ytdefmgkicdhmkaa
open Go Go.Sx
set_option linter.unusedVariables false
def awC : ACfg := { bal := [1], slots := 4, boost := 0 }
def awE1 : AEvent := ⟨0, 3, zeroB, zeroV, zeroP⟩
def awE2 : AEvent := ⟨1, 0, ⟨2, 1, 3, [], []⟩, zeroV, zeroP⟩
def awS : AStore := ((AStore.of awC).apply awE1).2
theorem aw1 : (AStore.of awC).applyErr awE1 = 0 := by decide
theorem aw2 : awS.applyErr awE2 = 0 := by decide
theorem aw3 : (awS.apply awE2).1.length = 1 := by decide
theorem aw4 : (awS.apply awE2).2.boosted = 2 := by decide
theorem aw5 : (awS.apply awE2).2.tree.nodes.length = 2 := by decide
theorem StoreAt.gt {w w' : World} {O O' : Nat -> Prop} (g : Grew O O' w w') {n : Nat} (h : ∀ b, O b -> n <= b) (hn : n <= w.heap.size) : ∀ b, O' b -> n <= b := fun b hb => by
 rcases g.2 b hb with h1 | h1
 ·exact h b h1
 ·omega
theorem c_awake {w : World} {Q : QW} (h : ∀ w', Gr w w' -> Q (.bool true) w') : CallsR PP n_f8 #[] Q w := by
 refine so_f8 _ _ ?_
 unfold sh_f8
 refine alr_i fun b1 w1 e1 g1 c1 s1 => ?_
 have z1 := g1.size
 have hc : CfgIs (· = b1) w1 ⟨⟨some ⟨b1, 0, none⟩, 1, 1⟩, 4, 0⟩ awC := { slots := rfl, boost := rfl, bal := ⟨rfl, Nat.le_refl _, .inr ⟨b1, 0, rfl, rfl, by simpa [awC] using c1⟩⟩, islots := by unfold I64; decide, iboost := by unfold I64; decide }
 have hm : mayCfg awC = true := by decide
 have hk : okBal awC := ⟨by decide, by decide⟩
 refine c_store_Of hc (by decide) hm fun w2 sb O I g2 hO hI st => ⟨some ⟨sb, 0, none⟩, .nil, rfl, br_f rfl ?_⟩
 have hwf := AStore.of_wf hm hk
 have z2 := g2.size
 unfold sh_f8_j1
 have h1 : EventIs (fun _ => False) w2 ⟨0, 3, ⟨0, 0, 0, nilSl, nilSl⟩, ⟨0, 0, ⟨0, 0⟩, ⟨0, 0⟩, nilSl⟩, ⟨⟨0, 0, ⟨0, 0⟩, ⟨0, 0⟩, nilSl⟩, ⟨0, 0, ⟨0, 0⟩, ⟨0, 0⟩, nilSl⟩⟩⟩ awE1 := ⟨rfl, rfl, zeroB_is, zeroV_is, zeroV_is, zeroV_is, by unfold U64 awE1 zeroB; simp⟩
 refine br_f rfl (c_Apply st hwf h1 (fun b hb => hb.elim) fun w4 O4 I4 s4 g4 i4 st4 l4 => ⟨s4, errV _, rfl, ?_⟩)
 have hwf4 : awS.Wf := hwf.apply h1.root
 have z4 := g4.1.size
 have h2 : EventIs (fun _ => False) w4 ⟨1, 0, ⟨2, 1, 3, nilSl, nilSl⟩, ⟨0, 0, ⟨0, 0⟩, ⟨0, 0⟩, nilSl⟩, ⟨⟨0, 0, ⟨0, 0⟩, ⟨0, 0⟩, nilSl⟩, ⟨0, 0, ⟨0, 0⟩, ⟨0, 0⟩, nilSl⟩⟩⟩ awE2 := ⟨rfl, rfl, ⟨rfl, rfl, rfl, ⟨[], SlIs.nil, trivial⟩, ⟨[], SlIs.nil, trivial⟩⟩, zeroV_is, zeroV_is, zeroV_is, by unfold U64 awE2; simp⟩
 refine c_Apply (A := awS) st4 hwf4 h2 (fun b hb => hb.elim) fun w5 O5 I5 s5 g5 i5 st5 l5 => ⟨s5, errV _, rfl, ?_⟩
 have G : Gr w w5 := Gr.local (Gr.local (g1.trans g2) g4.1 fun j hj => by have := hO j hj; omega) g5.1 fun j hj => by have := StoreAt.gt g4 hO z2 j hj; omega
 have e0 : (errV ((AStore.of awC).applyErr awE1)).isNil = true := by rw [aw1]; rfl
 have e2 : (errV (awS.applyErr awE2)).isNil = true := by rw [aw2]; rfl
 have hl : (s5.len : Int) = 1 := by have := l5.1; rw [aw3] at this; omega
 refine br_t e0 (br_t e2 (br_t (by simp [hl]) ?_))
 refine l5.ixs 6 (fun _ => rfl) (by omega) (by rw [aw3]; decide) fun b o _ hx => ?_
 have hk0 : ((awS.apply awE2).1[(0:Int).toNat]'(by rw [aw3]; decide)).Kind = 0 := by decide
 obtain ⟨g, tb, tr, vb, lr, gr, gl, r⟩ := st5
 refine ld_i (hx.sub 0 1) (br_t (by rw [hk0]; rfl) ⟨sb, 0, rfl, ld_i (x := g.Boosted) (r.cells.sub 6 1) (br_t (by rw [r.boosted, aw4]; rfl) ?_)⟩)
 have cT : CellsAt w5 sb 3 (tPtr.enc (some ⟨tb, 0, none⟩)) := by rw [<- r.ptree]; exact r.cells.sub 3 1
 refine ld_i cT (c_tree_Len r.tree ⟨_, rfl, ?_⟩)
 unfold sh_f8_j2
 have h5 : (awS.apply awE2).2.tree.nodes.length = 2 := aw5
 rw [h5]
 exact h w5 G
end Go.Proofs.Ytdefmgkicdhmkaa
namespace Go.Proofs.Ytdefmgkicdhmkaa
open Go Go.Sx
set_option linter.unusedVariables false
theorem attAll_cfg : ∀ (vs : List AVote) (s : AStore), (AStore.attAll vs s).2.cfg = s.cfg := by
 intro vs
 induction vs with
 | nil => intro s; rfl
 | cons v r ih => intro s; simp only [AStore.attAll]; rw [ih, (AStore.same_attest s v true).cfg]
theorem slashAll_cfg : ∀ (vs : List AProof) (s : AStore), (AStore.slashAll vs s).2.cfg = s.cfg := by
 intro vs
 induction vs with
 | nil => intro s; rfl
 | cons v r ih => intro s; simp only [AStore.slashAll]; rw [ih]; rfl
theorem apply_cfg {A : AStore} {e : AEvent} : (A.apply e).2.cfg = A.cfg := by
 unfold AStore.apply
 split
 ·unfold AStore.tick
  split <;> rfl
 ·split
  ·unfold AStore.propose
   split
   ·simp only
    have h1 := AStore.raise_cfg ((AStore.slashAll e.block.proofs (AStore.attAll e.block.votes (A.lay e.block)).2).2.boostB e.block) (A.newLed e.block).just.Current (A.newLed e.block).just.Final
    have h2 : ∀ (s : AStore) b, (s.boostB b).cfg = s.cfg := by
     intro s b; unfold AStore.boostB; split <;> rfl
    have h3 : ∀ (s : AStore) l, (s.late e.block l).2.cfg = s.cfg := by
     intro s l
     unfold AStore.late
     split
     ·exact (AStore.raise_cfg _ _ _).1
     ·rfl
    rw [h3, h1.1, h2, slashAll_cfg, attAll_cfg]; rfl
   ·rfl
  ·split
   ·unfold AStore.attest; split <;> rfl
   ·split <;> rfl
structure AtEvent (w : World) (b1 sb b4 : Nat) (O I J : Nat -> Prop) (gc : G_api_Config) (A : AStore) (cs : List G_store_Change) (ge : G_api_Event) (e : AEvent) : Prop where
 cell : CellsAt w b1 0 (t_api_Config.enc gc)
 cfg : CfgIs J w gc A.cfg
 good : CfgGood A.cfg
 st : StoreAt w sb O I A cs
 wf : A.Wf
 ev : EventIs J w ge e
 small : Small e
 ecell : CellsAt w b4 0 (t_api_Event.enc ge)
 ecan : CanSt w b4 0 28
 JO : ∀ b, J b -> ¬ O b /\ b ≠ b4
 O1 : ¬ O b1 /\ b1 ≠ b4
 O4 : ¬ O b4
def event0 : G_api_Event := ⟨0, 0, ⟨0, 0, 0, nilSl, nilSl⟩, ⟨0, 0, ⟨0, 0⟩, ⟨0, 0⟩, nilSl⟩, ⟨⟨0, 0, ⟨0, 0⟩, ⟨0, 0⟩, nilSl⟩, ⟨0, 0, ⟨0, 0⟩, ⟨0, 0⟩, nilSl⟩⟩⟩
set_option maxHeartbeats 1000000 in
theorem law_go {a0 a1 : Sl} {a2 : Int} {xs0 xs1 : List Int} {D0 D1 : Nat -> Prop} {Q : QW} {w0 : World} (h0 : SlIs tU8 D0 w0 a0 xs0) (h1 : SlIs tU8 D1 w0 a1 xs1) (r0 : ∀ x ∈ xs0, 0 <= x /\ x <= 255) (r1 : ∀ x ∈ xs1, 0 <= x /\ x <= 255) (r2 : 0 <= a2 /\ a2 <= 255)
  (J1 : Nat -> Option Addr -> Bool -> World -> Prop) (B : Nat -> Option Addr -> Sl -> Int -> World -> (Int -> World -> Prop) -> Prop) (R : Nat -> Option Addr -> Nat -> Int -> (Int -> World -> Prop) -> World -> Prop)
  (hJ : ∀ b1 x4 w6, (ld t_api_Config w6 b1 0 fun x8 => CallsR PP n_f11 #[t_api_Config.val x8, .slice a0.a a0.len a0.cap] (fun v4 w7 => ∃ x9 : Sl, v4 = .slice x9.a x9.len x9.cap /\ ((∃ I1 : Nat -> Int -> World -> Prop, (∃ m, I1 m 0 w7) /\ ∀ m x10 w8, I1 m x10 w8 -> B b1 x4 x9 x10 w8 (fun y0 w => ∃ m2, m2 < m /\ I1 m2 y0 w)))) w6) -> J1 b1 x4 false w6)
  (hB : ∀ b1 x4 x9 x10 w8 nxt, br (decide (x10 < (x9.len : Int))) (ixs x9 x10 fun b3 o2 => ld t_api_Event w8 b3 (o2 + (x10).toNat * 28) fun x11 => al t_api_Event 57 w8 event0 fun b4 w9 => st t_api_Event w9 b4 0 x11 fun w10 => R b1 x4 b4 x10 nxt w10) (Q (.bool true) w8) -> B b1 x4 x9 x10 w8 nxt)
  (hQ : ∀ w', Gr w0 w' -> Q (.bool true) w')
  (hR : ∀ w b1 sb b4 (i : Int) nxt O I J gc A cs ge e, AtEvent w b1 sb b4 O I J gc A cs ge e -> 0 <= i -> i < 120 -> w0.heap.size <= b4 -> (∀ b, O b -> w0.heap.size <= b) ->
   (∀ w' O' I' cs', Keeps (fun b => O b \/ b = b4) w w' -> (∀ b, O' b -> O b \/ w.heap.size <= b) -> StoreAt w' sb O' I' (A.apply e).2 cs' -> nxt (IntKind.i64.wrap (i + 1)) w') -> R b1 (some ⟨sb, 0, none⟩) b4 i nxt w) :
  CallsR PP n_f8 #[] (fun v1 w1 => ∃ x1 : Bool, v1 = .bool x1 /\ (br (!x1) (Q (.bool false) w1) (CallsR PP n_f9 #[.slice a1.a a1.len a1.cap, .int .u8 a2, .int .u8 40] (fun v2 w2 => ∃ x2 : G_api_Config, v2 = t_api_Config.val x2 /\ (al t_api_Config 26 w2 (⟨nilSl, 0, 0⟩ : G_api_Config) fun b1 w3 => st t_api_Config w3 b1 0 x2 fun w4 => ld t_api_Config w4 b1 0 fun x3 => CallsR PP n_f10 #[t_api_Config.val x3] (fun v3 w5 => ∃ x4 : Option Addr, ∃ x5 : Ifc, v3 = .tuple #[.pointer x4, x5.v] /\ (br (!x5.isNil) (J1 b1 x4 true w5) (br x4.isNone (J1 b1 x4 true w5) (nc x4 fun b2 o1 => ld tPtr w5 b2 (o1 + 3) fun x6 => J1 b1 x4 x6.isNone w5)))) w4)) w1))) w0 := by
 refine c_awake fun w1 g1 => ⟨_, rfl, br_f rfl (c_Config (h1.gr g1) r1 r2 (by omega) fun w2 gc c g2 hc hg _ _ => ⟨gc, rfl, al_i fun b1 w3 e3 g3 c3 s3 => st_i s3 fun w4 e4 k4 c4 => ld_i c4 ?_⟩)⟩
 have z1 := g1.size; have z2 := g2.size; have z3 := g3.size; have z4 := k4.size
 have l1 : b1 < w3.heap.size := cell_lt c3.1
 have G34 : Gr w2 w4 := Gr.local g3 k4 fun j e => by subst e; omega
 have hc2 : CfgIs (fun b => w1.heap.size <= b /\ b < w2.heap.size) w2 gc c := { hc with bal := SlIs.bnd 1 (fun _ => rfl) (by decide) hc.bal }
 have hc4 := hc2.gr G34
 refine c_store_Of hc4 hg.b32 hg.may fun w5 sb O I g5 hO hI st => ⟨some ⟨sb, 0, none⟩, .nil, rfl, br_f rfl (br_f rfl ?_)⟩
 have hwf := AStore.of_wf hg.may hg.ok
 have z5 := g5.size
 have G05 : Gr w0 w5 := ((g1.trans g2).trans G34).trans g5
 have stx := st
 obtain ⟨g, tb, tr, vb, lr, gr, gl, r⟩ := st
 have cT : CellsAt w5 sb 3 (tPtr.enc (some ⟨tb, 0, none⟩)) := by rw [<- r.ptree]; exact r.cells.sub 3 1
 refine ⟨sb, 0, rfl, ld_i cT ?_⟩
 clear r cT
 refine hJ _ _ _ (ld_i (c4.gr g5) (c_Make (hc4.gr g5) hg (h0.gr G05) r0 fun w7 x9 gs es g7 hs9 hev hlen hsm => ⟨x9, rfl, ?_⟩))
 have z7 := g7.size
 have hs9' := SlIs.bnd 28 (fun _ => rfl) (by decide) hs9
 have hev' : EventsIs (fun b => w5.heap.size <= b /\ b < w7.heap.size) w7 gs es := hev.imp fun hh => EventIs.bound hh
 have hst := stx.grow g7
 have hOl := stx.lt
 have e9 := hs9.1
 have eL := hev.len
 refine loop1 (B b1 (some ⟨sb, 0, none⟩) x9) (fun m i w' => 0 <= i /\ i.toNat <= gs.length /\ m = gs.length - i.toNat /\ ∃ O' I' A cs, Keeps (fun b => O b \/ w7.heap.size <= b) w7 w' /\ (∀ b, O' b -> O b \/ w7.heap.size <= b) /\ StoreAt w' sb O' I' A cs /\ A.Wf /\ A.cfg = c)
  ⟨_, by omega, by simp, rfl, O, I, AStore.of c, [], Keeps.refl _ _, fun b hb => .inl hb, hst, hwf, rfl⟩ ?_
 rintro m i w8 nxt ⟨i0, i1, rfl, O8, I8, A, cs, k8, hO8, st8, wf8, cfg8⟩ hnx
 have z8 := k8.size
 have hs8 : SlIs t_api_Event (fun b => w5.heap.size <= b /\ b < w7.heap.size) w8 x9 gs := hs9'.keeps k8 fun b hb e => by
  rcases e with e | e
  ·have := hOl b e; omega
  ·omega
 refine hB _ _ _ _ _ _ (br_i (fun q => ?_) (fun q => ?_))
 ·have q := of_decide_eq_true q
  have hi : i.toNat < gs.length := by omega
  refine hs8.ixs 28 (fun _ => rfl) i0 hi fun b3 o2 _ hx => ld_i (x := gs[i.toNat]) hx (al_i fun b4 w9 e9' g9 c9 s9 => st_i s9 fun w10 e10 k10 c10 => ?_)
  have z9 := g9.size; have z10 := k10.size
  have l4 : b4 < w9.heap.size := cell_lt c9.1
  have G810 : Gr w8 w10 := Gr.local g9 k10 fun j e => by subst e; omega
  have K710 : Keeps (fun b => O b \/ w7.heap.size <= b) w7 w10 := Keeps.local k8 (Gr.keeps (S := fun _ => False) G810) fun j e => e.elim
  have nO4 : ¬ O8 b4 := fun e => by have := st8.lt _ e; omega
  have hi2 : i.toNat < es.length := by omega
  have far : ∀ b, (w5.heap.size <= b /\ b < w7.heap.size) \/ (w1.heap.size <= b /\ b < w2.heap.size) -> ¬ (O b \/ w7.heap.size <= b) := fun b hb e => by
   rcases e with e | e
   ·have := hOl b e; have := hO b e; omega
   ·omega
  have hev10 : EventIs (fun b => (w5.heap.size <= b /\ b < w7.heap.size) \/ (w1.heap.size <= b /\ b < w2.heap.size)) w10 gs[i.toNat] es[i.toNat] := ((hev'.get hi hi2).keeps K710 fun b hb => far b (.inl hb)).mono fun b hb => .inl hb
  have hc10 : CfgIs (fun b => (w5.heap.size <= b /\ b < w7.heap.size) \/ (w1.heap.size <= b /\ b < w2.heap.size)) w10 gc c := by
   have a := (((hc4.gr g5).gr g7).keeps K710 fun b hb => far b (.inr hb))
   exact { a with bal := a.bal.mono fun b hb => .inr hb }
  have nb1 : ¬ (O b1 \/ w7.heap.size <= b1) := fun e => by
   rcases e with e | e
   ·have := hO _ e; omega
   ·omega
  have n81 : ¬ O8 b1 := fun e => nb1 (hO8 _ e)
  refine hR w10 b1 sb b4 i nxt O8 I8 _ gc A cs gs[i.toNat] es[i.toNat] { cell := ((c4.gr g5).gr g7).keeps K710 nb1, cfg := by rw [cfg8]; exact hc10, good := by rw [cfg8]; exact hg, st := st8.grow G810, wf := wf8, ev := hev10, small := hsm _ (List.getElem_mem _), ecell := c10, ecan := by rw [e10]; exact canSt_putL s9, JO := fun b hb => ⟨fun e => far b hb (hO8 b e), fun e => by omega⟩, O1 := ⟨n81, by omega⟩, O4 := nO4 } i0 (by omega) (by omega) (fun b hb => ?_) ?_
  ·rcases hO8 b hb with h | h
   ·have := hO b h; omega
   ·omega
  ·intro w' O' I' cs' k' hO' st'
   rw [wrap_i64 (n := i + 1) (by omega) (by omega)]
   refine hnx (gs.length - (i + 1).toNat) (i + 1) w' (by omega) ⟨by omega, by omega, rfl, O', I', (A.apply es[i.toNat]).2, cs', ?_, ?_, st', wf8.apply hev10.root, by rw [apply_cfg, cfg8]⟩
   ·exact Keeps.local K710 k' fun j e => by
     rcases e with e | e
     ·exact .inr (hO8 j e)
     ·exact .inr (.inr (by omega))
   ·intro b hb
    rcases hO' b hb with h | h
    ·exact hO8 b h
    ·exact .inr (by omega)
 ·refine hQ w8 (Gr.local (G05.trans g7) k8 fun j e => ?_)
  rcases e with e | e
  ·have := hO j e; omega
  ·omega
end Go.Proofs.Ytdefmgkicdhmkaa
namespace Go.Proofs.Ytdefmgkicdhmkaa
open Go Go.Sx
set_option linter.unusedVariables false
theorem cells_of {w : World} {b : Nat} : ∀ (l : List Int) (o : Nat), (∀ i, i < l.length -> w.cell? ⟨b, o + i, none⟩ = some (.int .u8 (l.getD i 0))) -> CellsAt w b o (l.flatMap tU8.enc)
 | [], _, _ => trivial
 | x :: r, o, h => by
  refine ⟨by simpa using h 0 (by simp), cells_of r (o + 1) fun i hi => ?_⟩
  have := h (i + 1) (by simpa using hi)
  rw [show o + 1 + i = o + (i + 1) by omega]
  simpa using this
theorem slIs_of_row {w : World} {a : Option Addr} {len cap : Nat} {zs : List Int} (h : (a = none /\ len = 0 /\ cap = 0 /\ zs = []) \/ ∃ x, a = some x /\ len <= cap /\ cap <= maxLen /\ zs.length = cap /\ (∀ i, i < zs.length -> w.cell? (x.add i) = some (.int .u8 (zs.getD i 0))) /\ ∀ n ∈ zs, (Lit.int .u8 n).wf = true) :
  ∃ xs, SlIs tU8 (fun _ => True) w ⟨a, len, cap⟩ xs /\ ∀ x ∈ xs, 0 <= x /\ x <= 255 := by
 rcases h with ⟨rfl, rfl, rfl, rfl⟩ | ⟨x, rfl, hl, hm, hz, hc, hw⟩
 ·exact ⟨[], SlIs.nil, by simp⟩
 ·refine ⟨zs.take len, ⟨?_, hl, ?_⟩, fun n hn => ?_⟩
  ·simp only [List.length_take]; omega
  ·rcases Nat.eq_zero_or_pos len with h0 | h0
   ·left; subst h0; simp
   ·right
    have h1 := hc 0 (by omega)
    have hsp : x.spot = none := by
     cases hs : x.spot with
     | none => rfl
     | some k =>
      exfalso
      have e : x.add 0 = x := by unfold Addr.add; rw [if_pos rfl]
      rw [e] at h1
      unfold World.cell? at h1
      split at h1
      ·rw [hs] at h1; simp at h1
      ·simp at h1
    obtain ⟨b, o, sp⟩ := x
    simp only at hsp
    subst hsp
    refine ⟨b, o, rfl, trivial, cells_of _ _ fun i hi => ?_⟩
    have hi' : i < len := by simp only [List.length_take] at hi; omega
    have h2 := hc i (by omega)
    have e2 : (⟨b, o, none⟩ : Addr).add i = ⟨b, o + i, none⟩ := by
     unfold Addr.add
     split
     ·rename_i h; subst h; rfl
     ·rfl
    rw [e2] at h2
    rw [h2]
    simp only [List.getD_eq_getElem?_getD, List.getElem?_take_of_lt hi']
  ·have := hw n (List.mem_of_mem_take hn)
   simp only [Lit.wf, Bool.and_eq_true, decide_eq_true_eq] at this
   have h1 : IntKind.u8.min = 0 := by decide
   have h2 : IntKind.u8.max = 255 := by decide
   omega
theorem u8_of_wf {n : Int} (h : (Lit.int .u8 n).wf = true) : 0 <= n /\ n <= 255 := by
 simp only [Lit.wf, Bool.and_eq_true, decide_eq_true_eq] at h
 have h1 : IntKind.u8.min = 0 := by decide
 have h2 : IntKind.u8.max = 255 := by decide
 omega
theorem Gr.below {w w' : World} (h : Gr w w') : Go.RowKit.Below w.heap.size w w' := ⟨h.os, h.tape, h.output, h.size, fun k hk => h.block k hk fun f => f⟩
end Go.Proofs.Ytdefmgkicdhmkaa
