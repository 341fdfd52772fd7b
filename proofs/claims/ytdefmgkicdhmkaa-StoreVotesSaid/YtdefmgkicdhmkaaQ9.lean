/- What the functions do, part 9; for every memory. -/
import Derived.Test.YtdefmgkicdhmkaaQ8
namespace Go.Sx
open Go
set_option linter.unusedSimpArgs false
set_option linter.unusedVariables false
def I64 (n : Int) : Prop := -9223372036854775808 <= n /\ n <= 9223372036854775807
def U64 (n : Int) : Prop := 0 <= n /\ n <= 18446744073709551615
abbrev Gr (w w' : World) : Prop := Keeps (fun _ => False) w w'
theorem Gr.refl (w : World) : Gr w w := Keeps.refl _ w
theorem Gr.alloc {a w : World} (h : Gr a w) (o : Obj) : Gr a (w.alloc o) := Keeps.trans h (Keeps.alloc w o _)
theorem Gr.drew' {a w : World} (h : Gr a w) : Gr a w.drew := Keeps.drew h
theorem Gr.keeps {a b : World} {S : Nat -> Prop} (h : Gr a b) : Keeps S a b := Keeps.mono h fun _ _ f => f.elim
theorem Gr.local {a b c : World} {S : Nat -> Prop} (h : Gr a b) (k : Keeps S b c) (hs : ∀ i, S i -> a.heap.size <= i) : Gr a c :=
 ⟨k.os.trans h.os, k.tape.trans h.tape, k.output.trans h.output, Nat.le_trans h.size k.size,
  fun i hi _ => (k.block i (Nat.lt_of_lt_of_le hi h.size) fun e => by have := hs i e; omega).trans (h.block i hi fun f => f)⟩
theorem Keeps.local {a b c : World} {S R : Nat -> Prop} (h : Keeps R a b) (k : Keeps S b c) (hs : ∀ i, S i -> a.heap.size <= i \/ R i) : Keeps R a c :=
 ⟨k.os.trans h.os, k.tape.trans h.tape, k.output.trans h.output, Nat.le_trans h.size k.size,
  fun i hi hr => (k.block i (Nat.lt_of_lt_of_le hi h.size) fun e => by
   rcases hs i e with h1 | h1
   ·omega
   ·exact hr h1).trans (h.block i hi hr)⟩
abbrev At (w : World) (b : Nat) (o : Obj) : Prop := w.heap[b]? = some o
theorem At.lt {w : World} {b : Nat} {o : Obj} (h : At w b o) : b < w.heap.size := (Array.getElem?_eq_some_iff.1 h).1
theorem At.keeps {w w' : World} {S : Nat -> Prop} {b : Nat} {o : Obj} (h : At w b o) (k : Keeps S w w') (hs : ¬ S b) : At w' b o := (k.block b h.lt hs).trans h
theorem cell_lt {w : World} {b o : Nat} {v : Value} (h : w.cell? ⟨b, o, none⟩ = some v) : b < w.heap.size := by
 rcases Nat.lt_or_ge b w.heap.size with hb | hb
 ·exact hb
 ·simp [World.cell?, Array.getElem?_eq_none hb] at h
theorem cell_keeps {w w' : World} {S : Nat -> Prop} {b o : Nat} {v : Value} (h : w.cell? ⟨b, o, none⟩ = some v) (k : Keeps S w w') (hs : ¬ S b) : w'.cell? ⟨b, o, none⟩ = some v := by
 have := k.block b (cell_lt h) hs
 rw [<- h]
 simp only [World.cell?, this]
theorem CellsAt.keeps {w w' : World} {S : Nat -> Prop} {b : Nat} (k : Keeps S w w') (hs : ¬ S b) : ∀ {vs : List Value} {o : Nat}, CellsAt w b o vs -> CellsAt w' b o vs
 | [], _, _ => trivial
 | _ :: _, _, h => ⟨cell_keeps h.1 k hs, CellsAt.keeps k hs h.2⟩
theorem CellsAt.gr {w w' : World} {b o : Nat} {vs : List Value} (h : CellsAt w b o vs) (k : Gr w w') : CellsAt w' b o vs := CellsAt.keeps k (fun f => f) h
theorem CanSt.keeps {w w' : World} {S : Nat -> Prop} {b : Nat} (k : Keeps S w w') (hs : ¬ S b) : ∀ {n o : Nat}, CanSt w b o n -> CanSt w' b o n
 | 0, _, _ => trivial
 | n + 1, o, h => by
  obtain ⟨⟨v, hv⟩, hf, hr⟩ := h
  refine ⟨⟨v, cell_keeps hv k hs⟩, ?_, CanSt.keeps k hs hr⟩
  have := k.block b (cell_lt hv) hs
  rw [<- hf]
  simp only [World.frozen?, this]
theorem CellsAt.sub {w : World} {b : Nat} : ∀ (i n : Nat) {o : Nat} {vs : List Value}, CellsAt w b o vs -> CellsAt w b (o + i) ((vs.drop i).take n)
 | 0, 0, _, _, _ => by simp [CellsAt]
 | 0, n + 1, _, [], _ => by simp [CellsAt]
 | 0, n + 1, o, v :: r, h => ⟨h.1, by have := CellsAt.sub 0 n h.2; simpa using this⟩
 | i + 1, n, _, [], _ => by simp [CellsAt]
 | i + 1, n, o, v :: r, h => by
  have := CellsAt.sub i n h.2
  rw [show o + (i + 1) = o + 1 + i from by omega]
  simpa using this
theorem CanSt.sub {w : World} {b : Nat} : ∀ (i n : Nat) {m o : Nat}, i + n <= m -> CanSt w b o m -> CanSt w b (o + i) n
 | 0, 0, 0, _, _, _ => trivial
 | 0, 0, _ + 1, _, _, _ => trivial
 | 0, _ + 1, 0, _, h, _ => by omega
 | _ + 1, _, 0, _, h, _ => by omega
 | 0, n + 1, m + 1, o, h, c => ⟨c.1, c.2.1, CanSt.sub 0 n (by omega) c.2.2⟩
 | i + 1, n, m + 1, o, h, c => by
  have := CanSt.sub i n (m := m) (o := o + 1) (by omega) c.2.2
  rw [show o + (i + 1) = o + 1 + i from by omega]
  exact this
theorem CellsAt.append {w : World} {b : Nat} : ∀ {vs us : List Value} {o : Nat}, CellsAt w b o (vs ++ us) ↔ CellsAt w b o vs /\ CellsAt w b (o + vs.length) us
 | [], us, o => by simp [CellsAt]
 | v :: r, us, o => by
  have := CellsAt.append (w := w) (b := b) (vs := r) (us := us) (o := o + 1)
  simp only [List.cons_append, CellsAt, this, List.length_cons]
  rw [show o + 1 + r.length = o + (r.length + 1) from by omega]
  exact and_assoc.symm
theorem cell_new {w : World} {cs : Array Value} {t : TypeId} {i : Nat} : (w.alloc (.cells cs t)).cell? ⟨w.heap.size, i, none⟩ = cs[i]? := by
 have := alloc_at w (.cells cs t) w.heap.size
 rw [if_pos rfl] at this
 simp only [World.cell?, this]
 simp
theorem frozen_new {w : World} {cs : Array Value} {t : TypeId} {i : Nat} : (w.alloc (.cells cs t)).frozen? ⟨w.heap.size, i, none⟩ = false := by
 have := alloc_at w (.cells cs t) w.heap.size
 rw [if_pos rfl] at this
 simp only [World.frozen?, this]
 simp
theorem CellsAt.new' {w : World} {t : TypeId} {cs : Array Value} : ∀ {vs : List Value} {i : Nat}, (∀ j, j < vs.length -> cs[i + j]? = vs[j]?) -> CellsAt (w.alloc (.cells cs t)) w.heap.size i vs
 | [], _, _ => trivial
 | v :: r, i, h => ⟨by rw [cell_new]; have := h 0 (by simp); simpa using this,
   CellsAt.new' fun j hj => by have := h (j + 1) (by simpa using hj); rw [show i + 1 + j = i + (j + 1) from by omega, this]; simp⟩
theorem CellsAt.new {w : World} {t : TypeId} {vs : List Value} : CellsAt (w.alloc (.cells vs.toArray t)) w.heap.size 0 vs :=
 CellsAt.new' fun j hj => by simp
theorem CanSt.new {w : World} {t : TypeId} {cs : Array Value} : ∀ {n i : Nat}, i + n <= cs.size -> CanSt (w.alloc (.cells cs t)) w.heap.size i n
 | 0, _, _ => trivial
 | n + 1, i, h => ⟨⟨cs[i]'(by omega), by rw [cell_new]; simp⟩, frozen_new, CanSt.new (by omega)⟩
theorem putL_cell {b : Nat} : ∀ (vs : List Value) {o i : Nat} {w : World}, i < o -> (putL w b o vs).cell? ⟨b, i, none⟩ = w.cell? ⟨b, i, none⟩
 | [], _, _, _, _ => rfl
 | v :: r, o, i, w, h => by
  show (putL (w.setCell ⟨b, o, none⟩ v) b (o + 1) r).cell? _ = _
  rw [putL_cell r (by omega), World.cell?_setCell_other _ _ _ _ (by intro e; injection e with _ e _; omega)]
theorem CellsAt.put {b : Nat} : ∀ {vs : List Value} {o : Nat} {w : World}, CanSt w b o vs.length -> CellsAt (putL w b o vs) b o vs
 | [], _, _, _ => trivial
 | v :: r, o, w, h => by
  obtain ⟨⟨u, hu⟩, _, hr⟩ := h
  refine ⟨?_, CellsAt.put (canSt_set hr)⟩
  show (putL (w.setCell ⟨b, o, none⟩ v) b (o + 1) r).cell? _ = _
  rw [putL_cell r (by omega)]
  exact World.cell?_setCell_same _ _ _ hu
theorem canSt_putL {b : Nat} : ∀ {vs : List Value} {o i n : Nat} {w : World}, CanSt w b i n -> CanSt (putL w b o vs) b i n
 | [], _, _, _, _, h => h
 | v :: r, o, i, n, w, h => canSt_putL (vs := r) (o := o + 1) (canSt_set h)
theorem cell_put_other {b : Nat} : ∀ {vs : List Value} {o i : Nat} {w : World}, (i < o \/ o + vs.length <= i) -> (putL w b o vs).cell? ⟨b, i, none⟩ = w.cell? ⟨b, i, none⟩
 | [], _, _, _, _ => rfl
 | v :: r, o, i, w, h => by
  show (putL (w.setCell ⟨b, o, none⟩ v) b (o + 1) r).cell? _ = _
  simp only [List.length_cons] at h
  rw [cell_put_other (by omega), World.cell?_setCell_other _ _ _ _ (by intro e; injection e with _ e _; omega)]
theorem CellsAt.put_other {b : Nat} {us : List Value} {p : Nat} {w : World} : ∀ {vs : List Value} {o : Nat}, (o + vs.length <= p \/ p + us.length <= o) -> CellsAt w b o vs -> CellsAt (putL w b p us) b o vs
 | [], _, _, _ => trivial
 | v :: r, o, h, hc => by
  simp only [List.length_cons] at h
  exact ⟨by rw [cell_put_other (by omega)]; exact hc.1, CellsAt.put_other (by omega) hc.2⟩
theorem al_st {α : Type} {T : Ty α} {t : TypeId} {w : World} {x y : α} {k : Nat -> World -> Prop} (hl : (T.enc x).length = (T.enc y).length)
  (h : ∀ b w', b = w.heap.size -> Gr w w' -> CellsAt w' b 0 (T.enc y) -> CanSt w' b 0 (T.enc y).length -> k b w') : al T t w x fun b w1 => st T w1 b 0 y fun w2 => k b w2 := by
 rintro b w1 rfl rfl
 have hc : CanSt (w.alloc (.cells (T.enc x).toArray t)) w.heap.size 0 (T.enc y).length := CanSt.new (by simp [hl])
 refine ⟨hc, ?_⟩
 rintro w2 rfl
 exact h _ _ rfl (Gr.local ((Gr.refl w).alloc _) (Keeps.putL _ _ _ _) fun i e => by rw [e]; exact Nat.le_refl _) (CellsAt.put hc) (canSt_putL hc)
theorem al_i {α : Type} {T : Ty α} {t : TypeId} {w : World} {x : α} {k : Nat -> World -> Prop}
  (h : ∀ b w', b = w.heap.size -> Gr w w' -> CellsAt w' b 0 (T.enc x) -> CanSt w' b 0 (T.enc x).length -> k b w') : al T t w x k := by
 rintro b w1 rfl rfl
 exact h _ _ rfl ((Gr.refl w).alloc _) CellsAt.new (CanSt.new (by simp))
theorem st_i {α : Type} {T : Ty α} {w : World} {b o : Nat} {x : α} {k : World -> Prop} (hc : CanSt w b o (T.enc x).length)
  (h : ∀ w', w' = putL w b o (T.enc x) -> Keeps (· = b) w w' -> CellsAt w' b o (T.enc x) -> k w') : st T w b o x k :=
 ⟨hc, fun w' e => by subst e; exact h _ rfl (Keeps.putL _ _ _ _) (CellsAt.put hc)⟩
theorem dw_i {w : World} {k : World -> Prop} (h : ∀ w', w' = w.drew -> Gr w w' -> k w') : dw w k := fun w' e => by subst e; exact h _ rfl (Gr.refl w).drew'
theorem br_i {b : Bool} {x y : Prop} (ht : b = true -> x) (hf : b = false -> y) : br b x y := ⟨ht, hf⟩
theorem br_t {b : Bool} {x y : Prop} (hb : b = true) (ht : x) : br b x y := ⟨fun _ => ht, fun h => by rw [hb] at h; cases h⟩
theorem br_f {b : Bool} {x y : Prop} (hb : b = false) (hf : y) : br b x y := ⟨fun h => absurd (hb.symm.trans h) (by simp), fun _ => hf⟩
theorem ld_i {α : Type} {T : Ty α} {w : World} {b o : Nat} {x : α} {k : α -> Prop} (hc : CellsAt w b o (T.enc x)) (hk : k x) : ld T w b o k := ⟨x, hc, hk⟩
theorem loop1 {A : Type} (body : A -> World -> (A -> World -> Prop) -> Prop) (I : Nat -> A -> World -> Prop) {a : A} {w : World} (h0 : ∃ m, I m a w)
  (step : ∀ m x w (nxt : A -> World -> Prop), I m x w -> (∀ m' y w', m' < m -> I m' y w' -> nxt y w') -> body x w nxt) :
  ∃ I1 : Nat -> A -> World -> Prop, (∃ m, I1 m a w) /\ ∀ m x w, I1 m x w -> body x w (fun y w => ∃ m2, m2 < m /\ I1 m2 y w) :=
 ⟨I, h0, fun m x w h => step m x w _ h fun m' y w' hm hi => ⟨m', hm, hi⟩⟩
theorem loop2 {A B : Type} (body : A -> B -> World -> (A -> B -> World -> Prop) -> Prop) (I : Nat -> A -> B -> World -> Prop) {a : A} {b : B} {w : World} (h0 : ∃ m, I m a b w)
  (step : ∀ m x y w (nxt : A -> B -> World -> Prop), I m x y w -> (∀ m' x y w', m' < m -> I m' x y w' -> nxt x y w') -> body x y w nxt) :
  ∃ I1 : Nat -> A -> B -> World -> Prop, (∃ m, I1 m a b w) /\ ∀ m x y w, I1 m x y w -> body x y w (fun x y w => ∃ m2, m2 < m /\ I1 m2 x y w) :=
 ⟨I, h0, fun m x y w h => step m x y w _ h fun m' x y w' hm hi => ⟨m', hm, hi⟩⟩
theorem loop5 {A B C D E : Type} (body : A -> B -> C -> D -> E -> World -> (A -> B -> C -> D -> E -> World -> Prop) -> Prop) (I : Nat -> A -> B -> C -> D -> E -> World -> Prop) {a : A} {b : B} {c : C} {d : D} {e : E} {w : World} (h0 : ∃ m, I m a b c d e w)
  (step : ∀ m x y z u v w (nxt : A -> B -> C -> D -> E -> World -> Prop), I m x y z u v w -> (∀ m' x y z u v w', m' < m -> I m' x y z u v w' -> nxt x y z u v w') -> body x y z u v w nxt) :
  ∃ I1 : Nat -> A -> B -> C -> D -> E -> World -> Prop, (∃ m, I1 m a b c d e w) /\ ∀ m x y z u v w, I1 m x y z u v w -> body x y z u v w (fun x y z u v w => ∃ m2, m2 < m /\ I1 m2 x y z u v w) :=
 ⟨I, h0, fun m x y z u v w h => step m x y z u v w _ h fun m' x y z u v w' hm hi => ⟨m', hm, hi⟩⟩
def SlIs {α : Type} (T : Ty α) (D : Nat -> Prop) (w : World) (s : Sl) (xs : List α) : Prop :=
 s.len = xs.length /\ s.len <= s.cap /\ (xs = [] \/ ∃ b o, s.a = some ⟨b, o, none⟩ /\ D b /\ CellsAt w b o (xs.flatMap T.enc))
theorem SlIs.keeps {α : Type} {T : Ty α} {D S : Nat -> Prop} {w w' : World} {s : Sl} {xs : List α} (h : SlIs T D w s xs) (k : Keeps S w w') (hs : ∀ b, D b -> ¬ S b) : SlIs T D w' s xs := by
 refine ⟨h.1, h.2.1, ?_⟩
 rcases h.2.2 with h | ⟨b, o, ha, hd, hc⟩
 ·exact .inl h
 ·exact .inr ⟨b, o, ha, hd, hc.keeps k (hs b hd)⟩
theorem SlIs.gr {α : Type} {T : Ty α} {D : Nat -> Prop} {w w' : World} {s : Sl} {xs : List α} (h : SlIs T D w s xs) (k : Gr w w') : SlIs T D w' s xs := h.keeps k fun _ _ f => f
theorem SlIs.mono {α : Type} {T : Ty α} {D D' : Nat -> Prop} {w : World} {s : Sl} {xs : List α} (h : SlIs T D w s xs) (hd : ∀ b, D b -> D' b) : SlIs T D' w s xs := by
 refine ⟨h.1, h.2.1, ?_⟩
 rcases h.2.2 with h | ⟨b, o, ha, hb, hc⟩
 ·exact .inl h
 ·exact .inr ⟨b, o, ha, hd b hb, hc⟩
theorem SlIs.nil {α : Type} {T : Ty α} {D : Nat -> Prop} {w : World} : SlIs T D w nilSl [] := ⟨rfl, Nat.le_refl _, .inl rfl⟩
theorem flatMap_split {α : Type} {T : Ty α} {sz : Nat} (hz : ∀ x, (T.enc x).length = sz) : ∀ {xs : List α} {i : Nat} (hi : i < xs.length),
  ∃ pre post, xs.flatMap T.enc = pre ++ T.enc xs[i] ++ post /\ pre.length = i * sz
 | x :: r, 0, _ => ⟨[], r.flatMap T.enc, by simp, by simp⟩
 | x :: r, i + 1, h => by
  obtain ⟨pre, post, he, hl⟩ := flatMap_split hz (xs := r) (i := i) (by simpa using h)
  exact ⟨T.enc x ++ pre, post, by simp [he], by rw [List.length_append, hl, hz, Nat.succ_mul]; omega⟩
theorem SlIs.at {α : Type} {T : Ty α} {D : Nat -> Prop} {w : World} {s : Sl} {xs : List α} {sz : Nat} (hz : ∀ x, (T.enc x).length = sz) (h : SlIs T D w s xs) {i : Nat} (hi : i < xs.length) :
  ∃ b o, s.a = some ⟨b, o, none⟩ /\ D b /\ CellsAt w b (o + i * sz) (T.enc xs[i]) := by
 rcases h.2.2 with e | ⟨b, o, ha, hd, hc⟩
 ·subst e; simp at hi
 ·obtain ⟨pre, post, he, hl⟩ := flatMap_split hz hi
  rw [he, List.append_assoc, CellsAt.append, CellsAt.append, hl] at hc
  exact ⟨b, o, ha, hd, hc.2.1⟩
theorem SlIs.ixs {α : Type} {T : Ty α} {D : Nat -> Prop} {w : World} {s : Sl} {xs : List α} {k : Nat -> Nat -> Prop} (sz : Nat) (hz : ∀ x, (T.enc x).length = sz) (h : SlIs T D w s xs) {i : Int} (h0 : 0 <= i) (h1 : i.toNat < xs.length)
  (hk : ∀ b o, D b -> CellsAt w b (o + i.toNat * sz) (T.enc xs[i.toNat]) -> k b o) : ixs s i k := by
 obtain ⟨b, o, ha, hd, hc⟩ := h.at hz h1
 exact ⟨b, o, ha, h0, by have := h.1; omega, hk b o hd hc⟩
theorem SlIs.cells {α : Type} {T : Ty α} {D : Nat -> Prop} {w : World} {s : Sl} {xs : List α} {sz : Nat} (hz : ∀ x, (T.enc x).length = sz) (h : SlIs T D w s xs) : SlCells w sz s (xs.flatMap T.enc) := by
 have hl : (xs.flatMap T.enc).length = s.len * sz := by
  rw [h.1]
  clear h
  induction xs with
  | nil => simp
  | cons x r ih => simp only [List.flatMap_cons, List.length_append, hz, ih, List.length_cons, Nat.succ_mul]; omega
 refine ⟨hl, ?_⟩
 rcases h.2.2 with e | ⟨b, o, ha, _, hc⟩
 ·subst e; left; rw [<- hl]; rfl
 ·exact .inr ⟨b, o, ha, hc⟩
def OwnS {α : Type} (T : Ty α) (sz : Nat) (base : Nat) (w : World) (s : Sl) (xs : List α) : Prop :=
 s.len = xs.length /\ s.len <= s.cap /\ (s.cap = 0 \/ ∃ b, s.a = some ⟨b, 0, none⟩ /\ base <= b /\ CellsAt w b 0 (xs.flatMap T.enc) /\ CanSt w b 0 (s.cap * sz))
theorem OwnS.nil {α : Type} {T : Ty α} {sz base : Nat} {w : World} : OwnS T sz base w nilSl [] := ⟨rfl, Nat.le_refl _, .inl rfl⟩
theorem OwnS.keeps {α : Type} {T : Ty α} {sz base : Nat} {S : Nat -> Prop} {w w' : World} {s : Sl} {xs : List α} (h : OwnS T sz base w s xs) (k : Keeps S w w') (hs : ∀ b, base <= b -> ¬ S b) : OwnS T sz base w' s xs := by
 refine ⟨h.1, h.2.1, ?_⟩
 rcases h.2.2 with h | ⟨b, ha, hd, hc, hn⟩
 ·exact .inl h
 ·exact .inr ⟨b, ha, hd, hc.keeps k (hs b hd), hn.keeps k (hs b hd)⟩
theorem OwnS.gr {α : Type} {T : Ty α} {sz base : Nat} {w w' : World} {s : Sl} {xs : List α} (h : OwnS T sz base w s xs) (k : Gr w w') : OwnS T sz base w' s xs := h.keeps k fun _ _ f => f
theorem OwnS.mono {α : Type} {T : Ty α} {sz base base' : Nat} {w : World} {s : Sl} {xs : List α} (h : OwnS T sz base w s xs) (hb : base' <= base) : OwnS T sz base' w s xs := by
 refine ⟨h.1, h.2.1, ?_⟩
 rcases h.2.2 with h | ⟨b, ha, hd, hc, hn⟩
 ·exact .inl h
 ·exact .inr ⟨b, ha, Nat.le_trans hb hd, hc, hn⟩
theorem OwnS.is {α : Type} {T : Ty α} {sz base : Nat} {w : World} {s : Sl} {xs : List α} (h : OwnS T sz base w s xs) : SlIs T (base <= ·) w s xs := by
 refine ⟨h.1, h.2.1, ?_⟩
 rcases h.2.2 with h' | ⟨b, ha, hd, hc, _⟩
 ·left; have := h.1; have := h.2.1; exact List.length_eq_zero_iff.1 (by omega)
 ·exact .inr ⟨b, 0, ha, hd, hc⟩
theorem flatMap_len {α : Type} {T : Ty α} {sz : Nat} (hz : ∀ x, (T.enc x).length = sz) : ∀ (xs : List α), (xs.flatMap T.enc).length = xs.length * sz
 | [] => by simp
 | x :: r => by simp only [List.flatMap_cons, List.length_append, hz, flatMap_len hz r, List.length_cons, Nat.succ_mul]; omega
theorem OwnS.app {α : Type} {T : Ty α} {sz by' base : Nat} {e : TypeId} {w : World} {s r : Sl} {xs ys : List α} {K : Sl -> World -> Prop} {D : Nat -> Prop} (hz : ∀ x, (T.enc x).length = sz) (hp : ∀ x, ∀ v ∈ T.enc x, plain v = true)
  (h : OwnS T sz base w s xs) (hr : SlIs T D w r ys) (hb : base <= w.heap.size) (hcap : (xs.length + ys.length) * 4 * (by' + 1) <= 2 ^ 47)
  (k : ∀ s' w', Keeps (fun b => base <= b /\ ∃ o, s.a = some ⟨b, o, none⟩) w w' -> OwnS T sz base w' s' (xs ++ ys) -> K s' w') : app e sz by' w s r K := by
 refine ⟨xs.flatMap T.enc, ys.flatMap T.enc, h.is.cells hz, hr.cells hz, ?_, ?_, by rw [h.1, hr.1]; exact hcap, ?_⟩
 ·intro v hv
  obtain ⟨x, _, hx⟩ := List.mem_flatMap.1 hv
  exact hp x v hx
 ·intro hle
  rcases h.2.2 with hc | ⟨b, ha, _, _, hn⟩
  ·left
   have : r.len = 0 := by omega
   rw [this, Nat.zero_mul]
  ·refine .inr (.inr ⟨b, 0, ha, ?_⟩)
   refine hn.sub (s.len * sz) (r.len * sz) ?_
   rw [<- Nat.add_mul]
   exact Nat.mul_le_mul_right _ hle
 ·have hlen : (xs ++ ys).length = s.len + r.len := by rw [List.length_append, h.1, hr.1]
  rintro s' w' (⟨hle, rfl, hw⟩ | ⟨hgt, cap', rest, hle, hrest, rfl, rfl⟩)
  ·rcases h.2.2 with hc | ⟨b, ha, hd, hcc, hn⟩
   ·have hy : ys = [] := List.length_eq_zero_iff.1 (by have := hr.1; omega)
    subst hy
    have hw' : w' = w := by
     rcases hw with ⟨_, h⟩ | ⟨_, h⟩ | ⟨b, o, _, h⟩
     ·exact h
     ·exact h
     ·simpa [putL] using h
    subst hw'
    refine k _ _ (Keeps.refl _ _) ⟨hlen.symm, hle, .inl hc⟩
   ·have hw' : w' = putL w b (s.len * sz) (ys.flatMap T.enc) := by
     rcases hw with ⟨hy, h⟩ | ⟨h0, _⟩ | ⟨b', o', ha', h⟩
     ·rw [hy]; exact h
     ·rw [ha] at h0; cases h0
     ·rw [ha] at ha'; injection ha' with ha'; injection ha' with e1 e2; subst e1 e2; simpa using h
    have hyl : (ys.flatMap T.enc).length = r.len * sz := by rw [flatMap_len hz, hr.1]
    have hxl : (xs.flatMap T.enc).length = s.len * sz := by rw [flatMap_len hz, h.1]
    have hcn : CanSt w b (s.len * sz) (ys.flatMap T.enc).length := by
     have := hn.sub (s.len * sz) (ys.flatMap T.enc).length (by rw [hyl, <- Nat.add_mul]; exact Nat.mul_le_mul_right _ hle)
     simpa using this
    subst hw'
    refine k _ _ ((Keeps.putL _ _ _ _).mono fun i _ e => by subst e; exact ⟨hd, 0, ha⟩) ⟨hlen.symm, hle, .inr ⟨b, ha, hd, ?_, canSt_putL hn⟩⟩
    rw [List.flatMap_append, CellsAt.append, hxl, Nat.zero_add]
    exact ⟨CellsAt.put_other (.inl (by rw [hxl]; omega)) hcc, CellsAt.put hcn⟩
  ·refine k _ _ (((Gr.refl w).drew'.alloc _).keeps) ⟨hlen.symm, hle, .inr ⟨w.heap.size, rfl, hb, ?_, ?_⟩⟩
   ·refine CellsAt.new' (w := w.drew) fun j hj => ?_
    rw [<- List.flatMap_append]
    simp only [Nat.zero_add, List.getElem?_toArray]
    rw [List.getElem?_append_left hj]
   ·refine CanSt.new (w := w.drew) ?_
    simp only [List.size_toArray, List.length_append, flatMap_len hz, hrest, Nat.zero_add]
    rw [<- h.1, <- hr.1, <- Nat.add_mul, <- Nat.add_mul]
    exact Nat.mul_le_mul_right _ (by omega)
theorem alr_i {t : TypeId} {w : World} {cs : List Value} {k : Nat -> World -> Prop}
  (h : ∀ b w', b = w.heap.size -> Gr w w' -> CellsAt w' b 0 cs -> CanSt w' b 0 cs.length -> k b w') : alr t w cs k := by
 rintro b w1 rfl rfl
 exact h _ _ rfl ((Gr.refl w).alloc _) CellsAt.new (CanSt.new (by simp))
theorem getElem?_rep {α : Type} {T : Ty α} {sz : Nat} (hz : ∀ x, (T.enc x).length = sz) (x : α) : ∀ (n j : Nat), j < n * sz -> ((List.replicate n x).flatMap T.enc)[j]? = (T.enc x)[j % sz]?
  | 0, j, h => by simp at h
  | n + 1, j, h => by
    rw [List.replicate_succ, List.flatMap_cons]
    by_cases hj : j < sz
    · rw [List.getElem?_append_left (by rw [hz]; exact hj), Nat.mod_eq_of_lt hj]
    · rw [List.getElem?_append_right (by rw [hz]; omega), hz, getElem?_rep hz x n (j - sz) (by rw [Nat.succ_mul] at h; omega)]
      rw [show j % sz = (j - sz) % sz from by conv => lhs; rw [show j = (j - sz) + sz from by omega]
                                              rw [Nat.add_mod_right]]
theorem CellsAt.mkCells {α : Type} {T : Ty α} {t : TypeId} {sz : Nat} (hz : ∀ x, (T.enc x).length = sz) {w : World} {x : α} {n : Nat} :
    CellsAt (w.alloc (.cells (Sx.mkCells (T.enc x).toArray (n * sz)) t)) w.heap.size 0 ((List.replicate n x).flatMap T.enc) := by
  refine CellsAt.new' fun j hj => ?_
  rw [flatMap_len hz, List.length_replicate] at hj
  rw [getElem?_rep hz x n j hj]
  have hs : 0 < sz := by rcases Nat.eq_zero_or_pos sz with h | h
                         · rw [h] at hj; simp at hj
                         · exact h
  have hm : j % sz < (T.enc x).length := by rw [hz]; exact Nat.mod_lt _ hs
  unfold Sx.mkCells
  simp only [Nat.zero_add, Array.getElem?_map, List.size_toArray, hz]
  rw [show (Array.range (n * sz))[j]? = some j from by rw [Array.getElem?_eq_getElem (by simpa using hj)]; simp]
  simp [hm]
theorem mks_i {α : Type} {T : Ty α} {t : TypeId} {sz by' : Nat} {w : World} {z : α} {cs : Array Value} {l : Int} {k : Nat -> World -> Prop} (n : Nat) (hz : ∀ x, (T.enc x).length = sz) (hc : cs = (T.enc z).toArray) (hl : l = n) (hb : n * (by' + 1) <= 2 ^ 47)
    (h : ∀ b w', b = w.heap.size -> Gr w w' -> CellsAt w' b 0 ((List.replicate n z).flatMap T.enc) -> CanSt w' b 0 (n * sz) -> k b w') : mks t cs sz by' w l k := by
  subst hc hl
  refine ⟨by omega, by have : ((n * (by' + 1) : Nat) : Int) <= 2 ^ 47 := by exact_mod_cast hb
                       simpa using this, ?_⟩
  rintro b w1 rfl rfl
  rw [Int.toNat_natCast]
  exact h _ _ rfl ((Gr.refl w).alloc _) (CellsAt.mkCells hz) (CanSt.new (by simp [Sx.mkCells]))
theorem CellsAt.set {α : Type} {T : Ty α} {sz : Nat} (hz : ∀ x, (T.enc x).length = sz) {w : World} {b : Nat} {y : α} : ∀ {xs : List α} {o i : Nat}, i < xs.length -> CanSt w b (o + i * sz) sz -> CellsAt w b o (xs.flatMap T.enc) ->
  CellsAt (putL w b (o + i * sz) (T.enc y)) b o ((xs.set i y).flatMap T.enc)
 | x :: r, o, 0, h, hs, hc => by
  rw [List.flatMap_cons, CellsAt.append] at hc
  rw [List.set_cons_zero, List.flatMap_cons, CellsAt.append]
  simp only [Nat.zero_mul, Nat.add_zero] at hs ⊢
  refine ⟨CellsAt.put (by rw [hz]; exact hs), CellsAt.put_other (.inr ?_) (by rw [hz] at hc ⊢; exact hc.2)⟩
  rw [hz]; exact Nat.le_refl _
 | x :: r, o, i + 1, h, hs, hc => by
  rw [List.flatMap_cons, CellsAt.append] at hc
  rw [List.set_cons_succ, List.flatMap_cons, CellsAt.append]
  have e : o + (i + 1) * sz = o + sz + i * sz := by rw [Nat.succ_mul]; omega
  rw [e] at hs ⊢
  refine ⟨CellsAt.put_other (.inl ?_) hc.1, ?_⟩
  ·rw [hz]; omega
  ·rw [hz] at hc ⊢
   exact CellsAt.set hz (by simpa using h) hs hc.2
theorem CellsAt.setPart {α : Type} {T : Ty α} {sz j : Nat} (hz : ∀ x, (T.enc x).length = sz) {w : World} {b : Nat} {y : α} {us vs ts : List Value} : ∀ {xs : List α} {o i : Nat} (hi : i < xs.length), CanSt w b (o + i * sz) sz -> us.length = j ->
  T.enc y = us ++ vs ++ ts -> (∃ ms, T.enc xs[i] = us ++ ms ++ ts /\ ms.length = vs.length) -> CellsAt w b o (xs.flatMap T.enc) -> CellsAt (putL w b (o + i * sz + j) vs) b o ((xs.set i y).flatMap T.enc)
 | x :: r, o, 0, h, hs, hu, hy, ⟨ms, hm, hl⟩, hc => by
  subst hu
  have hlen : us.length + vs.length + ts.length = sz := by rw [<- hz y, hy]; simp; omega
  rw [List.flatMap_cons, CellsAt.append] at hc
  rw [List.set_cons_zero, List.flatMap_cons, CellsAt.append]
  simp only [List.getElem_cons_zero] at hm
  have hc1 := hc.1
  rw [hm, List.append_assoc, CellsAt.append, CellsAt.append] at hc1
  simp only [Nat.zero_mul, Nat.add_zero] at hs ⊢
  rw [hy]
  refine ⟨?_, CellsAt.put_other (.inr ?_) ?_⟩
  ·rw [List.append_assoc, CellsAt.append, CellsAt.append]
   refine ⟨CellsAt.put_other (.inl (by omega)) hc1.1, CellsAt.put (hs.sub _ _ (by omega)), CellsAt.put_other (.inr (by omega)) ?_⟩
   rw [hl] at hc1
   exact hc1.2.2
  ·simp only [List.length_append]; omega
  ·have h2 := hc.2
   rw [hz, <- hz y, hy] at h2
   exact h2
 | x :: r, o, i + 1, h, hs, hu, hy, hm, hc => by
  have hlen : us.length + vs.length + ts.length = sz := by rw [<- hz y, hy]; simp; omega
  rw [List.flatMap_cons, CellsAt.append] at hc
  rw [List.set_cons_succ, List.flatMap_cons, CellsAt.append]
  have e : o + (i + 1) * sz = o + sz + i * sz := by rw [Nat.succ_mul]; omega
  rw [e] at hs ⊢
  refine ⟨CellsAt.put_other (.inl ?_) hc.1, ?_⟩
  ·rw [hz]; omega
  ·rw [hz] at hc ⊢
   exact CellsAt.setPart hz (by simpa using h) hs hu hy (by simpa using hm) hc.2
theorem MapAt.lt {α : Type} {T : Ty α} {w : World} {r : Nat} {es : List (Int × α)} (h : MapAt T w r es) : r < w.heap.size := by
 obtain ⟨_, _, h, _⟩ := h; exact At.lt h
theorem MapAt.keeps {α : Type} {T : Ty α} {S : Nat -> Prop} {w w' : World} {r : Nat} {es : List (Int × α)} (h : MapAt T w r es) (k : Keeps S w w') (hs : ¬ S r) : MapAt T w' r es := by
 obtain ⟨a, b, h, g⟩ := h
 exact ⟨a, b, At.keeps h k hs, g⟩
theorem MapAt.gr {α : Type} {T : Ty α} {w w' : World} {r : Nat} {es : List (Int × α)} (h : MapAt T w r es) (k : Gr w w') : MapAt T w' r es := h.keeps k fun f => f
end Go.Sx
namespace Go.Sx
open Go
structure ACfg where
 bal : List Int
 slots : Int
 boost : Int
structure AVote where
 slot : Int
 head : Int
 src : G_api_Point
 tgt : G_api_Point
 who : List Int
structure AProof where
 a : AVote
 b : AVote
structure ABlock where
 root : Int
 parent : Int
 slot : Int
 votes : List AVote
 proofs : List AProof
structure AEvent where
 kind : Int
 slot : Int
 block : ABlock
 vote : AVote
 proof : AProof
structure ALed where
 just : G_justify_State
 epoch : Int
 before : List Bool
 now : List Bool
def epochOf (slot slots : Int) : Int := max 0 slot / max 1 slots
def epochStart (e slots : Int) : Int := max 0 e * max 1 slots
theorem epochOf_nonneg (a b : Int) : 0 <= epochOf a b := Int.ediv_nonneg (by omega) (by omega)
theorem epochOf_le (a b : Int) : epochOf a b <= max 0 a := Int.ediv_le_self _ (by omega)
theorem epochStart_of (a b : Int) : epochStart (epochOf a b) b <= max 0 a := by
 unfold epochStart
 rw [Int.max_eq_right (epochOf_nonneg a b)]
 unfold epochOf
 exact Int.ediv_mul_le _ (by omega)
def enough (some all : Int) : Bool := decide (all > 0) && decide (some ≥ 2 * (all / 3) + (2 * (all % 3) + 2) / 3)
def okBal (c : ACfg) : Prop := c.bal.length <= 12 /\ ∀ b ∈ c.bal, 0 <= b /\ b <= 4294967296
def mayCfg (c : ACfg) : Bool :=
 decide (1 <= c.bal.length) && decide (c.bal.length <= 4096) && decide (1 <= c.slots) && decide (c.slots <= 64) && decide (0 <= c.boost) && decide (c.boost <= 100) && c.bal.all fun b => decide (b <= 4294967296)
def sumOf (bal : List Int) : List Int -> Int
 | [] => 0
 | k :: r => (if 0 <= k /\ k < bal.length then bal.getD k.toNat 0 else 0) + sumOf bal r
def totalOf (bal : List Int) : Int := bal.sum
def rising (n : Nat) : Option Int -> List Int -> Bool
 | _, [] => true
 | p, w :: r => decide (0 <= w) && decide (w < n) && (match p with | some q => decide (q < w) | none => true) && rising n (some w) r
def voteRight (c : ACfg) (v : AVote) : Bool :=
 decide (v.who ≠ []) && decide (0 <= v.slot) && decide (0 <= v.src.Epoch) && decide (v.src.Epoch <= v.tgt.Epoch) && decide (v.tgt.Epoch = epochOf v.slot c.slots) && rising c.bal.length none v.who
def ptEq (a b : G_api_Point) : Bool := a.Epoch == b.Epoch && a.Root == b.Root
def voteSame (a b : AVote) : Bool := a.slot == b.slot && a.head == b.head && ptEq a.src b.src && ptEq a.tgt b.tgt
def double (a b : AVote) : Bool := a.tgt.Epoch == b.tgt.Epoch && !voteSame a b
def around (a b : AVote) : Bool := decide (a.src.Epoch < b.src.Epoch) && decide (b.tgt.Epoch < a.tgt.Epoch)
def badVotes (a b : AVote) : Bool := double a b || around a b || around b a
def bothOf (a b : AVote) : List Int := a.who.filter fun w => b.who.contains w
def proofWho (c : ACfg) (p : AProof) : Option (List Int) :=
 if voteRight c p.a && voteRight c p.b && badVotes p.a p.b && (bothOf p.a p.b).length != 0 then some (bothOf p.a p.b) else none
end Go.Sx
namespace Go.Sx
open Go
structure ATree where
 first : Int
 nodes : List (Int × G_tree_node)
namespace ATree
def get (t : ATree) (r : Int) : Option G_tree_node := mget t.nodes r
def has (t : ATree) (r : Int) : Bool := (t.get r).isSome
structure Wf (t : ATree) : Prop where
 nodup : (t.nodes.map (·.1)).Nodup
 base : ∃ n, t.get t.first = some n
 par : ∀ r n, t.get r = some n -> r ≠ t.first -> ∃ p, t.get n.parent = some p /\ p.slot < n.slot /\ n.height = p.height + 1
 slot : ∀ r n, t.get r = some n -> 0 <= n.slot /\ n.slot <= 1099511627776 /\ 0 <= n.height /\ n.height <= n.slot
 small : t.nodes.length <= 1024
def up (t : ATree) (s : Int) : Nat -> Int -> Int
 | 0, r => r
 | k + 1, r => match t.get r with
  | some n => if r ≠ t.first /\ n.slot > s then up t s k n.parent else r
  | none => r
def atS (t : ATree) (r s : Int) : Int :=
 match t.get r with
 | none => 0
 | some n => t.up s (n.slot.toNat + 1) r
theorem up_enough {t : ATree} (h : t.Wf) (s : Int) : ∀ (k : Nat) {r : Int} {n : G_tree_node}, t.get r = some n -> n.slot.toNat < k -> t.up s k r = t.up s (n.slot.toNat + 1) r
 | 0, r, n, hr, hk => by omega
 | k + 1, r, n, hr, hk => by
  simp only [up, hr]
  split
  ·rename_i hc
   obtain ⟨p, hp, hps, _⟩ := h.par r n hr hc.1
   have h0 := (h.slot _ _ hp).1
   rw [up_enough h s k hp (by omega), up_enough h s n.slot.toNat hp (by omega)]
  ·rfl
theorem atS_eq {t : ATree} (h : t.Wf) {r s : Int} {n : G_tree_node} (hr : t.get r = some n) : t.atS r s = if r ≠ t.first /\ n.slot > s then t.atS n.parent s else r := by
 have e : t.atS r s = t.up s (n.slot.toNat + 1) r := by simp only [atS, hr]
 rw [e]
 simp only [up, hr]
 split
 ·rename_i hc
  obtain ⟨p, hp, hps, _⟩ := h.par r n hr hc.1
  have h0 := (h.slot _ _ hp).1
  rw [up_enough h s _ hp (by omega)]
  simp only [atS, hp]
 ·rfl
theorem atS_none {t : ATree} {r s : Int} (hr : t.get r = none) : t.atS r s = 0 := by simp only [atS, hr]
def below (t : ATree) (r on : Int) : Bool :=
 match t.get on with
 | none => false
 | some n => t.has r && t.atS r n.slot == on
def one (root slot : Int) : ATree := ⟨root, [(root, ⟨root, slot, 0⟩)]⟩
def add (t : ATree) (root parent slot : Int) : Int × ATree :=
 if t.has root then (6, t) else
 match t.get parent with
 | none => (5, t)
 | some p => if slot <= p.slot then (7, t) else if t.nodes.length ≥ 1024 then (12, t) else (0, ⟨t.first, mput t.nodes root ⟨parent, slot, p.height + 1⟩⟩)
end ATree
def lgetD (es : List G_latest_Entry) (k : Int) : G_latest_Entry := es.getD k.toNat ⟨false, 0, 0, false⟩
def lget (es : List G_latest_Entry) (k : Int) : Int × Bool :=
 if 0 <= k /\ k < es.length /\ (lgetD es k).Has = true /\ (lgetD es k).Banned = false then ((lgetD es k).Root, true) else (0, false)
def lcanTake (es : List G_latest_Entry) (k epoch : Int) : Bool :=
 decide (0 <= k) && decide (k < es.length) && !(lgetD es k).Banned && !((lgetD es k).Has && decide (epoch <= (lgetD es k).Epoch))
def ltake (es : List G_latest_Entry) (k epoch root : Int) : List G_latest_Entry :=
 if lcanTake es k epoch then es.set k.toNat ⟨true, epoch, root, false⟩ else es
def lcanBan (es : List G_latest_Entry) (k : Int) : Bool := decide (0 <= k) && decide (k < es.length) && !(lgetD es k).Banned
def lban (es : List G_latest_Entry) (k : Int) : List G_latest_Entry :=
 if lcanBan es k then es.set k.toNat { lgetD es k with Banned := true } else es
theorem lban_length (es : List G_latest_Entry) (k : Int) : (lban es k).length = es.length := by unfold lban; split <;> simp
theorem ltake_length (es : List G_latest_Entry) (k e r : Int) : (ltake es k e r).length = es.length := by unfold ltake; split <;> simp
end Go.Sx
namespace Go.Proofs.Ytdefmgkicdhmkaa
open Go Go.Sx
set_option linter.unusedVariables false
theorem c_epoch_Of {a b : Int} {Q : QW} {w : World} (ha : I64 a) (h : Q (.int .i64 (epochOf a b)) w) : CallsR PP n_f41 #[.int .i64 a, .int .i64 b] Q w := by
 refine so_f41 _ _ ?_
 refine ⟨by split <;> omega, ?_⟩
 have e : IntKind.i64.wrap (Int.tdiv (if a > 0 then a else 0) (if b > 1 then b else 1)) = epochOf a b := by
  have e1 : (if a > 0 then a else 0) = max 0 a := by split <;> omega
  have e2 : (if b > 1 then b else 1) = max 1 b := by split <;> omega
  rw [e1, e2, Int.tdiv_eq_ediv_of_nonneg (by omega)]
  have h0 := epochOf_nonneg a b
  have h1 := epochOf_le a b
  unfold epochOf at h0 h1 ⊢
  unfold I64 at ha
  exact wrap_i64 (by omega) (by omega)
 rw [e]; exact h
theorem c_epoch_Start {a b : Int} {Q : QW} {w : World} (ha : I64 (epochStart a b)) (h : Q (.int .i64 (epochStart a b)) w) : CallsR PP n_f53 #[.int .i64 a, .int .i64 b] Q w := by
 refine so_f53 _ _ ?_
 unfold sh_f53
 have e1 : (if a > 0 then a else 0) = max 0 a := by split <;> omega
 have e2 : (if b > 1 then b else 1) = max 1 b := by split <;> omega
 rw [e1, e2]
 have e : IntKind.i64.wrap (max 0 a * max 1 b) = epochStart a b := wrap_i64 ha.1 ha.2
 rw [e]
 exact h
theorem c_quorum_Enough {a b : Int} {Q : QW} {w : World} (hb : 0 <= b /\ b <= 17592186044416) (h : Q (.bool (enough a b)) w) : CallsR PP n_f44 #[.int .u64 a, .int .u64 b] Q w := by
 refine so_f44 _ _ ?_
 unfold sh_f44 sh_f44_j1
 refine br_i (fun hb0 => ?_) (fun hb0 => ?_)
 ·have hb0 : 0 < b := by simpa using hb0
  have e : IntKind.u64.wrap (IntKind.u64.wrap (2 * IntKind.u64.wrap (b.tdiv 3)) + IntKind.u64.wrap ((IntKind.u64.wrap (IntKind.u64.wrap (2 * b.tmod 3) + 2)).tdiv 3)) = 2 * (b / 3) + (2 * (b % 3) + 2) / 3 := by
   rw [Int.tdiv_eq_ediv_of_nonneg hb.1, Int.tmod_eq_emod_of_nonneg hb.1]
   rw [wrap_u64 (n := b / 3) (by omega) (by omega), wrap_u64 (n := 2 * (b / 3)) (by omega) (by omega), wrap_u64 (n := 2 * (b % 3)) (by omega) (by omega), wrap_u64 (n := 2 * (b % 3) + 2) (by omega) (by omega)]
   rw [Int.tdiv_eq_ediv_of_nonneg (by omega), wrap_u64 (n := (2 * (b % 3) + 2) / 3) (by omega) (by omega), wrap_u64 (by omega) (by omega)]
  rw [e]
  have : enough a b = decide (a ≥ 2 * (b / 3) + (2 * (b % 3) + 2) / 3) := by
   unfold enough
   rw [decide_eq_true (show b > 0 from hb0), Bool.true_and]
  rw [<- this]; exact h
 ·have hb0 : ¬ b > 0 := by simpa using hb0
  have : enough a b = false := by
   unfold enough
   rw [decide_eq_false hb0, Bool.false_and]
  rw [<- this]; exact h
theorem eq_pt (a b : G_api_Point) : eq_api_Point a b = ptEq a b := by simp [eq_api_Point, ptEq]
structure VoteIs (D : Nat -> Prop) (w : World) (g : G_api_Vote) (v : AVote) : Prop where
 slot : g.Slot = v.slot
 head : g.Head = v.head
 src : g.Source = v.src
 tgt : g.Target = v.tgt
 who : SlIs tI64 D w g.Who v.who
 islot : I64 v.slot
 itgt : I64 v.tgt.Epoch
 iwho : ∀ k ∈ v.who, I64 k
 len : v.who.length <= 281474976710656
theorem VoteIs.keeps {D S : Nat -> Prop} {w w' : World} {g : G_api_Vote} {v : AVote} (h : VoteIs D w g v) (k : Keeps S w w') (hs : ∀ b, D b -> ¬ S b) : VoteIs D w' g v :=
 { h with who := h.who.keeps k hs }
theorem VoteIs.gr {D : Nat -> Prop} {w w' : World} {g : G_api_Vote} {v : AVote} (h : VoteIs D w g v) (k : Gr w w') : VoteIs D w' g v := h.keeps k fun _ _ f => f
structure CfgIs (D : Nat -> Prop) (w : World) (g : G_api_Config) (c : ACfg) : Prop where
 slots : g.Slots = c.slots
 boost : g.Boost = c.boost
 bal : SlIs tU64 D w g.Balances c.bal
 islots : I64 c.slots
 iboost : I64 c.boost
theorem CfgIs.keeps {D S : Nat -> Prop} {w w' : World} {g : G_api_Config} {v : ACfg} (h : CfgIs D w g v) (k : Keeps S w w') (hs : ∀ b, D b -> ¬ S b) : CfgIs D w' g v :=
 { h with bal := h.bal.keeps k hs }
theorem CfgIs.gr {D : Nat -> Prop} {w w' : World} {g : G_api_Config} {v : ACfg} (h : CfgIs D w g v) (k : Gr w w') : CfgIs D w' g v := h.keeps k fun _ _ f => f
theorem c_vote_Same {D D' : Nat -> Prop} {ga gb : G_api_Vote} {a b : AVote} {Q : QW} {w : World} (ha : VoteIs D w ga a) (hb : VoteIs D' w gb b)
  (h : ∀ w', Gr w w' -> Q (.bool (voteSame a b)) w') : CallsR PP n_f63 #[t_api_Vote.val ga, t_api_Vote.val gb] Q w := by
 refine so_f63 _ _ ?_
 unfold sh_f63 sh_f63_j1
 refine al_i fun b1 w1 e1 g1 c1 _ => al_i fun b2 w2 e2 g2 c2 _ => ?_
 replace c1 := c1.gr g2
 have h := h w2 (g1.trans g2)
 refine ld_i (x := ga.Slot) (c1.sub 0 1) (ld_i (x := gb.Slot) (c2.sub 0 1) ?_)
 refine br_i (fun h1 => ?_) (fun h1 => ?_)
 ·refine ld_i (x := ga.Head) (c1.sub 1 1) (ld_i (x := gb.Head) (c2.sub 1 1) ?_)
  refine br_i (fun h2 => ?_) (fun h2 => ?_)
  ·refine ld_i (x := ga.Source) (c1.sub 2 2) (ld_i (x := gb.Source) (c2.sub 2 2) ?_)
   refine br_i (fun h3 => ?_) (fun h3 => ?_)
   ·refine ld_i (x := ga.Target) (c1.sub 4 2) (ld_i (x := gb.Target) (c2.sub 4 2) ?_)
    rw [eq_pt] at h3 ⊢
    rw [ha.slot, hb.slot] at h1; rw [ha.head, hb.head] at h2; rw [ha.src, hb.src] at h3; rw [ha.tgt, hb.tgt]
    have e : voteSame a b = ptEq a.tgt b.tgt := by unfold voteSame; rw [h1, h2, h3]; rfl
    rw [e] at h; exact h
   ·rw [eq_pt] at h3
    rw [ha.src, hb.src] at h3
    have e : voteSame a b = false := by unfold voteSame; rw [h3]; simp
    rw [e] at h; exact h
  ·rw [ha.head, hb.head] at h2
   have e : voteSame a b = false := by unfold voteSame; rw [h2]; simp
   rw [e] at h; exact h
 ·rw [ha.slot, hb.slot] at h1
  have e : voteSame a b = false := by unfold voteSame; rw [h1]; simp
  rw [e] at h; exact h
theorem c_vote_Right {D D' : Nat -> Prop} {gc : G_api_Config} {c : ACfg} {gv : G_api_Vote} {v : AVote} {Q : QW} {w : World} (hc : CfgIs D w gc c) (hv : VoteIs D' w gv v)
  (h : ∀ w', Gr w w' -> Q (.bool (voteRight c v)) w') : CallsR PP n_f36 #[t_api_Config.val gc, t_api_Vote.val gv] Q w := by
 refine so_f36 _ _ ?_
 unfold sh_f36
 refine al_i fun b1 w1 e1 g1 c1 _ => al_i fun b2 w2 e2 g2 c2 _ => dw_i fun w3 e3 g3 => ?_
 replace c1 := c1.gr (g2.trans g3)
 replace c2 := c2.gr g3
 have h := h w3 (g1.trans (g2.trans g3))
 have hc := hc.gr (g1.trans (g2.trans g3))
 have hv := hv.gr (g1.trans (g2.trans g3))
 clear g1 g2 g3 e1 e2 e3
 have hl : gv.Who.len = v.who.length := hv.who.1
 have hF : ∀ {x : Bool}, x = true -> voteRight c v = false -> sh_f36_j1 Q b1 b2 x w3 := by
  rintro x rfl e
  unfold sh_f36_j1
  rw [e] at h
  exact br_t rfl h
 refine ld_i (x := gv.Who) (c2.sub 6 1) (br_i (fun h1 => hF rfl ?_) (fun h1 => ?_))
 ·have : v.who = [] := by rw [hl] at h1; exact List.length_eq_zero_iff.1 (by simpa using h1)
  unfold voteRight; simp [this]
 have n1 : v.who ≠ [] := by
  intro e; rw [hl, e] at h1; simp at h1
 refine ld_i (x := gv.Slot) (c2.sub 0 1) (br_i (fun h2 => hF rfl ?_) (fun h2 => ?_))
 ·rw [hv.slot] at h2
  have : ¬ 0 <= v.slot := by simpa using h2
  unfold voteRight; rw [decide_eq_false this]; simp
 rw [hv.slot] at h2
 have n2 : 0 <= v.slot := by simpa using h2
 refine ld_i (x := gv.Source.Epoch) (c2.sub 2 1) (br_i (fun h3 => hF rfl ?_) (fun h3 => ?_))
 ·rw [hv.src] at h3
  have : ¬ 0 <= v.src.Epoch := by simpa using h3
  unfold voteRight; rw [decide_eq_false this]; simp
 rw [hv.src] at h3
 have n3 : 0 <= v.src.Epoch := by simpa using h3
 refine ld_i (x := gv.Source.Epoch) (c2.sub 2 1) (ld_i (x := gv.Target.Epoch) (c2.sub 4 1) (br_i (fun h4 => hF rfl ?_) (fun h4 => ?_)))
 ·rw [hv.src, hv.tgt] at h4
  have : ¬ v.src.Epoch <= v.tgt.Epoch := by simpa using h4
  unfold voteRight; rw [decide_eq_false this]; simp
 rw [hv.src, hv.tgt] at h4
 have n4 : v.src.Epoch <= v.tgt.Epoch := by simpa using h4
 refine ld_i (x := gv.Target.Epoch) (c2.sub 4 1) (ld_i (x := gv.Slot) (c2.sub 0 1) (ld_i (x := gc.Slots) (c1.sub 1 1) ?_))
 rw [hv.slot, hc.slots]
 refine c_epoch_Of hv.islot ⟨_, rfl, c2.sub 4 1, ?_⟩
 by_cases n5 : v.tgt.Epoch ≠ epochOf v.slot c.slots
 ·refine hF ?_ ?_
  ·rw [hv.tgt]; simpa using n5
  ·unfold voteRight; rw [decide_eq_false n5]; simp
 have n5 := Classical.not_not.1 n5
 have hR : voteRight c v = rising c.bal.length none v.who := by
  unfold voteRight
  rw [decide_eq_true n1, decide_eq_true n2, decide_eq_true n3, decide_eq_true n4, decide_eq_true n5]; rfl
 rw [hR] at h
 unfold sh_f36_j1
 refine br_f (by rw [hv.tgt]; simpa using n5) ?_
 refine ld_i (x := gv.Who) (c2.sub 6 1) ?_
 refine loop1 (sh_f36_b2 Q b1 b2 gv.Who) (fun m i w' => w' = w3 /\ 0 <= i /\ i.toNat <= v.who.length /\ m = v.who.length - i.toNat /\
  rising c.bal.length none v.who = rising c.bal.length (if i.toNat = 0 then none else v.who[i.toNat - 1]?) (v.who.drop i.toNat)) ⟨_, rfl, by omega, by simp, rfl, rfl⟩ ?_
 rintro m i w' nxt ⟨rfl, h0, hi, rfl, hr⟩ hn
 unfold sh_f36_b2
 have hcl : gc.Balances.len = c.bal.length := hc.bal.1
 refine br_i (fun hlt => ?_) (fun hge => ?_)
 ·rw [hl] at hlt
  have hlt : i < v.who.length := by simpa using hlt
  have hi' : i.toNat < v.who.length := by omega
  refine hv.who.ixs 1 (fun _ => rfl) h0 hi' fun b o _ hcell => ld_i (x := v.who[i.toNat]) hcell ?_
  rw [List.drop_eq_getElem_cons hi'] at hr
  have hx := hv.iwho _ (List.getElem_mem hi')
  have hg : v.who[i.toNat]? = some v.who[i.toNat] := List.getElem?_eq_getElem hi'
  generalize v.who[i.toNat] = x at hr hx hg
  have hF2 : ∀ {q : Bool}, q = true -> rising c.bal.length none v.who = false -> sh_f36_j3 Q i nxt q w' := by
   rintro q rfl e
   rw [e] at h
   exact br_t rfl h
  have hlen := hv.len
  refine br_i (fun a1 => hF2 rfl ?_) (fun a1 => ?_)
  ·have a1 : ¬ 0 <= x := by simpa using a1
   rw [hr]; unfold rising; rw [decide_eq_false a1]; simp
  have a1 : 0 <= x := by simpa using a1
  refine ld_i (x := gc.Balances) (c1.sub 0 1) (br_i (fun a2 => hF2 rfl ?_) (fun a2 => ?_))
  ·rw [hcl] at a2
   have a2 : ¬ x < c.bal.length := by simpa using a2
   rw [hr]; unfold rising; rw [decide_eq_false a2]; simp
  rw [hcl] at a2
  have a2 : x < c.bal.length := by simpa using a2
  have next : rising c.bal.length none v.who = rising c.bal.length (some x) (v.who.drop (i.toNat + 1)) -> sh_f36_j3 Q i nxt false w' := by
   intro e
   refine br_f rfl ?_
   rw [wrap_i64 (n := i + 1) (by omega) (by omega)]
   have et : (i + 1).toNat = i.toNat + 1 := by omega
   refine hn (v.who.length - (i.toNat + 1)) _ _ (by omega) ⟨rfl, by omega, by omega, by rw [et], ?_⟩
   rw [et, e, if_neg (by omega), Nat.add_sub_cancel, hg]
  refine br_i (fun a3 => ?_) (fun a3 => ?_)
  ·have a3 : 0 < i := by simpa using a3
   rw [wrap_i64 (n := i - 1) (by omega) (by omega)]
   have hp : (i - 1).toNat < v.who.length := by omega
   refine ld_i (x := gv.Who) (c2.sub 6 1) (hv.who.ixs 1 (fun _ => rfl) (by omega) hp fun b o _ hcell => ld_i (x := v.who[(i - 1).toNat]) hcell ?_)
   rw [if_neg (by omega), show i.toNat - 1 = (i - 1).toNat from by omega, List.getElem?_eq_getElem hp] at hr
   generalize v.who[(i - 1).toNat] = p at hr
   by_cases hxp : x <= p
   ·rw [decide_eq_true hxp]
    refine hF2 rfl ?_
    rw [hr, rising]
    show (_ && decide (p < x) && _) = _
    rw [decide_eq_false (show ¬ p < x by omega)]; simp
   ·rw [decide_eq_false hxp]
    refine next ?_
    rw [hr, rising, decide_eq_true a1, decide_eq_true a2]
    show (true && true && decide (p < x) && _) = _
    rw [decide_eq_true (show p < x by omega)]; rfl
  ·have a3 : ¬ 0 < i := by simpa using a3
   refine next ?_
   rw [hr, if_pos (by omega), rising, decide_eq_true a1, decide_eq_true a2]; simp
 ·rw [hl] at hge
  have : ¬ i < v.who.length := by simpa using hge
  have e : v.who.drop i.toNat = [] := List.drop_eq_nil_of_le (by omega)
  rw [e] at hr
  rw [hr] at h
  unfold sh_f36_j4
  simpa [rising] using h
theorem c_slash_Double {D D' : Nat -> Prop} {ga gb : G_api_Vote} {a b : AVote} {Q : QW} {w : World} (ha : VoteIs D w ga a) (hb : VoteIs D' w gb b)
  (h : ∀ w', Gr w w' -> Q (.bool (double a b)) w') : CallsR PP n_f56 #[t_api_Vote.val ga, t_api_Vote.val gb] Q w := by
 refine so_f56 _ _ ?_
 unfold sh_f56 sh_f56_j1
 refine al_i fun b1 w1 e1 g1 c1 _ => al_i fun b2 w2 e2 g2 c2 _ => ?_
 replace c1 := c1.gr g2
 refine ld_i (x := ga.Target.Epoch) (c1.sub 4 1) (ld_i (x := gb.Target.Epoch) (c2.sub 4 1) ?_)
 rw [ha.tgt, hb.tgt]
 refine br_i (fun h1 => ?_) (fun h1 => ?_)
 ·refine ld_i (x := ga) c1 (ld_i (x := gb) c2 ?_)
  refine c_vote_Same (ha.gr (g1.trans g2)) (hb.gr (g1.trans g2)) fun w3 g3 => ⟨_, rfl, ?_⟩
  have := h w3 (g1.trans (g2.trans g3))
  unfold double at this; rw [h1] at this; exact this
 ·have := h w2 (g1.trans g2)
  unfold double at this; rw [h1] at this; exact this
theorem c_slash_Around {D D' : Nat -> Prop} {ga gb : G_api_Vote} {a b : AVote} {Q : QW} {w : World} (ha : VoteIs D w ga a) (hb : VoteIs D' w gb b)
  (h : ∀ w', Gr w w' -> Q (.bool (around a b)) w') : CallsR PP n_f57 #[t_api_Vote.val ga, t_api_Vote.val gb] Q w := by
 refine so_f57 _ _ ?_
 unfold sh_f57 sh_f57_j1
 refine al_i fun b1 w1 e1 g1 c1 _ => al_i fun b2 w2 e2 g2 c2 _ => ?_
 replace c1 := c1.gr g2
 have h := h w2 (g1.trans g2)
 refine ld_i (x := ga.Source.Epoch) (c1.sub 2 1) (ld_i (x := gb.Source.Epoch) (c2.sub 2 1) ?_)
 rw [ha.src, hb.src]
 unfold around at h
 refine br_i (fun h1 => ?_) (fun h1 => ?_)
 ·refine ld_i (x := gb.Target.Epoch) (c2.sub 4 1) (ld_i (x := ga.Target.Epoch) (c1.sub 4 1) ?_)
  rw [ha.tgt, hb.tgt]
  rw [h1] at h; exact h
 ·rw [h1] at h; exact h
theorem c_slash_Bad {D D' : Nat -> Prop} {ga gb : G_api_Vote} {a b : AVote} {Q : QW} {w : World} (ha : VoteIs D w ga a) (hb : VoteIs D' w gb b)
  (h : ∀ w', Gr w w' -> Q (.bool (badVotes a b)) w') : CallsR PP n_f37 #[t_api_Vote.val ga, t_api_Vote.val gb] Q w := by
 refine so_f37 _ _ ?_
 unfold sh_f37 sh_f37_j1
 refine al_i fun b1 w1 e1 g1 c1 _ => al_i fun b2 w2 e2 g2 c2 _ => ?_
 replace c1 := c1.gr g2
 have g := g1.trans g2
 refine ld_i (x := ga) c1 (ld_i (x := gb) c2 (c_slash_Double (ha.gr g) (hb.gr g) fun w3 g3 => ⟨_, rfl, ?_⟩))
 replace g := g.trans g3
 replace c1 := c1.gr g3; replace c2 := c2.gr g3
 unfold badVotes at h
 refine br_i (fun h1 => ?_) (fun h1 => ?_)
 ·have h := h w3 g; rw [h1] at h; exact h
 rw [h1, Bool.false_or] at h
 refine ld_i (x := ga) c1 (ld_i (x := gb) c2 (c_slash_Around (ha.gr g) (hb.gr g) fun w4 g4 => ⟨_, rfl, ?_⟩))
 replace g := g.trans g4
 replace c1 := c1.gr g4; replace c2 := c2.gr g4
 refine br_i (fun h2 => ?_) (fun h2 => ?_)
 ·have h := h w4 g; rw [h2] at h; exact h
 rw [h2, Bool.false_or] at h
 refine ld_i (x := gb) c2 (ld_i (x := ga) c1 (c_slash_Around (hb.gr g) (ha.gr g) fun w5 g5 => ⟨_, rfl, ?_⟩))
 exact h w5 (g.trans g5)
theorem okSum {bal : List Int} (hb : ∀ b ∈ bal, 0 <= b /\ b <= 4294967296) : ∀ (who : List Int), 0 <= sumOf bal who /\ sumOf bal who <= 4294967296 * who.length
 | [] => by simp [sumOf]
 | k :: r => by
  have ih := okSum hb r
  have : 0 <= bal.getD k.toNat 0 /\ bal.getD k.toNat 0 <= 4294967296 := by
   rw [List.getD_eq_getElem?_getD]
   cases h : bal[k.toNat]? with
   | none => simp
   | some b => exact hb b (List.mem_of_getElem? h)
  simp only [sumOf, List.length_cons]
  split <;> omega
theorem c_config_Sum {D D' : Nat -> Prop} {gc : G_api_Config} {c : ACfg} {s : Sl} {who : List Int} {Q : QW} {w : World} (hc : CfgIs D w gc c) (hok : okBal c) (hs : SlIs tI64 D' w s who) (hl : who.length <= 1000000)
  (h : ∀ w', Gr w w' -> Q (.int .u64 (sumOf c.bal who)) w') : CallsR PP n_f45 #[t_api_Config.val gc, .slice s.a s.len s.cap] Q w := by
 refine so_f45 _ _ ?_
 unfold sh_f45
 refine al_i fun b1 w1 e1 g1 c1 _ => ?_
 have h := h w1 g1
 have hc := hc.gr g1
 have hs := hs.gr g1
 have hcl : gc.Balances.len = c.bal.length := hc.bal.1
 refine loop2 (sh_f45_b1 s Q b1) (fun m x i w' => w' = w1 /\ 0 <= i /\ i.toNat <= who.length /\ m = who.length - i.toNat /\ 0 <= x /\ x <= 4294967296 * i /\ sumOf c.bal who = x + sumOf c.bal (who.drop i.toNat))
  ⟨_, rfl, by omega, by simp, rfl, by omega, by omega, by simp⟩ ?_
 rintro m x i w' nxt ⟨rfl, h0, hi, rfl, hx0, hx1, hr⟩ hn
 unfold sh_f45_b1
 rw [hs.1]
 refine br_i (fun hlt => ?_) (fun hge => ?_)
 ·have hlt : i < who.length := by simpa using hlt
  have hi' : i.toNat < who.length := by omega
  refine hs.ixs 1 (fun _ => rfl) h0 hi' fun b o _ hcell => ld_i (x := who[i.toNat]) hcell ?_
  rw [List.drop_eq_getElem_cons hi', sumOf] at hr
  generalize who[i.toNat] = k at hr
  have next : ∀ y, y = x + (if 0 <= k /\ k < c.bal.length then c.bal.getD k.toNat 0 else 0) -> sh_f45_j3 i nxt y w' := by
   intro y e
   unfold sh_f45_j3
   rw [wrap_i64 (n := i + 1) (by omega) (by omega)]
   have et : (i + 1).toNat = i.toNat + 1 := by omega
   have hb : 0 <= (if 0 <= k /\ k < c.bal.length then c.bal.getD k.toNat 0 else 0) /\ (if 0 <= k /\ k < c.bal.length then c.bal.getD k.toNat 0 else 0) <= 4294967296 := by
    have := okSum hok.2 [k]
    simpa [sumOf] using this
   refine hn (who.length - (i.toNat + 1)) _ _ _ (by omega) ⟨rfl, by omega, by omega, by rw [et], by omega, by omega, ?_⟩
   rw [et, hr, e]; omega
  have other : ¬ (0 <= k /\ k < c.bal.length) -> sh_f45_j2 b1 x i nxt k false w' := by
   intro hk
   unfold sh_f45_j2
   refine br_f rfl (next x ?_)
   rw [if_neg hk]; omega
  refine br_i (fun a1 => ?_) (fun a1 => ?_)
  ·have a1 : k ≥ 0 := by simpa using a1
   refine ld_i (x := gc.Balances) (c1.sub 0 1) ?_
   rw [hcl]
   by_cases a2 : k < c.bal.length
   ·rw [decide_eq_true a2]
    unfold sh_f45_j2
    refine br_t rfl (ld_i (x := gc.Balances) (c1.sub 0 1) ?_)
    have hk' : k.toNat < c.bal.length := by omega
    refine hc.bal.ixs 1 (fun _ => rfl) a1 hk' fun b o _ hcell => ld_i (x := c.bal[k.toNat]) hcell ?_
    have hb := hok.2 _ (List.getElem_mem hk')
    rw [wrap_u64 (by omega) (by omega)]
    refine next _ ?_
    rw [if_pos ⟨a1, a2⟩, List.getD_eq_getElem?_getD, List.getElem?_eq_getElem hk']; rfl
   ·rw [decide_eq_false a2]
    exact other fun e => a2 e.2
  ·have a1 : ¬ k ≥ 0 := by simpa using a1
   exact other fun e => a1 e.1
 ·have hge : ¬ i < who.length := by simpa using hge
  have e : who.drop i.toNat = [] := List.drop_eq_nil_of_le (by omega)
  rw [e, sumOf] at hr
  unfold sh_f45_j4
  rw [hr, Int.add_zero] at h
  exact h
def upTo (n : Nat) : List Int := (List.range n).map fun (k : Nat) => (k : Int)
theorem c_config_all {n : Int} {Q : QW} {w : World} (h0 : 0 <= n) (h1 : n <= 1000000)
    (h : ∀ s w', Gr w w' -> SlIs tI64 (w.heap.size <= ·) w' s (upTo n.toNat) -> Q (.slice s.a s.len s.cap) w') : CallsR PP n_f61 #[.int .i64 n] Q w := by
  refine so_f61 _ _ ?_
  unfold sh_f61
  refine mks_i (T := tI64) (z := 0) n.toNat (fun _ => rfl) rfl (by omega) (by omega) fun b1 w1 e1 g1 c1 s1 => ?_
  refine loop1 (sh_f61_b1 n Q b1) (fun m i w' => Keeps (· = b1) w1 w' /\ 0 <= i /\ i.toNat <= n.toNat /\ m = n.toNat - i.toNat /\ CanSt w' b1 0 n.toNat /\
    ∃ r, CellsAt w' b1 0 ((upTo i.toNat ++ List.replicate r (0 : Int)).flatMap tI64.enc) /\ i.toNat + r = n.toNat) ⟨_, Keeps.refl _ _, by omega, by simp, rfl, by simpa using s1, n.toNat, by simpa [upTo] using c1, by simp⟩ ?_
  rintro m i w' nxt ⟨hk, hi0, hi1, rfl, hs, r, hc, hr⟩ hn
  unfold sh_f61_b1
  have hg : Gr w w' := g1.local hk fun j e => by subst e; omega
  refine br_i (fun hlt => ?_) (fun hge => ?_)
  · have hlt : i < n := by have : i < n.toNat := by simpa using hlt
                           omega
    refine ⟨b1, 0, rfl, hi0, by show i < (n.toNat : Int); omega, ?_⟩
    have hcs : CanSt w' b1 (0 + i.toNat * 1) 1 := by have := hs.sub i.toNat 1 (by omega); simpa using this
    refine st_i hcs fun w2 e2 k2 c2 => ?_
    subst e2
    rw [wrap_i64 (n := i + 1) (by omega) (by omega)]
    have et : (i + 1).toNat = i.toNat + 1 := by omega
    refine hn (n.toNat - (i.toNat + 1)) _ _ (by omega) ⟨hk.trans k2, by omega, by omega, by rw [et], canSt_putL hs, r - 1, ?_, by omega⟩
    have hset := CellsAt.set (T := tI64) (sz := 1) (fun _ => rfl) (y := i) (xs := upTo i.toNat ++ List.replicate r 0) (o := 0) (i := i.toNat) (by simp [upTo]; omega) (by simpa using hcs) hc
    have e : (upTo i.toNat ++ List.replicate r 0).set i.toNat i = upTo (i + 1).toNat ++ List.replicate (r - 1) 0 := by
      have e1 : (upTo i.toNat).length = i.toNat := by simp [upTo]
      rw [List.set_append_right _ _ (by omega), e1, Nat.sub_self]
      obtain ⟨q, rfl⟩ : ∃ q, r = q + 1 := ⟨r - 1, by omega⟩
      rw [List.replicate_succ, List.set_cons_zero, et]
      simp only [upTo, List.range_succ, List.map_append, List.map_cons, List.map_nil, List.append_assoc, List.cons_append, List.nil_append, Nat.add_sub_cancel]
      rw [show ((i.toNat : Nat) : Int) = i from by omega]
    rw [e] at hset
    exact hset
  · have hge : ¬ i < n := by have : ¬ i < n.toNat := by simpa using hge
                             omega
    have er : r = 0 := by omega
    subst er
    unfold sh_f61_j2
    refine h (Sl.mk (some ⟨b1, 0, none⟩) n.toNat n.toNat) w' hg ⟨by simp [upTo], Nat.le_refl _, .inr ⟨b1, 0, rfl, by show w.heap.size <= b1; omega, ?_⟩⟩
    have : i.toNat = n.toNat := by omega
    rw [this] at hc
    simpa using hc
theorem sumOf_upTo (bal : List Int) : sumOf bal (upTo bal.length) = totalOf bal := by
 have key : ∀ (pre suf : List Int), sumOf (pre ++ suf) ((List.range' pre.length suf.length).map fun (k : Nat) => (k : Int)) = suf.sum := by
  intro pre suf
  induction suf generalizing pre with
  | nil => simp [sumOf]
  | cons x r ih =>
   rw [List.length_cons, List.range'_succ, List.map_cons, sumOf]
   have := ih (pre ++ [x])
   rw [List.append_assoc, List.length_append] at this
   simp only [List.cons_append, List.nil_append, List.length_cons, List.length_nil, Nat.zero_add] at this
   rw [this, if_pos (by constructor <;> simp <;> omega)]
   simp
 have := key [] bal
 simp only [List.nil_append, List.length_nil] at this
 unfold upTo totalOf
 rw [List.range_eq_range', this]
theorem c_config_Total {D : Nat -> Prop} {gc : G_api_Config} {c : ACfg} {Q : QW} {w : World} (hc : CfgIs D w gc c) (hok : okBal c)
  (h : ∀ w', Gr w w' -> Q (.int .u64 (totalOf c.bal)) w') : CallsR PP n_f43 #[t_api_Config.val gc] Q w := by
 refine so_f43 _ _ ?_
 unfold sh_f43
 refine al_i fun b1 w1 e1 g1 c1 _ => dw_i fun w2 e2 g2 => ?_
 have hcl : gc.Balances.len = c.bal.length := hc.bal.1
 have hl := hok.1
 refine ld_i (x := gc) (c1.gr g2) (ld_i (x := gc.Balances) ((c1.gr g2).sub 0 1) ?_)
 rw [hcl]
 refine c_config_all (by omega) (by omega) fun s w3 g3 hs => ⟨s, rfl, (c1.gr g2).gr g3, ?_⟩
 have g := g1.trans (g2.trans g3)
 rw [Int.toNat_natCast] at hs
 refine c_config_Sum (hc.gr g) hok hs (by simp [upTo]; omega) fun w4 g4 => ⟨_, rfl, ?_⟩
 rw [sumOf_upTo]
 exact h _ (g.trans g4)
theorem c_config_May {D : Nat -> Prop} {gc : G_api_Config} {c : ACfg} {Q : QW} {w : World} (hc : CfgIs D w gc c)
  (h : ∀ w', Gr w w' -> Q (.bool (mayCfg c)) w') : CallsR PP n_f28 #[t_api_Config.val gc] Q w := by
 refine so_f28 _ _ ?_
 unfold sh_f28
 refine al_i fun b1 w1 e1 g1 c1 _ => ?_
 have h := h w1 g1
 have hc := hc.gr g1
 have hcl : gc.Balances.len = c.bal.length := hc.bal.1
 have hF : ∀ {x : Bool}, x = true -> mayCfg c = false -> sh_f28_j1 Q b1 x w1 := by
  rintro x rfl e
  unfold sh_f28_j1
  rw [e] at h
  exact br_t rfl h
 refine ld_i (x := gc.Balances) (c1.sub 0 1) ?_
 rw [hcl]
 refine br_i (fun a => hF rfl ?_) (fun n1 => ?_)
 ·have : ¬ 1 <= c.bal.length := by have := of_decide_eq_true a; omega
  unfold mayCfg; rw [decide_eq_false this]; simp
 refine ld_i (x := gc.Balances) (c1.sub 0 1) ?_
 rw [hcl]
 refine br_i (fun a => hF rfl ?_) (fun n2 => ?_)
 ·have : ¬ c.bal.length <= 4096 := by have := of_decide_eq_true a; omega
  unfold mayCfg; rw [decide_eq_false this]; simp
 refine ld_i (x := gc.Slots) (c1.sub 1 1) ?_
 rw [hc.slots]
 refine br_i (fun a => hF rfl ?_) (fun n3 => ?_)
 ·have : ¬ 1 <= c.slots := by have := of_decide_eq_true a; omega
  unfold mayCfg; rw [decide_eq_false this]; simp
 refine ld_i (x := gc.Slots) (c1.sub 1 1) ?_
 rw [hc.slots]
 refine br_i (fun a => hF rfl ?_) (fun n4 => ?_)
 ·have : ¬ c.slots <= 64 := by have := of_decide_eq_true a; omega
  unfold mayCfg; rw [decide_eq_false this]; simp
 refine ld_i (x := gc.Boost) (c1.sub 2 1) ?_
 rw [hc.boost]
 refine br_i (fun a => hF rfl ?_) (fun n5 => ?_)
 ·have : ¬ 0 <= c.boost := by have := of_decide_eq_true a; omega
  unfold mayCfg; rw [decide_eq_false this]; simp
 refine ld_i (x := gc.Boost) (c1.sub 2 1) ?_
 rw [hc.boost]
 by_cases n6 : c.boost > 100
 ·refine hF (decide_eq_true n6) ?_
  unfold mayCfg; rw [decide_eq_false (show ¬ c.boost <= 100 by omega)]; simp
 have n1 := of_decide_eq_false n1
 have n2 := of_decide_eq_false n2
 have n3 := of_decide_eq_false n3
 have n4 := of_decide_eq_false n4
 have n5 := of_decide_eq_false n5
 have hR : mayCfg c = c.bal.all fun b => decide (b <= 4294967296) := by
  unfold mayCfg
  rw [decide_eq_true (show 1 <= c.bal.length by omega), decide_eq_true (show c.bal.length <= 4096 by omega), decide_eq_true (show 1 <= c.slots by omega), decide_eq_true (show c.slots <= 64 by omega), decide_eq_true (show 0 <= c.boost by omega),
   decide_eq_true (show c.boost <= 100 by omega)]; simp
 rw [hR] at h
 rw [decide_eq_false n6]
 unfold sh_f28_j1
 refine br_f rfl (ld_i (x := gc.Balances) (c1.sub 0 1) ?_)
 refine loop1 (sh_f28_b2 Q gc.Balances) (fun m i w' => w' = w1 /\ 0 <= i /\ i.toNat <= c.bal.length /\ m = c.bal.length - i.toNat /\ (c.bal.all fun b => decide (b <= 4294967296)) = (c.bal.drop i.toNat).all fun b => decide (b <= 4294967296))
  ⟨_, rfl, by omega, by simp, rfl, by simp⟩ ?_
 rintro m i w' nxt ⟨rfl, h0, hi, rfl, hr⟩ hn
 unfold sh_f28_b2
 rw [hcl]
 refine br_i (fun hlt => ?_) (fun hge => ?_)
 ·have hlt := of_decide_eq_true hlt
  have hi' : i.toNat < c.bal.length := by omega
  refine hc.bal.ixs 1 (fun _ => rfl) h0 hi' fun b o _ hcell => ld_i (x := c.bal[i.toNat]) hcell ?_
  rw [List.drop_eq_getElem_cons hi', List.all_cons] at hr
  generalize c.bal[i.toNat] = x at hr
  refine br_i (fun a => ?_) (fun a => ?_)
  ·have a := of_decide_eq_true a
   rw [hr, decide_eq_false (show ¬ x <= 4294967296 by omega)] at h
   exact h
  ·have a := of_decide_eq_false a
   rw [wrap_i64 (n := i + 1) (by omega) (by omega)]
   have et : (i + 1).toNat = i.toNat + 1 := by omega
   refine hn (c.bal.length - (i.toNat + 1)) _ _ (by omega) ⟨rfl, by omega, by omega, by rw [et], ?_⟩
   rw [et, hr, decide_eq_true (show x <= 4294967296 by omega), Bool.true_and]
 ·have hge := of_decide_eq_false hge
  have e : c.bal.drop i.toNat = [] := List.drop_eq_nil_of_le (by omega)
  rw [hr, e] at h
  unfold sh_f28_j3
  exact h
end Go.Proofs.Ytdefmgkicdhmkaa
namespace Go.Proofs.Ytdefmgkicdhmkaa
open Go Go.Sx
set_option linter.unusedVariables false
structure TreeAt (w : World) (b r : Nat) (t : ATree) : Prop where
 cells : CellsAt w b 0 (t_tree_Tree.enc ⟨t.first, some r⟩)
 map : MapAt t_tree_node w r t.nodes
theorem TreeAt.keeps {S : Nat -> Prop} {w w' : World} {b r : Nat} {t : ATree} (h : TreeAt w b r t) (k : Keeps S w w') (hb : ¬ S b) (hr : ¬ S r) : TreeAt w' b r t :=
 ⟨h.cells.keeps k hb, h.map.keeps k hr⟩
theorem TreeAt.gr {w w' : World} {b r : Nat} {t : ATree} (h : TreeAt w b r t) (k : Gr w w') : TreeAt w' b r t := h.keeps k (fun f => f) (fun f => f)
theorem lkp_i {α : Type} {T : Ty α} {w : World} {r : Nat} {es : List (Int × α)} {key : Int} {k : Option α -> Prop} (h : MapAt T w r es) (hk : k (mget es key)) : lkp T w (some r) key k := ⟨es, h, hk⟩
theorem c_tree_Has {b r : Nat} {t : ATree} {x : Int} {Q : QW} {w : World} (ht : TreeAt w b r t) (h : ∀ w', Gr w w' -> Q (.bool (t.has x)) w') :
  CallsR PP n_f15 #[.pointer (some ⟨b, 0, none⟩), .int .u64 x] Q w := by
 refine so_f15 _ _ ?_
 unfold sh_f15
 refine ⟨b, 0, rfl, ld_i (x := some r) (ht.cells.sub 1 1) (lkp_i ht.map (al_st rfl fun b2 w2 e2 g2 c2 s2 => h w2 g2))⟩
theorem c_tree_Get {b r : Nat} {t : ATree} {x : Int} {Q : QW} {w : World} (ht : TreeAt w b r t)
  (h : ∀ w' n, n = (t.get x).getD ⟨0, 0, 0⟩ -> Gr w w' -> Q (.tuple #[.int .u64 n.parent, .int .i64 n.slot, .int .i64 n.height, .bool (t.has x)]) w') :
  CallsR PP n_f24 #[.pointer (some ⟨b, 0, none⟩), .int .u64 x] Q w := by
 refine so_f24 _ _ ?_
 unfold sh_f24
 refine ⟨b, 0, rfl, ld_i (x := some r) (ht.cells.sub 1 1) (lkp_i ht.map (al_st rfl fun b2 w2 e2 g2 c2 s2 => dw_i fun w3 e3 g3 => ?_))⟩
 replace c2 := c2.gr g3
 exact ld_i (c2.sub 0 1) (ld_i (c2.sub 1 1) (ld_i (c2.sub 2 1) (h w3 _ rfl (g2.trans g3))))
theorem c_tree_Len {b r : Nat} {t : ATree} {Q : QW} {w : World} (ht : TreeAt w b r t) (h : Q (.int .i64 t.nodes.length) w) :
  CallsR PP n_f27 #[.pointer (some ⟨b, 0, none⟩)] Q w := by
 refine so_f27 _ _ ?_
 exact ⟨b, 0, rfl, ld_i (x := some r) (ht.cells.sub 1 1) ⟨t.nodes, ht.map, h⟩⟩
theorem c_tree_First {b r : Nat} {t : ATree} {Q : QW} {w : World} (ht : TreeAt w b r t) (h : Q (.int .u64 t.first) w) :
  CallsR PP n_f16 #[.pointer (some ⟨b, 0, none⟩)] Q w := by
 refine so_f16 _ _ ?_
 exact ⟨b, 0, rfl, ld_i (ht.cells.sub 0 1) h⟩
theorem c_tree_At {b r : Nat} {t : ATree} {x s : Int} {Q : QW} {w : World} (ht : TreeAt w b r t) (hwf : t.Wf) (h : ∀ w', Gr w w' -> Q (.int .u64 (t.atS x s)) w') :
  CallsR PP n_f20 #[.pointer (some ⟨b, 0, none⟩), .int .u64 x, .int .i64 s] Q w := by
 refine so_f20 _ _ ?_
 unfold sh_f20
 refine ⟨b, 0, rfl, ld_i (x := some r) (ht.cells.sub 1 1) (lkp_i ht.map (al_st rfl fun b2 w2 e2 g2 c2 s2 => ?_))⟩
 cases hx : mget t.nodes x with
 | none =>
  have h := h w2 g2
  rw [ATree.atS_none hx] at h
  refine ⟨fun m y w' => w' = w2, ⟨0, rfl⟩, ?_⟩
  rintro m y w' rfl
  unfold sh_f20_b1 sh_f20_j2 sh_f20_j3
  exact br_f rfl (br_f rfl (br_t rfl h))
 | some n0 =>
  rw [hx] at c2 s2
  refine loop1 (sh_f20_b1 s Q b 0 (some n0) b2) (fun m y w' => Keeps (· = b2) w2 w' /\ CanSt w' b2 0 3 /\ ∃ n, t.get y = some n /\ CellsAt w' b2 0 (t_tree_node.enc n) /\ m = n.slot.toNat /\ t.atS y s = t.atS x s)
   ⟨_, Keeps.refl _ _, s2, n0, hx, c2, rfl, rfl⟩ ?_
  rintro m y w' nxt ⟨hk, hs, n, hy, hc, rfl, hat⟩ hn
  have g : Gr w w' := g2.local hk fun j e => by subst e; omega
  have ht' := ht.gr g
  have hend : (¬ (y ≠ t.first /\ n.slot > s)) -> sh_f20_j2 Q b 0 (some n0) b2 y nxt false w' := by
   intro hc
   have h := h w' g
   rw [<- hat, ATree.atS_eq hwf hy, if_neg hc] at h
   unfold sh_f20_j2 sh_f20_j3
   exact br_f rfl (br_f rfl h)
  unfold sh_f20_b1
  refine br_t rfl (ld_i (ht'.cells.sub 0 1) (br_i (fun h1 => ?_) (fun h1 => ?_)))
  ·have h1 : y ≠ t.first := by simpa using h1
   refine ld_i (hc.sub 1 1) ?_
   by_cases h2 : n.slot > s
   ·rw [decide_eq_true h2]
    unfold sh_f20_j2
    refine br_t rfl (ld_i (hc.sub 0 1) (ld_i (x := some r) (ht'.cells.sub 1 1) (lkp_i ht'.map (st_i hs fun w4 e4 k4 c4 => ?_))))
    obtain ⟨p, hp, hps, _⟩ := hwf.par y n hy h1
    have h0 := (hwf.slot _ _ hp).1
    have hp' : mget t.nodes n.parent = some p := hp
    rw [hp'] at c4 e4
    refine hn p.slot.toNat _ _ (by omega) ⟨hk.trans k4, ?_, p, hp, c4, rfl, ?_⟩
    ·rw [e4]; exact canSt_putL hs
    ·rw [<- hat, ATree.atS_eq hwf hy, if_pos ⟨h1, h2⟩]
   ·rw [decide_eq_false h2]
    exact hend fun e => h2 e.2
  ·exact hend fun e => e.1 (by simpa using h1)
theorem c_tree_Below {b r : Nat} {t : ATree} {x y : Int} {Q : QW} {w : World} (ht : TreeAt w b r t) (hwf : t.Wf) (h : ∀ w', Gr w w' -> Q (.bool (t.below x y)) w') :
  CallsR PP n_f17 #[.pointer (some ⟨b, 0, none⟩), .int .u64 x, .int .u64 y] Q w := by
 refine so_f17 _ _ ?_
 unfold sh_f17
 refine ⟨b, 0, rfl, ld_i (x := some r) (ht.cells.sub 1 1) (lkp_i ht.map (al_st rfl fun b2 w2 e2 g2 c2 s2 => ?_))⟩
 unfold sh_f17_j1
 unfold ATree.below at h
 cases hy : mget t.nodes y with
 | none =>
  have hy' : t.get y = none := hy
  rw [hy'] at h
  exact br_f rfl (h w2 g2)
 | some n =>
  have hy' : t.get y = some n := hy
  rw [hy'] at h
  rw [hy] at c2
  refine br_t rfl (c_tree_Has (ht.gr g2) fun w3 g3 => ⟨_, rfl, br_i (fun h1 => ?_) (fun h1 => ?_)⟩)
  ·refine ld_i ((c2.gr g3).sub 1 1) (c_tree_At (ht.gr (g2.trans g3)) hwf fun w4 g4 => ⟨_, rfl, ?_⟩)
   have h := h w4 (g2.trans (g3.trans g4))
   simp only [h1, Bool.true_and] at h
   exact h
  ·have h := h w3 (g2.trans g3)
   simp only [h1, Bool.false_and] at h
   exact h
theorem mset_i {α : Type} {T : Ty α} {w : World} {r : Nat} {es : List (Int × α)} {key : Int} {x : α} {k : World -> Prop} (h : MapAt T w r es) (hk : ∀ w', Keeps (· = r) w w' -> MapAt T w' r (mput es key x) -> k w') : mset T w (some r) key x k :=
 ⟨r, es, rfl, h, fun o h => hk _ (Keeps.setB w r o) h⟩
theorem mdl_i {α : Type} {T : Ty α} {w : World} {r : Nat} {es : List (Int × α)} {key : Int} {k : World -> Prop} (h : MapAt T w r es) (hk : ∀ w', Keeps (· = r) w w' -> MapAt T w' r (mdel es key) -> k w') : mdl T w (some r) key k :=
 ⟨r, es, rfl, h, fun o h => hk _ (Keeps.setB w r o) h⟩
theorem mkm_i {α : Type} (T : Ty α) {w : World} {k : Nat -> World -> Prop} (hk : ∀ r w', r = w.heap.size -> Gr w w' -> MapAt T w' r ([] : List (Int × α)) -> k r w') : mkm w k := by
 rintro r w' rfl rfl
 exact hk _ _ rfl ((Gr.refl w).alloc _) (mapAt_of_new T w)
theorem c_tree_Of {root slot : Int} {Q : QW} {w : World} (h : ∀ w' b r, Gr w w' -> w.heap.size <= b -> w.heap.size <= r -> b ≠ r -> TreeAt w' b r (ATree.one root slot) -> CanSt w' b 0 2 -> Q (.pointer (some ⟨b, 0, none⟩)) w') :
  CallsR PP n_f29 #[.int .u64 root, .int .i64 slot] Q w := by
 refine so_f29 _ _ ?_
 unfold sh_f29
 refine mkm_i t_tree_node fun r w1 e1 g1 m1 => mset_i m1 fun w2 k2 m2 => al_i fun b w3 e3 g3 c3 s3 => ?_
 have g12 : Gr w w2 := g1.local k2 fun j e => by subst e; omega
 have hs := g12.size
 have hr := m2.lt
 exact h w3 b r (g12.trans g3) (by omega) (by omega) (by omega) ⟨c3, m2.gr g3⟩ s3
theorem c_tree_Add {b r : Nat} {t : ATree} {x p s : Int} {Q : QW} {w : World} (ht : TreeAt w b r t) (hwf : t.Wf)
  (h : ∀ w', Keeps (· = r) w w' -> TreeAt w' b r (t.add x p s).2 -> Q (if (t.add x p s).1 = 0 then .nilIface else .iface i_api_Errno (.int .i64 (t.add x p s).1)) w') :
  CallsR PP n_f51 #[.pointer (some ⟨b, 0, none⟩), .int .u64 x, .int .u64 p, .int .i64 s] Q w := by
 refine so_f51 _ _ ?_
 unfold sh_f51
 refine ⟨b, 0, rfl, ld_i (x := some r) (ht.cells.sub 1 1) (lkp_i ht.map (al_st rfl fun b2 w2 e2 g2 c2 s2 => ?_))⟩
 refine c_tree_Has (ht.gr g2) fun w3 g3 => ⟨_, rfl, ?_⟩
 have g := g2.trans g3
 have ht' := ht.gr g
 have c2 := c2.gr g3
 unfold ATree.add at h
 refine br_i (fun h1 => ?_) (fun h1 => ?_)
 ·rw [if_pos h1] at h
  exact h w3 (Gr.keeps g) ht'
 rw [if_neg (by simp [h1])] at h
 cases hp : mget t.nodes p with
 | none =>
  have hp' : t.get p = none := hp
  rw [hp'] at h
  exact br_t rfl (h w3 (Gr.keeps g) ht')
 | some n =>
  have hp' : t.get p = some n := hp
  rw [hp'] at h
  rw [hp] at c2
  have c2 : CellsAt w3 b2 0 (t_tree_node.enc n) := c2
  refine br_f rfl (ld_i (x := n.slot) (c2.sub 1 1) (br_i (fun h2 => ?_) (fun h2 => ?_)))
  ·have h2 := of_decide_eq_true h2
   simp only [if_pos h2] at h
   exact h w3 (Gr.keeps g) ht'
  have h2 := of_decide_eq_false h2
  simp only [if_neg h2] at h
  refine ld_i (x := some r) (ht'.cells.sub 1 1) ⟨t.nodes, ht'.map, br_i (fun h3 => ?_) (fun h3 => ?_)⟩
  ·have h3 := of_decide_eq_true h3
   rw [if_pos (show t.nodes.length ≥ 1024 by omega)] at h
   exact h w3 (Gr.keeps g) ht'
  have h3 := of_decide_eq_false h3
  rw [if_neg (show ¬ t.nodes.length ≥ 1024 by omega)] at h
  refine dw_i fun w4 e4 g4 => ?_
  have ht4 := ht'.gr g4
  refine ld_i (x := some r) (ht4.cells.sub 1 1) (ld_i (x := n.height) ((c2.gr g4).sub 2 1) (mset_i ht4.map fun w5 k5 m5 => ?_))
  have hb := (hwf.slot _ _ hp').2
  have hne : b ≠ r := by
   intro e
   subst e
   obtain ⟨en, cl, hm, _⟩ := ht.map
   have := ht.cells.1
   simp only [World.cell?, hm] at this
   cases this
  rw [wrap_i64 (n := n.height + 1) (by omega) (by omega)] at m5
  exact h w5 ((Gr.keeps (g.trans g4)).trans k5) ⟨ht4.cells.keeps k5 hne, m5⟩
structure VotesAt (w : World) (s : Sl) (b : Nat) (es : List G_latest_Entry) : Prop where
 a : s.a = some ⟨b, 0, none⟩
 len : s.len = es.length
 cap : s.len <= s.cap
 cells : CellsAt w b 0 (es.flatMap t_latest_Entry.enc)
 can : CanSt w b 0 (es.length * 4)
theorem VotesAt.keeps {S : Nat -> Prop} {w w' : World} {s : Sl} {b : Nat} {es : List G_latest_Entry} (h : VotesAt w s b es) (k : Keeps S w w') (hb : ¬ S b) : VotesAt w' s b es :=
 { h with cells := h.cells.keeps k hb, can := h.can.keeps k hb }
theorem VotesAt.gr {w w' : World} {s : Sl} {b : Nat} {es : List G_latest_Entry} (h : VotesAt w s b es) (k : Gr w w') : VotesAt w' s b es := h.keeps k fun f => f
theorem VotesAt.is {w : World} {s : Sl} {b : Nat} {es : List G_latest_Entry} (h : VotesAt w s b es) : SlIs t_latest_Entry (· = b) w s es := ⟨h.len, h.cap, .inr ⟨b, 0, h.a, rfl, h.cells⟩⟩
theorem c_latest_Get {D : Nat -> Prop} {s : Sl} {es : List G_latest_Entry} {k : Int} {Q : QW} {w : World} (hs : SlIs t_latest_Entry D w s es) (h : Q (.tuple #[.int .u64 (lget es k).1, .bool (lget es k).2]) w) :
  CallsR PP n_f14 #[.slice s.a s.len s.cap, .int .i64 k] Q w := by
 refine so_f14 _ _ ?_
 unfold sh_f14
 have hl := hs.1
 have no : ¬ (0 <= k /\ k < es.length /\ (lgetD es k).Has = true /\ (lgetD es k).Banned = false) -> sh_f14_j1 s k Q true w := by
  intro hn
  unfold lget at h
  rw [if_neg hn] at h
  unfold sh_f14_j1
  exact br_t rfl h
 refine br_i (fun h1 => no ?_) (fun h1 => ?_)
 ·have := of_decide_eq_true h1; omega
 have h1 := of_decide_eq_false h1
 refine br_i (fun h2 => no ?_) (fun h2 => ?_)
 ·have := of_decide_eq_true h2; omega
 have h2 := of_decide_eq_false h2
 have hk : k.toNat < es.length := by omega
 have e : lgetD es k = es[k.toNat] := by unfold lgetD; rw [List.getD_eq_getElem?_getD, List.getElem?_eq_getElem hk]; rfl
 rw [e] at no
 unfold lget at h
 rw [e] at h
 refine hs.ixs 4 (fun _ => rfl) (by omega) hk fun b o _ hc => ld_i (hc.sub 0 1) (br_i (fun h3 => no ?_) (fun h3 => ?_))
 ·intro hh; rw [hh.2.2.1] at h3; simp at h3
 have h3 : es[k.toNat].Has = true := by simpa using h3
 refine hs.ixs 4 (fun _ => rfl) (by omega) hk fun b o _ hc => ld_i (hc.sub 3 1) ?_
 cases h4 : es[k.toNat].Banned with
 | true => exact no (by rw [h4]; simp)
 | false =>
  rw [if_pos ⟨by omega, by omega, h3, h4⟩] at h
  unfold sh_f14_j1
  exact br_f rfl (hs.ixs 4 (fun _ => rfl) (by omega) hk fun b o _ hc => ld_i (hc.sub 2 1) h)
theorem c_latest_Take {s : Sl} {b : Nat} {es : List G_latest_Entry} {k e x : Int} {Q : QW} {w : World} (hs : VotesAt w s b es) (h : ∀ w', Keeps (· = b) w w' -> VotesAt w' s b (ltake es k e x) -> Q (.bool (lcanTake es k e)) w') :
  CallsR PP n_f54 #[.slice s.a s.len s.cap, .int .i64 k, .int .i64 e, .int .u64 x] Q w := by
 refine so_f54 _ _ ?_
 unfold sh_f54
 have hl := hs.len
 have no : lcanTake es k e = false -> sh_f54_j1 s k e x Q true w := by
  intro hn
  have h := h w (Keeps.refl _ _)
  unfold ltake at h
  rw [hn] at h
  unfold sh_f54_j1
  exact br_t rfl (h hs)
 refine br_i (fun h1 => no ?_) (fun h1 => ?_)
 ·have := of_decide_eq_true h1
  unfold lcanTake; rw [decide_eq_false (show ¬ 0 <= k by omega)]; rfl
 have h1 := of_decide_eq_false h1
 refine br_i (fun h2 => no ?_) (fun h2 => ?_)
 ·have := of_decide_eq_true h2
  unfold lcanTake; rw [decide_eq_false (show ¬ k < es.length by omega)]; simp
 have h2 := of_decide_eq_false h2
 have hk : k.toNat < es.length := by omega
 have eg : lgetD es k = es[k.toNat] := by unfold lgetD; rw [List.getD_eq_getElem?_getD, List.getElem?_eq_getElem hk]; rfl
 have hx : lcanTake es k e = (!es[k.toNat].Banned && !(es[k.toNat].Has && decide (e <= es[k.toNat].Epoch))) := by
  unfold lcanTake
  rw [eg, decide_eq_true (show 0 <= k by omega), decide_eq_true (show k < es.length by omega)]; simp
 have yes : lcanTake es k e = true -> sh_f54_j1 s k e x Q false w := by
  intro hy
  unfold sh_f54_j1
  have hcs : CanSt w b (0 + k.toNat * 4) 4 := hs.can.sub _ _ (by omega)
  refine br_f rfl ⟨b, 0, hs.a, by omega, by omega, st_i hcs fun w2 e2 k2 c2 => ?_⟩
  have h := h w2 k2
  rw [hy] at h
  refine h ?_
  unfold ltake
  rw [if_pos hy, e2]
  exact ⟨hs.a, by simpa using hl, hs.cap, CellsAt.set (T := t_latest_Entry) (sz := 4) (fun _ => rfl) hk hcs hs.cells, by simpa using canSt_putL hs.can⟩
 refine hs.is.ixs 4 (fun _ => rfl) (by omega) hk fun b' o _ hc => ld_i (hc.sub 3 1) (br_i (fun h3 => no (by rw [hx, h3]; rfl)) (fun h3 => ?_))
 refine hs.is.ixs 4 (fun _ => rfl) (by omega) hk fun b' o _ hc => ld_i (hc.sub 0 1) (br_i (fun h4 => ?_) (fun h4 => yes (by rw [hx, h3, h4]; rfl)))
 refine hs.is.ixs 4 (fun _ => rfl) (by omega) hk fun b' o _ hc => ld_i (hc.sub 1 1) ?_
 by_cases h5 : e <= es[k.toNat].Epoch
 ·rw [decide_eq_true h5]
  exact no (by rw [hx, h3, h4, decide_eq_true h5]; rfl)
 ·rw [decide_eq_false h5]
  exact yes (by rw [hx, h3, h4, decide_eq_false h5]; rfl)
theorem c_latest_Ban {s : Sl} {b : Nat} {es : List G_latest_Entry} {k : Int} {Q : QW} {w : World} (hs : VotesAt w s b es) (h : ∀ w', Keeps (· = b) w w' -> VotesAt w' s b (lban es k) -> Q (.bool (lcanBan es k)) w') :
  CallsR PP n_f55 #[.slice s.a s.len s.cap, .int .i64 k] Q w := by
 refine so_f55 _ _ ?_
 unfold sh_f55
 have hl := hs.len
 have no : lcanBan es k = false -> sh_f55_j1 s k Q true w := by
  intro hn
  have h := h w (Keeps.refl _ _)
  unfold lban at h
  rw [hn] at h
  unfold sh_f55_j1
  exact br_t rfl (h hs)
 refine br_i (fun h1 => no ?_) (fun h1 => ?_)
 ·have := of_decide_eq_true h1
  unfold lcanBan; rw [decide_eq_false (show ¬ 0 <= k by omega)]; rfl
 have h1 := of_decide_eq_false h1
 refine br_i (fun h2 => no ?_) (fun h2 => ?_)
 ·have := of_decide_eq_true h2
  unfold lcanBan; rw [decide_eq_false (show ¬ k < es.length by omega)]; simp
 have h2 := of_decide_eq_false h2
 have hk : k.toNat < es.length := by omega
 have eg : lgetD es k = es[k.toNat] := by unfold lgetD; rw [List.getD_eq_getElem?_getD, List.getElem?_eq_getElem hk]; rfl
 have hx : lcanBan es k = !es[k.toNat].Banned := by
  unfold lcanBan
  rw [eg, decide_eq_true (show 0 <= k by omega), decide_eq_true (show k < es.length by omega)]; simp
 refine hs.is.ixs 4 (fun _ => rfl) (by omega) hk fun b' o _ hc => ld_i (hc.sub 3 1) ?_
 cases hb : es[k.toNat].Banned with
 | true => exact no (by rw [hx, hb]; rfl)
 | false =>
  have hy : lcanBan es k = true := by rw [hx, hb]; rfl
  unfold sh_f55_j1
  have hcs : CanSt w b (0 + k.toNat * 4) 4 := hs.can.sub _ _ (by omega)
  have hcs3 : CanSt w b (0 + k.toNat * 4 + 3) 1 := hcs.sub 3 1 (by omega)
  refine br_f rfl ⟨b, 0, hs.a, by omega, by omega, st_i hcs3 fun w2 e2 k2 c2 => ?_⟩
  have h := h w2 k2
  rw [hy] at h
  refine h ?_
  unfold lban
  rw [if_pos hy, eg]
  have key : CellsAt w2 b 0 ((es.set k.toNat { es[k.toNat] with Banned := true }).flatMap t_latest_Entry.enc) := by
   rw [e2]
   exact CellsAt.setPart (T := t_latest_Entry) (sz := 4) (j := 3) (fun _ => rfl) (vs := [.bool true]) (us := [.bool es[k.toNat].Has, .int .i64 es[k.toNat].Epoch, .int .u64 es[k.toNat].Root]) (ts := []) hk hcs rfl rfl ⟨[.bool es[k.toNat].Banned], rfl, rfl⟩ hs.cells
  exact ⟨hs.a, by simpa using hl, hs.cap, key, by rw [e2]; simpa using canSt_putL hs.can⟩
end Go.Proofs.Ytdefmgkicdhmkaa
namespace Go.Proofs.Ytdefmgkicdhmkaa
open Go Go.Sx
set_option linter.unusedVariables false
def LenOk (x r : Int) : Prop := 0 <= r /\ r <= 64 /\ (1 <= x -> (2 : Int) ^ r.toNat <= 2 * x)
def tab8 : ByteArray := ⟨#[0, 1, 2, 2, 3, 3, 3, 3, 4, 4, 4, 4, 4, 4, 4, 4, 5, 5, 5, 5, 5, 5, 5, 5, 5, 5, 5, 5, 5, 5, 5, 5, 6, 6, 6, 6, 6, 6, 6, 6, 6, 6, 6, 6, 6, 6, 6, 6, 6, 6, 6, 6, 6, 6, 6, 6, 6, 6, 6, 6, 6, 6, 6, 6, 7, 7, 7, 7, 7, 7, 7, 7, 7, 7, 7, 7, 7, 7, 7, 7, 7, 7, 7, 7, 7, 7, 7, 7, 7, 7, 7, 7, 7, 7, 7, 7, 7, 7, 7, 7, 7, 7, 7, 7, 7, 7, 7, 7, 7, 7, 7, 7, 7, 7, 7, 7, 7, 7, 7, 7, 7, 7, 7, 7, 7, 7, 7, 7, 8, 8, 8, 8, 8, 8, 8, 8, 8, 8, 8, 8, 8, 8, 8, 8, 8, 8, 8, 8, 8, 8, 8, 8, 8, 8, 8, 8, 8, 8, 8, 8, 8, 8, 8, 8, 8, 8, 8, 8, 8, 8, 8, 8, 8, 8, 8, 8, 8, 8, 8, 8, 8, 8, 8, 8, 8, 8, 8, 8, 8, 8, 8, 8, 8, 8, 8, 8, 8, 8, 8, 8, 8, 8, 8, 8, 8, 8, 8, 8, 8, 8, 8, 8, 8, 8, 8, 8, 8, 8, 8, 8, 8, 8, 8, 8, 8, 8, 8, 8, 8, 8, 8, 8, 8, 8, 8, 8, 8, 8, 8, 8, 8, 8, 8, 8, 8, 8, 8, 8, 8, 8, 8, 8, 8, 8, 8, 8]⟩
theorem tab8_size : tab8.size = 256 := by decide +kernel
theorem tab8_ok : ∀ k : Fin 256, (tab8[k.val]?.getD 0).toNat <= 8 /\ (k.val ≠ 0 -> 2 ^ (tab8[k.val]?.getD 0).toNat <= 2 * k.val) := by decide +kernel
theorem len_j3 {Q : QW} {w : World} {x n : Int} (hx : 0 <= x) (hx' : x < 256) (hn : 0 <= n) (hn' : n <= 56)
  (h : ∀ r, 0 <= r -> r <= 8 -> (1 <= x -> (2 : Int) ^ r.toNat <= 2 * x) -> Q (.int .i64 (n + r)) w) : sh_f78_j3 Q x n w := by
 unfold sh_f78_j3
 rw [show IntKind.u8.wrap x = x from wrap_u8 hx (by omega)]
 show chkp (0 <= x /\ x.toNat < tab8.size) (Q (.int .i64 (IntKind.i64.wrap (n + IntKind.i64.wrap (ixB tab8 x)))) w)
 refine ⟨⟨hx, by rw [tab8_size]; omega⟩, ?_⟩
 obtain ⟨h1, h2⟩ := tab8_ok ⟨x.toNat, by omega⟩
 simp only at h1 h2
 have e : ixB tab8 x = (((tab8[x.toNat]?.getD 0).toNat : Nat) : Int) := rfl
 rw [e]
 generalize (tab8[x.toNat]?.getD 0).toNat = r at h1 h2
 rw [wrap_i64 (n := (r : Int)) (by omega) (by omega), wrap_i64 (n := n + (r : Int)) (by omega) (by omega)]
 refine h r (by omega) (by omega) fun hx1 => ?_
 have := h2 (by omega)
 rw [Int.toNat_natCast]
 have h3 : ((2 ^ r : Nat) : Int) <= ((2 * x.toNat : Nat) : Int) := by exact_mod_cast this
 push_cast at h3
 omega
theorem lenOk_shift {x y r k : Int} {m : Nat} (hk : k = m) (hr : 0 <= r) (hy : 1 <= y) (hxy : 2 ^ m * y <= x) (h : (2 : Int) ^ r.toNat <= 2 * y) : (2 : Int) ^ (k + r).toNat <= 2 * x := by
 have e : (k + r).toNat = m + r.toNat := by omega
 rw [e, Int.pow_add]
 have h2 : (0 : Int) <= 2 ^ m := Int.pow_nonneg (by omega)
 calc (2 : Int) ^ m * 2 ^ r.toNat <= 2 ^ m * (2 * y) := Int.mul_le_mul_of_nonneg_left h h2
  _ = 2 * (2 ^ m * y) := by rw [<- Int.mul_assoc, Int.mul_comm (2 ^ m) 2, Int.mul_assoc]
  _ <= 2 * x := by omega
theorem c_bits_Len64 {x : Int} {Q : QW} {w : World} (hx : 0 <= x) (hx' : x <= 18446744073709551615) (h : ∀ r, LenOk x r -> Q (.int .i64 r) w) : CallsR PP n_f78 #[.int .u64 x] Q w := by
 refine so_f78 _ _ ?_
 unfold sh_f78
 have j2 : ∀ (y n : Int), 0 <= y -> y < 65536 -> 0 <= n -> n <= 48 -> (∀ r, 0 <= r -> r <= 16 -> (1 <= y -> (2 : Int) ^ r.toNat <= 2 * y) -> Q (.int .i64 (n + r)) w) -> sh_f78_j2 Q y n w := by
  intro y n hy hy' hn hn' hk
  unfold sh_f78_j2
  refine br_i (fun q => ?_) (fun q => ?_)
  ·have q := of_decide_eq_true q
   have e : Int.fdiv y (2 ^ (min (8 : Int).toNat IntKind.u64.bits)) = y / 256 := by
    show Int.fdiv y 256 = _
    rw [Int.fdiv_eq_ediv_of_nonneg _ (by omega)]
   rw [e, wrap_i64 (n := n + 8) (by omega) (by omega)]
   refine len_j3 (by omega) (by omega) (by omega) (by omega) fun r h0 h1 h2 => ?_
   rw [Int.add_assoc]
   refine hk (8 + r) (by omega) (by omega) fun _ => lenOk_shift (m := 8) rfl h0 (y := y / 256) (by omega) (by omega) (h2 (by omega))
  ·have q := of_decide_eq_false q
   exact len_j3 hy (by omega) hn (by omega) fun r h0 h1 h2 => hk r h0 (by omega) h2
 have j1 : ∀ (y n : Int), 0 <= y -> y < 4294967296 -> 0 <= n -> n <= 32 -> (∀ r, 0 <= r -> r <= 32 -> (1 <= y -> (2 : Int) ^ r.toNat <= 2 * y) -> Q (.int .i64 (n + r)) w) -> sh_f78_j1 Q y n w := by
  intro y n hy hy' hn hn' hk
  unfold sh_f78_j1
  refine br_i (fun q => ?_) (fun q => ?_)
  ·have q := of_decide_eq_true q
   have e : Int.fdiv y (2 ^ (min (16 : Int).toNat IntKind.u64.bits)) = y / 65536 := by
    show Int.fdiv y 65536 = _
    rw [Int.fdiv_eq_ediv_of_nonneg _ (by omega)]
   rw [e, wrap_i64 (n := n + 16) (by omega) (by omega)]
   refine j2 _ _ (by omega) (by omega) (by omega) (by omega) fun r h0 h1 h2 => ?_
   rw [Int.add_assoc]
   refine hk (16 + r) (by omega) (by omega) fun _ => lenOk_shift (m := 16) rfl h0 (y := y / 65536) (by omega) (by omega) (h2 (by omega))
  ·have q := of_decide_eq_false q
   exact j2 _ _ hy (by omega) hn (by omega) fun r h0 h1 h2 => hk r h0 (by omega) h2
 refine br_i (fun q => ?_) (fun q => ?_)
 ·have q := of_decide_eq_true q
  have e : Int.fdiv x (2 ^ (min (32 : Int).toNat IntKind.u64.bits)) = x / 4294967296 := by
   show Int.fdiv x 4294967296 = _
   rw [Int.fdiv_eq_ediv_of_nonneg _ (by omega)]
  rw [e]
  refine j1 _ _ (by omega) (by omega) (by omega) (by omega) fun r h0 h1 h2 => ?_
  exact h (32 + r) ⟨by omega, by omega, fun _ => lenOk_shift (m := 32) rfl h0 (y := x / 4294967296) (by omega) (by omega) (h2 (by omega))⟩
 ·have q := of_decide_eq_false q
  refine j1 _ _ hx (by omega) (by omega) (by omega) fun r h0 h1 h2 => ?_
  rw [Int.zero_add]
  exact h r ⟨h0, by omega, h2⟩
theorem c_bits_Len {x : Int} {Q : QW} {w : World} (hx : 0 <= x) (hx' : x <= 18446744073709551615) (h : ∀ r, LenOk x r -> Q (.int .i64 r) w) : CallsR PP n_f66 #[.int .u64 x] Q w := by
 refine so_f66 _ _ ?_
 exact c_bits_Len64 hx hx' fun r hr => ⟨r, rfl, h r hr⟩
theorem wrap_u64_range (n : Int) : U64 (IntKind.u64.wrap n) := by
 have e : IntKind.u64.wrap n = n % 18446744073709551616 := by
  simp [IntKind.wrap, IntKind.signed, IntKind.bits]
 rw [e]
 unfold U64
 omega
theorem c_nextPowerOfTwo {x : Int} {Q : QW} {w : World} (hx : 1 <= x) (hx' : x <= 1099511627776) (h : ∀ r, 1 <= r -> r <= 2 * x -> Q (.int .u64 r) w) : CallsR PP n_f82 #[.int .i64 x] Q w := by
 refine so_f82 _ _ ?_
 unfold sh_f82
 rw [wrap_u64 (n := x) (by omega) (by omega)]
 refine c_bits_Len (by omega) (by omega) fun r hr => ⟨r, rfl, hr.1, ?_⟩
 have h2 := hr.2.2 hx
 have hm : min (r : Int).toNat IntKind.u64.bits = r.toNat := by
  show min r.toNat 64 = r.toNat
  have := hr.2.1
  omega
 have hp : (0 : Int) < 2 ^ r.toNat := Int.pow_pos (by omega)
 rw [hm, Int.one_mul, wrap_u64 (by omega) (by omega)]
 exact h _ (by omega) h2
theorem c_xorshift_Next {b o : Nat} {v : Int} {Q : QW} {w : World} (hc : CellsAt w b o (tU64.enc v)) (hs : CanSt w b o 1)
  (h : ∀ x w', U64 x -> Keeps (· = b) w w' -> CellsAt w' b o (tU64.enc x) -> CanSt w' b o 1 -> Q (.int .u64 x) w') : CallsR PP n_f83 #[.pointer (some ⟨b, o, none⟩)] Q w := by
 refine so_f83 _ _ ?_
 unfold sh_f83
 refine ⟨b, o, rfl, dw_i fun w1 _ g1 => ?_⟩
 have hs1 := hs.keeps g1 (fun f => f)
 refine ld_i (hc.gr g1) (ld_i (hc.gr g1) (st_i hs1 fun w2 e2 k2 c2 => dw_i fun w3 _ g3 => ?_))
 have hs2 : CanSt w2 b o 1 := by rw [e2]; exact canSt_putL hs1
 have hs3 := hs2.keeps g3 (fun f => f)
 refine ld_i (c2.gr g3) (ld_i (c2.gr g3) (st_i hs3 fun w4 e4 k4 c4 => dw_i fun w5 _ g5 => ?_))
 have hs4 : CanSt w4 b o 1 := by rw [e4]; exact canSt_putL hs3
 have hs5 := hs4.keeps g5 (fun f => f)
 refine ld_i (c4.gr g5) (ld_i (c4.gr g5) (st_i hs5 fun w6 e6 k6 c6 => ?_))
 refine ld_i c6 (h _ w6 (wrap_u64_range _) ((Gr.keeps g1).trans (k2.trans ((Gr.keeps g3).trans (k4.trans ((Gr.keeps g5).trans k6))))) c6 ?_)
 rw [e6]; exact canSt_putL hs5
theorem c_slices_Index {D : Nat -> Prop} {s : Sl} {xs : List Int} {x : Int} {Q : QW} {w : World} (hs : SlIs tI64 D w s xs) (hl : xs.length <= 281474976710656)
  (h : ∀ r : Int, (0 <= r ↔ x ∈ xs) -> Q (.int .i64 r) w) : CallsR PP n_f64 #[.slice s.a s.len s.cap, .int .i64 x] Q w := by
 refine so_f64 _ _ ?_
 unfold sh_f64
 refine loop1 (sh_f64_b1 s x Q) (fun m i w' => w' = w /\ 0 <= i /\ i.toNat <= xs.length /\ m = xs.length - i.toNat /\ (x ∈ xs ↔ x ∈ xs.drop i.toNat)) ⟨_, rfl, by omega, by simp, rfl, by simp⟩ ?_
 rintro m i w' nxt ⟨rfl, h0, hi, rfl, hr⟩ hn
 unfold sh_f64_b1
 rw [hs.1]
 refine br_i (fun q => ?_) (fun q => ?_)
 ·have q := of_decide_eq_true q
  have hi' : i.toNat < xs.length := by omega
  refine hs.ixs 1 (fun _ => rfl) h0 hi' fun b o _ hc => ld_i (x := xs[i.toNat]) hc ?_
  rw [List.drop_eq_getElem_cons hi'] at hr
  refine br_i (fun q1 => ?_) (fun q1 => ?_)
  ·have q1 : x = xs[i.toNat] := by simpa using q1
   refine h i ⟨fun _ => hr.2 (List.mem_cons.2 (.inl q1)), fun _ => h0⟩
  ·have q1 : ¬ x = xs[i.toNat] := by simpa using q1
   rw [wrap_i64 (n := i + 1) (by omega) (by omega)]
   have et : (i + 1).toNat = i.toNat + 1 := by omega
   refine hn (xs.length - (i.toNat + 1)) _ _ (by omega) ⟨rfl, by omega, by omega, by rw [et], ?_⟩
   rw [hr, et, List.mem_cons]
   exact ⟨fun e => e.resolve_left q1, .inr⟩
 ·have q := of_decide_eq_false q
  have e : xs.drop i.toNat = [] := List.drop_eq_nil_of_le (by omega)
  rw [e] at hr
  unfold sh_f64_j2
  refine h (-1) ⟨fun e => by omega, fun e => absurd (hr.1 e) (by simp)⟩
theorem c_slices_Contains {D : Nat -> Prop} {s : Sl} {xs : List Int} {x : Int} {Q : QW} {w : World} (hs : SlIs tI64 D w s xs) (hl : xs.length <= 281474976710656)
  (h : Q (.bool (xs.contains x)) w) : CallsR PP n_f58 #[.slice s.a s.len s.cap, .int .i64 x] Q w := by
 refine so_f58 _ _ ?_
 refine c_slices_Index hs hl fun r hr => ⟨r, rfl, ?_⟩
 have e : decide (r ≥ 0) = xs.contains x := by
  by_cases hx : x ∈ xs
  ·rw [decide_eq_true (hr.2 hx)]; simp [hx]
  ·rw [decide_eq_false (fun e => hx (hr.1 e))]; simp [hx]
 rw [e]
 exact h
end Go.Proofs.Ytdefmgkicdhmkaa
namespace Go.Proofs.Ytdefmgkicdhmkaa
open Go Go.Sx
open Go.Sort (swp ltInt insInner insOuter PermIn SortedIn)
set_option linter.unusedVariables false
namespace Sint
structure Rw (w : World) (s : Sl) (b o : Nat) (d : Array Int) : Prop where
 a : s.a = some ⟨b, o, none⟩
 len : s.len = d.size
 cells : CellsAt w b o (d.toList.flatMap tI64.enc)
 can : CanSt w b o d.size
 small : d.size <= 1099511627776
variable {w : World} {s : Sl} {b o : Nat} {d : Array Int} {Q : QW}
theorem Rw.gr {w' : World} (h : Rw w s b o d) (g : Gr w w') : Rw w' s b o d := { h with cells := h.cells.gr g, can := h.can.keeps g (fun f => f) }
theorem Rw.keeps {w' : World} {S : Nat -> Prop} (h : Rw w s b o d) (g : Keeps S w w') (hs : ¬ S b) : Rw w' s b o d := { h with cells := h.cells.keeps g hs, can := h.can.keeps g hs }
theorem Rw.at (h : Rw w s b o d) {i : Nat} (hi : i < d.size) : CellsAt w b (o + i * 1) (tI64.enc d[i]!) := by
 obtain ⟨pre, post, he, hp⟩ := flatMap_split (T := tI64) (sz := 1) (fun _ => rfl) (xs := d.toList) (i := i) (by simpa using hi)
 have hc := h.cells
 rw [he, List.append_assoc, CellsAt.append, CellsAt.append, hp] at hc
 have e : d[i]! = d.toList[i]'(by simpa using hi) := by rw [getElem!_pos d i hi]; simp
 rw [e]
 exact hc.2.1
theorem rd (h : Rw w s b o d) {i : Int} {K : Int -> Prop} (h0 : 0 <= i) (h1 : i.toNat < d.size) (hk : K d[i.toNat]!) : ixs s i fun b1 o1 => ld tI64 w b1 (o1 + i.toNat * 1) K :=
 ⟨b, o, h.a, h0, by have := h.len; omega, ld_i (h.at h1) hk⟩
theorem Rw.set (h : Rw w s b o d) {i : Nat} {x : Int} (hi : i < d.size) : Rw (putL w b (o + i * 1) (tI64.enc x)) s b o (d.setIfInBounds i x) := by
 refine ⟨h.a, by simpa using h.len, ?_, by simpa using canSt_putL h.can, by simpa using h.small⟩
 have hcs : CanSt w b (o + i * 1) 1 := by have := h.can.sub i 1 (by omega); simpa using this
 have := CellsAt.set (T := tI64) (sz := 1) (fun _ => rfl) (y := x) (xs := d.toList) (o := o) (i := i) (by simpa using hi) hcs h.cells
 rw [Array.toList_setIfInBounds]
 exact this
theorem sw (h : Rw w s b o d) {i j : Int} {K : World -> Prop} (hi0 : 0 <= i) (hi : i.toNat < d.size) (hj0 : 0 <= j) (hj : j.toNat < d.size)
  (hk : ∀ w', Keeps (· = b) w w' -> Rw w' s b o (swp d i.toNat j.toNat) -> K w') :
  dw w fun w1 => ixs s j fun b1 o1 => ld tI64 w1 b1 (o1 + j.toNat * 1) fun x => ixs s i fun b2 o2 => ld tI64 w1 b2 (o2 + i.toNat * 1) fun y =>
   ixs s i fun b3 o3 => st tI64 w1 b3 (o3 + i.toNat * 1) x fun w2 => ixs s j fun b4 o4 => st tI64 w2 b4 (o4 + j.toNat * 1) y fun w3 => K w3 := by
 refine dw_i fun w1 e1 g1 => rd (h.gr g1) hj0 hj (rd (h.gr g1) hi0 hi ?_)
 have h1 := h.gr g1
 have hl := h.len
 refine ⟨b, o, h.a, hi0, by omega, st_i (by have := h1.can.sub i.toNat 1 (by omega); simpa using this) fun w2 e2 k2 c2 => ?_⟩
 have h2 : Rw w2 s b o (d.setIfInBounds i.toNat d[j.toNat]!) := by rw [e2]; exact h1.set hi
 refine ⟨b, o, h.a, hj0, by omega, st_i (by have := h2.can.sub j.toNat 1 (by simp; omega); simpa using this) fun w3 e3 k3 c3 => ?_⟩
 have h3 : Rw w3 s b o ((d.setIfInBounds i.toNat d[j.toNat]!).setIfInBounds j.toNat d[i.toNat]!) := by rw [e3]; exact h2.set (by simpa using hj)
 exact hk w3 ((Gr.keeps g1).trans (k2.trans k3)) h3
theorem swp_size (d : Array Int) (i j : Nat) : (swp d i j).size = d.size := by simp [swp]
theorem less {x y : Int} {K : Bool -> World -> Prop} (h : K (ltInt x y) w) : CallsR PP n_f74 #[.int .i64 x, .int .i64 y] (fun v w' => ∃ z : Bool, v = .bool z /\ K z w') w := by
 refine so_f74 _ _ ?_
 unfold sh_f74 sh_f74_j1
 refine so_f86 _ _ ?_
 exact ⟨_, rfl, br_f (by simp) ⟨_, rfl, h⟩⟩
theorem w64 {n : Int} (h : 0 <= n + 1099511627776) (h' : n <= 4398046511104) : IntKind.i64.wrap n = n := wrap_i64 (by omega) (by omega)
theorem c_insertionSort {a c : Int} (h : Rw w s b o d) (ha : 0 <= a) (hac : a <= c) (hc : c <= d.size) (hk : ∀ w', Keeps (· = b) w w' -> Rw w' s b o (Sort.insertionSort ltInt d a.toNat c.toNat) -> Q (.tuple #[]) w') :
  CallsR PP n_f68 #[.slice s.a s.len s.cap, .int .i64 a, .int .i64 c] Q w := by
 refine so_f68 _ _ ?_
 unfold sh_f68
 have hsm := h.small
 rw [w64 (n := a + 1) (by omega) (by omega)]
 refine loop1 (sh_f68_b1 s a c Q) (fun m i w' => a + 1 <= i /\ m = (c - i).toNat /\ Keeps (· = b) w w' /\ ∃ d1, Rw w' s b o d1 /\ d1.size = d.size /\ insOuter ltInt a.toNat c.toNat i.toNat d1 = Sort.insertionSort ltInt d a.toNat c.toNat)
  ⟨_, by omega, rfl, Keeps.refl _ _, d, h, rfl, by unfold Sort.insertionSort; rw [show (a + 1).toNat = a.toNat + 1 from by omega]⟩ ?_
 rintro m i w1 nxt ⟨hi, rfl, k1, d1, h1, hd1, he⟩ hn
 unfold sh_f68_b1
 refine br_i (fun q => ?_) (fun q => ?_)
 ·have q := of_decide_eq_true q
  rw [insOuter, if_pos (by omega)] at he
  refine loop1 (sh_f68_b2 s a i nxt) (fun m j w' => a <= j /\ j <= i /\ m = j.toNat /\ Keeps (· = b) w w' /\ ∃ d2, Rw w' s b o d2 /\ d2.size = d.size /\ insInner ltInt a.toNat j.toNat d2 = insInner ltInt a.toNat i.toNat d1)
   ⟨_, by omega, by omega, rfl, k1, d1, h1, hd1, rfl⟩ ?_
  rintro m j w2 nxt2 ⟨hj0, hj1, rfl, k2, d2, h2, hd2, he2⟩ hn2
  unfold sh_f68_b2
  have done : ∀ w3, Keeps (· = b) w w3 -> Rw w3 s b o d2 -> insInner ltInt a.toNat j.toNat d2 = d2 -> sh_f68_j3 s i nxt j nxt2 false w3 := by
   intro w3 k3 h3 e
   refine br_f rfl ?_
   show nxt _ _
   rw [w64 (n := i + 1) (by omega) (by omega)]
   refine hn (c - (i + 1)).toNat _ _ (by omega) ⟨by omega, rfl, k3, d2, h3, hd2, ?_⟩
   rw [show (i + 1).toNat = i.toNat + 1 from by omega, <- he, <- he2, e]
  refine dw_i fun w3 e3 g3 => ?_
  have h3 := h2.gr g3
  have k3 := k2.trans (Gr.keeps g3)
  rw [w64 (n := j - 1) (by omega) (by omega)]
  refine br_i (fun q1 => ?_) (fun q1 => ?_)
  ·have q1 := of_decide_eq_true q1
   obtain ⟨j', rfl⟩ : ∃ j' : Nat, j = j' + 1 := ⟨(j - 1).toNat, by omega⟩
   have e1 : ((j' : Int) + 1).toNat = j' + 1 := by omega
   have e0 : ((j' : Int) + 1 - 1).toNat = j' := by omega
   refine rd h3 (by omega) (by omega) (rd h3 (by omega) (by omega) (less ?_))
   rw [e1, e0]
   cases hl : ltInt d2[j' + 1]! d2[j']! with
   | false =>
    refine done _ k3 h3 ?_
    rw [e1, insInner, hl]; simp
   | true =>
    refine br_t rfl ?_
    rw [w64 (n := (j' : Int) + 1 - 1) (by omega) (by omega)]
    refine sw h3 (by omega) (by omega) (by omega) (by omega) fun w4 k4 h4 => ?_
    rw [e1, e0] at h4
    refine hn2 j' _ _ (by omega) ⟨by omega, by omega, by omega, k3.trans k4, _, h4, by rw [swp_size]; exact hd2, ?_⟩
    rw [<- he2, e1, e0, insInner, hl]
    simp only [Bool.and_true]
    rw [if_pos (by simp; omega)]
  ·have q1 := of_decide_eq_false q1
   refine done _ k3 h3 ?_
   cases hj : j.toNat with
   | zero => rfl
   | succ j' => rw [insInner, if_neg (by simp; omega)]
 ·have q := of_decide_eq_false q
  rw [insOuter, if_neg (by omega)] at he
  rw [<- he] at hk
  exact hk w1 k1 h1
theorem swo : Sort.SWO ltInt := ⟨fun x => by simp [ltInt], fun x y z h1 h2 => by simp only [ltInt, decide_eq_true_eq] at *; omega, fun x y z h1 h2 => by simp only [ltInt, decide_eq_false_iff_not] at *; omega⟩
theorem c_pdqsort {a c l : Int} (h : Rw w s b o d) (hb : b < w.heap.size) (ha : 0 <= a) (hac : a <= c) (hc : c <= d.size) (h12 : c - a <= 12)
  (hk : ∀ w' d', Keeps (· = b) w w' -> Rw w' s b o d' -> PermIn a.toNat c.toNat d d' -> SortedIn ltInt a.toNat c.toNat d' -> Q (.tuple #[]) w') :
  CallsR PP n_f65 #[.slice s.a s.len s.cap, .int .i64 a, .int .i64 c, .int .i64 l] Q w := by
 refine so_f65 _ _ ?_
 unfold sh_f65
 have hsm := h.small
 refine loop5 (sh_f65_b1 s Q) (fun m x y z u v w' => x = a /\ y = c /\ w' = w) ⟨0, rfl, rfl, rfl⟩ ?_
 rintro m x y z u v w' nxt ⟨rfl, rfl, rfl⟩ hnx
 unfold sh_f65_b1
 rw [w64 (n := y - x) (by omega) (by omega)]
 refine br_t (by simpa using h12) (c_insertionSort h ha hac hc fun w2 k2 h2 => ?_)
 obtain ⟨p1, p2⟩ := Sort.insertionSort_holds swo d x.toNat y.toNat (by omega) (by omega)
 exact hk w2 _ k2 h2 p1 p2
theorem c_Sort {w : World} {d : Array Int} {Q : QW} (h : Rw w s b o d) (hb : b < w.heap.size) (h12 : d.size <= 12) (hk : ∀ w' d', Keeps (· = b) w w' -> Rw w' s b o d' -> d'.toList = d.toList.mergeSort (fun x y => decide (x <= y)) -> Q (.tuple #[]) w') :
  CallsR PP n_f59 #[.slice s.a s.len s.cap] Q w := by
 refine so_f59 _ _ ?_
 unfold sh_f59
 have hsm := h.small
 rw [h.len, wrap_u64 (n := (d.size : Int)) (by omega) (by omega)]
 refine c_bits_Len (by omega) (by omega) fun r hr => ⟨r, rfl, ?_⟩
 rw [<- h.len]
 have hl := h.len
 refine c_pdqsort h hb (by omega) (by omega) (by omega) (by omega) fun w' d' k' h' p' s' => ?_
 refine hk w' d' k' h' ?_
 have e : ((s.len : Nat) : Int).toNat = d.size := by omega
 rw [e] at p' s'
 have := Sort.sorted_unique_holds swo (fun x y h1 h2 => by simp only [ltInt, decide_eq_false_iff_not] at h1 h2; omega) d d' p' s'
 rw [this]
 congr 1
 funext x y
 simp only [ltInt]
 by_cases h : x <= y
 ·rw [decide_eq_true h, decide_eq_false (by omega)]; rfl
 ·rw [decide_eq_false h, decide_eq_true (by omega)]; rfl
theorem c_Sort_none {w : World} {Q : QW} (hl : s.len = 0) (hk : Q (.tuple #[]) w) : CallsR PP n_f59 #[.slice s.a s.len s.cap] Q w := by
 refine so_f59 _ _ ?_
 unfold sh_f59
 rw [hl, wrap_u64 (n := ((0 : Nat) : Int)) (by omega) (by omega)]
 refine c_bits_Len (by omega) (by omega) fun r hr => ⟨r, rfl, ?_⟩
 rw [<- hl]
 refine so_f65 _ _ ?_
 unfold sh_f65
 refine loop5 (sh_f65_b1 s _) (fun m x y z u v w' => x = 0 /\ y = 0 /\ w' = w) ⟨0, rfl, by omega, rfl⟩ ?_
 rintro m x y z u v w' nxt ⟨rfl, rfl, rfl⟩ hn
 unfold sh_f65_b1
 refine br_t (by decide) (so_f68 _ _ ?_)
 unfold sh_f68
 refine loop1 (sh_f68_b1 s 0 0 _) (fun m i w'' => i = 1 /\ w'' = w') ⟨0, by decide, rfl⟩ ?_
 rintro m i w'' nxt ⟨rfl, rfl⟩ hn
 unfold sh_f68_b1
 exact br_f (by decide) hk
end Sint
end Go.Proofs.Ytdefmgkicdhmkaa
namespace Go.Proofs.Ytdefmgkicdhmkaa
open Go Go.Sx
set_option linter.unusedVariables false
theorem rising_sorted : ∀ {n : Nat} {p : Option Int} {l : List Int}, rising n p l = true -> l.Pairwise (· < ·) /\ (∀ x ∈ l, 0 <= x /\ x < n) /\ ∀ q, p = some q -> ∀ x ∈ l, q < x
 | _, _, [], _ => ⟨List.Pairwise.nil, by simp, by simp⟩
 | n, p, w :: r, h => by
  unfold rising at h
  simp only [Bool.and_eq_true, decide_eq_true_eq] at h
  obtain ⟨⟨⟨h1, h2⟩, h3⟩, h4⟩ := h
  obtain ⟨i1, i2, i3⟩ := rising_sorted h4
  refine ⟨List.Pairwise.cons (fun x hx => i3 w rfl x hx) i1, ?_, ?_⟩
  ·intro x hx
   rcases List.mem_cons.1 hx with rfl | hx
   ·exact ⟨h1, h2⟩
   ·exact i2 x hx
  ·rintro q rfl x hx
   have h3 : q < w := by simpa using h3
   rcases List.mem_cons.1 hx with rfl | hx
   ·exact h3
   ·have := i3 w rfl x hx; omega
theorem filter_sorted {l : List Int} (h : l.Pairwise (· < ·)) (p : Int -> Bool) : (l.filter p).mergeSort (fun x y => decide (x <= y)) = l.filter p := by
 refine List.mergeSort_of_pairwise ?_
 refine (List.Pairwise.sublist List.filter_sublist h).imp fun h => ?_
 simp only [decide_eq_true_eq]; omega
theorem c_vote_Both {D D' : Nat -> Prop} {ga gb : G_api_Vote} {a b : AVote} {n : Nat} {Q : QW} {w : World} (ha : VoteIs D w ga a) (hb : VoteIs D' w gb b) (hr : rising n none a.who = true) (hn : n <= 1000000) (hsm : a.who.length <= 12)
  (h : ∀ s w', Gr w w' -> SlIs tI64 (w.heap.size <= ·) w' s (bothOf a b) -> Q (.slice s.a s.len s.cap) w') :
  CallsR PP n_f38 #[t_api_Vote.val ga, t_api_Vote.val gb] Q w := by
 refine so_f38 _ _ ?_
 unfold sh_f38
 obtain ⟨hs1, hs2, _⟩ := rising_sorted hr
 refine al_i fun b1 w1 e1 g1 c1 _ => al_i fun b2 w2 e2 g2 c2 _ => ld_i (x := ga.Who) ((c1.gr g2).sub 6 1) ?_
 have g12 := g1.trans g2
 have hsz := g12.size
 have hb2 : b2 < w2.heap.size := by
  have := c2.1
  exact cell_lt this
 have hb1 := hb.len
 refine loop2 (sh_f38_b1 Q b2 ga.Who) (fun m s i w' => 0 <= i /\ i.toNat <= a.who.length /\ m = a.who.length - i.toNat /\ Gr w2 w' /\ OwnS tI64 1 w2.heap.size w' s ((a.who.take i.toNat).filter fun w => b.who.contains w))
  ⟨_, by omega, by simp, rfl, Gr.refl _, by simpa using OwnS.nil⟩ ?_
 rintro m s i w3 nxt ⟨h0, hi, rfl, g3, ho⟩ hnx
 have hA := (ha.gr (g12.trans g3)).who
 have hB := (hb.gr (g12.trans g3)).who
 have c3 := c2.gr g3
 unfold sh_f38_b1
 rw [ha.who.1]
 refine br_i (fun q => ?_) (fun q => ?_)
 ·have q := of_decide_eq_true q
  have hi' : i.toNat < a.who.length := by omega
  refine hA.ixs 1 (fun _ => rfl) h0 hi' fun b3 o3 _ hc => ld_i (x := a.who[i.toNat]) hc (ld_i (x := gb.Who) (c3.sub 6 1) ?_)
  have htake : a.who.take (i.toNat + 1) = a.who.take i.toNat ++ [a.who[i.toNat]] := (List.take_append_getElem hi').symm
  have hnew : a.who[i.toNat] ∉ a.who.take i.toNat := by
   intro hm
   have hp := hs1
   rw [<- List.take_append_drop (i.toNat + 1) a.who, htake] at hp
   have hp := (List.pairwise_append.1 hp).1
   have := (List.pairwise_append.1 hp).2.2 _ hm a.who[i.toNat] (by simp)
   omega
  generalize a.who[i.toNat] = x at htake hnew
  have hol : ((a.who.take i.toNat).filter fun w => b.who.contains w).length <= a.who.length := by
   refine Nat.le_trans (List.length_filter_le _ _) ?_
   rw [List.length_take]; omega
  have et : (i + 1).toNat = i.toNat + 1 := by omega
  have next : ∀ s' w', Gr w2 w' -> OwnS tI64 1 w2.heap.size w' s' ((a.who.take (i.toNat + 1)).filter fun w => b.who.contains w) -> sh_f38_j3 i nxt s' w' := by
   intro s' w' g' ho'
   unfold sh_f38_j3
   rw [wrap_i64 (n := i + 1) (by omega) (by omega)]
   exact hnx _ _ _ _ (by omega) ⟨by omega, by omega, rfl, g', by rw [et]; exact ho'⟩
  refine c_slices_Contains hB hb1 ⟨_, rfl, br_i (fun q1 => ?_) (fun q1 => ?_)⟩
  ·refine c_slices_Contains ho.is (by omega) ⟨_, rfl, ?_⟩
   have hno : ((a.who.take i.toNat).filter fun w => b.who.contains w).contains x = false := by
    have : x ∉ (a.who.take i.toNat).filter fun w => b.who.contains w := fun hm => hnew (List.mem_filter.1 hm).1
    simpa using this
   rw [hno]
   unfold sh_f38_j2
   refine br_t rfl (alr_i fun b4 w4 e4 g4 c4 s4 => ?_)
   have hs4 := g4.size
   have h24 := (g3.trans g4).size
   have hl4 : SlIs tI64 (fun _ => True) w4 ⟨some ⟨b4, 0, none⟩, 1, 1⟩ [x] := ⟨rfl, Nat.le_refl _, .inr ⟨b4, 0, rfl, trivial, by simpa using c4⟩⟩
   refine (ho.gr g4).app (fun _ => rfl) (fun y v hv => by simp at hv; subst hv; rfl) hl4 (by omega) (by simp only [List.length_singleton]; omega) fun s' w5 k5 ho5 => ?_
   refine next s' w5 ?_ ?_
   ·exact Gr.local (g3.trans g4) k5 fun j e => e.1
   ·rw [htake, List.filter_append, List.filter_cons_of_pos q1]
    exact ho5
  ·unfold sh_f38_j2
   refine br_f rfl (next s w3 g3 ?_)
   rw [htake, List.filter_append, List.filter_cons_of_neg (by rw [q1]; simp), List.filter_nil, List.append_nil]
   exact ho
 ·have q := of_decide_eq_false q
  have : i.toNat = a.who.length := by omega
  rw [this, List.take_length] at ho
  unfold sh_f38_j4
  have hres : ∀ w4, Gr w2 w4 -> SlIs tI64 (w.heap.size <= ·) w4 s (bothOf a b) -> Q (.slice s.a s.len s.cap) w4 := fun w4 g4 hh => h s w4 (g12.trans g4) hh
  have hlen : (bothOf a b).length <= a.who.length := List.length_filter_le _ _
  change OwnS tI64 1 w2.heap.size w3 s (bothOf a b) at ho
  by_cases hz : s.len = 0
  ·refine Sint.c_Sort_none hz (hres w3 g3 ?_)
   exact (ho.is.mono fun b hb => by omega)
  ·rcases ho.2.2 with hcap | ⟨bb, hba, hbb, hcc, hcn⟩
   ·have := ho.2.1; omega
   ·have hl := ho.1
    have hrw : Sint.Rw w3 s bb 0 (bothOf a b).toArray := by
     refine ⟨hba, by simpa using hl, by simpa using hcc, ?_, by simp; omega⟩
     have := hcn.sub 0 (bothOf a b).length (by have := ho.2.1; omega)
     simpa using this
    have hbl : bb < w3.heap.size := by
     rcases hcn' : s.cap * 1 with _ | k
     ·have := ho.2.1; omega
     ·rw [hcn'] at hcn
      obtain ⟨v, hv⟩ := hcn.1
      exact cell_lt hv
    refine Sint.c_Sort hrw hbl (by simp; omega) fun w4 d' k4 h4 hd' => ?_
    have hd' : d'.toList = bothOf a b := by rw [hd']; exact filter_sorted hs1 _
    refine hres w4 (Gr.local g3 k4 fun j e => by subst e; exact hbb) ⟨by rw [h4.len, <- hd']; simp, ho.2.1, .inr ⟨bb, 0, hba, by omega, ?_⟩⟩
    have := h4.cells
    rw [hd'] at this
    exact this
theorem c_slash_Who {D D' : Nat -> Prop} {gc : G_api_Config} {c : ACfg} {gp : G_api_Proof} {p : AProof} {Q : QW} {w : World} (hc : CfgIs D w gc c) (hbl : c.bal.length <= 12) (ha : VoteIs D' w gp.A p.a) (hb : VoteIs D' w gp.B p.b)
  (h : ∀ s w', Gr w w' -> SlIs tI64 (w.heap.size <= ·) w' s ((proofWho c p).getD []) -> Q (.tuple #[.slice s.a s.len s.cap, if (proofWho c p).isSome then .nilIface else .iface i_api_Errno (.int .i64 11)]) w') :
  CallsR PP n_f13 #[t_api_Config.val gc, t_api_Proof.val gp] Q w := by
 refine so_f13 _ _ ?_
 unfold sh_f13
 refine al_i fun b1 w1 e1 g1 c1 _ => al_i fun b2 w2 e2 g2 c2 _ => ?_
 replace c1 := c1.gr g2
 have g := g1.trans g2
 have no : ∀ {w'}, Gr w w' -> proofWho c p = none -> Q (.tuple #[.slice none 0 0, .iface i_api_Errno (.int .i64 11)]) w' := by
  intro w' g' e
  have := h nilSl w' g' (by rw [e]; exact SlIs.nil)
  rw [e] at this
  exact this
 have noj : ∀ {x : Bool} {w'}, x = true -> Gr w w' -> proofWho c p = none -> sh_f13_j1 Q b2 x w' := by
  rintro x w' rfl g' e
  unfold sh_f13_j1
  exact br_t rfl (no g' e)
 refine ld_i (x := gc) c1 (ld_i (x := gp.A) (c2.sub 0 7) (c_vote_Right (hc.gr g) (ha.gr g) fun w3 g3 => ⟨_, rfl, ?_⟩))
 replace g := g.trans g3
 replace c1 := c1.gr g3; replace c2 := c2.gr g3
 refine br_i (fun q1 => noj rfl g ?_) (fun q1 => ?_)
 ·have q1 : voteRight c p.a = false := by simpa using q1
  unfold proofWho; rw [q1]; rfl
 have q1 : voteRight c p.a = true := by simpa using q1
 refine ld_i (x := gc) c1 (ld_i (x := gp.B) (c2.sub 7 7) (c_vote_Right (hc.gr g) (hb.gr g) fun w4 g4 => ⟨_, rfl, ?_⟩))
 replace g := g.trans g4
 replace c1 := c1.gr g4; replace c2 := c2.gr g4
 refine br_i (fun q2 => noj rfl g ?_) (fun q2 => ?_)
 ·have q2 : voteRight c p.b = false := by simpa using q2
  unfold proofWho; rw [q2]; simp
 have q2 : voteRight c p.b = true := by simpa using q2
 refine ld_i (x := gp.A) (c2.sub 0 7) (ld_i (x := gp.B) (c2.sub 7 7) (c_slash_Bad (ha.gr g) (hb.gr g) fun w5 g5 => ⟨_, rfl, ?_⟩))
 replace g := g.trans g5
 replace c2 := c2.gr g5
 cases q3 : badVotes p.a p.b with
 | false =>
  refine noj rfl g ?_
  unfold proofWho; rw [q3]; simp
 | true =>
  have hr : rising c.bal.length none p.a.who = true := by
   unfold voteRight at q1
   simp only [Bool.and_eq_true] at q1
   exact q1.2
  have hal : p.a.who.length <= 12 := by
   obtain ⟨r1, r2, _⟩ := rising_sorted hr
   have key : ∀ (l : List Int) (k : Int), l.Pairwise (· < ·) -> (∀ x ∈ l, k <= x /\ x < c.bal.length) -> (l.length : Int) <= max 0 (c.bal.length - k) := by
    intro l
    induction l with
    | nil => intro k _ _; simp; omega
    | cons x l ihl =>
     intro k hp hx
     have hp' := List.pairwise_cons.1 hp
     have := ihl (x + 1) hp'.2 fun y hy => ⟨by have := hp'.1 y hy; omega, (hx y (by simp [hy])).2⟩
     have := hx x (by simp)
     simp only [List.length_cons]
     omega
   have := key p.a.who 0 r1 r2
   omega
  unfold sh_f13_j1
  refine br_f rfl (ld_i (x := gp.A) (c2.sub 0 7) (ld_i (x := gp.B) (c2.sub 7 7) (c_vote_Both (ha.gr g) (hb.gr g) hr (by omega) hal fun s w6 g6 hs => ⟨s, rfl, ?_⟩)))
  rw [hs.1]
  refine br_i (fun q4 => no (g.trans g6) ?_) (fun q4 => ?_)
  ·have q4 : (bothOf p.a p.b).length = 0 := by simpa using q4
   unfold proofWho; rw [q4]; simp
  ·have q4 : ¬ (bothOf p.a p.b).length = 0 := by simpa using q4
   have e : proofWho c p = some (bothOf p.a p.b) := by unfold proofWho; rw [q1, q2, q3]; simp [q4]
   rw [e] at h
   have hz := g.size
   have := h s w6 (g.trans g6) (hs.mono fun b hb => by omega)
   rw [<- hs.1]
   exact this
end Go.Proofs.Ytdefmgkicdhmkaa
