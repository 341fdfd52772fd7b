/- What the functions do, part 10; for every memory. -/
import Derived.Test.YtdefmgkicdhmkaaQ9
namespace Go.Proofs.Ytdefmgkicdhmkaa
open Go Go.Sx
open Go.Sort (swp ltInt insInner insOuter order2 median medianAdjacent choosePivot reverseLoop reverseRange)
set_option linter.unusedVariables false
namespace Suint64
structure Rw (w : World) (s : Sl) (b o : Nat) (d : Array Int) : Prop where
 a : s.a = some ⟨b, o, none⟩
 len : s.len = d.size
 cells : CellsAt w b o (d.toList.flatMap tU64.enc)
 can : CanSt w b o d.size
 small : d.size <= 1099511627776
variable {w : World} {s : Sl} {b o : Nat} {d : Array Int} {Q : QW}
theorem Rw.gr {w' : World} (h : Rw w s b o d) (g : Gr w w') : Rw w' s b o d := { h with cells := h.cells.gr g, can := h.can.keeps g (fun f => f) }
theorem Rw.keeps {w' : World} {S : Nat -> Prop} (h : Rw w s b o d) (g : Keeps S w w') (hs : ¬ S b) : Rw w' s b o d := { h with cells := h.cells.keeps g hs, can := h.can.keeps g hs }
theorem Rw.at (h : Rw w s b o d) {i : Nat} (hi : i < d.size) : CellsAt w b (o + i * 1) (tU64.enc d[i]!) := by
 obtain ⟨pre, post, he, hp⟩ := flatMap_split (T := tU64) (sz := 1) (fun _ => rfl) (xs := d.toList) (i := i) (by simpa using hi)
 have hc := h.cells
 rw [he, List.append_assoc, CellsAt.append, CellsAt.append, hp] at hc
 have e : d[i]! = d.toList[i]'(by simpa using hi) := by rw [getElem!_pos d i hi]; simp
 rw [e]
 exact hc.2.1
theorem rd (h : Rw w s b o d) {i : Int} {K : Int -> Prop} (h0 : 0 <= i) (h1 : i.toNat < d.size) (hk : K d[i.toNat]!) : ixs s i fun b1 o1 => ld tU64 w b1 (o1 + i.toNat * 1) K :=
 ⟨b, o, h.a, h0, by have := h.len; omega, ld_i (h.at h1) hk⟩
theorem Rw.set (h : Rw w s b o d) {i : Nat} {x : Int} (hi : i < d.size) : Rw (putL w b (o + i * 1) (tU64.enc x)) s b o (d.setIfInBounds i x) := by
 refine ⟨h.a, by simpa using h.len, ?_, by simpa using canSt_putL h.can, by simpa using h.small⟩
 have hcs : CanSt w b (o + i * 1) 1 := by have := h.can.sub i 1 (by omega); simpa using this
 have := CellsAt.set (T := tU64) (sz := 1) (fun _ => rfl) (y := x) (xs := d.toList) (o := o) (i := i) (by simpa using hi) hcs h.cells
 rw [Array.toList_setIfInBounds]
 exact this
theorem sw (h : Rw w s b o d) {i j : Int} {K : World -> Prop} (hi0 : 0 <= i) (hi : i.toNat < d.size) (hj0 : 0 <= j) (hj : j.toNat < d.size)
  (hk : ∀ w', Keeps (· = b) w w' -> Rw w' s b o (swp d i.toNat j.toNat) -> K w') :
  dw w fun w1 => ixs s j fun b1 o1 => ld tU64 w1 b1 (o1 + j.toNat * 1) fun x => ixs s i fun b2 o2 => ld tU64 w1 b2 (o2 + i.toNat * 1) fun y =>
   ixs s i fun b3 o3 => st tU64 w1 b3 (o3 + i.toNat * 1) x fun w2 => ixs s j fun b4 o4 => st tU64 w2 b4 (o4 + j.toNat * 1) y fun w3 => K w3 := by
 refine dw_i fun w1 e1 g1 => rd (h.gr g1) hj0 hj (rd (h.gr g1) hi0 hi ?_)
 have h1 := h.gr g1
 have hl := h.len
 refine ⟨b, o, h.a, hi0, by omega, st_i (by have := h1.can.sub i.toNat 1 (by omega); simpa using this) fun w2 e2 k2 c2 => ?_⟩
 have h2 : Rw w2 s b o (d.setIfInBounds i.toNat d[j.toNat]!) := by rw [e2]; exact h1.set hi
 refine ⟨b, o, h.a, hj0, by omega, st_i (by have := h2.can.sub j.toNat 1 (by simp; omega); simpa using this) fun w3 e3 k3 c3 => ?_⟩
 have h3 : Rw w3 s b o ((d.setIfInBounds i.toNat d[j.toNat]!).setIfInBounds j.toNat d[i.toNat]!) := by rw [e3]; exact h2.set (by simpa using hj)
 exact hk w3 ((Gr.keeps g1).trans (k2.trans k3)) h3
theorem swp_size (d : Array Int) (i j : Nat) : (swp d i j).size = d.size := by simp [swp]
theorem less {x y : Int} {K : Bool -> World -> Prop} (h : K (ltInt x y) w) : CallsR PP n_f99 #[.int .u64 x, .int .u64 y] (fun v w' => ∃ z : Bool, v = .bool z /\ K z w') w := by
 refine so_f99 _ _ ?_
 unfold sh_f99 sh_f99_j1
 refine so_f105 _ _ ?_
 exact ⟨_, rfl, br_f (by simp) ⟨_, rfl, h⟩⟩
theorem w64 {n : Int} (h : 0 <= n + 1099511627776) (h' : n <= 4398046511104) : IntKind.i64.wrap n = n := wrap_i64 (by omega) (by omega)
theorem c_insertionSort {a c : Int} (h : Rw w s b o d) (ha : 0 <= a) (hac : a <= c) (hc : c <= d.size) (hk : ∀ w', Keeps (· = b) w w' -> Rw w' s b o (Sort.insertionSort ltInt d a.toNat c.toNat) -> Q (.tuple #[]) w') :
  CallsR PP n_f93 #[.slice s.a s.len s.cap, .int .i64 a, .int .i64 c] Q w := by
 refine so_f93 _ _ ?_
 unfold sh_f93
 have hsm := h.small
 rw [w64 (n := a + 1) (by omega) (by omega)]
 refine loop1 (sh_f93_b1 s a c Q) (fun m i w' => a + 1 <= i /\ m = (c - i).toNat /\ Keeps (· = b) w w' /\ ∃ d1, Rw w' s b o d1 /\ d1.size = d.size /\ insOuter ltInt a.toNat c.toNat i.toNat d1 = Sort.insertionSort ltInt d a.toNat c.toNat)
  ⟨_, by omega, rfl, Keeps.refl _ _, d, h, rfl, by unfold Sort.insertionSort; rw [show (a + 1).toNat = a.toNat + 1 from by omega]⟩ ?_
 rintro m i w1 nxt ⟨hi, rfl, k1, d1, h1, hd1, he⟩ hn
 unfold sh_f93_b1
 refine br_i (fun q => ?_) (fun q => ?_)
 ·have q := of_decide_eq_true q
  rw [insOuter, if_pos (by omega)] at he
  refine loop1 (sh_f93_b2 s a i nxt) (fun m j w' => a <= j /\ j <= i /\ m = j.toNat /\ Keeps (· = b) w w' /\ ∃ d2, Rw w' s b o d2 /\ d2.size = d.size /\ insInner ltInt a.toNat j.toNat d2 = insInner ltInt a.toNat i.toNat d1)
   ⟨_, by omega, by omega, rfl, k1, d1, h1, hd1, rfl⟩ ?_
  rintro m j w2 nxt2 ⟨hj0, hj1, rfl, k2, d2, h2, hd2, he2⟩ hn2
  unfold sh_f93_b2
  have done : ∀ w3, Keeps (· = b) w w3 -> Rw w3 s b o d2 -> insInner ltInt a.toNat j.toNat d2 = d2 -> sh_f93_j3 s i nxt j nxt2 false w3 := by
   intro w3 k3 h3 e
   refine br_f rfl ?_
   show nxt _ _
   rw [w64 (n := i + 1) (by omega) (by omega)]
   refine hn (c - (i + 1)).toNat _ _ (by omega) ⟨by omega, rfl, k3, d2, h3, hd2, ?_⟩
   rw [show (i + 1).toNat = i.toNat + 1 from by omega, <- he, <- he2, e]
  refine dw_i fun w3 e3 g3 => ?_
  have h3 := h2.gr g3
  have k3 := k2.trans (Gr.keeps g3)
  rw [w64 (n := j - 1) (by omega) (by omega)]
  refine br_i (fun q1 => ?_) (fun q1 => ?_)
  ·have q1 := of_decide_eq_true q1
   obtain ⟨j', rfl⟩ : ∃ j' : Nat, j = j' + 1 := ⟨(j - 1).toNat, by omega⟩
   have e1 : ((j' : Int) + 1).toNat = j' + 1 := by omega
   have e0 : ((j' : Int) + 1 - 1).toNat = j' := by omega
   refine rd h3 (by omega) (by omega) (rd h3 (by omega) (by omega) (less ?_))
   rw [e1, e0]
   cases hl : ltInt d2[j' + 1]! d2[j']! with
   | false =>
    refine done _ k3 h3 ?_
    rw [e1, insInner, hl]; simp
   | true =>
    refine br_t rfl ?_
    rw [w64 (n := (j' : Int) + 1 - 1) (by omega) (by omega)]
    refine sw h3 (by omega) (by omega) (by omega) (by omega) fun w4 k4 h4 => ?_
    rw [e1, e0] at h4
    refine hn2 j' _ _ (by omega) ⟨by omega, by omega, by omega, k3.trans k4, _, h4, by rw [swp_size]; exact hd2, ?_⟩
    rw [<- he2, e1, e0, insInner, hl]
    simp only [Bool.and_true]
    rw [if_pos (by simp; omega)]
  ·have q1 := of_decide_eq_false q1
   refine done _ k3 h3 ?_
   cases hj : j.toNat with
   | zero => rfl
   | succ j' => rw [insInner, if_neg (by simp; omega)]
 ·have q := of_decide_eq_false q
  rw [insOuter, if_neg (by omega)] at he
  rw [<- he] at hk
  exact hk w1 k1 h1
theorem c_order2 {a c : Int} {sb so : Nat} {n : Nat} {K : Int -> Int -> World -> Prop} (h : Rw w s b o d) (hs : CellsAt w sb so (tI64.enc (n : Int))) (hsc : CanSt w sb so 1) (hne : sb ≠ b) (hn : n <= 1000) (ha : 0 <= a) (ha' : a < d.size) (hc : 0 <= c) (hc' : c < d.size)
  (hk : ∀ w', Keeps (· = sb) w w' -> CellsAt w' sb so (tI64.enc ((order2 ltInt d a.toNat c.toNat n).2.2 : Int)) -> CanSt w' sb so 1 -> K (order2 ltInt d a.toNat c.toNat n).1 (order2 ltInt d a.toNat c.toNat n).2.1 w') :
  CallsR PP n_f106 #[.slice s.a s.len s.cap, .int .i64 a, .int .i64 c, .pointer (some ⟨sb, so, none⟩)] (fun v w' => ∃ x y : Int, v = .tuple #[.int .i64 x, .int .i64 y] /\ K x y w') w := by
 refine so_f106 _ _ ?_
 unfold sh_f106
 refine ⟨sb, so, rfl, dw_i fun w1 e1 g1 => ?_⟩
 have h1 := h.gr g1
 refine rd h1 hc (by omega) (rd h1 ha (by omega) (less ?_))
 have e1 : ((a.toNat : Nat) : Int) = a := by omega
 have e2 : ((c.toNat : Nat) : Int) = c := by omega
 unfold order2 at hk
 refine br_i (fun q => ?_) (fun q => ?_)
 ·rw [if_pos q] at hk
  refine ld_i (hs.gr g1) (st_i (hsc.keeps g1 (fun f => f)) fun w2 e2' k2 c2 => ?_)
  rw [wrap_i64 (n := (n : Int) + 1) (by omega) (by omega)] at c2
  have := hk w2 ((Gr.keeps g1).trans k2) (by simpa using c2) (by rw [e2']; exact canSt_putL (hsc.keeps g1 (fun f => f)))
  simp only [e1, e2] at this
  exact ⟨_, _, rfl, this⟩
 ·rw [if_neg (by simp [q])] at hk
  have := hk w1 (Gr.keeps g1) (hs.gr g1) (hsc.keeps g1 (fun f => f))
  simp only [e1, e2] at this
  exact ⟨_, _, rfl, this⟩
theorem order2_lt {d : Array Int} {a c n : Nat} (ha : a < d.size) (hc : c < d.size) : (order2 ltInt d a c n).1 < d.size /\ (order2 ltInt d a c n).2.1 < d.size /\ (order2 ltInt d a c n).2.2 <= n + 1 := by
 unfold order2; split <;> exact ⟨by assumption, by assumption, by simp⟩
theorem c_median {a c e : Int} {sb so : Nat} {n : Nat} {K : Int -> World -> Prop} (h : Rw w s b o d) (hs : CellsAt w sb so (tI64.enc (n : Int))) (hsc : CanSt w sb so 1) (hne : sb ≠ b) (hn : n <= 900) (ha : 0 <= a) (ha' : a < d.size) (hc : 0 <= c) (hc' : c < d.size) (he : 0 <= e) (he' : e < d.size)
  (hk : ∀ w', Keeps (· = sb) w w' -> CellsAt w' sb so (tI64.enc ((median ltInt d a.toNat c.toNat e.toNat n).2 : Int)) -> CanSt w' sb so 1 -> K (median ltInt d a.toNat c.toNat e.toNat n).1 w') :
  CallsR PP n_f104 #[.slice s.a s.len s.cap, .int .i64 a, .int .i64 c, .int .i64 e, .pointer (some ⟨sb, so, none⟩)] (fun v w' => ∃ x : Int, v = .int .i64 x /\ K x w') w := by
 refine so_f104 _ _ ?_
 unfold sh_f104
 have b1 := order2_lt (d := d) (a := a.toNat) (c := c.toNat) (n := n) (by omega) (by omega)
 refine c_order2 h hs hsc hne (by omega) ha ha' hc hc' fun w1 k1 s1 t1 => ?_
 have b2 := order2_lt (d := d) (a := (order2 ltInt d a.toNat c.toNat n).2.1) (c := e.toNat) (n := (order2 ltInt d a.toNat c.toNat n).2.2) b1.2.1 (by omega)
 have h1 := h.keeps k1 (fun e => hne e.symm)
 refine c_order2 h1 s1 t1 hne (by omega) (by omega) (by omega) he he' fun w2 k2 s2 t2 => ?_
 rw [Int.toNat_natCast] at s2
 have h2 := h1.keeps k2 (fun e => hne e.symm)
 rw [Int.toNat_natCast]
 have b3 := order2_lt (d := d) (a := (order2 ltInt d a.toNat c.toNat n).1) (c := (order2 ltInt d (order2 ltInt d a.toNat c.toNat n).2.1 e.toNat (order2 ltInt d a.toNat c.toNat n).2.2).1) (n := (order2 ltInt d (order2 ltInt d a.toNat c.toNat n).2.1 e.toNat (order2 ltInt d a.toNat c.toNat n).2.2).2.2) b1.1 b2.1
 refine c_order2 h2 s2 t2 hne (by omega) (by omega) (by omega) (by omega) (by omega) fun w3 k3 s3 t3 => ?_
 rw [Int.toNat_natCast, Int.toNat_natCast] at s3
 rw [Int.toNat_natCast, Int.toNat_natCast]
 exact ⟨_, rfl, hk w3 (k1.trans (k2.trans k3)) s3 t3⟩
theorem median_lt {d : Array Int} {a c e n : Nat} (ha : a < d.size) (hc : c < d.size) (he : e < d.size) : (median ltInt d a c e n).1 < d.size /\ (median ltInt d a c e n).2 <= n + 3 := by
 have b1 := order2_lt (n := n) ha hc
 have b2 := order2_lt (n := (order2 ltInt d a c n).2.2) b1.2.1 he
 have b3 := order2_lt (n := (order2 ltInt d (order2 ltInt d a c n).2.1 e (order2 ltInt d a c n).2.2).2.2) b1.1 b2.1
 unfold median
 exact ⟨b3.2.1, by simp only; omega⟩
theorem c_medianAdjacent {a : Int} {sb so : Nat} {n : Nat} {K : Int -> World -> Prop} (h : Rw w s b o d) (hs : CellsAt w sb so (tI64.enc (n : Int))) (hsc : CanSt w sb so 1) (hne : sb ≠ b) (hn : n <= 900) (ha : 1 <= a) (ha' : a + 1 < d.size)
  (hk : ∀ w', Keeps (· = sb) w w' -> CellsAt w' sb so (tI64.enc ((medianAdjacent ltInt d a.toNat n).2 : Int)) -> CanSt w' sb so 1 -> K (medianAdjacent ltInt d a.toNat n).1 w') :
  CallsR PP n_f103 #[.slice s.a s.len s.cap, .int .i64 a, .pointer (some ⟨sb, so, none⟩)] (fun v w' => ∃ x : Int, v = .int .i64 x /\ K x w') w := by
 refine so_f103 _ _ ?_
 unfold sh_f103
 have hsm := h.small
 rw [w64 (n := a - 1) (by omega) (by omega), w64 (n := a + 1) (by omega) (by omega)]
 unfold medianAdjacent at hk
 refine c_median h hs hsc hne hn (by omega) (by omega) (by omega) (by omega) (by omega) (by omega) fun w1 k1 s1 t1 => ⟨_, rfl, ?_⟩
 rw [show (a - 1).toNat = a.toNat - 1 from by omega, show (a + 1).toNat = a.toNat + 1 from by omega] at s1 ⊢
 exact hk w1 k1 s1 t1
def hintI : Sort.Hint -> Int
 | .unknown => 0
 | .increasing => 1
 | .decreasing => 2
theorem c_choosePivot {a c : Int} {K : Int -> Int -> World -> Prop} (h : Rw w s b o d) (hb : b < w.heap.size) (ha : 0 <= a) (hac : a < c) (hc : c <= d.size)
  (hk : ∀ w', Gr w w' -> K (choosePivot ltInt d a.toNat c.toNat).1 (hintI (choosePivot ltInt d a.toNat c.toNat).2) w') :
  CallsR PP n_f96 #[.slice s.a s.len s.cap, .int .i64 a, .int .i64 c] (fun v w' => ∃ x y : Int, v = .tuple #[.int .i64 x, .int .i64 y] /\ K x y w') w := by
 refine so_f96 _ _ ?_
 unfold sh_f96
 have hsm := h.small
 rw [w64 (n := c - a) (by omega) (by omega), Int.tdiv_eq_ediv_of_nonneg (show 0 <= c - a by omega), w64 (n := (c - a) / 4) (by omega) (by omega)]
 rw [w64 (n := (c - a) / 4 * 1) (by omega) (by omega), w64 (n := (c - a) / 4 * 2) (by omega) (by omega), w64 (n := (c - a) / 4 * 3) (by omega) (by omega),
  w64 (n := a + (c - a) / 4 * 1) (by omega) (by omega), w64 (n := a + (c - a) / 4 * 2) (by omega) (by omega), w64 (n := a + (c - a) / 4 * 3) (by omega) (by omega)]
 have t1 : (a + (c - a) / 4 * 1).toNat = a.toNat + (c.toNat - a.toNat) / 4 * 1 := by omega
 have t2 : (a + (c - a) / 4 * 2).toNat = a.toNat + (c.toNat - a.toNat) / 4 * 2 := by omega
 have t3 : (a + (c - a) / 4 * 3).toNat = a.toNat + (c.toNat - a.toNat) / 4 * 3 := by omega
 refine al_i fun sb w1 e1 g1 c1 s1 => ?_
 have hne : sb ≠ b := by omega
 have h1 := h.gr g1
 have key : ∀ (p : Int) (n : Nat) w', Keeps (· = sb) w1 w' -> CellsAt w' sb 0 (tI64.enc (n : Int)) -> (choosePivot ltInt d a.toNat c.toNat).1 = p ->
   (choosePivot ltInt d a.toNat c.toNat).2 = (if n = 0 then .increasing else if n = 12 then .decreasing else .unknown) -> sh_f96_j2 (fun v w' => ∃ x y : Int, v = .tuple #[.int .i64 x, .int .i64 y] /\ K x y w') sb p w' := by
  intro p n w' k' c' e1' e2'
  have hk := hk w' (g1.local k' fun i e => by subst e; omega)
  rw [e1', e2'] at hk
  unfold sh_f96_j2
  refine ld_i c' (br_i (fun q => ?_) (fun q => br_i (fun q2 => ?_) (fun q2 => ?_)))
  ·have q : n = 0 := by simpa using q
   rw [if_pos q] at hk
   exact ⟨_, _, rfl, hk⟩
  ·have q : ¬ n = 0 := by simpa using q
   have q2 : (n : Int) = 12 := by simpa using q2
   rw [if_neg q, if_pos (by omega)] at hk
   exact ⟨_, _, rfl, hk⟩
  ·have q : ¬ n = 0 := by simpa using q
   have q2 : ¬ (n : Int) = 12 := by simpa using q2
   rw [if_neg q, if_neg (by omega)] at hk
   exact ⟨_, _, rfl, hk⟩
 refine br_i (fun q => ?_) (fun q => ?_)
 ·have q := of_decide_eq_true q
  have q8 : c.toNat - a.toNat ≥ 8 := by omega
  refine br_i (fun q' => ?_) (fun q' => ?_)
  ·have q' := of_decide_eq_true q'
   have q50 : c.toNat - a.toNat ≥ 50 := by omega
   have ecp : choosePivot ltInt d a.toNat c.toNat = (let ri := medianAdjacent ltInt d (a.toNat + (c.toNat - a.toNat) / 4 * 1) 0
     let rj := medianAdjacent ltInt d (a.toNat + (c.toNat - a.toNat) / 4 * 2) ri.2
     let rk := medianAdjacent ltInt d (a.toNat + (c.toNat - a.toNat) / 4 * 3) rj.2
     let r := median ltInt d ri.1 rj.1 rk.1 rk.2
     (r.1, if r.2 = 0 then .increasing else if r.2 = 12 then .decreasing else .unknown)) := by
    unfold choosePivot; simp only [if_pos q8, if_pos q50]
   have m1 := median_lt (d := d) (a := (a.toNat + (c.toNat - a.toNat) / 4 * 1) - 1) (c := a.toNat + (c.toNat - a.toNat) / 4 * 1) (e := (a.toNat + (c.toNat - a.toNat) / 4 * 1) + 1) (n := 0) (by omega) (by omega) (by omega)
   refine c_medianAdjacent h1 (n := 0) c1 s1 hne (by omega) (by omega) (by omega) fun w2 k2 c2 s2 => ?_
   rw [t1] at c2 ⊢
   have h2 := h1.keeps k2 (fun e => hne e.symm)
   change (medianAdjacent ltInt d (a.toNat + (c.toNat - a.toNat) / 4 * 1) 0).1 < _ /\ (medianAdjacent ltInt d (a.toNat + (c.toNat - a.toNat) / 4 * 1) 0).2 <= _ at m1
   generalize medianAdjacent ltInt d (a.toNat + (c.toNat - a.toNat) / 4 * 1) 0 = ri at *
   have m2 := median_lt (d := d) (a := (a.toNat + (c.toNat - a.toNat) / 4 * 2) - 1) (c := a.toNat + (c.toNat - a.toNat) / 4 * 2) (e := (a.toNat + (c.toNat - a.toNat) / 4 * 2) + 1) (n := ri.2) (by omega) (by omega) (by omega)
   refine c_medianAdjacent h2 c2 s2 hne (by omega) (by omega) (by omega) fun w3 k3 c3 s3 => ?_
   rw [t2] at c3 ⊢
   have h3 := h2.keeps k3 (fun e => hne e.symm)
   change (medianAdjacent ltInt d (a.toNat + (c.toNat - a.toNat) / 4 * 2) ri.2).1 < _ /\ (medianAdjacent ltInt d (a.toNat + (c.toNat - a.toNat) / 4 * 2) ri.2).2 <= _ at m2
   simp only at ecp
   generalize medianAdjacent ltInt d (a.toNat + (c.toNat - a.toNat) / 4 * 2) ri.2 = rj at *
   have m3 := median_lt (d := d) (a := (a.toNat + (c.toNat - a.toNat) / 4 * 3) - 1) (c := a.toNat + (c.toNat - a.toNat) / 4 * 3) (e := (a.toNat + (c.toNat - a.toNat) / 4 * 3) + 1) (n := rj.2) (by omega) (by omega) (by omega)
   refine c_medianAdjacent h3 c3 s3 hne (by omega) (by omega) (by omega) fun w4 k4 c4 s4 => ?_
   rw [t3] at c4 ⊢
   have h4 := h3.keeps k4 (fun e => hne e.symm)
   change (medianAdjacent ltInt d (a.toNat + (c.toNat - a.toNat) / 4 * 3) rj.2).1 < _ /\ (medianAdjacent ltInt d (a.toNat + (c.toNat - a.toNat) / 4 * 3) rj.2).2 <= _ at m3
   generalize medianAdjacent ltInt d (a.toNat + (c.toNat - a.toNat) / 4 * 3) rj.2 = rk at *
   unfold sh_f96_j1
   refine c_median h4 c4 s4 hne (by omega) (by omega) (by omega) (by omega) (by omega) (by omega) (by omega) fun w5 k5 c5 s5 => ?_
   simp only [Int.toNat_natCast] at c5 ⊢
   refine key _ _ w5 (k2.trans (k3.trans (k4.trans k5))) c5 ?_ ?_
   ·rw [ecp]
   ·rw [ecp]
  ·have q' := of_decide_eq_false q'
   have q50 : ¬ c.toNat - a.toNat ≥ 50 := by omega
   unfold sh_f96_j1
   refine c_median h1 (n := 0) c1 s1 hne (by omega) (by omega) (by omega) (by omega) (by omega) (by omega) (by omega) fun w5 k5 c5 s5 => ?_
   rw [t1, t2, t3] at c5 ⊢
   refine key _ _ w5 k5 c5 ?_ ?_
   ·unfold choosePivot; simp only [if_pos q8, if_neg q50]
   ·unfold choosePivot; simp only [if_pos q8, if_neg q50]
 ·have q := of_decide_eq_false q
  have q8 : ¬ c.toNat - a.toNat ≥ 8 := by omega
  refine key _ 0 w1 (Keeps.refl _ _) c1 ?_ ?_
  ·unfold choosePivot; simp only [if_neg q8]; omega
  ·unfold choosePivot; simp only [if_neg q8, if_true]
theorem c_reverseRange {a c : Int} (h : Rw w s b o d) (ha : 0 <= a) (hac : a < c) (hc : c <= d.size) (hk : ∀ w', Keeps (· = b) w w' -> Rw w' s b o (reverseRange d a.toNat c.toNat) -> Q (.tuple #[]) w') :
  CallsR PP n_f97 #[.slice s.a s.len s.cap, .int .i64 a, .int .i64 c] Q w := by
 refine so_f97 _ _ ?_
 unfold sh_f97
 have hsm := h.small
 rw [w64 (n := c - 1) (by omega) (by omega)]
 refine loop2 (sh_f97_b1 s Q) (fun m i j w' => a <= i /\ a <= j + 1 /\ i <= c /\ j < c /\ m = (j + 1 - i).toNat /\ Keeps (· = b) w w' /\ ∃ d1, Rw w' s b o d1 /\ d1.size = d.size /\ reverseLoop i.toNat j.toNat d1 = reverseRange d a.toNat c.toNat)
  ⟨_, by omega, by omega, by omega, by omega, rfl, Keeps.refl _ _, d, h, rfl, by unfold reverseRange; rw [show (c - 1).toNat = c.toNat - 1 from by omega]⟩ ?_
 rintro m i j w1 nxt ⟨hi, hj, hi', hj', rfl, k1, d1, h1, hd1, he⟩ hn
 unfold sh_f97_b1
 refine br_i (fun q => ?_) (fun q => ?_)
 ·have q := of_decide_eq_true q
  rw [reverseLoop, if_pos (by omega)] at he
  refine sw h1 (by omega) (by omega) (by omega) (by omega) fun w2 k2 h2 => ?_
  rw [w64 (n := i + 1) (by omega) (by omega), w64 (n := j - 1) (by omega) (by omega)]
  refine hn _ _ _ _ (by omega) ⟨by omega, by omega, by omega, by omega, rfl, k1.trans k2, _, h2, by rw [swp_size]; exact hd1, ?_⟩
  rw [show (i + 1).toNat = i.toNat + 1 from by omega, show (j - 1).toNat = j.toNat - 1 from by omega]
  exact he
 ·have q := of_decide_eq_false q
  rw [reverseLoop, if_neg (by omega)] at he
  rw [<- he] at hk
  exact hk w1 k1 h1
theorem c_siftDown {root hi first : Int} (h : Rw w s b o d) (hr : 0 <= root) (hh : 0 <= hi) (hrh : root <= hi) (hf : 0 <= first) (hb : first + hi <= d.size) (hk : ∀ w', Keeps (· = b) w w' -> Rw w' s b o (Sort.siftDown ltInt hi.toNat first.toNat root.toNat d) -> Q (.tuple #[]) w') :
  CallsR PP n_f102 #[.slice s.a s.len s.cap, .int .i64 root, .int .i64 hi, .int .i64 first] Q w := by
 refine so_f102 _ _ ?_
 unfold sh_f102
 have hsm := h.small
 refine loop1 (sh_f102_b1 s hi first Q) (fun m i w' => 0 <= i /\ i <= hi /\ m = (hi - i).toNat /\ Keeps (· = b) w w' /\ ∃ d1, Rw w' s b o d1 /\ d1.size = d.size /\ Sort.siftDown ltInt hi.toNat first.toNat i.toNat d1 = Sort.siftDown ltInt hi.toNat first.toNat root.toNat d)
  ⟨_, hr, hrh, rfl, Keeps.refl _ _, d, h, rfl, rfl⟩ ?_
 rintro m i w1 nxt ⟨hi0, hi1, rfl, k1, d1, h1, hd1, he⟩ hn
 unfold sh_f102_b1
 rw [w64 (n := 2 * i) (by omega) (by omega), w64 (n := 2 * i + 1) (by omega) (by omega), w64 (n := 2 * i + 1 + 1) (by omega) (by omega)]
 rw [Sort.siftDown] at he
 refine br_i (fun q => ?_) (fun q => ?_)
 ·have q := of_decide_eq_true q
  rw [dif_pos (by omega)] at he
  rw [<- he] at hk
  exact hk w1 k1 h1
 have q := of_decide_eq_false q
 rw [dif_neg (by omega)] at he
 refine dw_i fun w2 e2 g2 => ?_
 have h2 := h1.gr g2
 have k2 := k1.trans (Gr.keeps g2)
 rw [w64 (n := first + (2 * i + 1)) (by omega) (by omega), w64 (n := first + (2 * i + 1) + 1) (by omega) (by omega)]
 have t1 : (first + (2 * i + 1)).toNat = first.toNat + (2 * i.toNat + 1) := by omega
 have t2 : (first + (2 * i + 1) + 1).toNat = first.toNat + (2 * i.toNat + 1) + 1 := by omega
 have t0 : (first + i).toNat = first.toNat + i.toNat := by omega
 have down : ∀ (j : Int), i < j -> j < hi -> (if (!ltInt d1[first.toNat + i.toNat]! d1[first.toNat + j.toNat]!) = true then d1 else Sort.siftDown ltInt hi.toNat first.toNat j.toNat (swp d1 (first.toNat + i.toNat) (first.toNat + j.toNat))) = Sort.siftDown ltInt hi.toNat first.toNat root.toNat d ->
   sh_f102_j3 s first Q i nxt j w2 := by
  intro j hij hjh he
  unfold sh_f102_j3
  refine dw_i fun w3 e3 g3 => ?_
  have h3 := h2.gr g3
  have k3 := k2.trans (Gr.keeps g3)
  rw [w64 (n := first + i) (by omega) (by omega), w64 (n := first + j) (by omega) (by omega)]
  have tj : (first + j).toNat = first.toNat + j.toNat := by omega
  refine rd h3 (by omega) (by omega) (rd h3 (by omega) (by omega) (less ?_))
  rw [t0, tj]
  refine br_i (fun q => ?_) (fun q => ?_)
  ·rw [if_pos q] at he
   rw [<- he] at hk
   exact hk w3 k3 h3
  ·rw [if_neg (by simp [q])] at he
   rw [<- t0, <- tj]
   refine sw h3 (by omega) (by omega) (by omega) (by omega) fun w4 k4 h4 => ?_
   rw [t0, tj] at h4
   exact hn _ _ _ (by omega) ⟨by omega, by omega, rfl, k3.trans k4, _, h4, by rw [swp_size]; exact hd1, he⟩
 have left : (if (!ltInt d1[first.toNat + i.toNat]! d1[first.toNat + (2 * i.toNat + 1)]!) = true then d1 else Sort.siftDown ltInt hi.toNat first.toNat (2 * i.toNat + 1) (swp d1 (first.toNat + i.toNat) (first.toNat + (2 * i.toNat + 1)))) = Sort.siftDown ltInt hi.toNat first.toNat root.toNat d ->
   sh_f102_j2 s first Q i nxt false w2 := by
  intro he
  unfold sh_f102_j2
  refine br_f rfl ?_
  rw [w64 (n := 2 * i) (by omega) (by omega), w64 (n := 2 * i + 1) (by omega) (by omega)]
  refine down _ (by omega) (by omega) ?_
  rw [show (2 * i + 1).toNat = 2 * i.toNat + 1 from by omega]
  exact he
 refine br_i (fun q2 => ?_) (fun q2 => ?_)
 ·have q2 := of_decide_eq_true q2
  refine rd h2 (by omega) (by omega) (rd h2 (by omega) (by omega) (less ?_))
  rw [t1, t2]
  cases hl : ltInt d1[first.toNat + (2 * i.toNat + 1)]! d1[first.toNat + (2 * i.toNat + 1) + 1]! with
  | true =>
   rw [hl, if_pos (by simp; omega), dif_pos (by omega)] at he
   unfold sh_f102_j2
   refine br_t rfl ?_
   rw [w64 (n := 2 * i) (by omega) (by omega), w64 (n := 2 * i + 1) (by omega) (by omega), w64 (n := 2 * i + 1 + 1) (by omega) (by omega)]
   refine down _ (by omega) (by omega) ?_
   rw [show (2 * i + 1 + 1).toNat = 2 * i.toNat + 2 from by omega]
   exact he
  | false =>
   rw [hl, if_neg (by simp)] at he
   exact left he
 ·have q2 := of_decide_eq_false q2
  rw [if_neg (by simp; omega)] at he
  exact left he
theorem siftDown_size (hi first : Nat) : ∀ (k root : Nat) (d : Array Int), hi - root <= k -> (Sort.siftDown ltInt hi first root d).size = d.size
 | 0, root, d, hk => by rw [Sort.siftDown, dif_pos (by omega)]
 | k + 1, root, d, hk => by
  rw [Sort.siftDown]
  split
  ·rfl
  ·rename_i hlt
   split
   ·split
    ·rfl
    ·split
     ·rw [siftDown_size hi first k _ _ (by omega), swp_size]
     ·rfl
   ·split
    ·rfl
    ·rw [siftDown_size hi first k _ _ (by omega), swp_size]
theorem c_heapSort {a c : Int} (h : Rw w s b o d) (ha : 0 <= a) (hac : a < c) (hc : c <= d.size) (hk : ∀ w', Keeps (· = b) w w' -> Rw w' s b o (Sort.heapSort ltInt d a.toNat c.toNat) -> Q (.tuple #[]) w') :
  CallsR PP n_f94 #[.slice s.a s.len s.cap, .int .i64 a, .int .i64 c] Q w := by
 refine so_f94 _ _ ?_
 unfold sh_f94
 have hsm := h.small
 rw [w64 (n := c - a) (by omega) (by omega), w64 (n := c - a - 1) (by omega) (by omega), Int.tdiv_eq_ediv_of_nonneg (by omega), w64 (n := (c - a - 1) / 2) (by omega) (by omega)]
 have tl : (c - a).toNat = c.toNat - a.toNat := by omega
 refine loop1 (sh_f94_b1 s a c Q) (fun m i w' => -1 <= i /\ i < c - a /\ m = (i + 1).toNat /\ Keeps (· = b) w w' /\ ∃ d1, Rw w' s b o d1 /\ d1.size = d.size /\
   Sort.heapPop ltInt a.toNat (c.toNat - a.toNat) (Sort.heapBuild ltInt (c.toNat - a.toNat) a.toNat (i + 1).toNat d1) = Sort.heapSort ltInt d a.toNat c.toNat)
  ⟨_, by omega, by omega, rfl, Keeps.refl _ _, d, h, rfl, by unfold Sort.heapSort; rw [show ((c - a - 1) / 2 + 1).toNat = (c.toNat - a.toNat - 1) / 2 + 1 from by omega]⟩ ?_
 rintro m i w1 nxt ⟨hi0, hi1, rfl, k1, d1, h1, hd1, he⟩ hn
 unfold sh_f94_b1
 refine br_i (fun q => ?_) (fun q => ?_)
 ·have q := of_decide_eq_true q
  rw [w64 (n := c - a) (by omega) (by omega), show (i + 1).toNat = i.toNat + 1 from by omega, Sort.heapBuild] at *
  refine c_siftDown h1 q (by omega) (by omega) ha (by omega) fun w2 k2 h2 => ?_
  rw [w64 (n := i - 1) (by omega) (by omega)]
  rw [tl] at h2
  refine hn _ _ _ (by omega) ⟨by omega, by omega, rfl, k1.trans k2, _, h2, by rw [siftDown_size _ _ _ _ _ (Nat.le_refl _)]; exact hd1, ?_⟩
  rw [show (i - 1 + 1).toNat = i.toNat from by omega]
  exact he
 ·have q := of_decide_eq_false q
  rw [show (i + 1).toNat = 0 from by omega, Sort.heapBuild] at he
  unfold sh_f94_j2
  rw [w64 (n := c - a) (by omega) (by omega), w64 (n := c - a - 1) (by omega) (by omega)]
  refine loop1 (sh_f94_b3 s a Q) (fun m i w' => -1 <= i /\ i < c - a /\ m = (i + 1).toNat /\ Keeps (· = b) w w' /\ ∃ d1, Rw w' s b o d1 /\ d1.size = d.size /\
    Sort.heapPop ltInt a.toNat (i + 1).toNat d1 = Sort.heapSort ltInt d a.toNat c.toNat)
   ⟨_, by omega, by omega, rfl, k1, d1, h1, hd1, by rw [show (c - a - 1 + 1).toNat = c.toNat - a.toNat from by omega]; exact he⟩ ?_
  rintro m j w2 nxt2 ⟨hj0, hj1, rfl, k2, d2, h2, hd2, he2⟩ hn2
  unfold sh_f94_b3
  refine br_i (fun q => ?_) (fun q => ?_)
  ·have q := of_decide_eq_true q
   rw [show (j + 1).toNat = j.toNat + 1 from by omega, Sort.heapPop] at he2
   rw [w64 (n := a + j) (by omega) (by omega)]
   refine sw h2 (by omega) (by omega) (by omega) (by omega) fun w3 k3 h3 => ?_
   rw [show (a + j).toNat = a.toNat + j.toNat from by omega] at h3
   refine c_siftDown h3 (by omega) q (by omega) ha (by rw [swp_size]; omega) fun w4 k4 h4 => ?_
   rw [w64 (n := j - 1) (by omega) (by omega)]
   refine hn2 _ _ _ (by omega) ⟨by omega, by omega, rfl, k2.trans (k3.trans k4), _, h4, by rw [siftDown_size _ _ _ _ _ (Nat.le_refl _), swp_size]; exact hd2, ?_⟩
   rw [show (j - 1 + 1).toNat = j.toNat from by omega]
   exact he2
  ·have q := of_decide_eq_false q
   rw [show (j + 1).toNat = 0 from by omega, Sort.heapPop] at he2
   rw [<- he2] at hk
   exact hk w2 k2 h2
theorem c_partition {a c p : Int} {K : Int -> Bool -> World -> Prop} (h : Rw w s b o d) (ha : 0 <= a) (hap : a <= p) (hpc : p < c) (hc : c <= d.size)
  (hk : ∀ w', Keeps (· = b) w w' -> Rw w' s b o (Sort.partition ltInt d a.toNat c.toNat p.toNat).2.2 -> K (Sort.partition ltInt d a.toNat c.toNat p.toNat).1 (Sort.partition ltInt d a.toNat c.toNat p.toNat).2.1 w') :
  CallsR PP n_f101 #[.slice s.a s.len s.cap, .int .i64 a, .int .i64 c, .int .i64 p] (fun v w' => ∃ x : Int, ∃ y : Bool, v = .tuple #[.int .i64 x, .bool y] /\ K x y w') w := by
 refine so_f101 _ _ ?_
 generalize hQ : (fun (v : Value) w' => ∃ x : Int, ∃ y : Bool, v = .tuple #[.int .i64 x, .bool y] /\ K x y w') = Q
 have hQ : ∀ x y w', K x y w' -> Q (.tuple #[.int .i64 x, .bool y]) w' := by rintro x y w' hh; subst hQ; exact ⟨x, y, rfl, hh⟩
 obtain ⟨r, hr⟩ : ∃ r, Sort.partition ltInt d a.toNat c.toNat p.toNat = r := ⟨_, rfl⟩
 rw [hr] at hk
 unfold sh_f101
 have hsm := h.small
 refine sw h ha (by omega) (by omega) (by omega) fun w1 k1 h1 => ?_
 unfold Sort.partition at hr
 simp only at hr
 have hd : (swp d a.toNat p.toNat).size = d.size := swp_size _ _ _
 generalize swp d a.toNat p.toNat = d1 at hr hd h1
 rw [w64 (n := a + 1) (by omega) (by omega)]
 have e1 : (a + 1).toNat = a.toNat + 1 := by omega
 have ec : (c - 1).toNat = c.toNat - 1 := by omega
 refine loop1 (sh_f101_b1 s a c Q) (fun m i w' => a + 1 <= i /\ i <= c /\ m = (c - i).toNat /\ Keeps (· = b) w w' /\ Rw w' s b o d1 /\ Sort.scanUp (fun x => ltInt x d1[a.toNat]!) d1 (c.toNat - 1) i.toNat = Sort.scanUp (fun x => ltInt x d1[a.toNat]!) d1 (c.toNat - 1) (a.toNat + 1))
  ⟨_, by omega, by omega, rfl, k1, h1, by rw [e1]⟩ ?_
 rintro m i w2 nxt ⟨hi0, hi1, rfl, k2, h2, he⟩ hn
 unfold sh_f101_b1
 refine dw_i fun w3 _ g3 => ?_
 replace h2 := h2.gr g3
 replace k2 := k2.trans (Gr.keeps g3)
 rw [w64 (n := c - 1) (by omega) (by omega)]
 have rest : Sort.scanUp (fun x => ltInt x d1[a.toNat]!) d1 (c.toNat - 1) (a.toNat + 1) = i.toNat -> sh_f101_j3 s a c Q i w3 := by
  intro hi
  rw [hi] at hr
  unfold sh_f101_j3
  rw [w64 (n := c - 1) (by omega) (by omega)]
  refine loop1 (sh_f101_b4 s a Q i) (fun m j w' => i <= j + 1 /\ j < c /\ m = (j + 1).toNat /\ Keeps (· = b) w w' /\ Rw w' s b o d1 /\ Sort.scanDown (fun x => !ltInt x d1[a.toNat]!) d1 i.toNat j.toNat = Sort.scanDown (fun x => !ltInt x d1[a.toNat]!) d1 i.toNat (c.toNat - 1))
   ⟨_, by omega, by omega, rfl, k2, h2, by rw [ec]⟩ ?_
  rintro m j w4 nxt2 ⟨hj0, hj1, rfl, k4, h4, he4⟩ hn2
  unfold sh_f101_b4
  refine dw_i fun w5 _ g5 => ?_
  replace h4 := h4.gr g5
  replace k4 := k4.trans (Gr.keeps g5)
  have rest2 : Sort.scanDown (fun x => !ltInt x d1[a.toNat]!) d1 i.toNat (c.toNat - 1) = j.toNat -> sh_f101_j6 s a Q i j w5 := by
   intro hj
   rw [hj] at hr
   unfold sh_f101_j6
   refine br_i (fun q => ?_) (fun q => ?_)
   ·have q := of_decide_eq_true q
    rw [if_pos (by omega)] at hr
    subst hr
    refine sw h4 (by omega) (by omega) ha (by omega) fun w6 k6 h6 => ?_
    have := hk w6 (k4.trans k6) h6
    rw [show ((j.toNat : Nat) : Int) = j from by omega] at this
    exact hQ _ _ _ this
   have q := of_decide_eq_false q
   rw [if_neg (by omega)] at hr
   subst hr
   refine sw h4 (by omega) (by omega) (by omega) (by omega) fun w6 k6 h6 => ?_
   have hd2 : (swp d1 i.toNat j.toNat).size = d.size := by rw [swp_size, hd]
   generalize swp d1 i.toNat j.toNat = d2 at hk h6 hd2
   rw [w64 (n := i + 1) (by omega) (by omega), w64 (n := j - 1) (by omega) (by omega)]
   refine loop2 (sh_f101_b7 s a Q) (fun m x y w' => a + 1 <= x /\ x <= y + 2 /\ a <= y /\ y < c /\ m = (y + 2 - x).toNat /\ Keeps (· = b) w w' /\ ∃ d3, Rw w' s b o d3 /\ d3.size = d.size /\ Sort.partLoop ltInt a.toNat x.toNat y.toNat d3 = Sort.partLoop ltInt a.toNat (i.toNat + 1) (j.toNat - 1) d2)
    ⟨_, by omega, by omega, by omega, by omega, rfl, k4.trans k6, d2, h6, hd2, by rw [show (i + 1).toNat = i.toNat + 1 from by omega, show (j - 1).toNat = j.toNat - 1 from by omega]⟩ ?_
   rintro m x y w7 nxt3 ⟨hx0, hxy, hy0, hy1, rfl, k7, d3, h7, hd3, he7⟩ hn3
   unfold sh_f101_b7
   rw [Sort.partLoop] at he7
   refine loop1 (sh_f101_b8 s a Q y nxt3) (fun m i w' => x <= i /\ i <= max x (y + 1) /\ m = (y + 2 - i).toNat /\ Keeps (· = b) w w' /\ Rw w' s b o d3 /\ Sort.scanUp (fun x => ltInt x d3[a.toNat]!) d3 y.toNat i.toNat = Sort.scanUp (fun x => ltInt x d3[a.toNat]!) d3 y.toNat x.toNat)
    ⟨_, by omega, by omega, rfl, k7, h7, rfl⟩ ?_
   rintro m i3 w8 nxt4 ⟨hi30, hi31, rfl, k8, h8, he8⟩ hn4
   unfold sh_f101_b8
   refine dw_i fun w9 _ g9 => ?_
   replace h8 := h8.gr g9
   replace k8 := k8.trans (Gr.keeps g9)
   have rest3 : Sort.scanUp (fun x => ltInt x d3[a.toNat]!) d3 y.toNat x.toNat = i3.toNat -> sh_f101_j10 s a Q y nxt3 i3 w9 := by
    intro hi3
    rw [hi3] at he7
    unfold sh_f101_j10
    refine loop1 (sh_f101_b11 s a Q nxt3 i3) (fun m j w' => j <= y /\ min y (i3 - 1) <= j /\ m = (j + 1).toNat /\ Keeps (· = b) w w' /\ Rw w' s b o d3 /\ Sort.scanDown (fun x => !ltInt x d3[a.toNat]!) d3 i3.toNat j.toNat = Sort.scanDown (fun x => !ltInt x d3[a.toNat]!) d3 i3.toNat y.toNat)
     ⟨_, by omega, by omega, rfl, k8, h8, rfl⟩ ?_
    rintro m j3 w10 nxt5 ⟨hj30, hj31, rfl, k10, h10, he10⟩ hn5
    unfold sh_f101_b11
    refine dw_i fun w11 _ g11 => ?_
    replace h10 := h10.gr g11
    replace k10 := k10.trans (Gr.keeps g11)
    have rest4 : Sort.scanDown (fun x => !ltInt x d3[a.toNat]!) d3 i3.toNat y.toNat = j3.toNat -> sh_f101_j13 s a Q nxt3 i3 j3 w11 := by
     intro hj3
     rw [hj3] at he7
     unfold sh_f101_j13
     refine br_i (fun q => ?_) (fun q => ?_)
     ·have q := of_decide_eq_true q
      rw [if_pos (by omega)] at he7
      rw [<- he7] at hk
      unfold sh_f101_j14
      refine sw h10 (by omega) (by omega) ha (by omega) fun w12 k12 h12 => ?_
      have := hk w12 (k10.trans k12) h12
      simp only at this
      rw [show ((j3.toNat : Nat) : Int) = j3 from by omega] at this
      exact hQ _ _ _ this
     ·have q := of_decide_eq_false q
      rw [if_neg (by omega), dif_pos (by omega)] at he7
      refine sw h10 (by omega) (by omega) (by omega) (by omega) fun w12 k12 h12 => ?_
      rw [w64 (n := i3 + 1) (by omega) (by omega), w64 (n := j3 - 1) (by omega) (by omega)]
      refine hn3 _ _ _ _ (by omega) ⟨by omega, by omega, by omega, by omega, rfl, k10.trans k12, _, h12, by rw [swp_size]; exact hd3, ?_⟩
      rw [show (i3 + 1).toNat = i3.toNat + 1 from by omega, show (j3 - 1).toNat = j3.toNat - 1 from by omega]
      exact he7
    refine br_i (fun q => ?_) (fun q => ?_)
    ·have q := of_decide_eq_true q
     obtain ⟨j', hj'⟩ : ∃ j', j3.toNat = j' + 1 := ⟨j3.toNat - 1, by omega⟩
     rw [hj', Sort.scanDown] at he10
     refine rd h10 (by omega) (by omega) (rd h10 ha (by omega) (less ?_))
     rw [hj']
     cases hl : (!ltInt d3[j' + 1]! d3[a.toNat]!) with
     | true =>
      rw [hl, if_pos (by simp; omega)] at he10
      refine br_t rfl ?_
      rw [w64 (n := j3 - 1) (by omega) (by omega)]
      refine hn5 _ _ _ (by omega) ⟨by omega, by omega, rfl, k10, h10, ?_⟩
      rw [show (j3 - 1).toNat = j' from by omega]
      exact he10
     | false =>
      rw [hl, if_neg (by simp)] at he10
      exact br_f rfl (rest4 (by omega))
    ·have q := of_decide_eq_false q
     refine br_f rfl (rest4 ?_)
     rw [<- he10]
     cases hj : j3.toNat with
     | zero => rfl
     | succ j' => rw [Sort.scanDown, if_neg (by simp; omega)]
   refine br_i (fun q => ?_) (fun q => ?_)
   ·have q := of_decide_eq_true q
    rw [Sort.scanUp] at he8
    refine rd h8 (by omega) (by omega) (rd h8 ha (by omega) (less ?_))
    cases hl : ltInt d3[i3.toNat]! d3[a.toNat]! with
    | true =>
     rw [hl, if_pos (by simp; omega)] at he8
     refine br_t rfl ?_
     rw [w64 (n := i3 + 1) (by omega) (by omega)]
     refine hn4 _ _ _ (by omega) ⟨by omega, by omega, rfl, k8, h8, ?_⟩
     rw [show (i3 + 1).toNat = i3.toNat + 1 from by omega]
     exact he8
    | false =>
     rw [hl, if_neg (by simp)] at he8
     exact br_f rfl (rest3 he8.symm)
   ·have q := of_decide_eq_false q
    rw [Sort.scanUp, if_neg (by simp; omega)] at he8
    exact br_f rfl (rest3 he8.symm)
  refine br_i (fun q => ?_) (fun q => ?_)
  ·have q := of_decide_eq_true q
   obtain ⟨j', hj'⟩ : ∃ j', j.toNat = j' + 1 := ⟨j.toNat - 1, by omega⟩
   rw [hj', Sort.scanDown] at he4
   refine rd h4 (by omega) (by omega) (rd h4 ha (by omega) (less ?_))
   rw [hj']
   cases hl : (!ltInt d1[j' + 1]! d1[a.toNat]!) with
   | true =>
    rw [hl, if_pos (by simp; omega)] at he4
    refine br_t rfl ?_
    rw [w64 (n := j - 1) (by omega) (by omega)]
    refine hn2 _ _ _ (by omega) ⟨by omega, by omega, rfl, k4, h4, ?_⟩
    rw [show (j - 1).toNat = j' from by omega]
    exact he4
   | false =>
    rw [hl, if_neg (by simp)] at he4
    exact br_f rfl (rest2 (by omega))
  ·have q := of_decide_eq_false q
   refine br_f rfl (rest2 ?_)
   rw [<- he4]
   cases hj : j.toNat with
   | zero => rfl
   | succ j' => rw [Sort.scanDown, if_neg (by simp; omega)]
 refine br_i (fun q => ?_) (fun q => ?_)
 ·have q := of_decide_eq_true q
  rw [Sort.scanUp] at he
  refine rd h2 (by omega) (by omega) (rd h2 ha (by omega) (less ?_))
  cases hl : ltInt d1[i.toNat]! d1[a.toNat]! with
  | true =>
   rw [hl, if_pos (by simp; omega)] at he
   refine br_t rfl ?_
   rw [w64 (n := i + 1) (by omega) (by omega)]
   refine hn _ _ _ (by omega) ⟨by omega, by omega, rfl, k2, h2, ?_⟩
   rw [show (i + 1).toNat = i.toNat + 1 from by omega]
   exact he
  | false =>
   rw [hl, if_neg (by simp)] at he
   exact br_f rfl (rest he.symm)
 ·have q := of_decide_eq_false q
  rw [Sort.scanUp, if_neg (by simp; omega)] at he
  exact br_f rfl (rest he.symm)
theorem c_partitionEqual {a c p : Int} {K : Int -> World -> Prop} (h : Rw w s b o d) (ha : 0 <= a) (hap : a <= p) (hpc : p < c) (hc : c <= d.size)
  (hk : ∀ w', Keeps (· = b) w w' -> Rw w' s b o (Sort.partitionEqual ltInt d a.toNat c.toNat p.toNat).2 -> K (Sort.partitionEqual ltInt d a.toNat c.toNat p.toNat).1 w') :
  CallsR PP n_f100 #[.slice s.a s.len s.cap, .int .i64 a, .int .i64 c, .int .i64 p] (fun v w' => ∃ x : Int, v = .int .i64 x /\ K x w') w := by
 refine so_f100 _ _ ?_
 generalize hQ : (fun (v : Value) w' => ∃ x : Int, v = .int .i64 x /\ K x w') = Q
 have hQ : ∀ x w', K x w' -> Q (.int .i64 x) w' := by rintro x w' hh; subst hQ; exact ⟨x, rfl, hh⟩
 obtain ⟨r, hr⟩ : ∃ r, Sort.partitionEqual ltInt d a.toNat c.toNat p.toNat = r := ⟨_, rfl⟩
 rw [hr] at hk
 unfold sh_f100
 have hsm := h.small
 refine sw h ha (by omega) (by omega) (by omega) fun w1 k1 h1 => ?_
 unfold Sort.partitionEqual at hr
 have hd : (swp d a.toNat p.toNat).size = d.size := swp_size _ _ _
 generalize swp d a.toNat p.toNat = d1 at hr hd h1
 rw [w64 (n := a + 1) (by omega) (by omega), w64 (n := c - 1) (by omega) (by omega)]
 refine loop2 (sh_f100_b1 s a Q) (fun m x y w' => a + 1 <= x /\ x <= y + 2 /\ a <= y /\ y < c /\ m = (y + 2 - x).toNat /\ Keeps (· = b) w w' /\ ∃ d3, Rw w' s b o d3 /\ d3.size = d.size /\ Sort.partEqLoop ltInt a.toNat x.toNat y.toNat d3 = r)
  ⟨_, by omega, by omega, by omega, by omega, rfl, k1, d1, h1, hd, by rw [show (a + 1).toNat = a.toNat + 1 from by omega, show (c - 1).toNat = c.toNat - 1 from by omega]; exact hr⟩ ?_
 rintro m x y w7 nxt3 ⟨hx0, hxy, hy0, hy1, rfl, k7, d3, h7, hd3, he7⟩ hn3
 unfold sh_f100_b1
 rw [Sort.partEqLoop] at he7
 refine loop1 (sh_f100_b2 s a Q y nxt3) (fun m i w' => x <= i /\ i <= max x (y + 1) /\ m = (y + 2 - i).toNat /\ Keeps (· = b) w w' /\ Rw w' s b o d3 /\ Sort.scanUp (fun x => !ltInt d3[a.toNat]! x) d3 y.toNat i.toNat = Sort.scanUp (fun x => !ltInt d3[a.toNat]! x) d3 y.toNat x.toNat)
  ⟨_, by omega, by omega, rfl, k7, h7, rfl⟩ ?_
 rintro m i3 w8 nxt4 ⟨hi30, hi31, rfl, k8, h8, he8⟩ hn4
 unfold sh_f100_b2
 refine dw_i fun w9 _ g9 => ?_
 replace h8 := h8.gr g9
 replace k8 := k8.trans (Gr.keeps g9)
 have rest3 : Sort.scanUp (fun x => !ltInt d3[a.toNat]! x) d3 y.toNat x.toNat = i3.toNat -> sh_f100_j4 s a Q y nxt3 i3 w9 := by
  intro hi3
  rw [hi3] at he7
  unfold sh_f100_j4
  refine loop1 (sh_f100_b5 s a Q nxt3 i3) (fun m j w' => j <= y /\ min y (i3 - 1) <= j /\ m = (j + 1).toNat /\ Keeps (· = b) w w' /\ Rw w' s b o d3 /\ Sort.scanDown (fun x => ltInt d3[a.toNat]! x) d3 i3.toNat j.toNat = Sort.scanDown (fun x => ltInt d3[a.toNat]! x) d3 i3.toNat y.toNat)
   ⟨_, by omega, by omega, rfl, k8, h8, rfl⟩ ?_
  rintro m j3 w10 nxt5 ⟨hj30, hj31, rfl, k10, h10, he10⟩ hn5
  unfold sh_f100_b5
  refine dw_i fun w11 _ g11 => ?_
  replace h10 := h10.gr g11
  replace k10 := k10.trans (Gr.keeps g11)
  have rest4 : Sort.scanDown (fun x => ltInt d3[a.toNat]! x) d3 i3.toNat y.toNat = j3.toNat -> sh_f100_j7 s Q nxt3 i3 j3 w11 := by
   intro hj3
   rw [hj3] at he7
   unfold sh_f100_j7
   refine br_i (fun q => ?_) (fun q => ?_)
   ·have q := of_decide_eq_true q
    rw [if_pos (by omega)] at he7
    subst he7
    have := hk w11 k10 h10
    simp only at this
    rw [show ((i3.toNat : Nat) : Int) = i3 from by omega] at this
    exact hQ _ _ this
   ·have q := of_decide_eq_false q
    rw [if_neg (by omega), dif_pos (by omega)] at he7
    refine sw h10 (by omega) (by omega) (by omega) (by omega) fun w12 k12 h12 => ?_
    rw [w64 (n := i3 + 1) (by omega) (by omega), w64 (n := j3 - 1) (by omega) (by omega)]
    refine hn3 _ _ _ _ (by omega) ⟨by omega, by omega, by omega, by omega, rfl, k10.trans k12, _, h12, by rw [swp_size]; exact hd3, ?_⟩
    rw [show (i3 + 1).toNat = i3.toNat + 1 from by omega, show (j3 - 1).toNat = j3.toNat - 1 from by omega]
    exact he7
  refine br_i (fun q => ?_) (fun q => ?_)
  ·have q := of_decide_eq_true q
   obtain ⟨j', hj'⟩ : ∃ j', j3.toNat = j' + 1 := ⟨j3.toNat - 1, by omega⟩
   rw [hj', Sort.scanDown] at he10
   refine rd h10 ha (by omega) (rd h10 (by omega) (by omega) (less ?_))
   rw [hj']
   cases hl : ltInt d3[a.toNat]! d3[j' + 1]! with
   | true =>
    rw [hl, if_pos (by simp; omega)] at he10
    refine br_t rfl ?_
    rw [w64 (n := j3 - 1) (by omega) (by omega)]
    refine hn5 _ _ _ (by omega) ⟨by omega, by omega, rfl, k10, h10, ?_⟩
    rw [show (j3 - 1).toNat = j' from by omega]
    exact he10
   | false =>
    rw [hl, if_neg (by simp)] at he10
    exact br_f rfl (rest4 (by omega))
  ·have q := of_decide_eq_false q
   refine br_f rfl (rest4 ?_)
   rw [<- he10]
   cases hj : j3.toNat with
   | zero => rfl
   | succ j' => rw [Sort.scanDown, if_neg (by simp; omega)]
 refine br_i (fun q => ?_) (fun q => ?_)
 ·have q := of_decide_eq_true q
  rw [Sort.scanUp] at he8
  refine rd h8 ha (by omega) (rd h8 (by omega) (by omega) (less ?_))
  cases hl : (!ltInt d3[a.toNat]! d3[i3.toNat]!) with
  | true =>
   rw [hl, if_pos (by simp; omega)] at he8
   refine br_t rfl ?_
   rw [w64 (n := i3 + 1) (by omega) (by omega)]
   refine hn4 _ _ _ (by omega) ⟨by omega, by omega, rfl, k8, h8, ?_⟩
   rw [show (i3 + 1).toNat = i3.toNat + 1 from by omega]
   exact he8
  | false =>
   rw [hl, if_neg (by simp)] at he8
   exact br_f rfl (rest3 he8.symm)
 ·have q := of_decide_eq_false q
  rw [Sort.scanUp, if_neg (by simp; omega)] at he8
  exact br_f rfl (rest3 he8.symm)
theorem c_partialInsertionSort {a c : Int} {K : Bool -> World -> Prop} (h : Rw w s b o d) (ha : 0 <= a) (hac : a < c) (hc : c <= d.size)
  (hk : ∀ w', Keeps (· = b) w w' -> Rw w' s b o (Sort.partialInsertionSort ltInt d a.toNat c.toNat).1 -> K (Sort.partialInsertionSort ltInt d a.toNat c.toNat).2 w') :
  CallsR PP n_f98 #[.slice s.a s.len s.cap, .int .i64 a, .int .i64 c] (fun v w' => ∃ x : Bool, v = .bool x /\ K x w') w := by
 refine so_f98 _ _ ?_
 generalize hQ : (fun (v : Value) w' => ∃ x : Bool, v = .bool x /\ K x w') = Q
 have hQ : ∀ x w', K x w' -> Q (.bool x) w' := by rintro x w' hh; subst hQ; exact ⟨x, rfl, hh⟩
 obtain ⟨r, hr⟩ : ∃ r, Sort.partialInsertionSort ltInt d a.toNat c.toNat = r := ⟨_, rfl⟩
 rw [hr] at hk
 unfold sh_f98
 have hsm := h.small
 unfold Sort.partialInsertionSort at hr
 rw [w64 (n := a + 1) (by omega) (by omega)]
 refine loop2 (sh_f98_b1 s a c Q) (fun m i t w' => a + 1 <= i /\ i <= c /\ 0 <= t /\ t <= 5 /\ m = (5 - t).toNat /\ Keeps (· = b) w w' /\ ∃ d1, Rw w' s b o d1 /\ d1.size = d.size /\ Sort.partialIns ltInt a.toNat c.toNat (5 - t).toNat i.toNat d1 = r)
  ⟨_, by omega, by omega, by omega, by omega, rfl, Keeps.refl _ _, d, h, rfl, by rw [show (a + 1).toNat = a.toNat + 1 from by omega]; exact hr⟩ ?_
 rintro m i t w1 nxt ⟨hi0, hi1, ht0, ht1, rfl, k1, d1, h1, hd1, he⟩ hn
 unfold sh_f98_b1
 refine br_i (fun q => ?_) (fun q => ?_)
 rotate_left
 ·have q := of_decide_eq_false q
  rw [show (5 - t).toNat = 0 from by omega, Sort.partialIns] at he
  subst he
  exact hQ _ _ (hk w1 k1 h1)
 have q := of_decide_eq_true q
 obtain ⟨u, hu⟩ : ∃ u, (5 - t).toNat = u + 1 := ⟨(5 - t).toNat - 1, by omega⟩
 rw [hu, Sort.partialIns] at he
 simp only at he
 refine loop1 (sh_f98_b2 s a c Q t nxt) (fun m x w' => i <= x /\ x <= c /\ m = (c - x).toNat /\ Keeps (· = b) w w' /\ Rw w' s b o d1 /\ Sort.scanSorted ltInt d1 c.toNat x.toNat = Sort.scanSorted ltInt d1 c.toNat i.toNat)
  ⟨_, by omega, by omega, rfl, k1, h1, rfl⟩ ?_
 rintro m x w2 nxt2 ⟨hx0, hx1, rfl, k2, h2, he2⟩ hn2
 unfold sh_f98_b2
 refine dw_i fun w3 _ g3 => ?_
 replace h2 := h2.gr g3
 replace k2 := k2.trans (Gr.keeps g3)
 rw [w64 (n := x - 1) (by omega) (by omega)]
 have rest : Sort.scanSorted ltInt d1 c.toNat i.toNat = x.toNat -> sh_f98_j3 s a c Q t nxt x nxt2 false w3 := by
  intro hx
  rw [hx] at he
  refine br_f rfl ?_
  unfold sh_f98_j4
  refine br_i (fun q1 => ?_) (fun q1 => ?_)
  ·have q1 : x = c := by simpa using q1
   rw [if_pos (by omega)] at he
   subst he
   exact hQ _ _ (hk w3 k2 h2)
  have q1 : ¬ x = c := by simpa using q1
  rw [if_neg (by omega)] at he
  rw [w64 (n := c - a) (by omega) (by omega), w64 (n := x - 1) (by omega) (by omega), w64 (n := x - a) (by omega) (by omega)]
  refine br_i (fun q2 => ?_) (fun q2 => ?_)
  ·have q2 := of_decide_eq_true q2
   rw [if_pos (by omega)] at he
   subst he
   exact hQ _ _ (hk w3 k2 h2)
  have q2 := of_decide_eq_false q2
  rw [if_neg (by omega)] at he
  refine sw h2 (by omega) (by omega) (by omega) (by omega) fun w4 k4 h4 => ?_
  rw [show (x - 1).toNat = x.toNat - 1 from by omega] at h4
  have hd2 : (swp d1 x.toNat (x.toNat - 1)).size = d.size := by rw [swp_size, hd1]
  generalize swp d1 x.toNat (x.toNat - 1) = d2 at he h4 hd2
  have up : ∀ d3 w5, Keeps (· = b) w w5 -> Rw w5 s b o d3 -> d3.size = d.size -> Sort.partialIns ltInt a.toNat c.toNat u x.toNat (if c.toNat - x.toNat ≥ 2 then Sort.shiftUp ltInt c.toNat (x.toNat + 1) d3 else d3) = r ->
    sh_f98_j6 s c t nxt x w5 := by
   intro d3 w5 k5 h5 hd3 he3
   unfold sh_f98_j6
   have last : ∀ d4 w6, Keeps (· = b) w w6 -> Rw w6 s b o d4 -> d4.size = d.size -> Sort.partialIns ltInt a.toNat c.toNat u x.toNat d4 = r -> sh_f98_j8 t nxt x w6 := by
    intro d4 w6 k6 h6 hd4 he4
    unfold sh_f98_j8
    rw [w64 (n := t + 1) (by omega) (by omega)]
    exact hn _ _ _ _ (by omega) ⟨by omega, by omega, by omega, by omega, rfl, k6, d4, h6, hd4, by rw [show (5 - (t + 1)).toNat = u from by omega]; exact he4⟩
   rw [w64 (n := c - x) (by omega) (by omega), w64 (n := x + 1) (by omega) (by omega)]
   refine br_i (fun q3 => ?_) (fun q3 => ?_)
   ·have q3 := of_decide_eq_true q3
    rw [if_pos (by omega)] at he3
    refine loop1 (sh_f98_b7 s c t nxt x) (fun m y w' => x + 1 <= y /\ y <= c /\ m = (c - y).toNat /\ Keeps (· = b) w w' /\ ∃ d4, Rw w' s b o d4 /\ d4.size = d.size /\ Sort.shiftUp ltInt c.toNat y.toNat d4 = Sort.shiftUp ltInt c.toNat (x.toNat + 1) d3)
     ⟨_, by omega, by omega, rfl, k5, d3, h5, hd3, by rw [show (x + 1).toNat = x.toNat + 1 from by omega]⟩ ?_
    rintro m y w6 nxt4 ⟨hy0, hy1, rfl, k6, d4, h6, hd4, he4⟩ hn4
    unfold sh_f98_b7
    rw [Sort.shiftUp] at he4
    refine br_i (fun q4 => ?_) (fun q4 => ?_)
    ·have q4 := of_decide_eq_true q4
     rw [if_pos (by omega)] at he4
     refine dw_i fun w7 _ g7 => ?_
     replace h6 := h6.gr g7
     replace k6 := k6.trans (Gr.keeps g7)
     rw [w64 (n := y - 1) (by omega) (by omega)]
     refine rd h6 (by omega) (by omega) (rd h6 (by omega) (by omega) (less ?_))
     rw [show (y - 1).toNat = y.toNat - 1 from by omega]
     refine br_i (fun q5 => ?_) (fun q5 => ?_)
     ·rw [if_pos q5] at he4
      rw [<- he4] at he3
      exact last _ _ k6 h6 hd4 he3
     ·rw [if_neg (by simp [q5])] at he4
      rw [<- show (y - 1).toNat = y.toNat - 1 from by omega]
      refine sw h6 (by omega) (by omega) (by omega) (by omega) fun w8 k8 h8 => ?_
      rw [w64 (n := y + 1) (by omega) (by omega)]
      rw [show (y - 1).toNat = y.toNat - 1 from by omega] at h8
      exact hn4 _ _ _ (by omega) ⟨by omega, by omega, rfl, k6.trans k8, _, h8, by rw [swp_size]; exact hd4, by rw [show (y + 1).toNat = y.toNat + 1 from by omega]; exact he4⟩
    ·have q4 := of_decide_eq_false q4
     rw [if_neg (by omega)] at he4
     rw [<- he4] at he3
     exact last _ _ k6 h6 hd4 he3
   ·have q3 := of_decide_eq_false q3
    rw [if_neg (by omega)] at he3
    exact last _ _ k5 h5 hd3 he3
  refine br_i (fun q3 => ?_) (fun q3 => ?_)
  ·have q3 := of_decide_eq_true q3
   rw [if_pos (show x.toNat - a.toNat ≥ 2 by omega)] at he
   refine loop1 (sh_f98_b5 s c t nxt x) (fun m y w' => 0 <= y /\ y < x /\ m = y.toNat /\ Keeps (· = b) w w' /\ ∃ d4, Rw w' s b o d4 /\ d4.size = d.size /\ Sort.shiftDown ltInt y.toNat d4 = Sort.shiftDown ltInt (x.toNat - 1) d2)
    ⟨_, by omega, by omega, rfl, k2.trans k4, d2, h4, hd2, by rw [show (x - 1).toNat = x.toNat - 1 from by omega]⟩ ?_
   rintro m y w6 nxt4 ⟨hy0, hy1, rfl, k6, d4, h6, hd4, he4⟩ hn4
   unfold sh_f98_b5
   refine br_i (fun q4 => ?_) (fun q4 => ?_)
   ·have q4 := of_decide_eq_true q4
    obtain ⟨y', hy'⟩ : ∃ y', y.toNat = y' + 1 := ⟨y.toNat - 1, by omega⟩
    rw [hy', Sort.shiftDown] at he4
    refine dw_i fun w7 _ g7 => ?_
    replace h6 := h6.gr g7
    replace k6 := k6.trans (Gr.keeps g7)
    rw [w64 (n := y - 1) (by omega) (by omega)]
    refine rd h6 (by omega) (by omega) (rd h6 (by omega) (by omega) (less ?_))
    have e1 : (y - 1).toNat = y' := by omega
    rw [hy', e1]
    refine br_i (fun q5 => ?_) (fun q5 => ?_)
    ·rw [if_pos q5] at he4
     rw [<- he4] at he
     exact up _ _ k6 h6 hd4 he
    ·rw [if_neg (by simp [q5])] at he4
     rw [<- hy', <- e1]
     refine sw h6 (by omega) (by omega) (by omega) (by omega) fun w8 k8 h8 => ?_
     rw [e1, hy'] at h8
     exact hn4 _ _ _ (by omega) ⟨by omega, by omega, rfl, k6.trans k8, _, h8, by rw [swp_size]; exact hd4, by rw [e1]; exact he4⟩
   ·have q4 := of_decide_eq_false q4
    rw [show y.toNat = 0 from by omega, Sort.shiftDown] at he4
    rw [<- he4] at he
    exact up _ _ k6 h6 hd4 he
  ·have q3 := of_decide_eq_false q3
   rw [if_neg (show ¬ x.toNat - a.toNat ≥ 2 by omega)] at he
   exact up _ _ (k2.trans k4) h4 hd2 he
 refine br_i (fun q => ?_) (fun q => ?_)
 ·have q := of_decide_eq_true q
  rw [Sort.scanSorted] at he2
  refine rd h2 (by omega) (by omega) (rd h2 (by omega) (by omega) (less ?_))
  rw [show (x - 1).toNat = x.toNat - 1 from by omega]
  cases hl : (!ltInt d1[x.toNat]! d1[x.toNat - 1]!) with
  | true =>
   rw [hl, if_pos (by simp; omega)] at he2
   refine br_t rfl ?_
   rw [w64 (n := x + 1) (by omega) (by omega)]
   exact hn2 _ _ _ (by omega) ⟨by omega, by omega, rfl, k2, h2, by rw [show (x + 1).toNat = x.toNat + 1 from by omega]; exact he2⟩
  | false =>
   rw [hl, if_neg (by simp)] at he2
   exact rest he2.symm
 ·have q := of_decide_eq_false q
  rw [Sort.scanSorted, if_neg (by simp; omega)] at he2
  exact rest he2.symm
theorem permIn_swp {d d' : Array Int} {a c i j : Nat} (hp : Sort.PermIn a c d d') (hi : a <= i) (hi' : i < c) (hj : a <= j) (hj' : j < c) (hc : c <= d.size) : Sort.PermIn a c d (swp d' i j) :=
 Sort.permIn_trans _ _ _ a c hp (Sort.swp_permIn d' a c i j hi hi' hj hj' (by rw [hp.1]; exact hc))
theorem c_breakPatterns {a c : Int} (h : Rw w s b o d) (hb : b < w.heap.size) (ha : 0 <= a) (hac : a < c) (hc : c <= d.size) (hk : ∀ w' d', Keeps (· = b) w w' -> Rw w' s b o d' -> Sort.PermIn a.toNat c.toNat d d' -> Q (.tuple #[]) w') :
  CallsR PP n_f95 #[.slice s.a s.len s.cap, .int .i64 a, .int .i64 c] Q w := by
 refine so_f95 _ _ ?_
 unfold sh_f95
 have hsm := h.small
 have refl : Sort.PermIn a.toNat c.toNat d d := Sort.permIn_refl d _ _
 rw [w64 (n := c - a) (by omega) (by omega)]
 refine br_i (fun q => ?_) (fun q => hk w d (Keeps.refl _ _) h refl)
 have q := of_decide_eq_true q
 refine al_st rfl fun rb w1 e1 g1 c1 s1 => ?_
 refine c_nextPowerOfTwo (by omega) (by omega) fun m hm0 hm1 => ⟨m, rfl, ?_⟩
 rw [Int.tdiv_eq_ediv_of_nonneg (show 0 <= c - a by omega), w64 (n := (c - a) / 4) (by omega) (by omega), w64 (n := (c - a) / 4 * 2) (by omega) (by omega), w64 (n := a + (c - a) / 4 * 2) (by omega) (by omega), w64 (n := a + (c - a) / 4 * 2 - 1) (by omega) (by omega)]
 refine loop1 (sh_f95_b1 s a c Q rb m) (fun n i w' => a + (c - a) / 4 * 2 - 1 <= i /\ i <= a + (c - a) / 4 * 2 + 2 /\ n = (a + (c - a) / 4 * 2 + 2 - i).toNat /\ Keeps (fun j => j = b \/ j = rb) w1 w' /\ (∃ v, CellsAt w' rb 0 (tU64.enc v)) /\ CanSt w' rb 0 1 /\ ∃ d1, Rw w' s b o d1 /\ Sort.PermIn a.toNat c.toNat d d1)
  ⟨_, by omega, by omega, rfl, Keeps.refl _ _, ⟨_, c1⟩, s1, d, h.gr g1, refl⟩ ?_
 rintro n i w2 nxt ⟨hi0, hi1, rfl, k2, ⟨v, c2⟩, s2, d1, h2, p2⟩ hn
 unfold sh_f95_b1
 have hd1 : d1.size = d.size := p2.1
 rw [w64 (n := c - a) (by omega) (by omega), Int.tdiv_eq_ediv_of_nonneg (show 0 <= c - a by omega), w64 (n := (c - a) / 4) (by omega) (by omega), w64 (n := (c - a) / 4 * 2) (by omega) (by omega), w64 (n := a + (c - a) / 4 * 2) (by omega) (by omega), w64 (n := a + (c - a) / 4 * 2 + 1) (by omega) (by omega)]
 refine br_i (fun q1 => ?_) (fun q1 => ?_)
 ·have q1 := of_decide_eq_true q1
  refine c_xorshift_Next c2 s2 fun x w3 hx k3 c3 s3 => ⟨x, rfl, ?_⟩
  have h3 : Rw w3 s b o d1 := h2.keeps k3 (by omega)
  rw [wrap_u64 (n := m - 1) (by omega) (by omega)]
  have hand : ((BitVec.ofInt IntKind.u64.bits x &&& BitVec.ofInt IntKind.u64.bits (m - 1)).toNat : Int) <= m - 1 := by
   have e1 : (BitVec.ofInt 64 (m - 1)).toNat = (m - 1).toNat := by
    rw [BitVec.toNat_ofInt]
    omega
   have : (BitVec.ofInt 64 x &&& BitVec.ofInt 64 (m - 1)).toNat <= (m - 1).toNat := by
    rw [BitVec.toNat_and, e1]; exact Nat.and_le_right
   show ((BitVec.ofInt 64 x &&& BitVec.ofInt 64 (m - 1)).toNat : Int) <= m - 1
   omega
  generalize (BitVec.ofInt IntKind.u64.bits x &&& BitVec.ofInt IntKind.u64.bits (m - 1)).toNat = y at hand
  rw [wrap_u64 (n := (y : Int)) (by omega) (by omega), w64 (n := (y : Int)) (by omega) (by omega)]
  have swap : ∀ z : Int, 0 <= z -> z < c - a -> sh_f95_j2 s a i nxt z w3 := by
   intro z hz hz'
   unfold sh_f95_j2
   rw [w64 (n := a + z) (by omega) (by omega)]
   refine sw h3 (by omega) (by omega) (by omega) (by omega) fun w4 k4 h4 => ?_
   rw [w64 (n := i + 1) (by omega) (by omega)]
   refine hn _ _ _ (by omega) ⟨by omega, by omega, rfl, k2.trans ((k3.mono fun _ _ e => .inr e).trans (k4.mono fun _ _ e => .inl e)), ⟨x, c3.keeps k4 (by omega)⟩, s3.keeps k4 (by omega), _, h4, permIn_swp p2 (by omega) (by omega) (by omega) (by omega) (by omega)⟩
  refine br_i (fun q2 => ?_) (fun q2 => ?_)
  ·have q2 := of_decide_eq_true q2
   rw [w64 (n := (y : Int) - (c - a)) (by omega) (by omega)]
   exact swap _ (by omega) (by omega)
  ·have q2 := of_decide_eq_false q2
   exact swap _ (by omega) (by omega)
 ·refine hk w2 d1 (Keeps.local (Gr.keeps g1) k2 fun j e => ?_) h2 p2
  rcases e with e | e
  ·exact .inr e
  ·left; omega
end Suint64
end Go.Proofs.Ytdefmgkicdhmkaa
namespace Go.Proofs.Ytdefmgkicdhmkaa
open Go Go.Sx
open Go.Sort (swp ltInt PermIn SortedIn)
set_option linter.unusedVariables false
namespace Suint64
variable {s : Sl} {b o : Nat}
theorem swo : Sort.SWO ltInt := ⟨fun x => by simp [ltInt], fun x y z h1 h2 => by simp only [ltInt, decide_eq_true_eq] at *; omega, fun x y z h1 h2 => by simp only [ltInt, decide_eq_false_iff_not] at *; omega⟩
theorem c_pdqsort : ∀ (n : Nat) {w : World} {d : Array Int} {a c l : Int} {Q : QW}, Rw w s b o d -> b < w.heap.size -> 0 <= a -> a <= c -> c <= d.size -> (c - a).toNat <= n -> 0 <= l -> l <= 64 -> Sort.Below ltInt a.toNat c.toNat d ->
  (∀ w' d', Keeps (· = b) w w' -> Rw w' s b o d' -> PermIn a.toNat c.toNat d d' -> SortedIn ltInt a.toNat c.toNat d' -> Q (.tuple #[]) w') ->
  CallsR PP n_f92 #[.slice s.a s.len s.cap, .int .i64 a, .int .i64 c, .int .i64 l] Q w := by
 intro n
 induction n using Nat.strongRecOn with
 | _ n ih =>
 intro w d a c l Q h hb ha hac hc hn hl0 hl1 hB hk
 refine so_f92 _ _ ?_
 unfold sh_f92
 have hsm := h.small
 refine loop5 (sh_f92_b1 s Q) (fun m x y z u v w' => a <= x /\ x <= y /\ y <= c /\ 0 <= z /\ z <= 64 /\ m = (y - x).toNat /\ Keeps (· = b) w w' /\ ∃ d1, Rw w' s b o d1 /\ d1.size = d.size /\ Sort.Below ltInt x.toNat y.toNat d1 /\
   ∀ d2, PermIn x.toNat y.toNat d1 d2 -> SortedIn ltInt x.toNat y.toNat d2 -> PermIn a.toNat c.toNat d d2 /\ SortedIn ltInt a.toNat c.toNat d2)
  ⟨_, by omega, hac, by omega, hl0, hl1, rfl, Keeps.refl _ _, d, h, rfl, hB, fun d2 p q => ⟨p, q⟩⟩ ?_
 rintro m x y z u v w1 nxt ⟨hx, hxy, hy, hz0, hz1, rfl, k1, d1, h1, hd1, hB1, hfin⟩ hnx
 unfold sh_f92_b1
 rw [w64 (n := y - x) (by omega) (by omega)]
 have hhb : b < w1.heap.size := Nat.lt_of_lt_of_le hb k1.size
 refine br_i (fun q => ?_) (fun q => ?_)
 ·refine c_insertionSort h1 (by omega) hxy (by omega) fun w2 k2 h2 => ?_
  obtain ⟨p1, p2⟩ := Sort.insertionSort_holds swo d1 x.toNat y.toNat (by omega) (by omega)
  obtain ⟨r1, r2⟩ := hfin _ p1 p2
  exact hk w2 _ (k1.trans k2) h2 r1 r2
 have q := of_decide_eq_false q
 refine br_i (fun q2 => ?_) (fun q2 => ?_)
 ·refine c_heapSort h1 (by omega) (by omega) (by omega) fun w2 k2 h2 => ?_
  obtain ⟨p1, p2⟩ := Sort.heapSort_holds swo d1 x.toNat y.toNat (by omega) (by omega)
  obtain ⟨r1, r2⟩ := hfin _ p1 p2
  exact hk w2 _ (k1.trans k2) h2 r1 r2
 have q2 : ¬ z = 0 := by simpa using q2
 have fin : ∀ (z' pv : Int) w2 d2, 0 <= z' -> z' <= 64 -> x <= pv -> pv < y -> Keeps (· = b) w w2 -> Rw w2 s b o d2 -> PermIn x.toNat y.toNat d1 d2 -> sh_f92_j5 s x y u v nxt z' pv w2 := by
  intro z' pv w2 d2 hz'0 hz'1 hp0 hp1 k2 h2 p2
  have hd2 : d2.size = d1.size := p2.1
  have B2 := hB1.perm (by omega) p2
  unfold sh_f92_j5
  refine dw_i fun w3 _ g3 => ?_
  replace h2 := h2.gr g3
  replace k2 := k2.trans (Gr.keeps g3)
  have back : ∀ R, PermIn x.toNat y.toNat d2 R /\ SortedIn ltInt x.toNat y.toNat R -> PermIn a.toNat c.toNat d R /\ SortedIn ltInt a.toNat c.toNat R := fun R hR => hfin R (Sort.permIn_trans _ _ _ _ _ p2 hR.1) hR.2
  have part : sh_f92_j6 s x y u v nxt z' pv false w3 := by
   unfold sh_f92_j6
   refine br_f rfl (c_partition h2 (by omega) hp0 hp1 (by omega) fun w4 k4 h4 => ?_)
   obtain ⟨mid, ap, d4, hx4⟩ : ∃ mid ap d4, Sort.partition ltInt d2 x.toNat y.toNat pv.toNat = (mid, ap, d4) := ⟨_, _, _, rfl⟩
   rw [hx4] at h4 ⊢
   obtain ⟨m1, m2, hs4, Ba, Br, hleft, hright⟩ := Sort.round_part swo (Sort.partition_holds ltInt) (by omega) (by omega) (by omega) B2 hx4
   simp only at h4 ⊢
   rw [w64 (n := (mid : Int) - x) (by omega) (by omega), w64 (n := y - (mid : Int)) (by omega) (by omega), w64 (n := y - x) (by omega) (by omega), w64 (n := (mid : Int) + 1) (by omega) (by omega)]
   have e1 : ((mid : Int) + 1).toNat = mid + 1 := by omega
   refine br_i (fun q5 => ?_) (fun q5 => ?_)
   ·refine ih (mid - x.toNat) (by omega) h4 (Nat.lt_of_lt_of_le hb ((k2.trans k4).size)) (by omega) (by omega) (by omega) (by omega) hz'0 hz'1 (by simpa using Ba) fun w5 d5 k5 h5 p5 s5 => ?_
    rw [Int.toNat_natCast] at p5 s5
    obtain ⟨hBL, hf⟩ := hleft d5 p5 s5
    refine hnx _ _ _ _ _ _ _ (by omega) ⟨by omega, by omega, by omega, hz'0, hz'1, rfl, k2.trans (k4.trans k5), d5, h5, by rw [p5.1, hs4, hd2, hd1], by rw [e1]; exact hBL, ?_⟩
    rw [e1]
    exact fun R r1 r2 => back R (hf R r1 r2)
   ·refine ih (y.toNat - (mid + 1)) (by omega) h4 (Nat.lt_of_lt_of_le hb ((k2.trans k4).size)) (by omega) (by omega) (by omega) (by omega) hz'0 hz'1 (by rw [e1]; exact Br) fun w5 d5 k5 h5 p5 s5 => ?_
    rw [e1] at p5 s5
    obtain ⟨hBL, hf⟩ := hright d5 p5 s5
    refine hnx _ _ _ _ _ _ _ (by omega) ⟨by omega, by omega, by omega, hz'0, hz'1, rfl, k2.trans (k4.trans k5), d5, h5, by rw [p5.1, hs4, hd2, hd1], by rw [Int.toNat_natCast]; exact hBL, ?_⟩
    rw [Int.toNat_natCast]
    exact fun R r1 r2 => back R (hf R r1 r2)
  refine br_i (fun q4 => ?_) (fun q4 => part)
  have q4 := of_decide_eq_true q4
  rw [w64 (n := x - 1) (by omega) (by omega)]
  refine rd h2 (by omega) (by omega) (rd h2 (by omega) (by omega) (less ?_))
  rw [show (x - 1).toNat = x.toNat - 1 from by omega]
  cases hl : ltInt d2[x.toNat - 1]! d2[pv.toNat]! with
  | true => exact part
  | false =>
   unfold sh_f92_j6
   refine br_t rfl (c_partitionEqual h2 (by omega) hp0 hp1 (by omega) fun w4 k4 h4 => ?_)
   obtain ⟨mid, d4, hx4⟩ : ∃ mid d4, Sort.partitionEqual ltInt d2 x.toNat y.toNat pv.toNat = (mid, d4) := ⟨_, _, rfl⟩
   rw [hx4] at h4 ⊢
   obtain ⟨m1, m2, hs4, B4, hf⟩ := Sort.round_eq swo (Sort.partitionEqual_holds ltInt) (by omega) (by omega) (by omega) (by omega) B2 hl hx4
   simp only at h4 ⊢
   refine hnx _ _ _ _ _ _ _ (by omega) ⟨by omega, by omega, by omega, hz'0, hz'1, rfl, k2.trans k4, d4, h4, by rw [hs4, hd2, hd1], by rw [Int.toNat_natCast]; exact B4, ?_⟩
   rw [Int.toNat_natCast]
   exact fun R r1 r2 => back R (hf R r1 r2)
 have mid4 : ∀ (z' pv : Int) (q : Bool) w2 d2, 0 <= z' -> z' <= 64 -> x <= pv -> pv < y -> Keeps (· = b) w w2 -> Rw w2 s b o d2 -> PermIn x.toNat y.toNat d1 d2 -> sh_f92_j4 s Q x y u v nxt z' pv q w2 := by
  intro z' pv q w2 d2 hz'0 hz'1 hp0 hp1 k2 h2 p2
  have hd2 : d2.size = d1.size := p2.1
  have B2 := hB1.perm (by omega) p2
  unfold sh_f92_j4
  refine br_i (fun _ => ?_) (fun _ => fin z' pv w2 d2 hz'0 hz'1 hp0 hp1 k2 h2 p2)
  refine c_partialInsertionSort h2 (by omega) (by omega) (by omega) fun w3 k3 h3 => ?_
  obtain ⟨r1, r2⟩ := Sort.partialInsertionSort_holds swo d2 x.toNat y.toNat (by omega) (by omega) B2
  have p3 := Sort.permIn_trans _ _ _ _ _ p2 r1
  refine br_i (fun q3 => ?_) (fun q3 => fin z' pv w3 _ hz'0 hz'1 hp0 hp1 (k2.trans k3) h3 p3)
  obtain ⟨f1, f2⟩ := hfin _ p3 (r2 q3)
  exact hk w3 _ (k2.trans k3) h3 f1 f2
 have mid3 : ∀ (z' pv hi : Int) w2 d2, 0 <= z' -> z' <= 64 -> x <= pv -> pv < y -> Keeps (· = b) w w2 -> Rw w2 s b o d2 -> PermIn x.toNat y.toNat d1 d2 -> sh_f92_j3 s Q x y u v nxt z' pv hi w2 := by
  intro z' pv hi w2 d2 a1 a2 a3 a4 a5 a6 a7
  unfold sh_f92_j3
  exact br_i (fun _ => br_i (fun _ => mid4 _ _ _ _ _ a1 a2 a3 a4 a5 a6 a7) (fun _ => mid4 _ _ _ _ _ a1 a2 a3 a4 a5 a6 a7)) (fun _ => mid4 _ _ _ _ _ a1 a2 a3 a4 a5 a6 a7)
 have main : ∀ (z' : Int) w2 d2, 0 <= z' -> z' <= 64 -> Keeps (· = b) w w2 -> Rw w2 s b o d2 -> PermIn x.toNat y.toNat d1 d2 -> sh_f92_j2 s Q x y u v nxt z' w2 := by
  intro z' w2 d2 hz'0 hz'1 k2 h2 p2
  have hd2 : d2.size = d1.size := p2.1
  unfold sh_f92_j2
  refine c_choosePivot h2 (Nat.lt_of_lt_of_le hb k2.size) (by omega) (by omega) (by omega) fun w3 g3 => ?_
  have hc0 := Sort.choosePivot_holds ltInt d2 x.toNat y.toNat (by omega)
  generalize Sort.choosePivot ltInt d2 x.toNat y.toNat = cp at hc0
  have h3 := h2.gr g3
  have k3 := k2.trans (Gr.keeps g3)
  refine br_i (fun q4 => ?_) (fun q4 => mid3 _ _ _ _ _ hz'0 hz'1 (by omega) (by omega) k3 h3 p2)
  refine c_reverseRange h3 (by omega) (by omega) (by omega) fun w4 k4 h4 => ?_
  rw [w64 (n := y - 1) (by omega) (by omega), w64 (n := (cp.1 : Int) - x) (by omega) (by omega), w64 (n := y - 1 - ((cp.1 : Int) - x)) (by omega) (by omega)]
  exact mid3 _ _ _ _ _ hz'0 hz'1 (by omega) (by omega) (k3.trans k4) h4 (Sort.permIn_trans _ _ _ _ _ p2 (Sort.reverseRange_holds d2 x.toNat y.toNat (by omega) (by omega)))
 refine br_i (fun q3 => ?_) (fun q3 => ?_)
 ·refine c_breakPatterns h1 hhb (by omega) (by omega) (by omega) fun w2 d2 k2 h2 p2 => ?_
  rw [w64 (n := z - 1) (by omega) (by omega)]
  exact main _ _ _ (by omega) (by omega) (k1.trans k2) h2 p2
 ·exact main _ _ _ hz0 hz1 k1 h1 (Sort.permIn_refl d1 _ _)
theorem c_Sort {w : World} {d : Array Int} {Q : QW} (h : Rw w s b o d) (hb : b < w.heap.size) (hk : ∀ w' d', Keeps (· = b) w w' -> Rw w' s b o d' -> d'.toList = d.toList.mergeSort (fun x y => decide (x <= y)) -> Q (.tuple #[]) w') :
  CallsR PP n_f88 #[.slice s.a s.len s.cap] Q w := by
 refine so_f88 _ _ ?_
 unfold sh_f88
 have hsm := h.small
 rw [h.len, wrap_u64 (n := (d.size : Int)) (by omega) (by omega)]
 refine c_bits_Len (by omega) (by omega) fun r hr => ⟨r, rfl, ?_⟩
 rw [<- h.len]
 have hl := h.len
 refine c_pdqsort d.size h hb (by omega) (by omega) (by omega) (by omega) hr.1 hr.2.1 (.inl rfl) fun w' d' k' h' p' s' => ?_
 refine hk w' d' k' h' ?_
 have e : ((s.len : Nat) : Int).toNat = d.size := by omega
 rw [e] at p' s'
 have := Sort.sorted_unique_holds swo (fun x y h1 h2 => by simp only [ltInt, decide_eq_false_iff_not] at h1 h2; omega) d d' p' s'
 rw [this]
 congr 1
 funext x y
 simp only [ltInt]
 by_cases h : x <= y
 ·rw [decide_eq_true h, decide_eq_false (by omega)]; rfl
 ·rw [decide_eq_false h, decide_eq_true (by omega)]; rfl
theorem c_Sort_none {w : World} {Q : QW} (hl : s.len = 0) (hk : Q (.tuple #[]) w) : CallsR PP n_f88 #[.slice s.a s.len s.cap] Q w := by
 refine so_f88 _ _ ?_
 unfold sh_f88
 rw [hl, wrap_u64 (n := ((0 : Nat) : Int)) (by omega) (by omega)]
 refine c_bits_Len (by omega) (by omega) fun r hr => ⟨r, rfl, ?_⟩
 rw [<- hl]
 refine so_f92 _ _ ?_
 unfold sh_f92
 refine loop5 (sh_f92_b1 s _) (fun m x y z u v w' => x = 0 /\ y = 0 /\ w' = w) ⟨0, rfl, by omega, rfl⟩ ?_
 rintro m x y z u v w' nxt ⟨rfl, rfl, rfl⟩ hn
 unfold sh_f92_b1
 refine br_t (by decide) (so_f93 _ _ ?_)
 unfold sh_f93
 refine loop1 (sh_f93_b1 s 0 0 _) (fun m i w'' => i = 1 /\ w'' = w') ⟨0, by decide, rfl⟩ ?_
 rintro m i w'' nxt ⟨rfl, rfl⟩ hn
 unfold sh_f93_b1
 exact br_f (by decide) hk
end Suint64
end Go.Proofs.Ytdefmgkicdhmkaa
namespace Go.Sx
open Go
namespace ATree
def roots (t : ATree) : List Int := (t.nodes.map (·.1)).mergeSort fun x y => decide (x <= y)
def cutNode (t : ATree) (root base r : Int) : G_tree_node :=
 let n := (t.get r).getD ⟨0, 0, 0⟩
 ⟨if r = root then root else n.parent, n.slot, n.height - base⟩
def cut (t : ATree) (root : Int) : List Int × ATree :=
 match t.get root with
 | none => ([], t)
 | some n => (t.roots.filter fun r => !t.below r root, ⟨root, (t.roots.filter fun r => t.below r root).map fun r => (r, t.cutNode root n.height r)⟩)
end ATree
def jNext (s : G_justify_State) (epoch : Int) (before now : Bool) (first second : G_api_Point) : G_justify_State :=
 let b0 := now
 let b1 := before || s.Bits.e0
 let b2 := s.Bits.e1
 let b3 := s.Bits.e2
 ⟨⟨b0, b1, b2, b3⟩, s.Current, if now then second else if before then first else s.Current,
  if b0 && b1 && decide (s.Current.Epoch + 1 = epoch) then s.Current
  else if b0 && b1 && b2 && decide (s.Current.Epoch + 2 = epoch) then s.Current
  else if b1 && b2 && decide (s.Previous.Epoch + 2 = epoch) then s.Previous
  else if b1 && b2 && b3 && decide (s.Previous.Epoch + 3 = epoch) then s.Previous
  else s.Final⟩
def whoOf (is : List Bool) : List Int := (List.range is.length).filterMap fun k => if is.getD k false then some (k : Int) else none
def pointOf (c : ACfg) (e : Int) (at_ : Int -> Int) : G_api_Point := ⟨max 0 e, at_ (epochStart e c.slots)⟩
def ledOpen (c : ACfg) (root : Int) : ALed :=
 ⟨⟨⟨false, false, false, false⟩, ⟨0, root⟩, ⟨0, root⟩, ⟨0, root⟩⟩, 0, List.replicate c.bal.length false, List.replicate c.bal.length false⟩
def ledZero : ALed := ⟨⟨⟨false, false, false, false⟩, ⟨0, 0⟩, ⟨0, 0⟩, ⟨0, 0⟩⟩, 0, [], []⟩
def pull (c : ACfg) (l : ALed) (at_ : Int -> Int) : G_justify_State :=
 if l.epoch < 2 then l.just else
 jNext l.just l.epoch (enough (sumOf c.bal (whoOf l.before)) (totalOf c.bal)) (enough (sumOf c.bal (whoOf l.now)) (totalOf c.bal)) (pointOf c (l.epoch - 1) at_) (pointOf c l.epoch at_)
def endsOf (a b slots : Int) : List Int := (List.range (min 4096 (epochOf b slots - epochOf a slots).toNat)).map fun (k : Nat) => epochOf a slots + (k : Int)
def step1 (c : ACfg) (at_ : Int -> Int) (l : ALed) (e : Int) : ALed := ⟨pull c l at_, e + 1, l.now, List.replicate c.bal.length false⟩
def advance (c : ACfg) (l : ALed) (slot : Int) (at_ : Int -> Int) : ALed := (endsOf (l.epoch * max 1 c.slots) slot c.slots).foldl (step1 c at_) l
def marks (bs : List Bool) (who : List Int) : List Bool := who.foldl (fun bs k => bs.set k.toNat true) bs
def counts (c : ACfg) (l : ALed) (v : AVote) (at_ : Int -> Int) : Bool :=
 voteRight c v && (v.tgt.Epoch == l.epoch || v.tgt.Epoch + 1 == l.epoch) && ptEq v.src (if v.tgt.Epoch == l.epoch then l.just.Current else l.just.Previous) && ptEq v.tgt (pointOf c v.tgt.Epoch at_)
def count (c : ACfg) (l : ALed) (v : AVote) (at_ : Int -> Int) : ALed :=
 if counts c l v at_ then
  if v.tgt.Epoch == l.epoch then { l with now := marks l.now v.who } else { l with before := marks l.before v.who }
 else l
structure AStore where
 cfg : ACfg
 tree : ATree
 votes : List G_latest_Entry
 slot : Int
 boosted : Int
 just : G_api_Point
 fin : G_api_Point
 leds : List (Int × ALed)
 gone : List (Int × Bool)
def takeAll (epoch head : Int) : List Int -> List G_latest_Entry -> List G_store_Change × List G_latest_Entry
 | [], vs => ([], vs)
 | k :: r, vs =>
  let q := takeAll epoch head r (ltake vs k epoch head)
  ((if lcanTake vs k epoch then [⟨1, head, 0, k, (lget vs k).1, (lget vs k).2⟩] else []) ++ q.1, q.2)
def banAll : List Int -> List G_latest_Entry -> List G_store_Change × List G_latest_Entry
 | [], vs => ([], vs)
 | k :: r, vs =>
  let q := banAll r (lban vs k)
  ((if lcanBan vs k then [⟨2, 0, 0, k, (lget vs k).1, (lget vs k).2⟩] else []) ++ q.1, q.2)
namespace AStore
def now (s : AStore) : Int := epochOf s.slot s.cfg.slots
def of (c : ACfg) : AStore :=
 ⟨c, ATree.one 1 0, List.replicate c.bal.length ⟨false, 0, 0, false⟩, 0, 0, ⟨0, 1⟩, ⟨0, 1⟩, [(1, ledOpen c 1)], []⟩
def tickErr (s : AStore) (x : Int) : Int := if x <= s.slot then 3 else if x > 1099511627776 then 4 else 0
def tick (s : AStore) (x : Int) : AStore := if s.tickErr x = 0 then { s with slot := x, boosted := 0 } else s
def attErr (s : AStore) (v : AVote) (inside : Bool) : Int :=
 if !voteRight s.cfg v then 9
 else if v.slot > s.slot \/ (inside = false /\ v.slot = s.slot) then 4
 else if inside = false /\ v.tgt.Epoch + 1 < s.now then 3
 else if !s.tree.has v.head \/ ((s.tree.get v.head).getD ⟨0, 0, 0⟩).slot > v.slot then 10
 else if s.tree.atS v.head (epochStart v.tgt.Epoch s.cfg.slots) ≠ v.tgt.Root then 9
 else 0
def attest (s : AStore) (v : AVote) (inside : Bool) : List G_store_Change × AStore :=
 if s.attErr v inside = 0 then ((takeAll v.tgt.Epoch v.head v.who s.votes).1, { s with votes := (takeAll v.tgt.Epoch v.head v.who s.votes).2 }) else ([], s)
def slashErr (s : AStore) (p : AProof) : Int := if (proofWho s.cfg p).isSome then 0 else 11
def slash (s : AStore) (p : AProof) : List G_store_Change × AStore :=
 ((banAll ((proofWho s.cfg p).getD []) s.votes).1, { s with votes := (banAll ((proofWho s.cfg p).getD []) s.votes).2 })
def attAll : List AVote -> AStore -> List G_store_Change × AStore
 | [], s => ([], s)
 | v :: r, s => ((s.attest v true).1 ++ (attAll r (s.attest v true).2).1, (attAll r (s.attest v true).2).2)
def slashAll : List AProof -> AStore -> List G_store_Change × AStore
 | [], s => ([], s)
 | p :: r, s => ((s.slash p).1 ++ (slashAll r (s.slash p).2).1, (slashAll r (s.slash p).2).2)
def raiseJ (s : AStore) (j : G_api_Point) : AStore := if j.Epoch > s.just.Epoch /\ s.tree.below j.Root s.fin.Root = true then { s with just := j } else s
def raises (s : AStore) (f : G_api_Point) : Bool := decide (f.Epoch > s.fin.Epoch) && s.tree.below f.Root s.fin.Root && s.tree.below s.just.Root f.Root
def raiseF (s : AStore) (f : G_api_Point) : AStore :=
 let q := s.tree.cut f.Root
 { s with fin := f, tree := q.2, leds := q.1.foldl mdel s.leds, gone := q.1.foldl (fun g r => mput g r true) s.gone, boosted := if q.2.has s.boosted then s.boosted else 0 }
def raise (s : AStore) (j f : G_api_Point) : List G_store_Change × AStore :=
 let s1 := s.raiseJ j
 if s1.raises f then ([⟨3, f.Root, 0, 0, 0, false⟩], s1.raiseF f) else ([], s1)
def propErr (s : AStore) (b : ABlock) : Int :=
 if b.slot > s.slot then 4 else if b.root = 0 then 13 else if b.votes.length > 16 \/ b.proofs.length > 16 then 12
 else if (mget s.gone b.root).getD false then 6 else (s.tree.add b.root b.parent b.slot).1
def newLed (s : AStore) (b : ABlock) : ALed :=
 b.votes.foldl (fun l v => count s.cfg l v ((s.tree.add b.root b.parent b.slot).2.atS b.root)) (advance s.cfg ((mget s.leds b.parent).getD ledZero) b.slot ((s.tree.add b.root b.parent b.slot).2.atS b.root))
def lay (s : AStore) (b : ABlock) : AStore := { s with tree := (s.tree.add b.root b.parent b.slot).2, leds := mput s.leds b.root (s.newLed b) }
def boostB (s : AStore) (b : ABlock) : AStore := if b.slot = s.slot /\ s.boosted = 0 then { s with boosted := b.root } else s
def late (s : AStore) (b : ABlock) (l : ALed) : List G_store_Change × AStore :=
 if epochOf b.slot s.cfg.slots < epochOf s.slot s.cfg.slots then
  s.raise (pull s.cfg l (s.tree.atS b.root)).Current (pull s.cfg l (s.tree.atS b.root)).Final
 else ([], s)
def propose (s : AStore) (b : ABlock) : List G_store_Change × AStore :=
 if s.propErr b = 0 then
  let l := s.newLed b
  let q1 := attAll b.votes (s.lay b)
  let q2 := slashAll b.proofs q1.2
  let q3 := (q2.2.boostB b).raise l.just.Current l.just.Final
  let q4 := q3.2.late b l
  (⟨0, b.root, b.parent, 0, 0, false⟩ :: (q1.1 ++ q2.1 ++ q3.1 ++ q4.1), q4.2)
 else ([], s)
def applyErr (s : AStore) (e : AEvent) : Int :=
 if e.kind = 0 then s.tickErr e.slot else if e.kind = 1 then s.propErr e.block else if e.kind = 2 then s.attErr e.vote false else if e.kind = 3 then s.slashErr e.proof else 1
def apply (s : AStore) (e : AEvent) : List G_store_Change × AStore :=
 if e.kind = 0 then ([], s.tick e.slot) else if e.kind = 1 then s.propose e.block else if e.kind = 2 then s.attest e.vote false else if e.kind = 3 then s.slash e.proof else ([], s)
end AStore
end Go.Sx
namespace Go.Sx
open Go
set_option linter.unusedVariables false
namespace ATree
inductive Anc (t : ATree) : Int -> Int -> Prop
 | refl {r : Int} {n : G_tree_node} (h : t.get r = some n) : Anc t r r
 | step {r a : Int} {n : G_tree_node} (h : t.get r = some n) (hne : r ≠ t.first) (ha : Anc t n.parent a) : Anc t r a
section
variable {t : ATree}
theorem has_iff {r : Int} : t.has r = true ↔ ∃ n, t.get r = some n := by
 unfold has
 cases t.get r <;> simp
theorem has_false {r : Int} : t.has r = false ↔ t.get r = none := by
 unfold has
 cases t.get r <;> simp
theorem Anc.left {r a : Int} (h : t.Anc r a) : ∃ n, t.get r = some n := by
 cases h with
 | refl h => exact ⟨_, h⟩
 | step h _ _ => exact ⟨_, h⟩
theorem Anc.right {r a : Int} (h : t.Anc r a) : ∃ n, t.get a = some n := by
 induction h with
 | refl h => exact ⟨_, h⟩
 | step _ _ _ ih => exact ih
theorem Anc.trans {r a b : Int} (h : t.Anc r a) (h2 : t.Anc a b) : t.Anc r b := by
 induction h with
 | refl _ => exact h2
 | step h hne _ ih => exact .step h hne (ih h2)
theorem Anc.slot (hw : t.Wf) {r a : Int} (h : t.Anc r a) : ∀ {n m : G_tree_node}, t.get r = some n -> t.get a = some m -> m.slot <= n.slot /\ (m.slot = n.slot -> r = a) := by
 induction h with
 | refl h =>
  intro n m hn hm
  rw [hn] at hm; injection hm with hm; subst hm
  exact ⟨Int.le_refl _, fun _ => rfl⟩
 | step h hne ha ih =>
  intro n m hn hm
  rw [h] at hn; injection hn with hn; subst hn
  obtain ⟨p, hp, hps, _⟩ := hw.par _ _ h hne
  have := (ih hp hm).1
  exact ⟨by omega, fun e => by omega⟩
theorem Anc.antisymm (hw : t.Wf) {r a : Int} (h : t.Anc r a) (h2 : t.Anc a r) : r = a := by
 obtain ⟨n, hn⟩ := h.left
 obtain ⟨m, hm⟩ := h.right
 have h1 := h.slot hw hn hm
 have h3 := h2.slot hw hm hn
 exact h1.2 (by omega)
theorem Anc.linear {r a b : Int} (h : t.Anc r a) (h2 : t.Anc r b) : t.Anc a b \/ t.Anc b a := by
 induction h with
 | refl _ => exact .inl h2
 | step h hne ha ih =>
  cases h2 with
  | refl h' => exact .inr (.step h hne ha)
  | step h' _ hb =>
   rw [h] at h'; injection h' with h'; subst h'
   exact ih hb
theorem anc_first (hw : t.Wf) : ∀ (k : Nat) {r : Int} {n : G_tree_node}, t.get r = some n -> n.slot.toNat < k -> t.Anc r t.first
 | 0, r, n, hr, hk => by omega
 | k + 1, r, n, hr, hk => by
  by_cases e : r = t.first
  ·subst e; exact .refl hr
  ·obtain ⟨p, hp, hps, _⟩ := hw.par _ _ hr e
   have h0 := (hw.slot _ _ hp).1
   exact .step hr e (anc_first hw k hp (by omega))
theorem Anc.first (hw : t.Wf) {r : Int} {n : G_tree_node} (hr : t.get r = some n) : t.Anc r t.first := anc_first hw _ hr (Nat.lt_succ_self _)
theorem Anc.first_only {a : Int} (h : t.Anc t.first a) : a = t.first := by
 cases h with
 | refl _ => rfl
 | step _ hne _ => exact absurd rfl hne
theorem atS_spec (hw : t.Wf) (s : Int) : ∀ (k : Nat) {r : Int} {n : G_tree_node}, t.get r = some n -> n.slot.toNat < k ->
  t.Anc r (t.atS r s) /\ (∀ m, t.get (t.atS r s) = some m -> m.slot <= s \/ t.atS r s = t.first) /\ ∀ a m, t.Anc r a -> t.get a = some m -> m.slot <= s -> t.Anc (t.atS r s) a
 | 0, r, n, hr, hk => by omega
 | k + 1, r, n, hr, hk => by
  rw [atS_eq hw hr]
  split
  ·rename_i hc
   obtain ⟨p, hp, hps, _⟩ := hw.par _ _ hr hc.1
   have h0 := (hw.slot _ _ hp).1
   obtain ⟨h1, h2, h3⟩ := atS_spec hw s k hp (by omega)
   refine ⟨.step hr hc.1 h1, h2, ?_⟩
   intro a m ha hm hs
   cases ha with
   | refl h => rw [h] at hm; injection hm with hm; subst hm; rw [h] at hr; injection hr with hr; subst hr; omega
   | step h hne ha =>
    rw [h] at hr; injection hr with hr; subst hr
    exact h3 a m ha hm hs
  ·rename_i hc
   refine ⟨.refl hr, ?_, fun a m ha _ _ => ha⟩
   intro m hm
   rw [hr] at hm; injection hm with hm; subst hm
   by_cases e : r = t.first
   ·exact .inr e
   ·left
    rcases Int.lt_or_le s n.slot with h | h
    ·exact absurd ⟨e, h⟩ hc
    ·exact h
theorem atS_anc (hw : t.Wf) {r : Int} {n : G_tree_node} (hr : t.get r = some n) (s : Int) : t.Anc r (t.atS r s) := (atS_spec hw s _ hr (Nat.lt_succ_self _)).1
theorem atS_low (hw : t.Wf) {r : Int} {n m : G_tree_node} (hr : t.get r = some n) {s : Int} (hm : t.get (t.atS r s) = some m) : m.slot <= s \/ t.atS r s = t.first := (atS_spec hw s _ hr (Nat.lt_succ_self _)).2.1 m hm
theorem atS_best (hw : t.Wf) {r a : Int} {m : G_tree_node} {s : Int} (ha : t.Anc r a) (hm : t.get a = some m) (hs : m.slot <= s) : t.Anc (t.atS r s) a := by
 obtain ⟨n, hr⟩ := ha.left
 exact (atS_spec hw s _ hr (Nat.lt_succ_self _)).2.2 a m ha hm hs
theorem atS_uniq (hw : t.Wf) {r x : Int} {m : G_tree_node} {s : Int} (hx : t.Anc r x) (hm : t.get x = some m) (hl : m.slot <= s \/ x = t.first)
  (hb : ∀ a m, t.Anc r a -> t.get a = some m -> m.slot <= s -> t.Anc x a) : t.atS r s = x := by
 obtain ⟨n, hr⟩ := hx.left
 have h1 := atS_anc hw hr s
 obtain ⟨q, hq⟩ := h1.right
 have h2 := atS_low hw hr hq
 have h3 : t.Anc x (t.atS r s) := by
  rcases h2 with h2 | h2
  ·exact hb _ _ h1 hq h2
  ·rw [h2]; exact Anc.first hw hm
 have h4 : t.Anc (t.atS r s) x := by
  rcases hl with hl | hl
  ·exact atS_best hw hx hm hl
  ·rw [hl]; exact Anc.first hw hq
 exact h4.antisymm hw h3
theorem below_iff (hw : t.Wf) {r a : Int} : t.below r a = true ↔ t.Anc r a := by
 unfold below
 cases ha : t.get a with
 | none =>
  simp only [Bool.false_eq_true, false_iff]
  intro h
  obtain ⟨m, hm⟩ := h.right
  rw [ha] at hm; cases hm
 | some m =>
  simp only [Bool.and_eq_true, has_iff, beq_iff_eq]
  constructor
  ·rintro ⟨⟨n, hn⟩, he⟩
   rw [<- he]; exact atS_anc hw hn _
  ·intro h
   obtain ⟨n, hn⟩ := h.left
   refine ⟨⟨n, hn⟩, ?_⟩
   refine atS_uniq hw h ha (.inl (Int.le_refl _)) ?_
   intro b q hb hq hs
   rcases h.linear hb with h1 | h1
   ·exact h1
   ·have := h1.slot hw hq ha
    have e := this.2 (by omega)
    subst e; exact .refl hq
theorem add_ok {root parent slot : Int} (h : (t.add root parent slot).1 = 0) : ∃ p, t.get parent = some p /\ t.get root = none /\ p.slot < slot /\ t.nodes.length < 1024 /\ (t.add root parent slot).2 = ⟨t.first, mput t.nodes root ⟨parent, slot, p.height + 1⟩⟩ := by
 unfold add at h ⊢
 split at h
 ·simp at h
 ·rename_i hh
  rw [if_neg hh]
  cases hp : t.get parent with
  | none => rw [hp] at h; simp at h
  | some p =>
   rw [hp] at h
   simp only at h ⊢
   split at h
   ·simp at h
   ·rename_i h1
    rw [if_neg h1]
    split at h
    ·simp at h
    ·rename_i h2
     rw [if_neg h2]
     exact ⟨p, rfl, has_false.1 (by simpa using hh), by omega, by omega, rfl⟩
theorem add_bad {root parent slot : Int} (h : (t.add root parent slot).1 ≠ 0) : (t.add root parent slot).2 = t := by
 unfold add at h ⊢
 split
 ·rfl
 ·rename_i hh
  rw [if_neg hh] at h
  cases hp : t.get parent with
  | none => rfl
  | some p =>
   rw [hp] at h
   simp only at h ⊢
   split
   ·rfl
   ·rename_i h1
    rw [if_neg h1] at h
    split
    ·rfl
    ·rename_i h2
     rw [if_neg h2] at h; simp at h
structure Grown (t u : ATree) (root parent slot : Int) : Prop where
 first : u.first = t.first
 get : ∀ r, u.get r = if r = root then some ⟨parent, slot, ((t.get parent).getD ⟨0, 0, 0⟩).height + 1⟩ else t.get r
 new : t.get root = none
 par : ∃ p, t.get parent = some p /\ p.slot < slot
 small : t.nodes.length < 1024
theorem grown_of {root parent slot : Int} (h : (t.add root parent slot).1 = 0) : Grown t (t.add root parent slot).2 root parent slot := by
 obtain ⟨p, hp, hr, hs, hl, e⟩ := add_ok h
 rw [e]
 refine ⟨rfl, ?_, hr, ⟨p, hp, hs⟩, hl⟩
 intro r
 show mget (mput t.nodes root _) r = _
 rw [mget_mput, hp]
 rfl
theorem Wf.add (hw : t.Wf) {root parent slot : Int} (h : (t.add root parent slot).1 = 0) (hs : slot <= 1099511627776) : (t.add root parent slot).2.Wf := by
 have hg := grown_of h
 obtain ⟨p, hp, hr, hps, hl, e⟩ := add_ok h
 have hne : parent ≠ root := fun e => by rw [e, hr] at hp; cases hp
 have hp0 := hw.slot _ _ hp
 refine ⟨?_, ?_, ?_, ?_, ?_⟩
 ·rw [e]; exact mput_nodup hw.nodup
 ·obtain ⟨n, hn⟩ := hw.base
  refine ⟨n, ?_⟩
  rw [hg.first, hg.get, if_neg (fun e => by rw [e, hr] at hn; cases hn)]; exact hn
 ·intro r n hn hne2
  rw [hg.first] at hne2
  rw [hg.get] at hn
  split at hn
  ·injection hn with hn
   subst hn
   refine ⟨p, ?_, ?_, ?_⟩
   ·rw [hg.get, if_neg hne]; exact hp
   ·exact hps
   ·simp only [hp, Option.getD_some]
  ·obtain ⟨q, hq, h1, h2⟩ := hw.par r n hn hne2
   refine ⟨q, ?_, h1, h2⟩
   rw [hg.get, if_neg (fun e => by rw [e, hr] at hq; cases hq)]; exact hq
 ·intro r n hn
  rw [hg.get] at hn
  split at hn
  ·injection hn with hn
   subst hn
   simp only [hp, Option.getD_some]
   omega
  ·exact hw.slot r n hn
 ·rw [e]
  show (mput t.nodes root _).length <= 1024
  have : (mput t.nodes root ⟨parent, slot, p.height + 1⟩).length <= t.nodes.length + 1 := by
   have h1 := congrArg List.length (mput_keys root (⟨parent, slot, p.height + 1⟩ : G_tree_node) t.nodes)
   rw [List.length_map] at h1
   rw [h1]
   split <;> simp
  omega
theorem Grown.anc_old (u : ATree) {root parent slot : Int} (g : Grown t u root parent slot) {r a : Int} (h : t.Anc r a) : u.Anc r a := by
 have key : ∀ {r n}, t.get r = some n -> u.get r = some n := by
  intro r n hn
  rw [g.get, if_neg (fun e => by rw [e, g.new] at hn; cases hn)]; exact hn
 induction h with
 | refl h => exact .refl (key h)
 | step h hne _ ih => exact .step (key h) (by rw [g.first]; exact hne) ih
theorem Grown.anc_iff (hw : t.Wf) (u : ATree) {root parent slot : Int} (g : Grown t u root parent slot) {r a : Int} : u.Anc r a ↔ t.Anc r a \/ (r = root /\ (a = root \/ t.Anc parent a)) := by
 constructor
 ·intro h
  induction h with
  | refl h =>
   rename_i r n
   by_cases e : r = root
   ·exact .inr ⟨e, .inl e⟩
   ·rw [g.get, if_neg e] at h
    exact .inl (.refl h)
  | step h hne ha ih =>
   rename_i r a n
   by_cases e : r = root
   ·subst e
    rw [g.get, if_pos rfl] at h
    injection h with h
    subst h
    simp only at ih
    refine .inr ⟨rfl, .inr ?_⟩
    rcases ih with ih | ⟨e, _⟩
    ·exact ih
    ·obtain ⟨p, hp, _⟩ := g.par
     rw [e, g.new] at hp; cases hp
   ·rw [g.get, if_neg e] at h
    left
    rw [g.first] at hne
    obtain ⟨p, hp, _⟩ := hw.par _ _ h hne
    refine .step h hne ?_
    rcases ih with ih | ⟨e, _⟩
    ·exact ih
    ·rw [e, g.new] at hp; cases hp
 ·rintro (h | ⟨rfl, h⟩)
  ·exact g.anc_old u h
  ·have hr : u.get r = some ⟨parent, slot, ((t.get parent).getD ⟨0, 0, 0⟩).height + 1⟩ := by rw [g.get, if_pos rfl]
   rcases h with rfl | h
   ·exact .refl hr
   ·refine .step hr ?_ (g.anc_old u h)
    rw [g.first]
    intro e
    obtain ⟨n, hn⟩ := hw.base
    rw [<- e, g.new] at hn; cases hn
theorem mem_roots {r : Int} : r ∈ t.roots ↔ t.has r = true := by
 unfold roots
 rw [List.mem_mergeSort]
 unfold has get
 cases h : mget t.nodes r with
 | none => simp only [Option.isSome_none, Bool.false_eq_true, iff_false]; exact mget_none.1 h
 | some n => simp only [Option.isSome_some, iff_true]; exact List.mem_map.2 ⟨_, mget_mem h, rfl⟩
theorem roots_nodup (hw : t.Wf) : t.roots.Nodup := (List.mergeSort_perm _ _).nodup_iff.2 hw.nodup
theorem roots_rising (hw : t.Wf) : t.roots.Pairwise (· < ·) := by
 have h1 : t.roots.Pairwise fun x y => decide (x <= y) = true := List.pairwise_mergeSort (fun a b c h1 h2 => by simp at h1 h2 ⊢; omega) (fun a b => by simp; omega) _
 have h2 := roots_nodup hw
 exact (h1.and h2).imp fun h => by
  have := h.1
  simp only [decide_eq_true_eq] at this
  have := h.2
  omega
theorem roots_length : t.roots.length = t.nodes.length := by
 unfold roots; rw [List.length_mergeSort, List.length_map]
theorem mget_mapL {α : Type} {f : Int -> α} {r : Int} : ∀ {l : List Int}, mget (l.map fun r => (r, f r)) r = if r ∈ l then some (f r) else none
 | [] => by simp [mget]
 | x :: l => by
  simp only [List.map_cons, mget, mget_mapL (l := l), List.mem_cons]
  by_cases e : r = x
  ·subst e; simp
  ·simp [e]
structure CutTo (t u : ATree) (root : Int) : Prop where
 first : u.first = root
 get : ∀ r, u.get r = if t.below r root = true then some (t.cutNode root ((t.get root).getD ⟨0, 0, 0⟩).height r) else none
theorem cutTo_of (hw : t.Wf) {root : Int} {n : G_tree_node} (h : t.get root = some n) : CutTo t (t.cut root).2 root := by
 unfold cut
 rw [h]
 refine ⟨rfl, ?_⟩
 intro r
 show mget ((t.roots.filter fun r => t.below r root).map fun r => (r, t.cutNode root n.height r)) r = _
 rw [mget_mapL, h, Option.getD_some]
 by_cases hb : t.below r root = true
 ·rw [if_pos hb, if_pos]
  rw [List.mem_filter, mem_roots]
  refine ⟨?_, hb⟩
  obtain ⟨m, hm⟩ := ((below_iff hw).1 hb).left
  exact has_iff.2 ⟨m, hm⟩
 ·rw [if_neg hb, if_neg]
  rw [List.mem_filter]
  exact fun e => hb e.2
theorem CutTo.has (hw : t.Wf) {u : ATree} {root r : Int} (c : CutTo t u root) : u.has r = t.below r root := by
 unfold ATree.has
 rw [c.get]
 split
 ·rename_i h; rw [h]; rfl
 ·rename_i h; simp at h; rw [h]; rfl
theorem CutTo.get_old (hw : t.Wf) {u : ATree} {root r : Int} {n : G_tree_node} (c : CutTo t u root) (h : u.get r = some n) : t.Anc r root /\ ∃ m, t.get r = some m /\ n.slot = m.slot /\ (n.parent = if r = root then root else m.parent) /\ n.height = m.height - ((t.get root).getD ⟨0, 0, 0⟩).height := by
 rw [c.get] at h
 split at h
 ·rename_i hb
  have ha := (below_iff hw).1 hb
  obtain ⟨m, hm⟩ := ha.left
  injection h with h
  subst h
  refine ⟨ha, m, hm, ?_, ?_, ?_⟩ <;> simp [cutNode, hm]
 ·cases h
theorem CutTo.anc (hw : t.Wf) {u : ATree} {root : Int} (c : CutTo t u root) {r a : Int} : u.Anc r a ↔ t.Anc r a /\ t.Anc a root := by
 constructor
 ·intro h
  induction h with
  | refl h =>
   obtain ⟨h1, m, hm, _⟩ := c.get_old hw h
   exact ⟨.refl hm, h1⟩
  | step h hne _ ih =>
   obtain ⟨h1, m, hm, _, hp, _⟩ := c.get_old hw h
   rw [c.first] at hne
   rw [if_neg hne] at hp
   rw [hp] at ih
   refine ⟨.step hm ?_ ih.1, ih.2⟩
   intro e
   rw [e] at h1
   exact hne (e.trans h1.first_only.symm)
 ·rintro ⟨h1, h2⟩
  have key : ∀ {r}, t.Anc r root -> ∃ n, u.get r = some n := by
   intro r hr
   rw [c.get, if_pos ((below_iff hw).2 hr)]
   exact ⟨_, rfl⟩
  induction h1 with
  | refl h =>
   obtain ⟨n, hn⟩ := key h2
   exact .refl hn
  | step h hne ha ih =>
   rename_i r a n
   have hr : t.Anc r root := .step h hne (ha.trans h2)
   obtain ⟨q, hq⟩ := key hr
   obtain ⟨_, m, hm, _, hp, _⟩ := c.get_old hw hq
   rw [h] at hm; injection hm with hm; subst hm
   have hne2 : r ≠ root := by
    intro e
    subst e
    have h3 := ha.trans h2
    obtain ⟨p, hp, hps, _⟩ := hw.par _ _ h hne
    have := (h3.slot hw hp h).1
    omega
   rw [if_neg hne2] at hp
   refine .step hq (by rw [c.first]; exact hne2) ?_
   rw [hp]
   exact ih h2
theorem CutTo.below (hw : t.Wf) {u : ATree} (hu : u.Wf) {root r a : Int} (c : CutTo t u root) : u.below r a = (t.below r a && t.below a root) := by
 rw [Bool.eq_iff_iff, below_iff hu, Bool.and_eq_true, below_iff hw, below_iff hw, c.anc hw]
theorem Wf.cut (hw : t.Wf) {root : Int} {n : G_tree_node} (h : t.get root = some n) : (t.cut root).2.Wf := by
 have c := cutTo_of hw h
 have hrr : t.below root root = true := (below_iff hw).2 (.refl h)
 have hh : ∀ {r m}, t.Anc r root -> t.get r = some m -> n.height <= m.height /\ m.height - n.height <= m.slot := by
  intro r m ha hm
  have h0 := hw.slot _ _ hm
  have h1 := hw.slot _ _ h
  refine ⟨?_, by omega⟩
  clear h0 h1
  induction ha generalizing m with
  | refl h' => rw [h'] at h hm; injection h with h; injection hm with hm; subst h hm; exact Int.le_refl _
  | step h' hne ha ih =>
   rw [h'] at hm; injection hm with hm; subst hm
   obtain ⟨p, hp, hps, hph⟩ := hw.par _ _ h' hne
   have := ih h c hrr hp
   omega
 refine ⟨?_, ?_, ?_, ?_, ?_⟩
 ·have e : (t.cut root).2.nodes.map (·.1) = t.roots.filter fun r => t.below r root := by
   unfold ATree.cut
   rw [h]
   simp only [List.map_map]
   exact (List.map_congr_left fun _ _ => rfl).trans (List.map_id _)
  rw [e]
  exact (List.Sublist.nodup List.filter_sublist (roots_nodup hw))
 ·rw [c.first, c.get, if_pos hrr]; exact ⟨_, rfl⟩
 ·intro r m hm hne
  rw [c.first] at hne
  obtain ⟨ha, q, hq, hs, hp, hht⟩ := c.get_old hw hm
  rw [if_neg hne] at hp
  cases ha with
  | refl h' => exact absurd rfl hne
  | step h' hne2 ha2 =>
   rw [h'] at hq; injection hq with hq; subst hq
   obtain ⟨p, hp2, hps, hph⟩ := hw.par _ _ h' hne2
   obtain ⟨z, hz⟩ : ∃ z, (t.cut root).2.get m.parent = some z := by
    rw [hp, c.get, if_pos ((below_iff hw).2 ha2)]; exact ⟨_, rfl⟩
   obtain ⟨_, m2, hm2, hs2, _, hh2⟩ := c.get_old hw hz
   rw [hp, hp2] at hm2; injection hm2 with hm2; subst hm2
   exact ⟨z, hz, by omega, by omega⟩
 ·intro r m hm
  obtain ⟨ha, q, hq, hs, hp, hht⟩ := c.get_old hw hm
  have h0 := hw.slot _ _ hq
  have := hh ha hq
  rw [h, Option.getD_some] at hht
  omega
 ·have e : (t.cut root).2.nodes.length = (t.roots.filter fun r => t.below r root).length := by
   unfold ATree.cut
   rw [h]
   simp
  rw [e]
  exact Nat.le_trans (List.length_filter_le _ _) (by rw [roots_length]; exact hw.small)
end
end ATree
end Go.Sx
