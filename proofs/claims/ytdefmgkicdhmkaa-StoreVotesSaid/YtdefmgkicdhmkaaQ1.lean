/- What the functions do, part 1; for every memory. -/
import Derived.Test.YtdefmgkicdhmkaaQ0
namespace Go.Sx
open Go
set_option linter.unusedSimpArgs false
def mget {α : Type} : List (Int × α) -> Int -> Option α
 | [], _ => none
 | (k', x) :: r, k => if k = k' then some x else mget r k
def mput {α : Type} : List (Int × α) -> Int -> α -> List (Int × α)
 | [], k, x => [(k, x)]
 | (k', x') :: r, k, x => if k = k' then (k, x) :: r else (k', x') :: mput r k x
def mdel {α : Type} : List (Int × α) -> Int -> List (Int × α)
 | [], _ => []
 | (k', x') :: r, k => if k = k' then r else (k', x') :: mdel r k
theorem mget_mput {α : Type} (k j : Int) (x : α) : ∀ es : List (Int × α), mget (mput es k x) j = if j = k then some x else mget es j
 | [] => by simp only [mput, mget]
 | (k', x') :: r => by
  simp only [mput]
  split
  ·rename_i h; subst h
   simp only [mget]
   split
   ·rfl
   ·rfl
  ·rename_i h
   simp only [mget]
   rw [mget_mput k j x r]
   split
   ·rename_i h2; subst h2
    rw [if_neg (fun e => h e.symm)]
   ·rfl
theorem mput_keys {α : Type} (k : Int) (x : α) : ∀ es : List (Int × α), (mput es k x).map (·.1) = if k ∈ es.map (·.1) then es.map (·.1) else es.map (·.1) ++ [k]
 | [] => by simp [mput]
 | (k', x') :: r => by
  simp only [mput]
  split
  ·rename_i h; subst h; simp
  ·rename_i h
   simp only [List.map_cons, mput_keys k x r, List.mem_cons]
   by_cases hm : k ∈ r.map (·.1)
   ·rw [if_pos hm, if_pos (.inr hm)]
   ·rw [if_neg hm, if_neg (fun e => e.elim h hm)]; rfl
theorem mput_nodup {α : Type} {k : Int} {x : α} {es : List (Int × α)} (h : (es.map (·.1)).Nodup) : ((mput es k x).map (·.1)).Nodup := by
 rw [mput_keys]
 split
 ·exact h
 ·rename_i hn
  rw [List.nodup_append]
  exact ⟨h, by simp, fun a ha b hb e => hn (by simp at hb; subst hb; exact e ▸ ha)⟩
theorem mget_none {α : Type} {k : Int} : ∀ {es : List (Int × α)}, mget es k = none ↔ k ∉ es.map (·.1)
 | [] => by simp [mget]
 | (k', x') :: r => by
  simp only [mget, List.map_cons, List.mem_cons]
  split
  ·rename_i h; simp [h]
  ·rename_i h; rw [mget_none]; simp [h]
theorem mget_mem {α : Type} {k : Int} {x : α} : ∀ {es : List (Int × α)}, mget es k = some x -> (k, x) ∈ es
 | (k', x') :: r, h => by
  simp only [mget] at h
  split at h
  ·rename_i e; injection h with h; subst e h; simp
  ·exact List.mem_cons_of_mem _ (mget_mem h)
theorem mdel_sub {α : Type} {k : Int} {p : Int × α} : ∀ {es : List (Int × α)}, p ∈ mdel es k -> p ∈ es
 | (k', x') :: r, h => by
  simp only [mdel] at h
  split at h
  ·exact List.mem_cons_of_mem _ h
  ·cases h with
   | head => simp
   | tail _ hm => exact List.mem_cons_of_mem _ (mdel_sub hm)
theorem mdel_nodup {α : Type} {k : Int} : ∀ {es : List (Int × α)}, (es.map (·.1)).Nodup -> ((mdel es k).map (·.1)).Nodup
 | [], _ => by simp [mdel]
 | (k', x') :: r, h => by
  simp only [List.map_cons, List.nodup_cons] at h
  simp only [mdel]
  split
  ·exact h.2
  ·simp only [List.map_cons, List.nodup_cons]
   refine ⟨fun hm => h.1 ?_, mdel_nodup h.2⟩
   obtain ⟨p, hp, e⟩ := List.mem_map.1 hm
   exact List.mem_map.2 ⟨p, mdel_sub hp, e⟩
theorem mget_mdel {α : Type} {k j : Int} : ∀ {es : List (Int × α)}, (es.map (·.1)).Nodup -> mget (mdel es k) j = if j = k then none else mget es j
 | [], _ => by simp [mdel, mget]
 | (k', x') :: r, h => by
  simp only [List.map_cons, List.nodup_cons] at h
  simp only [mdel]
  split
  ·rename_i e; subst e
   by_cases hj : j = k
   ·subst hj; rw [if_pos rfl]; exact mget_none.2 h.1
   ·rw [if_neg hj]; simp only [mget]; rw [if_neg hj]
  ·rename_i e
   simp only [mget]
   rw [mget_mdel h.2]
   by_cases hj : j = k'
   ·subst hj; rw [if_pos rfl, if_neg (fun h => e h.symm), if_pos rfl]
   ·rw [if_neg hj, if_neg hj]
def Stamps (ents : List MapEntry) (clock : Nat) : Prop := (ents.map (·.born)).Nodup /\ ∀ e ∈ ents, e.born < clock
def EntsOf {α : Type} (T : Ty α) (ents : List MapEntry) (es : List (Int × α)) : Prop :=
 ents.map (fun e => (e.key, e.val)) = es.map (fun p => (Value.int .u64 p.1, T.val p.2))
def MapAt {α : Type} (T : Ty α) (w : World) (r : Nat) (es : List (Int × α)) : Prop :=
 ∃ ents clock, w.heap[r]? = some (.map ents clock) /\ EntsOf T ents.toList es /\ (es.map (·.1)).Nodup /\ Stamps ents.toList clock
def MapIs {α : Type} (T : Ty α) (w : World) (m : Option Nat) (es : List (Int × α)) : Prop :=
 match m with
 | none => es = []
 | some r => MapAt T w r es
theorem findNow_eq {α : Type} {T : Ty α} {kd : IntKind} {k : Int} : ∀ (ents : List MapEntry) (es : List (Int × α)) (i : Nat), EntsOf T ents es ->
  ∃ j, Instr.findNow (.int kd) (.int .u64 k) ents i = some ((mget es k).map fun x => (i + j, T.val x)) /\
   (∀ x, mget es k = some x -> j < ents.length /\ (ents[j]?).map (·.key) = some (.int .u64 k) /\
    (∀ y, EntsOf T (ents.modify j fun e => { e with key := .int .u64 k, val := T.val y }) (mput es k y)) /\ EntsOf T (ents.eraseIdx j) (mdel es k))
 | [], es, i, h => by
  obtain rfl : es = [] := by unfold EntsOf at h; simpa using h.symm
  exact ⟨0, rfl, fun x hx => by simp [mget] at hx⟩
 | e :: r, [], i, h => by unfold EntsOf at h; simp at h
 | e :: r, (k', x') :: s, i, h => by
  unfold EntsOf at h
  simp only [List.map_cons, List.cons.injEq, Prod.mk.injEq] at h
  obtain ⟨⟨hk, hv⟩, ht⟩ := h
  obtain ⟨j, hj, hx⟩ := findNow_eq (T := T) (kd := kd) (k := k) r s (i + 1) ht
  simp only [Instr.findNow, hk, Instr.sameNow, if_true]
  by_cases e2 : k = k'
  ·subst e2
   refine ⟨0, ?_, ?_⟩
   ·simp [mget, hv]
   ·intro x _
    refine ⟨by simp, by simp [hk], ?_, ?_⟩
    ·intro y
     unfold EntsOf
     simpa [mput] using ht
    ·unfold EntsOf
     simpa [mdel] using ht
  ·refine ⟨j + 1, ?_, ?_⟩
   ·have : (k == k') = false := by simpa using e2
    simp only [this, hj, mget, if_neg e2]
    congr 2
    funext x
    rw [show i + 1 + j = i + (j + 1) from by omega]
   ·intro x hm
    simp only [mget, if_neg e2] at hm
    obtain ⟨h1, h2, h3, h4⟩ := hx x hm
    refine ⟨by simpa using h1, by simpa using h2, ?_, ?_⟩
    ·intro y
     have := h3 y
     unfold EntsOf at this ⊢
     simp only [mput, if_neg e2, List.map_cons, List.modify_succ_cons, this, hk, hv]
    ·unfold EntsOf at h4 ⊢
     simp only [mdel, if_neg e2, List.map_cons, List.eraseIdx_cons_succ, h4, hk, hv]
def isMapU (P : Program) (t : TypeId) : Option TypeId :=
 match P.underlying t with
 | some (.map k e) => match P.underlying k with
  | some (.int .u64) => some e
  | _ => none
 | _ => none
theorem isMapU_of {P : Program} {t e : TypeId} (h : isMapU P t = some e) : ∃ k, P.underlying t = some (.map k e) /\ P.underlying k = some (.int .u64) := by
 unfold isMapU at h
 split at h
 ·rename_i k e' hu
  split at h
  ·rename_i hk
   injection h with h; subst h
   exact ⟨k, hu, hk⟩
  ·simp at h
 ·simp at h
theorem run_getMap {P : Program} {w : World} {r : Nat} {ents : Array MapEntry} {clock : Nat} (h : w.heap[r]? = some (.map ents clock)) : (getObj r).run P w = .ok (.map ents clock) w := by
 show Sem.run P (.getObj r .pure) w = _
 simp only [Sem.run, h]
theorem run_setObj {P : Program} {w : World} {r : Nat} {o u : Obj} (h : w.heap[r]? = some u) (hu : ∀ c t z, u ≠ .cells c t z) : (setObj r o).run P w = .ok () (setB w r o) := by
 show Sem.run P (.setObj r o (.pure ())) w = _
 cases u <;> first
  | exact absurd rfl (hu _ _ _)
  | (simp only [Sem.run, h]; rfl)
theorem run_checkKey {P : Program} {w : World} {b : Bool} {k : TypeId} {v : Value} {kd : IntKind} (hk : P.underlying k = some (.int kd)) : (Instr.checkKey b 10000 k v).run P w = .ok () w := by
 show (Instr.checkKey b (9999 + 1) k v).run P w = _
 unfold Instr.checkKey
 rw [run_bind, run_underlying' hk]
 rfl
theorem run_findKey {P : Program} {w : World} {k : TypeId} {v : Value} {kd : IntKind} {es : List MapEntry} {r : Option (Nat × Value)} (hk : P.underlying k = some (.int kd)) (h : Instr.findNow (.int kd) v es 0 = some r) :
  (Instr.findKey k v es).run P w = .ok r w := by
 unfold Instr.findKey
 rw [run_bind, run_underlying' hk]
 simp only [h]; rfl
section
variable {P : Program} {n : Nat} {f : Fr} {w : World} {d : Option Tmp} {ty : TypeId} {ps : String} {af : Array Edge} {g : Option (Nat × Bool)}
theorem run_lookup {α : Type} {T : Ty α} {t e : TypeId} {m : Option Nat} {k : Int} {z : α} {es : List (Int × α)} {ok : Bool} (ht : isMapU P t = some e) (hz : tyZero P e = some (T.val z)) (hm : MapIs T w m es) :
  (Instr.lookup t (.map m) (.int .u64 k) ok).run P w = .ok (if ok then .tuple #[T.val ((mget es k).getD z), .bool (mget es k).isSome] else T.val ((mget es k).getD z)) w := by
 obtain ⟨kt, hu, hk⟩ := isMapU_of ht
 unfold Instr.lookup
 cases m with
 | none =>
  obtain rfl : es = [] := hm
  have hf : Instr.findNow (.int .u64) (.int .u64 k) [] 0 = some none := rfl
  simp only [run_bind, run_underlying' hu, run_pure, run_checkKey hk, run_findKey hk hf, run_zero hz]
  cases ok <;> rfl
 | some r =>
  obtain ⟨ents, clock, hw, he, _, _⟩ := hm
  obtain ⟨j, hj, _⟩ := findNow_eq (kd := .u64) (k := k) ents.toList es 0 he
  simp only [run_bind, run_underlying' hu, run_getMap hw, run_pure, run_checkKey hk, run_findKey hk hj]
  cases hg : mget es k with
  | none =>
   simp only [Option.map_none, run_bind, run_zero hz, run_pure]
   cases ok <;> rfl
  | some x =>
   simp only [Option.map_some, run_pure]
   cases ok <;> rfl
theorem pv_lookup {α : Type} {T : Ty α} {t e : TypeId} {x y : Operand} {m : Option Nat} {k : Int} {z : α} {es : List (Int × α)} (ht : isMapU P t = some e) (hz : tyZero P e = some (T.val z)) (hx : evF n f x = .map m) (hy : evF n f y = .int .u64 k)
  (hm : MapIs T w m es) : OpV P n ⟨d, .lookup t x y false, ty, ps, af, g⟩ f w (T.val ((mget es k).getD z)) := by
 unfold OpV
 simp only [execOp, hx, hy, run_bind, run_lookup ht hz hm, run_pure]
 rfl
theorem pv_lookupOk {α : Type} {T : Ty α} {t e : TypeId} {x y : Operand} {m : Option Nat} {k : Int} {z : α} {es : List (Int × α)} (ht : isMapU P t = some e) (hz : tyZero P e = some (T.val z)) (hx : evF n f x = .map m) (hy : evF n f y = .int .u64 k)
  (hm : MapIs T w m es) : OpV P n ⟨d, .lookup t x y true, ty, ps, af, g⟩ f w (.tuple #[T.val ((mget es k).getD z), .bool (mget es k).isSome]) := by
 unfold OpV
 simp only [execOp, hx, hy, run_bind, run_lookup ht hz hm, run_pure]
 rfl
theorem pv_lenM {α : Type} {T : Ty α} {t : TypeId} {x : Operand} {m : Option Nat} {es : List (Int × α)} (ht : (isMapU P t).isSome = true) (hx : evF n f x = .map m) (hm : MapIs T w m es) :
  OpV P n ⟨d, .call ⟨.builtin .len, #[x], #[t]⟩, ty, ps, af, g⟩ f w (.int .i64 es.length) := by
 obtain ⟨e, he⟩ := Option.isSome_iff_exists.1 ht
 obtain ⟨kt, hu, hk⟩ := isMapU_of he
 unfold OpV
 simp only [execOp, resolve, invoke, builtin, Builtin.len_, List.map_toArray, List.map_cons, List.map_nil, hx]
 simp only [run_bind, run_pure, List.getElem?_toArray, List.getElem?_cons_zero, run_underlying' hu]
 rcases m with _ | r
 ·obtain rfl : es = [] := hm
  rfl
 ·obtain ⟨ents, clock, hw, he, _, _⟩ := hm
  have hl : ents.size = es.length := by
   unfold EntsOf at he
   have := congrArg List.length he
   simpa using this
  simp only [run_bind, run_getMap hw, run_pure, goInt, hl]
theorem mapAt_of_new {α : Type} (T : Ty α) (w : World) : MapAt T (w.alloc (.map #[] 0)) w.heap.size [] :=
 ⟨#[], 0, by rw [alloc_at, if_pos rfl], rfl, by simp, by simp [Stamps]⟩
theorem toList_modify' {α : Type} (a : Array α) (i : Nat) (h : α -> α) : (a.modify i h).toList = a.toList.modify i h := by
 apply List.ext_getElem?
 intro j
 simp [Array.getElem?_modify, List.getElem?_modify]
theorem run_mapSet {α : Type} {T : Ty α} {t e : TypeId} {r : Nat} {k : Int} {x : α} {es : List (Int × α)} (ht : isMapU P t = some e) (hm : MapAt T w r es) :
  ∃ o, (Instr.mapUpdate t (.map (some r)) (.int .u64 k) (T.val x)).run P w = .ok () (setB w r o) /\ MapAt T (setB w r o) r (mput es k x) := by
 obtain ⟨kt, hu, hk⟩ := isMapU_of ht
 obtain ⟨ents, clock, hw, he, hn, hst⟩ := hm
 have hr : r < w.heap.size := by
  rcases Nat.lt_or_ge r w.heap.size with h | h
  ·exact h
  ·simp [Array.getElem?_eq_none h] at hw
 obtain ⟨j, hj, hx⟩ := findNow_eq (kd := .u64) (k := k) ents.toList es 0 he
 have hnc : ∀ c t' z, Obj.map ents clock ≠ .cells c t' z := fun _ _ _ h => by cases h
 unfold Instr.mapUpdate
 simp only [run_bind, run_underlying' hu, run_getMap hw, run_pure, run_checkKey hk, run_findKey hk hj]
 cases hg : mget es k with
 | none =>
  simp only [Option.map_none]
  rw [run_setObj hw hnc]
  refine ⟨_, rfl, ents.push ⟨.int .u64 k, T.val x, clock⟩, clock + 1, by rw [setB_at, if_pos ⟨rfl, hr⟩], ?_, mput_nodup hn, ?_⟩
  ·have : mput es k x = es ++ [(k, x)] := by
    clear hj hx he hn
    induction es with
    | nil => rfl
    | cons p r ih =>
     obtain ⟨k', x'⟩ := p
     simp only [mget] at hg
     split at hg
     ·simp at hg
     ·rename_i h; simp only [mput, if_neg h, ih hg]; rfl
   unfold EntsOf at he ⊢
   rw [this]
   simp [he]
  ·constructor
   ·rw [Array.toList_push, List.map_append, List.nodup_append]
    refine ⟨hst.1, by simp, ?_⟩
    intro a ha b hb e'
    obtain ⟨p, hp, rfl⟩ := List.mem_map.1 ha
    simp at hb; subst hb
    have := hst.2 p hp
    omega
   ·intro p hp
    rw [Array.toList_push, List.mem_append] at hp
    rcases hp with hp | hp
    ·have := hst.2 p hp; omega
    ·simp at hp; subst hp; exact Nat.lt_succ_self _
 | some y =>
  obtain ⟨h1, h2, h3, _⟩ := hx y hg
  simp only [Option.map_some, Nat.zero_add]
  have hkk : ((ents[j]?).map (·.key)).getD (.int .u64 k) = .int .u64 k := by
   have : (ents[j]?).map (·.key) = some (.int .u64 k) := by simpa using h2
   rw [this]; rfl
  have hks : (Instr.keyThatStays (((ents[j]?).map (·.key)).getD (.int .u64 k)) (.int .u64 k)).run P w = .ok (.int .u64 k) w := by
   rw [hkk]
   unfold Instr.keyThatStays
   rw [if_pos (by show Instr.sameBits (9999 + 1) _ _ = true; simp [Instr.sameBits])]
   rfl
  simp only [run_bind, hks]
  rw [run_setObj hw hnc]
  refine ⟨_, rfl, _, clock, by rw [setB_at, if_pos ⟨rfl, hr⟩], ?_, mput_nodup hn, ?_⟩
  ·rw [toList_modify']
   exact h3 x
  ·rw [toList_modify']
   have hb : (ents.toList.modify j fun e => { key := .int .u64 k, val := T.val x, born := e.born }).map (·.born) = ents.toList.map (·.born) := by
    apply List.ext_getElem?
    intro i
    simp only [List.getElem?_map, List.getElem?_modify]
    cases ents.toList[i]? with
    | none => rfl
    | some a =>
     show some (if j = i then _ else _ : MapEntry).born = some a.born
     split <;> rfl
   refine ⟨?_, ?_⟩
   ·have := hst.1
    rw [<- hb] at this
    exact this
   ·intro p hp
    have : p.born ∈ ents.toList.map (·.born) := by rw [<- hb]; exact List.mem_map.2 ⟨p, hp, rfl⟩
    obtain ⟨q, hq, e'⟩ := List.mem_map.1 this
    rw [<- e']; exact hst.2 q hq
theorem pw_mapSet {α : Type} {T : Ty α} {t e : TypeId} {m k' v : Operand} {r : Nat} {k : Int} {x : α} {es : List (Int × α)} {K : Value -> World -> Prop} (ht : isMapU P t = some e) (hmo : evF n f m = .map (some r)) (hk : evF n f k' = .int .u64 k) (hv : evF n f v = T.val x)
  (hm : MapAt T w r es) (h : ∀ o, MapAt T (setB w r o) r (mput es k x) -> K undef (setB w r o)) : OpW P n ⟨d, .mapUpdate t m k' v, ty, ps, af, g⟩ f w K := by
 obtain ⟨o, hr, ha⟩ := run_mapSet (k := k) (x := x) ht hm
 unfold OpW
 simp only [execOp, hmo, hk, hv, run_bind, hr, run_pure]
 exact h o ha
theorem pw_mapIns {α : Type} {T : Ty α} {t e : TypeId} {m k' v : Operand} {r : Nat} {k : Int} {x : α} {es : List (Int × α)} {K : Value -> World -> Prop} (ht : isMapU P t = some e) (hmo : evF n f m = .map (some r)) (hk : evF n f k' = .int .u64 k) (hv : evF n f v = T.val x)
  (hm : MapAt T w r es) (h : ∀ o, MapAt T (setB w r o) r (mput es k x) -> K undef (setB w r o)) : OpW P n ⟨d, .insert t m k' v, ty, ps, af, g⟩ f w K := by
 obtain ⟨o, hr, ha⟩ := run_mapSet (k := k) (x := x) ht hm
 unfold OpW
 simp only [execOp, hmo, hk, hv, run_bind, hr, run_pure]
 exact h o ha
theorem pw_mapDel {α : Type} {T : Ty α} {t e t' : TypeId} {m k' : Operand} {r : Nat} {k : Int} {es : List (Int × α)} {K : Value -> World -> Prop} (ht : isMapU P t = some e) (hmo : evF n f m = .map (some r)) (hk' : evF n f k' = .int .u64 k)
  (hm : MapAt T w r es) (h : ∀ o, MapAt T (setB w r o) r (mdel es k) -> K (.tuple #[]) (setB w r o)) : OpW P n ⟨d, .call ⟨.builtin .delete, #[m, k'], #[t, t']⟩, ty, ps, af, g⟩ f w K := by
 obtain ⟨kt, hu, hk⟩ := isMapU_of ht
 obtain ⟨ents, clock, hw, he, hn, hst⟩ := hm
 have hr : r < w.heap.size := by
  rcases Nat.lt_or_ge r w.heap.size with h | h
  ·exact h
  ·simp [Array.getElem?_eq_none h] at hw
 obtain ⟨j, hj, hx⟩ := findNow_eq (kd := .u64) (k := k) ents.toList es 0 he
 have hnc : ∀ c t' z, Obj.map ents clock ≠ .cells c t' z := fun _ _ _ h => by cases h
 unfold OpW
 simp only [execOp, resolve, invoke, builtin, Builtin.delete_, List.map_toArray, List.map_cons, List.map_nil, hmo, hk']
 simp only [run_bind, run_pure, List.getElem?_toArray, List.getElem?_cons_zero, List.getElem?_cons_succ, run_underlying' hu, run_getMap hw, run_checkKey hk, run_findKey hk hj]
 cases hg : mget es k with
 | none =>
  simp only [Option.map_none]
  simp only [run_bind, run_setObj hw hnc, run_pure]
  refine h _ ⟨ents, clock, by rw [setB_at, if_pos ⟨rfl, hr⟩], ?_, mdel_nodup hn, hst⟩
  have : mdel es k = es := by
   clear h hj hx he hn
   induction es with
   | nil => rfl
   | cons p r ih =>
    obtain ⟨k', x'⟩ := p
    simp only [mget] at hg
    split at hg
    ·simp at hg
    ·rename_i h; simp only [mdel, if_neg h, ih hg]
  rw [this]; exact he
 | some y =>
  obtain ⟨h1, h2, _, h4⟩ := hx y hg
  simp only [Option.map_some, Nat.zero_add]
  simp only [run_bind, run_setObj hw hnc, run_pure]
  have hlt : j < ents.size := by simpa using h1
  have hte : (ents.eraseIdxIfInBounds j).toList = ents.toList.eraseIdx j := by
   unfold Array.eraseIdxIfInBounds
   rw [dif_pos hlt, Array.toList_eraseIdx]
  refine h _ ⟨_, clock, by rw [setB_at, if_pos ⟨rfl, hr⟩], ?_, mdel_nodup hn, ?_⟩
  ·rw [hte]; exact h4
  ·rw [hte]
   refine ⟨?_, fun p hp => hst.2 p (List.eraseIdx_subset hp)⟩
   have hs : ((ents.toList.eraseIdx j).map (·.born)).Sublist (ents.toList.map (·.born)) := (List.eraseIdx_sublist ..).map _
   exact hs.nodup hst.1
end
end Go.Sx
namespace Go.Sx
open Go
def nc (p : Option Addr) (k : Nat -> Nat -> Prop) : Prop := ∃ b o, p = some ⟨b, o, none⟩ /\ k b o
def dw (w : World) (k : World -> Prop) : Prop := ∀ w', w' = w.drew -> k w'
def ld {α : Type} (T : Ty α) (w : World) (b o : Nat) (k : α -> Prop) : Prop := ∃ x, CellsAt w b o (T.enc x) /\ k x
def chk {α : Type} (T : Ty α) (w : World) (b o : Nat) (x : α) (k : Prop) : Prop := CellsAt w b o (T.enc x) /\ k
def st {α : Type} (T : Ty α) (w : World) (b o : Nat) (x : α) (k : World -> Prop) : Prop := CanSt w b o (T.enc x).length /\ ∀ w', w' = putL w b o (T.enc x) -> k w'
def al {α : Type} (T : Ty α) (t : TypeId) (w : World) (x : α) (k : Nat -> World -> Prop) : Prop := ∀ b w', b = w.heap.size -> w' = w.alloc (.cells (T.enc x).toArray t) -> k b w'
def alr (t : TypeId) (w : World) (cs : List Value) (k : Nat -> World -> Prop) : Prop := ∀ b w', b = w.heap.size -> w' = w.alloc (.cells cs.toArray t) -> k b w'
def br (b : Bool) (x y : Prop) : Prop := (b = true -> x) /\ (b = false -> y)
def ixs (s : Sl) (i : Int) (k : Nat -> Nat -> Prop) : Prop := ∃ b o, s.a = some ⟨b, o, none⟩ /\ 0 <= i /\ i < s.len /\ k b o
def chkp (p : Prop) (k : Prop) : Prop := p /\ k
def lkp {α : Type} (T : Ty α) (w : World) (m : Option Nat) (key : Int) (k : Option α -> Prop) : Prop := ∃ es, MapIs T w m es /\ k (mget es key)
def lkpc {α : Type} (T : Ty α) (w : World) (m : Option Nat) (key : Int) (x : Option α) (k : Prop) : Prop := (∃ es, MapIs T w m es /\ mget es key = x) /\ k
def mlen {α : Type} (T : Ty α) (w : World) (m : Option Nat) (k : Nat -> Prop) : Prop := ∃ es, MapIs T w m es /\ k es.length
def mset {α : Type} (T : Ty α) (w : World) (m : Option Nat) (key : Int) (x : α) (k : World -> Prop) : Prop :=
 ∃ r es, m = some r /\ MapAt T w r es /\ ∀ o, MapAt T (setB w r o) r (mput es key x) -> k (setB w r o)
def mdl {α : Type} (T : Ty α) (w : World) (m : Option Nat) (key : Int) (k : World -> Prop) : Prop :=
 ∃ r es, m = some r /\ MapAt T w r es /\ ∀ o, MapAt T (setB w r o) r (mdel es key) -> k (setB w r o)
def mkm (w : World) (k : Nat -> World -> Prop) : Prop := ∀ b w', b = w.heap.size -> w' = w.alloc (.map #[] 0) -> k b w'
def app (e : TypeId) (sz by' : Nat) (w : World) (s r : Sl) (k : Sl -> World -> Prop) : Prop :=
 ∃ old new, SlCells w sz s old /\ SlCells w sz r new /\ (∀ v ∈ new, plain v = true) /\ AppCan w sz s r.len /\ (s.len + r.len) * 4 * (by' + 1) <= 2 ^ 47 /\
  ∀ s' w', App e sz w s old new r.len s' w' -> k s' w'
def mks (e : TypeId) (z : Array Value) (sz by' : Nat) (w : World) (l : Int) (k : Nat -> World -> Prop) : Prop :=
 0 <= l /\ l * (by' + 1) <= 2 ^ 47 /\ ∀ b w', b = w.heap.size -> w' = w.alloc (.cells (mkCells z (l.toNat * sz)) e) -> k b w'
section
variable {P : Program} {n : Nat} {f : Fr} {w : World}
def ResOk (P : Program) (n : Nat) (f : Fr) (w : World) : List ResultVar -> List Value -> Prop
 | [], [] => True
 | .tmp t :: r, v :: vs => evF n f (.tmp t) = v /\ ResOk P n f w r vs
 | .cell a t :: r, v :: vs => (∃ b o, evF n f (.tmp a) = .pointer (some ⟨b, o, none⟩) /\ (loadVar t ⟨b, o, none⟩).run P w = .ok v w) /\ ResOk P n f w r vs
 | _, _ => False
def rval (n : Nat) (f : Fr) : ResultVar -> Sem Value
 | .tmp t => pure ((mk n f).tmps.getD t undef)
 | .cell a t => do loadVar t (<- asAddr ((mk n f).tmps.getD a undef))
theorem run_results : ∀ (rs : List ResultVar) (vs : List Value), ResOk P n f w rs vs -> (rs.mapM (rval n f)).run P w = .ok vs w
 | [], [], _ => rfl
 | .tmp t :: r, v :: vs, h => by
  have ih := run_results r vs h.2
  have : (mk n f).tmps.getD t undef = v := by rw [mk_getD]; exact h.1
  have hc : (rval n f (.tmp t)).run P w = .ok v w := by rw [<- this]; rfl
  rw [List.mapM_cons, run_bind, hc]
  simp only
  rw [run_bind, ih]; rfl
 | .cell a t :: r, v :: vs, h => by
  obtain ⟨⟨b, o, ha, hl⟩, hr⟩ := h
  have ih := run_results r vs hr
  have : (mk n f).tmps.getD a undef = .pointer (some ⟨b, o, none⟩) := by rw [mk_getD]; exact ha
  have hc : (rval n f (.cell a t)).run P w = .ok v w := by
   show ((asAddr ((mk n f).tmps.getD a undef)) >>= fun x => loadVar t x).run P w = _
   rw [this, run_bind]
   exact hl
  rw [List.mapM_cons, run_bind, hc]
  simp only
  rw [run_bind, ih]; rfl
def resV : List Value -> Value
 | [v] => v
 | vs => .tuple vs.toArray
theorem fin_of {fn : Func} {rs : List ResultVar} (vs : List Value) {Q : Value -> World -> Prop} (hr : fn.results = rs.toArray) (hok : ResOk P n f w rs vs) (h : Q (resV vs) w) : fin P fn n Q f w := by
 refine ⟨resV vs, ?_, h⟩
 have e0 : results fn (mk n f).tmps = (do let vs <- fn.results.mapM (rval n f); pure (if h : vs.size = 1 then vs[0] else .tuple vs)) := rfl
 rw [e0, hr]
 have h1 := run_results rs vs hok
 rw [List.mapM_toArray, run_bind]
 have e : (List.toArray <$> rs.mapM (rval n f)).run P w = .ok vs.toArray w := by
  show (Sem.bind _ _).run P w = _
  have h3 := run_bind (P := P) (w := w) (s := rs.mapM (rval n f)) (k := fun a => (pure a.toArray : Sem _))
  rw [h1] at h3
  exact h3
 rw [e]
 simp only
 match vs with
 | [] => rfl
 | [v] => rfl
 | v :: u :: r =>
  rw [dif_neg (by simp)]
  rfl
end
section
variable {P : Program} {n : Nat} {f : Fr} {w : World} {d : Option Tmp} {ty : TypeId} {ps : String} {af : Array Edge} {g : Option (Nat × Bool)}
theorem pv_lookupE {α : Type} {T : Ty α} {t e : TypeId} {x y : Operand} {m : Option Nat} {k : Int} {z : α} {es : List (Int × α)} {r : Option α} (ht : isMapU P t = some e) (hz : tyZero P e = some (T.val z)) (hx : evF n f x = .map m) (hy : evF n f y = .int .u64 k)
  (hm : MapIs T w m es) (hr : mget es k = r) : OpV P n ⟨d, .lookup t x y false, ty, ps, af, g⟩ f w (T.val (r.getD z)) := by
 subst hr; exact pv_lookup ht hz hx hy hm
theorem pv_lookupOkE {α : Type} {T : Ty α} {t e : TypeId} {x y : Operand} {m : Option Nat} {k : Int} {z : α} {es : List (Int × α)} {r : Option α} (ht : isMapU P t = some e) (hz : tyZero P e = some (T.val z)) (hx : evF n f x = .map m) (hy : evF n f y = .int .u64 k)
  (hm : MapIs T w m es) (hr : mget es k = r) : OpV P n ⟨d, .lookup t x y true, ty, ps, af, g⟩ f w (.tuple #[T.val (r.getD z), .bool r.isSome]) := by
 subst hr; exact pv_lookupOk ht hz hx hy hm
theorem pv_lenME {α : Type} {T : Ty α} {t : TypeId} {x : Operand} {m : Option Nat} {es : List (Int × α)} {k : Nat} (ht : (isMapU P t).isSome = true) (hx : evF n f x = .map m) (hm : MapIs T w m es) (hk : es.length = k) :
  OpV P n ⟨d, .call ⟨.builtin .len, #[x], #[t]⟩, ty, ps, af, g⟩ f w (.int .i64 k) := by
 subst hk; exact pv_lenM ht hx hm
theorem pv_notE {t : TypeId} {x : Operand} {b c : Bool} (hx : evF n f x = .bool b) (hb : (!b) = c) : OpV P n ⟨d, .unOp .not t x, ty, ps, af, g⟩ f w (.bool c) := by
 subst hb; exact pv_not hx
end
theorem dr_split {p : Prop} {b : Bool} (ht : b = true -> p) (hf : b = false -> p) : p := by
 cases b with
 | true => exact ht rfl
 | false => exact hf rfl
end Go.Sx
namespace Go.Sx
open Go
set_option linter.unusedSimpArgs false
def simpleEq (P : Program) (xs ys : Array Value) : List Field -> Option Bool
 | [] => some true
 | f :: fs =>
  if f.name == "_" then none else
  match P.underlying f.type, xs[f.offset]?, ys[f.offset]?, simpleEq P xs ys fs with
  | some (.int _), some (.int k a), some (.int k' b), some r => if k = k' then some (a == b && r) else none
  | some .bool, some (.bool a), some (.bool b), some r => some (a == b && r)
  | _, _, _, _ => none
theorem run_eqFields {P : Program} {w : World} {d : Nat} {xs ys : Array Value} : ∀ (fs : List Field) (r : Bool), simpleEq P xs ys fs = some r -> (Op.eqFields (d + 1) xs ys fs).run P w = .ok r w
 | [], r, h => by
  simp only [simpleEq] at h
  injection h with h
  subst h; rfl
 | f :: fs, r, h => by
  unfold simpleEq at h
  split at h
  ·simp at h
  ·rename_i hn
   have hn' : f.name ≠ "_" := fun e => hn (by simp [e])
   have go : ∀ (a b : Value) (u : TypeDesc) (q s : Bool), P.underlying f.type = some u -> isAggD u = false -> xs[f.offset]? = some a -> ys[f.offset]? = some b ->
     (Op.equalIn (d + 1) f.type a b).run P w = .ok q w -> simpleEq P xs ys fs = some s -> r = (q && s) -> (Op.eqFields (d + 1) xs ys (f :: fs)).run P w = .ok r w := by
    intro a b u q s hu hag ha hb he hs hr
    have pa : ∀ (zs : Array Value) (z : Value), zs[f.offset]? = some z -> (part f.type zs f.offset).run P w = .ok z w := by
     intro zs z hz
     unfold part
     rw [run_bind, run_isAgg hu, hag]
     simp only [Bool.false_eq_true, if_false, hz]
     rfl
    unfold Op.eqFields
    rw [if_pos hn']
    simp only [run_bind, pa xs a ha, pa ys b hb, he]
    cases q with
    | false => simp only [Bool.not_false, if_true, run_pure, hr, Bool.false_and]
    | true => simp only [Bool.not_true, Bool.false_eq_true, if_false, run_eqFields fs s hs, hr, Bool.true_and]
   split at h
   ·rename_i k0 k a k' b s hu ha hb hs
    split at h
    ·rename_i hk
     subst hk
     injection h with h
     refine go _ _ _ (a == b) s hu rfl ha hb ?_ hs h.symm
     unfold Op.equalIn
     rw [run_bind, run_underlying' hu]
     simp [run_pure]
    ·simp at h
   ·rename_i a b s hu ha hb hs
    injection h with h
    refine go _ _ _ (a == b) s hu rfl ha hb ?_ hs h.symm
    unfold Op.equalIn
    rw [run_bind, run_underlying' hu]
    rfl
   ·simp at h
structure EqOk (P : Program) (t : TypeId) : Prop where
 str : P.underlying t = some (.struct (P.fieldsOf t))
 held : P.stoodInHeld t = false
 guard : P.eqGuardType P.depth t = false
section
variable {P : Program} {n : Nat} {f : Fr} {w : World} {d : Option Tmp} {ty : TypeId} {ps : String} {af : Array Edge} {g : Option (Nat × Bool)}
theorem pv_eqS {op : BinOp} {t u : TypeId} {x y : Operand} {xs ys : Array Value} {r v : Bool} (hk : EqOk P t) (hf : simpleEq P xs ys (P.fieldsOf t).toList = some r) (hx : evF n f x = .agg xs) (hy : evF n f y = .agg ys)
    (hv : (match op with | .eql => some r | .neq => some (!r) | _ => none) = some v) : OpV P n ⟨d, .binOp op t x y u, ty, ps, af, g⟩ f w (.bool v) := by
  have he : (Op.equal t (.agg xs) (.agg ys)).run P w = .ok r w := by
    show (Op.equalIn (9998 + 1 + 1) t (.agg xs) (.agg ys)).run P w = _
    rw [run_equalIn_struct w (9998 + 1) t xs ys hk.str hk.held]
    exact run_eqFields _ r hf
  have hg : ∀ op x y, (eqGuard op t x y (.agg xs) (.agg ys)).run P w = .ok () w := fun op x y => run_eqGuard_agg w op t x y xs ys hk.guard
  unfold OpV
  cases op <;> first
    | (simp at hv; done)
    | (injection hv with hv
       subst hv
       simp only [execOp, hx, hy, run_bind, hg, binOp, he, run_pure])
def isBoolT (P : Program) (t : TypeId) : Bool :=
 match P.underlying t with
 | some .bool => true
 | _ => false
theorem pv_eqB {op : BinOp} {t u : TypeId} {x y : Operand} {a b v : Bool} (ht : isBoolT P t = true) (hx : evF n f x = .bool a) (hy : evF n f y = .bool b)
    (hv : (match op with | .eql => some (a == b) | .neq => some (!(a == b)) | _ => none) = some v) : OpV P n ⟨d, .binOp op t x y u, ty, ps, af, g⟩ f w (.bool v) := by
  have he : (Op.equal t (.bool a) (.bool b)).run P w = .ok (a == b) w := by
    unfold isBoolT at ht
    split at ht
    · rename_i hu
      unfold Op.equal Op.maxDepth Op.equalIn
      rw [run_bind, run_underlying' hu]
      rfl
    · simp at ht
  unfold OpV
  cases op <;> first
    | (simp at hv; done)
    | (injection hv with hv
       subst hv
       simp only [execOp, hx, hy, eqGuard, binOp]; simp [run_bind, run_pure, he])
def ixB (s : ByteArray) (i : Int) : Int := ((s[i.toNat]?.getD 0).toNat : Int)
theorem pv_ixStr {t : TypeId} {x y : Operand} {s : ByteArray} {k : IntKind} {i : Int} (ht : isString P t = true) (hx : evF n f x = .string s) (hy : evF n f y = .int k i) (h0 : 0 <= i) (h1 : i.toNat < s.size) :
  OpV P n ⟨d, .index t x y, ty, ps, af, g⟩ f w (.int .u8 (ixB s i)) := by
 unfold isString at ht
 split at ht
 ·rename_i hu
  unfold OpV
  have hb : s[i.toNat]? = some s[i.toNat] := getElem?_pos s i.toNat h1
  simp only [execOp, hx, hy, Instr.index, asIntOf]
  simp only [run_bind, run_pure, run_underlying' hu, if_pos h0, hb, ixB, Option.getD_some]
 ·simp at ht
def ItAt {α : Type} (T : Ty α) (w : World) (it : Nat) (m : Option Nat) (rem : List (Int × α)) (cur : Option (Int × α)) : Prop :=
 match m with
 | none => rem = [] /\ cur = none /\ ∃ s l, w.heap[it]? = some (.mapIter none s #[] l)
 | some r => ∃ ents clock seen, w.heap[it]? = some (.mapIter (some r) clock seen clock) /\ w.heap[r]? = some (.map ents clock) /\ Stamps ents.toList clock /\
   EntsOf T (ents.toList.filter fun e => !seen.contains e.born) rem /\
   (∀ p, cur = some p -> ∃ b e, seen.back? = some b /\ ents.find? (·.born == b) = some e /\ e.key = .int .u64 p.1 /\ e.val = T.val p.2)
theorem pw_range {α : Type} {T : Ty α} {t e : TypeId} {x : Operand} {m : Option Nat} {es : List (Int × α)} {K : Value -> World -> Prop} (ht : isMapU P t = some e) (hx : evF n f x = .map m) (hm : MapIs T w m es)
  (h : ∀ it w' o, it = w.heap.size -> w' = w.alloc o -> ItAt T w' it m es none -> K (.pointer (some ⟨it, 0, none⟩)) w') : OpW P n ⟨d, .range t x, ty, ps, af, g⟩ f w K := by
 obtain ⟨kt, hu, hk⟩ := isMapU_of ht
 unfold OpW
 cases m with
 | none =>
  obtain rfl : es = [] := hm
  simp only [execOp, hx, Instr.range, run_bind, run_underlying' hu, run_pure, run_new]
  exact h _ _ _ rfl rfl ⟨rfl, rfl, 0, 0, by rw [alloc_at, if_pos rfl]⟩
 | some r =>
  obtain ⟨ents, clock, hw, he, hn, hst⟩ := hm
  have hr : r < w.heap.size := by
   rcases Nat.lt_or_ge r w.heap.size with h | h
   ·exact h
   ·simp [Array.getElem?_eq_none h] at hw
  simp only [execOp, hx, Instr.range, run_bind, run_underlying' hu, run_getMap hw, run_pure, run_new]
  refine h _ _ _ rfl rfl ⟨ents, clock, #[], by rw [alloc_at, if_pos rfl], by rw [alloc_at, if_neg (by omega)]; exact hw, hst, ?_, fun p hp => by cases hp⟩
  have : ents.toList.filter (fun e => !(#[] : Array Nat).contains e.born) = ents.toList := by
   rw [List.filter_eq_self]; intro a _; simp
  rw [this]; exact he
theorem pv_entry {α : Type} {T : Ty α} {x : Operand} {it : Nat} {m : Option Nat} {rem : List (Int × α)} {p : Int × α} (hx : evF n f x = .pointer (some ⟨it, 0, none⟩)) (hi : ItAt T w it m rem (some p)) :
  OpV P n ⟨d, .entry x, ty, ps, af, g⟩ f w (.tuple #[.int .u64 p.1, T.val p.2]) := by
 cases m with
 | none => obtain ⟨_, h, _⟩ := hi; cases h
 | some r =>
  obtain ⟨ents, clock, seen, hit, hmap, _, _, hc⟩ := hi
  obtain ⟨b, e, hb, hf, hk, hv⟩ := hc p rfl
  have h1 : (getObj it).run P w = .ok (.mapIter (some r) clock seen clock) w := by
   show Sem.run P (.getObj it .pure) w = _
   simp only [Sem.run, hit]
  unfold OpV
  simp only [execOp, hx, Instr.entry, run_bind, h1, hb, run_getMap hmap, bne_self_eq_false, Bool.false_eq_true, if_false, hf, run_pure, hk, hv]
theorem pw_next {α : Type} {T : Ty α} {x : Operand} {it : Nat} {m : Option Nat} {rem : List (Int × α)} {cur : Option (Int × α)} {K : Value -> World -> Prop} (hx : evF n f x = .pointer (some ⟨it, 0, none⟩)) (hi : ItAt T w it m rem cur)
  (hend : rem = [] -> K (.tuple #[.bool false]) w)
  (hgo : ∀ a p b w1 o, rem = a ++ p :: b -> (w1 = w \/ w1 = w.drew) -> ItAt T (setB w1 it o) it m (a ++ b) (some p) -> K (.tuple #[.bool true, .int .u64 p.1, T.val p.2]) (setB w1 it o)) :
  OpW P n ⟨d, .next x false, ty, ps, af, g⟩ f w K := by
 cases m with
 | none =>
  obtain ⟨h1, h2, s, l, hit⟩ := hi
  have h3 : (getObj it).run P w = .ok (.mapIter none s #[] l) w := by
   show Sem.run P (.getObj it .pure) w = _
   simp only [Sem.run, hit]
  unfold OpW
  simp only [execOp, hx, Instr.next, run_bind, h3, run_pure]
  exact hend h1
 | some r =>
  obtain ⟨ents, clock, seen, hit, hmap, hst, hrem, _⟩ := hi
  have hits : it < w.heap.size := by
   rcases Nat.lt_or_ge it w.heap.size with h | h
   ·exact h
   ·simp [Array.getElem?_eq_none h] at hit
  have hne : it ≠ r := fun e => by rw [e, hmap] at hit; cases hit
  have h3 : (getObj it).run P w = .ok (.mapIter (some r) clock seen clock) w := by
   show Sem.run P (.getObj it .pure) w = _
   simp only [Sem.run, hit]
  have hold : (ents.filter fun e => !seen.contains e.born).filter (fun e => e.born < clock) = ents.filter fun e => !seen.contains e.born := by
   rw [Array.filter_eq_self]
   intro a ha
   have := hst.2 a (by simpa using (Array.mem_filter.1 ha).1)
   simpa using this
  have hnew : (ents.filter fun e => !seen.contains e.born).filter (fun e => e.born ≥ clock) = #[] := by
   rw [Array.filter_eq_empty_iff]
   intro a ha
   have := hst.2 a (by simpa using (Array.mem_filter.1 ha).1)
   simp; omega
  have hun : (!seen.isEmpty && !ents.isEmpty && ents.all fun e => decide (e.born ≥ clock)) = false := by
   cases hz : ents.isEmpty with
   | true => simp
   | false =>
    have : ents.all (fun e => decide (e.born ≥ clock)) = false := by
     rw [Array.all_eq_false]
     have hs : 0 < ents.size := by
      rcases Nat.eq_zero_or_pos ents.size with h | h
      ·rw [Array.isEmpty_iff_size_eq_zero.2 h] at hz; simp at hz
      ·exact h
     refine ⟨0, hs, ?_⟩
     have := hst.2 ents[0] (by simp)
     simp; omega
    rw [this]; simp
  unfold OpW
  simp only [execOp, hx, Instr.next, run_bind, h3, run_getMap hmap]
  rw [if_neg (by rw [hun]; simp)]
  simp only [run_bind, run_pure, hold, hnew]
  generalize hleft : (ents.filter fun e => !seen.contains e.born) = lf
  have hll : lf.toList = ents.toList.filter fun e => !seen.contains e.born := by rw [<- hleft, Array.toList_filter]
  rw [<- hll] at hrem
  by_cases hem : lf = #[]
  ·subst hem
   have hr : rem = [] := by unfold EntsOf at hrem; simpa using hrem.symm
   have : (choose (.mapNext ((if (#[] : Array MapEntry).isEmpty = true then #[none] else #[]) ++ ((#[] : Array MapEntry) ++ #[]).map some).size)).run P w = .ok 0 w := by
    show Sem.run P (.choose _ .pure) w = _
    simp [Sem.run, Question.forced]
   rw [this]
   simpa using hend hr
  ·have hemp : lf.isEmpty = false := by
    cases h : lf.isEmpty with
    | false => rfl
    | true => exact absurd (Array.isEmpty_iff.1 h) hem
   have hc : ((if lf.isEmpty = true then #[none] else #[]) ++ (lf ++ #[]).map some) = lf.map some := by rw [hemp]; simp
   rw [hc]
   have hsz : 0 < lf.size := by
    rcases Nat.eq_zero_or_pos lf.size with h | h
    ·exact absurd (Array.eq_empty_of_size_eq_zero h) hem
    ·exact h
   obtain ⟨i, w1, hi, hw1, hch⟩ : ∃ i w1, i < lf.size /\ (w1 = w \/ w1 = w.drew) /\ (choose (.mapNext (lf.map some).size)).run P w = .ok i w1 := by
    show ∃ i w1, _ /\ _ /\ Sem.run P (.choose _ .pure) w = _
    simp only [Sem.run]
    by_cases hf : (Question.mapNext (lf.map some).size).forced = true
    ·exact ⟨0, w, hsz, .inl rfl, by rw [if_pos hf]⟩
    ·refine ⟨_, w.drew, ?_, .inr rfl, by rw [if_neg hf]; rfl⟩
     simp only [Question.cut, Array.size_map]
     exact Nat.mod_lt _ hsz
   rw [hch]
   have hgi : (lf.map some)[i]? = some (some lf[i]) := by simp [hi]
   simp only [hgi]
   have hw1h : w1.heap = w.heap := by rcases hw1 with rfl | rfl <;> rfl
   have hso : (setObj it (.mapIter (some r) clock (seen.push lf[i].born) clock)).run P w1 = .ok () (setB w1 it (.mapIter (some r) clock (seen.push lf[i].born) clock)) :=
    run_setObj (u := .mapIter (some r) clock seen clock) (by rw [hw1h]; exact hit) (fun c t z h => by cases h)
   simp only [run_bind, hso, run_pure]
   have hil : i < lf.toList.length := by simpa using hi
   have hil' : i < (ents.toList.filter fun e => !seen.contains e.born).length := by rw [<- hll]; exact hil
   have hlen : lf.toList.length = rem.length := by unfold EntsOf at hrem; have := congrArg List.length hrem; simpa using this
   have hir : i < rem.length := by rw [<- hlen]; exact hil
   have hent : (lf[i].key, lf[i].val) = (.int .u64 rem[i].1, T.val rem[i].2) := by
    unfold EntsOf at hrem
    have h0 := congrArg (fun l => l[i]?) hrem
    simp only [List.getElem?_map, List.getElem?_eq_getElem hil, List.getElem?_eq_getElem hir, Option.map_some, Option.some.injEq, Prod.mk.injEq] at h0
    have he : lf.toList[i] = lf[i] := by simp
    rw [he] at h0
    rw [h0.1, h0.2]
   have hk : lf[i].key = .int .u64 rem[i].1 := congrArg Prod.fst hent
   have hv : lf[i].val = T.val rem[i].2 := congrArg Prod.snd hent
   have hsplit : rem = rem.take i ++ rem[i] :: rem.drop (i + 1) := by
    rw [<- List.drop_eq_getElem_cons hir, List.take_append_drop]
   have hmem : lf[i] ∈ ents.toList := by
    have : lf[i] ∈ lf.toList := by simp
    rw [hll] at this
    exact (List.mem_filter.1 this).1
   have hsb := hgo (rem.take i) rem[i] (rem.drop (i + 1)) w1 (.mapIter (some r) clock (seen.push lf[i].born) clock) hsplit hw1
    ⟨ents, clock, seen.push lf[i].born, by rw [setB_at, if_pos ⟨rfl, by rw [hw1h]; exact hits⟩], by rw [setB_at, if_neg (fun e => hne e.1.symm), hw1h]; exact hmap, hst, ?_, ?_⟩
   ·rw [hk, hv]; exact hsb
   ·
    have hnd : (lf.toList.map (·.born)).Nodup := by
     rw [hll]
     exact (List.Sublist.map _ List.filter_sublist).nodup hst.1
    have hf2 : (ents.toList.filter fun e => !(seen.push lf[i].born).contains e.born) = lf.toList.eraseIdx i := by
     have h1 : (ents.toList.filter fun e => !(seen.push lf[i].born).contains e.born) = lf.toList.filter fun e => e.born != lf[i].born := by
      rw [hll, List.filter_filter]
      refine List.filter_congr fun a _ => ?_
      simp only [Array.contains_push, Bool.not_or]
      rw [Bool.and_comm, bne]
     rw [h1]
     have h2 : lf[i] = lf.toList[i] := by simp
     rw [h2]
     clear h1 h2 hso hsplit hmem hk hv hent hgi hch hc hleft hold hnew
     generalize lf.toList = l at hil hnd
     clear hll hrem hlen hir hil'
     induction l generalizing i with
     | nil => simp at hil
     | cons a l ih =>
      simp only [List.map_cons, List.nodup_cons] at hnd
      cases i with
      | zero =>
       simp only [List.getElem_cons_zero, List.eraseIdx_cons_zero]
       rw [List.filter_cons_of_neg (by simp)]
       rw [List.filter_eq_self]
       intro b hb
       have : b.born ≠ a.born := fun e => hnd.1 (by rw [<- e]; exact List.mem_map.2 ⟨b, hb, rfl⟩)
       simpa using this
      | succ i =>
       have hil2 : i < l.length := by simpa using hil
       simp only [List.getElem_cons_succ, List.eraseIdx_cons_succ]
       have : a.born ≠ l[i].born := fun e => hnd.1 (by rw [e]; exact List.mem_map.2 ⟨l[i], List.getElem_mem _, rfl⟩)
       rw [List.filter_cons_of_pos (by simpa using this)]
       congr 1
       have key : ∀ (l : List MapEntry) (i : Nat) (hi : i < l.length), (l.map (·.born)).Nodup -> l.filter (fun e => e.born != l[i].born) = l.eraseIdx i := by
        intro l
        induction l with
        | nil => intro i hi; simp at hi
        | cons a l ih =>
         intro i hi hn
         simp only [List.map_cons, List.nodup_cons] at hn
         cases i with
         | zero =>
          simp only [List.getElem_cons_zero, List.eraseIdx_cons_zero]
          rw [List.filter_cons_of_neg (by simp)]
          rw [List.filter_eq_self]
          intro b hb
          have : b.born ≠ a.born := fun e => hn.1 (by rw [<- e]; exact List.mem_map.2 ⟨b, hb, rfl⟩)
          simpa using this
         | succ i =>
          have hi2 : i < l.length := by simpa using hi
          simp only [List.getElem_cons_succ, List.eraseIdx_cons_succ]
          have : a.born ≠ l[i].born := fun e => hn.1 (by rw [e]; exact List.mem_map.2 ⟨l[i], List.getElem_mem _, rfl⟩)
          rw [List.filter_cons_of_pos (by simpa using this), ih i hi2 hn.2]
       exact key l i hil2 hnd.2
    unfold EntsOf at hrem ⊢
    rw [hf2]
    have h4 : (lf.toList.eraseIdx i).map (fun e => (e.key, e.val)) = (lf.toList.map (fun e => (e.key, e.val))).eraseIdx i := by
     rw [List.eraseIdx_eq_take_drop_succ, List.eraseIdx_eq_take_drop_succ]
     simp
    rw [h4, hrem, List.eraseIdx_eq_take_drop_succ]
    simp
   ·rintro p hp
    injection hp with hp
    subst hp
    refine ⟨lf[i].born, lf[i], by simp, ?_, hk, hv⟩
    have hfind : ∀ (l : List MapEntry), (l.map (·.born)).Nodup -> lf[i] ∈ l -> l.find? (fun e => e.born == lf[i].born) = some lf[i] := by
     intro l
     induction l with
     | nil => intro _ hm; simp at hm
     | cons a l ih =>
      intro hn hm
      simp only [List.map_cons, List.nodup_cons] at hn
      rcases List.mem_cons.1 hm with e | hm
      ·rw [List.find?_cons, <- e]; simp
      ·have : a.born ≠ lf[i].born := fun e => hn.1 (by rw [e]; exact List.mem_map.2 ⟨_, hm, rfl⟩)
       rw [List.find?_cons]
       simp only [beq_eq_false_iff_ne.2 this]
       exact ih hn.2 hm
    rw [<- Array.find?_toList]
    exact hfind _ hst.1 hmem
end
end Go.Sx
namespace Go.Sx
open Go
set_option linter.unusedVariables false
abbrev QW : Type := Value -> World -> Prop
abbrev vp (b o : Nat) : Value := .pointer (some ⟨b, o, none⟩)
abbrev vu (x : Int) : Value := .int .u64 x
abbrev vi (x : Int) : Value := .int .i64 x
abbrev vb (b : Bool) : Value := .bool b
abbrev un : Value := undef
theorem dwe {w : World} {K : World -> Prop} (h : dw w K) : ∃ x, x = w.drew /\ K x := ⟨_, rfl, h _ rfl⟩
theorem cm {P : Program} {k : FuncId} {args : Array Value} {Q Q' : Value -> World -> Prop} {w : World} (h : CallsR P k args Q w) (hq : ∀ v w', Q v w' -> Q' v w') : CallsR P k args Q' w := CallsR.mono h hq
theorem nl {n m : Nat} (h : n.ble m = true := by exact rfl) : n <= m := Nat.le_of_ble_eq_true h
section
variable {P : Program} {n : Nat} {R0 : Array Oper} {K : FW} {os : List Oper} {f : Fr} {w : World} {d : Option Tmp} {x : Operand} {ty : TypeId} {ps : String} {af : Array Edge}
theorem mv (v : Value) (hx : evF n f x = v) (h : OpsL P n R0 K os (updO f d v) w) : OpsL P n R0 K (⟨d, .move x, ty, ps, af, none⟩ :: os) f w := op_v (pv_move hx) h
theorem mva (v : Value) (hx : evF n f x = v) (h : OpsL P n R0 K os (updO f d v) w) : OpsL P n R0 K (⟨d, .assign x, ty, ps, af, none⟩ :: os) f w := op_v (pv_assign hx) h
end
def needsOf (l : List Oper) (e : List Nat) : List (List Nat) := l.foldl (fun acc o => acc ++ [((depsOf o).flatMap fun k => (if e.contains k then [k] else []) ++ (acc[k]?.getD [])).eraseDups]) []
def mustsOf (e : List Nat) : List Oper -> Nat -> List (List Nat)
 | [], _ => []
 | _ :: r, i =>
  let m := mustsOf e r (i + 1)
  ((r.zip m).zipIdx.flatMap fun (q, t) => if (depsOf q.1).contains i then (if e.contains (i + 1 + t) then [i + 1 + t] else []) ++ q.2 else []).eraseDups :: m
section
variable {P : Program} {n : Nat} {l : List Oper} {N R : FW} {X : List (Nat × FW)}
theorem WX_dr {id : Nat} {f0 : Fr} {w w' : World} (e pure : List Nat) (nodes : List Node) (V : List Value) (fuel : Nat) (hm : P.follows .mixedOrders = true) (hok : (Plan.mk (needsOf l e) (mustsOf e l 0) e pure nodes).ok l = true) (hw : w' = w.drew)
  (h : Draw P n l f0 N nodes fuel 0 V w') : WX P n (.region id l.toArray true) N X R f0 w := WX_draw _ V fuel hm hok hw h
end
section
variable {P : Program} {n : Nat} {l : List Oper} {f0 : Fr} {V : List Value} {w : World} {i : Nat} {o : Oper} {r : List Nat}
theorem pu (ho : l[i]? = some o) (h : ∀ {w}, OpV P n o (fV f0 (l.take i) 0 V) w (vg V i)) (hr : AllPu P n l f0 V r) (hw : wantF n l.toArray (fV f0 (l.take i) 0 V) o.guard = true := by exact rfl) : AllPu P n l f0 V (i :: r) := ap (fun _ => ok_yes ho h hw) hr
theorem ro (ho : l[i]? = some o) (h : OpV P n o (fV f0 (l.take i) 0 V) w (vg V i)) (hr : AllOk P n l f0 V w r) (hw : wantF n l.toArray (fV f0 (l.take i) 0 V) o.guard = true := by exact rfl) : AllOk P n l f0 V w (i :: r) := ao (ok_yes ho h hw) hr
theorem pn (hr : AllPu P n l f0 V r) (ho : l[i]? = some o := by exact rfl) (hw : wantF n l.toArray (fV f0 (l.take i) 0 V) o.guard = false := by exact rfl) (hv : vg V i = undef := by exact rfl) : AllPu P n l f0 V (i :: r) := ap (fun _ => ok_no ho hw hv) hr
theorem rn (hr : AllOk P n l f0 V w r) (ho : l[i]? = some o := by exact rfl) (hw : wantF n l.toArray (fV f0 (l.take i) 0 V) o.guard = false := by exact rfl) (hv : vg V i = undef := by exact rfl) : AllOk P n l f0 V w (i :: r) := ao (ok_no ho hw hv) hr
end
section
variable {P : Program} {n : Nat} {l : List Oper} {f0 : Fr} {V : List Value} {w : World} {i q : Nat} {o : Oper} {nw : List Nat} {D : Nat -> List Value -> World -> Prop}
theorem cy (ho : l[i]? = some o) (hw : wantF n l.toArray (fV f0 (l.take i) 0 V) o.guard = true)
  (h : OpW P n o (fV f0 (l.take i) 0 V) w fun v w' => ∃ vs, nw.length = vs.length + 1 /\ i < V.length /\ D q (putV V nw (v :: vs)) w') : AllCh P n l f0 V w D [(i, nw, q)] := ch_yes ho hw h ch0
end
end Go.Sx
namespace Go.Sx
open Go
@[ext] structure G_api_Config where
 Balances : Sl
 Slots : Int
 Boost : Int
abbrev t_api_Config : Ty G_api_Config := ⟨fun x => [.slice x.Balances.a x.Balances.len x.Balances.cap, .int .i64 x.Slots, .int .i64 x.Boost], true⟩
@[ext] structure G_api_Point where
 Epoch : Int
 Root : Int
abbrev t_api_Point : Ty G_api_Point := ⟨fun x => [.int .i64 x.Epoch, .int .u64 x.Root], true⟩
@[ext] structure G_store_Store where
 Config : G_api_Config
 Tree : Option Addr
 Votes : Sl
 Slot : Int
 Boosted : Int
 Justified : G_api_Point
 Final : G_api_Point
 ledgers : Option Nat
 gone : Option Nat
 changes : Sl
abbrev t_store_Store : Ty G_store_Store := ⟨fun x => [.slice x.Config.Balances.a x.Config.Balances.len x.Config.Balances.cap, .int .i64 x.Config.Slots, .int .i64 x.Config.Boost, .pointer x.Tree, .slice x.Votes.a x.Votes.len x.Votes.cap, .int .i64 x.Slot, .int .u64 x.Boosted, .int .i64 x.Justified.Epoch, .int .u64 x.Justified.Root, .int .i64 x.Final.Epoch, .int .u64 x.Final.Root, .map x.ledgers, .map x.gone, .slice x.changes.a x.changes.len x.changes.cap], true⟩
@[ext] structure G_api_Block where
 Root : Int
 Parent : Int
 Slot : Int
 Votes : Sl
 Proofs : Sl
abbrev t_api_Block : Ty G_api_Block := ⟨fun x => [.int .u64 x.Root, .int .u64 x.Parent, .int .i64 x.Slot, .slice x.Votes.a x.Votes.len x.Votes.cap, .slice x.Proofs.a x.Proofs.len x.Proofs.cap], true⟩
@[ext] structure G_api_Vote where
 Slot : Int
 Head : Int
 Source : G_api_Point
 Target : G_api_Point
 Who : Sl
abbrev t_api_Vote : Ty G_api_Vote := ⟨fun x => [.int .i64 x.Slot, .int .u64 x.Head, .int .i64 x.Source.Epoch, .int .u64 x.Source.Root, .int .i64 x.Target.Epoch, .int .u64 x.Target.Root, .slice x.Who.a x.Who.len x.Who.cap], true⟩
@[ext] structure G_api_Proof where
 A : G_api_Vote
 B : G_api_Vote
abbrev t_api_Proof : Ty G_api_Proof := ⟨fun x => [.int .i64 x.A.Slot, .int .u64 x.A.Head, .int .i64 x.A.Source.Epoch, .int .u64 x.A.Source.Root, .int .i64 x.A.Target.Epoch, .int .u64 x.A.Target.Root, .slice x.A.Who.a x.A.Who.len x.A.Who.cap, .int .i64 x.B.Slot, .int .u64 x.B.Head, .int .i64 x.B.Source.Epoch, .int .u64 x.B.Source.Root, .int .i64 x.B.Target.Epoch, .int .u64 x.B.Target.Root, .slice x.B.Who.a x.B.Who.len x.B.Who.cap], true⟩
@[ext] structure G_api_Event where
 Kind : Int
 Slot : Int
 Block : G_api_Block
 Vote : G_api_Vote
 Proof : G_api_Proof
abbrev t_api_Event : Ty G_api_Event := ⟨fun x => [.int .i64 x.Kind, .int .i64 x.Slot, .int .u64 x.Block.Root, .int .u64 x.Block.Parent, .int .i64 x.Block.Slot, .slice x.Block.Votes.a x.Block.Votes.len x.Block.Votes.cap, .slice x.Block.Proofs.a x.Block.Proofs.len x.Block.Proofs.cap, .int .i64 x.Vote.Slot, .int .u64 x.Vote.Head, .int .i64 x.Vote.Source.Epoch, .int .u64 x.Vote.Source.Root, .int .i64 x.Vote.Target.Epoch, .int .u64 x.Vote.Target.Root, .slice x.Vote.Who.a x.Vote.Who.len x.Vote.Who.cap, .int .i64 x.Proof.A.Slot, .int .u64 x.Proof.A.Head, .int .i64 x.Proof.A.Source.Epoch, .int .u64 x.Proof.A.Source.Root, .int .i64 x.Proof.A.Target.Epoch, .int .u64 x.Proof.A.Target.Root, .slice x.Proof.A.Who.a x.Proof.A.Who.len x.Proof.A.Who.cap, .int .i64 x.Proof.B.Slot, .int .u64 x.Proof.B.Head, .int .i64 x.Proof.B.Source.Epoch, .int .u64 x.Proof.B.Source.Root, .int .i64 x.Proof.B.Target.Epoch, .int .u64 x.Proof.B.Target.Root, .slice x.Proof.B.Who.a x.Proof.B.Who.len x.Proof.B.Who.cap], true⟩
@[ext] structure G_store_Change where
 Kind : Int
 Root : Int
 Parent : Int
 Who : Int
 From : Int
 Had : Bool
abbrev t_store_Change : Ty G_store_Change := ⟨fun x => [.int .i64 x.Kind, .int .u64 x.Root, .int .u64 x.Parent, .int .i64 x.Who, .int .u64 x.From, .bool x.Had], true⟩
@[ext] structure G_latest_Entry where
 Has : Bool
 Epoch : Int
 Root : Int
 Banned : Bool
abbrev t_latest_Entry : Ty G_latest_Entry := ⟨fun x => [.bool x.Has, .int .i64 x.Epoch, .int .u64 x.Root, .bool x.Banned], true⟩
@[ext] structure G_Arr4_bool where
 e0 : Bool
 e1 : Bool
 e2 : Bool
 e3 : Bool
abbrev t_Arr4_bool : Ty G_Arr4_bool := ⟨fun x => [.bool x.e0, .bool x.e1, .bool x.e2, .bool x.e3], true⟩
@[ext] structure G_justify_State where
 Bits : G_Arr4_bool
 Previous : G_api_Point
 Current : G_api_Point
 Final : G_api_Point
abbrev t_justify_State : Ty G_justify_State := ⟨fun x => [.bool x.Bits.e0, .bool x.Bits.e1, .bool x.Bits.e2, .bool x.Bits.e3, .int .i64 x.Previous.Epoch, .int .u64 x.Previous.Root, .int .i64 x.Current.Epoch, .int .u64 x.Current.Root, .int .i64 x.Final.Epoch, .int .u64 x.Final.Root], true⟩
@[ext] structure G_ledger_State where
 Justify : G_justify_State
 Epoch : Int
 Before : Sl
 Now : Sl
abbrev t_ledger_State : Ty G_ledger_State := ⟨fun x => [.bool x.Justify.Bits.e0, .bool x.Justify.Bits.e1, .bool x.Justify.Bits.e2, .bool x.Justify.Bits.e3, .int .i64 x.Justify.Previous.Epoch, .int .u64 x.Justify.Previous.Root, .int .i64 x.Justify.Current.Epoch, .int .u64 x.Justify.Current.Root, .int .i64 x.Justify.Final.Epoch, .int .u64 x.Justify.Final.Root, .int .i64 x.Epoch, .slice x.Before.a x.Before.len x.Before.cap, .slice x.Now.a x.Now.len x.Now.cap], true⟩
@[ext] structure G_psephoslaw14_maker where
 s : Option Addr
 ns : Sl
 blocks : Sl
abbrev t_psephoslaw14_maker : Ty G_psephoslaw14_maker := ⟨fun x => [.pointer x.s, .slice x.ns.a x.ns.len x.ns.cap, .slice x.blocks.a x.blocks.len x.blocks.cap], true⟩
@[ext] structure G_tree_node where
 parent : Int
 slot : Int
 height : Int
abbrev t_tree_node : Ty G_tree_node := ⟨fun x => [.int .u64 x.parent, .int .i64 x.slot, .int .i64 x.height], true⟩
@[ext] structure G_tree_Tree where
 first : Int
 nodes : Option Nat
abbrev t_tree_Tree : Ty G_tree_Tree := ⟨fun x => [.int .u64 x.first, .map x.nodes], true⟩
end Go.Sx
namespace Go.Proofs.Ytdefmgkicdhmkaa
open Go Go.Sx
noncomputable abbrev PP : Program := Try.prog
theorem mixed : PP.follows .mixedOrders = true := by kernel_rfl
abbrev n_f3 : Nat := 3
abbrev n_f4 : Nat := 4
abbrev n_f5 : Nat := 5
abbrev n_f6 : Nat := 6
abbrev n_f8 : Nat := 8
abbrev n_f9 : Nat := 9
abbrev n_f10 : Nat := 10
abbrev n_f11 : Nat := 11
abbrev n_f12 : Nat := 12
abbrev n_f13 : Nat := 13
abbrev n_f14 : Nat := 14
abbrev n_f15 : Nat := 15
abbrev n_f16 : Nat := 16
abbrev n_f17 : Nat := 17
abbrev n_f18 : Nat := 18
abbrev n_f20 : Nat := 20
abbrev n_f21 : Nat := 21
abbrev n_f22 : Nat := 22
abbrev n_f24 : Nat := 24
abbrev n_f26 : Nat := 26
abbrev n_f27 : Nat := 27
abbrev n_f28 : Nat := 28
abbrev n_f29 : Nat := 29
abbrev n_f30 : Nat := 30
abbrev n_f31 : Nat := 31
abbrev n_f32 : Nat := 32
abbrev n_f33 : Nat := 33
abbrev n_f34 : Nat := 34
abbrev n_f35 : Nat := 35
abbrev n_f36 : Nat := 36
abbrev n_f37 : Nat := 37
abbrev n_f38 : Nat := 38
abbrev n_f39 : Nat := 39
abbrev n_f40 : Nat := 40
abbrev n_f41 : Nat := 41
abbrev n_f42 : Nat := 42
abbrev n_f43 : Nat := 43
abbrev n_f44 : Nat := 44
abbrev n_f45 : Nat := 45
abbrev n_f46 : Nat := 46
abbrev n_f47 : Nat := 47
abbrev n_f48 : Nat := 48
abbrev n_f49 : Nat := 49
abbrev n_f50 : Nat := 50
abbrev n_f51 : Nat := 51
abbrev n_f52 : Nat := 52
abbrev n_f53 : Nat := 53
abbrev n_f54 : Nat := 54
abbrev n_f55 : Nat := 55
abbrev n_f56 : Nat := 56
abbrev n_f57 : Nat := 57
abbrev n_f58 : Nat := 58
abbrev n_f59 : Nat := 59
abbrev n_f60 : Nat := 60
abbrev n_f61 : Nat := 61
abbrev n_f62 : Nat := 62
abbrev n_f63 : Nat := 63
abbrev n_f64 : Nat := 64
abbrev n_f65 : Nat := 65
abbrev n_f66 : Nat := 66
abbrev n_f67 : Nat := 67
abbrev n_f68 : Nat := 68
abbrev n_f69 : Nat := 69
abbrev n_f70 : Nat := 70
abbrev n_f71 : Nat := 71
abbrev n_f72 : Nat := 72
abbrev n_f73 : Nat := 73
abbrev n_f74 : Nat := 74
abbrev n_f75 : Nat := 75
abbrev n_f76 : Nat := 76
abbrev n_f78 : Nat := 78
abbrev n_f79 : Nat := 79
abbrev n_f80 : Nat := 80
abbrev n_f82 : Nat := 82
abbrev n_f83 : Nat := 83
abbrev n_f86 : Nat := 86
abbrev n_f87 : Nat := 87
abbrev n_f88 : Nat := 88
abbrev n_f91 : Nat := 91
abbrev n_f92 : Nat := 92
abbrev n_f93 : Nat := 93
abbrev n_f94 : Nat := 94
abbrev n_f95 : Nat := 95
abbrev n_f96 : Nat := 96
abbrev n_f97 : Nat := 97
abbrev n_f98 : Nat := 98
abbrev n_f99 : Nat := 99
abbrev n_f100 : Nat := 100
abbrev n_f101 : Nat := 101
abbrev n_f102 : Nat := 102
abbrev n_f103 : Nat := 103
abbrev n_f104 : Nat := 104
abbrev n_f105 : Nat := 105
abbrev n_f106 : Nat := 106
abbrev i_api_Errno : Nat := 94
theorem co_8 : CallOk PP 8 := CallOk.mk Try.func8 (by kernel_rfl) (by kernel_rfl)
theorem co_9 : CallOk PP 9 := CallOk.mk Try.func9 (by kernel_rfl) (by kernel_rfl)
theorem co_10 : CallOk PP 10 := CallOk.mk Try.func10 (by kernel_rfl) (by kernel_rfl)
theorem co_11 : CallOk PP 11 := CallOk.mk Try.func11 (by kernel_rfl) (by kernel_rfl)
theorem co_12 : CallOk PP 12 := CallOk.mk Try.func12 (by kernel_rfl) (by kernel_rfl)
theorem co_13 : CallOk PP 13 := CallOk.mk Try.func13 (by kernel_rfl) (by kernel_rfl)
theorem co_14 : CallOk PP 14 := CallOk.mk Try.func14 (by kernel_rfl) (by kernel_rfl)
theorem co_15 : CallOk PP 15 := CallOk.mk Try.func15 (by kernel_rfl) (by kernel_rfl)
theorem co_16 : CallOk PP 16 := CallOk.mk Try.func16 (by kernel_rfl) (by kernel_rfl)
theorem co_17 : CallOk PP 17 := CallOk.mk Try.func17 (by kernel_rfl) (by kernel_rfl)
theorem co_18 : CallOk PP 18 := CallOk.mk Try.func18 (by kernel_rfl) (by kernel_rfl)
theorem co_20 : CallOk PP 20 := CallOk.mk Try.func20 (by kernel_rfl) (by kernel_rfl)
theorem co_21 : CallOk PP 21 := CallOk.mk Try.func21 (by kernel_rfl) (by kernel_rfl)
theorem co_22 : CallOk PP 22 := CallOk.mk Try.func22 (by kernel_rfl) (by kernel_rfl)
theorem co_24 : CallOk PP 24 := CallOk.mk Try.func24 (by kernel_rfl) (by kernel_rfl)
theorem co_26 : CallOk PP 26 := CallOk.mk Try.func26 (by kernel_rfl) (by kernel_rfl)
theorem co_27 : CallOk PP 27 := CallOk.mk Try.func27 (by kernel_rfl) (by kernel_rfl)
theorem co_28 : CallOk PP 28 := CallOk.mk Try.func28 (by kernel_rfl) (by kernel_rfl)
theorem co_29 : CallOk PP 29 := CallOk.mk Try.func29 (by kernel_rfl) (by kernel_rfl)
theorem co_30 : CallOk PP 30 := CallOk.mk Try.func30 (by kernel_rfl) (by kernel_rfl)
theorem co_31 : CallOk PP 31 := CallOk.mk Try.func31 (by kernel_rfl) (by kernel_rfl)
theorem co_32 : CallOk PP 32 := CallOk.mk Try.func32 (by kernel_rfl) (by kernel_rfl)
theorem co_33 : CallOk PP 33 := CallOk.mk Try.func33 (by kernel_rfl) (by kernel_rfl)
theorem co_34 : CallOk PP 34 := CallOk.mk Try.func34 (by kernel_rfl) (by kernel_rfl)
theorem co_35 : CallOk PP 35 := CallOk.mk Try.func35 (by kernel_rfl) (by kernel_rfl)
theorem co_36 : CallOk PP 36 := CallOk.mk Try.func36 (by kernel_rfl) (by kernel_rfl)
theorem co_37 : CallOk PP 37 := CallOk.mk Try.func37 (by kernel_rfl) (by kernel_rfl)
theorem co_38 : CallOk PP 38 := CallOk.mk Try.func38 (by kernel_rfl) (by kernel_rfl)
theorem co_39 : CallOk PP 39 := CallOk.mk Try.func39 (by kernel_rfl) (by kernel_rfl)
theorem co_40 : CallOk PP 40 := CallOk.mk Try.func40 (by kernel_rfl) (by kernel_rfl)
theorem co_41 : CallOk PP 41 := CallOk.mk Try.func41 (by kernel_rfl) (by kernel_rfl)
theorem co_42 : CallOk PP 42 := CallOk.mk Try.func42 (by kernel_rfl) (by kernel_rfl)
theorem co_43 : CallOk PP 43 := CallOk.mk Try.func43 (by kernel_rfl) (by kernel_rfl)
theorem co_44 : CallOk PP 44 := CallOk.mk Try.func44 (by kernel_rfl) (by kernel_rfl)
theorem co_45 : CallOk PP 45 := CallOk.mk Try.func45 (by kernel_rfl) (by kernel_rfl)
theorem co_46 : CallOk PP 46 := CallOk.mk Try.func46 (by kernel_rfl) (by kernel_rfl)
theorem co_47 : CallOk PP 47 := CallOk.mk Try.func47 (by kernel_rfl) (by kernel_rfl)
theorem co_48 : CallOk PP 48 := CallOk.mk Try.func48 (by kernel_rfl) (by kernel_rfl)
theorem co_49 : CallOk PP 49 := CallOk.mk Try.func49 (by kernel_rfl) (by kernel_rfl)
theorem co_50 : CallOk PP 50 := CallOk.mk Try.func50 (by kernel_rfl) (by kernel_rfl)
theorem co_51 : CallOk PP 51 := CallOk.mk Try.func51 (by kernel_rfl) (by kernel_rfl)
theorem co_52 : CallOk PP 52 := CallOk.mk Try.func52 (by kernel_rfl) (by kernel_rfl)
theorem co_53 : CallOk PP 53 := CallOk.mk Try.func53 (by kernel_rfl) (by kernel_rfl)
theorem co_54 : CallOk PP 54 := CallOk.mk Try.func54 (by kernel_rfl) (by kernel_rfl)
theorem co_55 : CallOk PP 55 := CallOk.mk Try.func55 (by kernel_rfl) (by kernel_rfl)
theorem co_56 : CallOk PP 56 := CallOk.mk Try.func56 (by kernel_rfl) (by kernel_rfl)
theorem co_57 : CallOk PP 57 := CallOk.mk Try.func57 (by kernel_rfl) (by kernel_rfl)
theorem co_58 : CallOk PP 58 := CallOk.mk Try.func58 (by kernel_rfl) (by kernel_rfl)
theorem co_59 : CallOk PP 59 := CallOk.mk Try.func59 (by kernel_rfl) (by kernel_rfl)
theorem co_60 : CallOk PP 60 := CallOk.mk Try.func60 (by kernel_rfl) (by kernel_rfl)
theorem cn_store_Store_chain_c1 : CallOk PP n_f60 := co_60
theorem co_61 : CallOk PP 61 := CallOk.mk Try.func61 (by kernel_rfl) (by kernel_rfl)
theorem co_62 : CallOk PP 62 := CallOk.mk Try.func62 (by kernel_rfl) (by kernel_rfl)
theorem co_63 : CallOk PP 63 := CallOk.mk Try.func63 (by kernel_rfl) (by kernel_rfl)
theorem co_64 : CallOk PP 64 := CallOk.mk Try.func64 (by kernel_rfl) (by kernel_rfl)
theorem co_65 : CallOk PP 65 := CallOk.mk Try.func65 (by kernel_rfl) (by kernel_rfl)
theorem co_66 : CallOk PP 66 := CallOk.mk Try.func66 (by kernel_rfl) (by kernel_rfl)
theorem co_67 : CallOk PP 67 := CallOk.mk Try.func67 (by kernel_rfl) (by kernel_rfl)
theorem co_68 : CallOk PP 68 := CallOk.mk Try.func68 (by kernel_rfl) (by kernel_rfl)
theorem co_69 : CallOk PP 69 := CallOk.mk Try.func69 (by kernel_rfl) (by kernel_rfl)
theorem co_70 : CallOk PP 70 := CallOk.mk Try.func70 (by kernel_rfl) (by kernel_rfl)
theorem co_71 : CallOk PP 71 := CallOk.mk Try.func71 (by kernel_rfl) (by kernel_rfl)
theorem co_72 : CallOk PP 72 := CallOk.mk Try.func72 (by kernel_rfl) (by kernel_rfl)
theorem co_73 : CallOk PP 73 := CallOk.mk Try.func73 (by kernel_rfl) (by kernel_rfl)
theorem co_74 : CallOk PP 74 := CallOk.mk Try.func74 (by kernel_rfl) (by kernel_rfl)
theorem co_75 : CallOk PP 75 := CallOk.mk Try.func75 (by kernel_rfl) (by kernel_rfl)
theorem co_76 : CallOk PP 76 := CallOk.mk Try.func76 (by kernel_rfl) (by kernel_rfl)
theorem co_78 : CallOk PP 78 := CallOk.mk Try.func78 (by kernel_rfl) (by kernel_rfl)
theorem co_79 : CallOk PP 79 := CallOk.mk Try.func79 (by kernel_rfl) (by kernel_rfl)
theorem co_80 : CallOk PP 80 := CallOk.mk Try.func80 (by kernel_rfl) (by kernel_rfl)
theorem co_82 : CallOk PP 82 := CallOk.mk Try.func82 (by kernel_rfl) (by kernel_rfl)
theorem co_83 : CallOk PP 83 := CallOk.mk Try.func83 (by kernel_rfl) (by kernel_rfl)
theorem co_86 : CallOk PP 86 := CallOk.mk Try.func86 (by kernel_rfl) (by kernel_rfl)
theorem co_87 : CallOk PP 87 := CallOk.mk Try.func87 (by kernel_rfl) (by kernel_rfl)
theorem co_88 : CallOk PP 88 := CallOk.mk Try.func88 (by kernel_rfl) (by kernel_rfl)
theorem co_91 : CallOk PP 91 := CallOk.mk Try.func91 (by kernel_rfl) (by kernel_rfl)
theorem co_92 : CallOk PP 92 := CallOk.mk Try.func92 (by kernel_rfl) (by kernel_rfl)
theorem co_93 : CallOk PP 93 := CallOk.mk Try.func93 (by kernel_rfl) (by kernel_rfl)
theorem co_94 : CallOk PP 94 := CallOk.mk Try.func94 (by kernel_rfl) (by kernel_rfl)
theorem co_95 : CallOk PP 95 := CallOk.mk Try.func95 (by kernel_rfl) (by kernel_rfl)
theorem co_96 : CallOk PP 96 := CallOk.mk Try.func96 (by kernel_rfl) (by kernel_rfl)
theorem co_97 : CallOk PP 97 := CallOk.mk Try.func97 (by kernel_rfl) (by kernel_rfl)
theorem co_98 : CallOk PP 98 := CallOk.mk Try.func98 (by kernel_rfl) (by kernel_rfl)
theorem co_99 : CallOk PP 99 := CallOk.mk Try.func99 (by kernel_rfl) (by kernel_rfl)
theorem co_100 : CallOk PP 100 := CallOk.mk Try.func100 (by kernel_rfl) (by kernel_rfl)
theorem co_101 : CallOk PP 101 := CallOk.mk Try.func101 (by kernel_rfl) (by kernel_rfl)
theorem co_102 : CallOk PP 102 := CallOk.mk Try.func102 (by kernel_rfl) (by kernel_rfl)
theorem co_103 : CallOk PP 103 := CallOk.mk Try.func103 (by kernel_rfl) (by kernel_rfl)
theorem co_104 : CallOk PP 104 := CallOk.mk Try.func104 (by kernel_rfl) (by kernel_rfl)
theorem co_105 : CallOk PP 105 := CallOk.mk Try.func105 (by kernel_rfl) (by kernel_rfl)
theorem co_106 : CallOk PP 106 := CallOk.mk Try.func106 (by kernel_rfl) (by kernel_rfl)
theorem ty_3 : TyOk PP 3 tI64 := TyOk.mk' (k := 1) (by kernel_rfl) (fun _ => rfl) (fun x => rfl) (fun h => by first | rfl | exact absurd h (by decide))
theorem ty_4 : TyOk PP 4 tBool := TyOk.mk' (k := 1) (by kernel_rfl) (fun _ => rfl) (fun x => rfl) (fun h => by first | rfl | exact absurd h (by decide))
theorem ty_5 : TyOk PP 5 tU8 := TyOk.mk' (k := 1) (by kernel_rfl) (fun _ => rfl) (fun x => rfl) (fun h => by first | rfl | exact absurd h (by decide))
theorem ty_22 : TyOk PP 22 tSl := TyOk.mk' (k := 1) (by kernel_rfl) (fun _ => rfl) (fun x => rfl) (fun h => by first | rfl | exact absurd h (by decide))
theorem ty_24 : TyOk PP 24 tSl := TyOk.mk' (k := 1) (by kernel_rfl) (fun _ => rfl) (fun x => rfl) (fun h => by first | rfl | exact absurd h (by decide))
theorem ty_26 : TyOk PP 26 t_api_Config := TyOk.mk' (k := 3) (by kernel_rfl) (fun _ => rfl) (fun x => by first | rfl | simp [plain, plain_ifc, plain_fn]) (fun h => by first | rfl | exact absurd h (by decide))
theorem ty_28 : TyOk PP 28 tPtr := TyOk.mk' (k := 1) (by kernel_rfl) (fun _ => rfl) (fun x => rfl) (fun h => by first | rfl | exact absurd h (by decide))
theorem ty_33 : TyOk PP 33 tPtr := TyOk.mk' (k := 1) (by kernel_rfl) (fun _ => rfl) (fun x => rfl) (fun h => by first | rfl | exact absurd h (by decide))
theorem ty_35 : TyOk PP 35 tSl := TyOk.mk' (k := 1) (by kernel_rfl) (fun _ => rfl) (fun x => rfl) (fun h => by first | rfl | exact absurd h (by decide))
theorem ty_36 : TyOk PP 36 tU64 := TyOk.mk' (k := 1) (by kernel_rfl) (fun _ => rfl) (fun x => rfl) (fun h => by first | rfl | exact absurd h (by decide))
theorem ty_38 : TyOk PP 38 t_api_Point := TyOk.mk' (k := 2) (by kernel_rfl) (fun _ => rfl) (fun x => by first | rfl | simp [plain, plain_ifc, plain_fn]) (fun h => by first | rfl | exact absurd h (by decide))
theorem ty_39 : TyOk PP 39 tMap := TyOk.mk' (k := 1) (by kernel_rfl) (fun _ => rfl) (fun x => rfl) (fun h => by first | rfl | exact absurd h (by decide))
theorem ty_40 : TyOk PP 40 tMap := TyOk.mk' (k := 1) (by kernel_rfl) (fun _ => rfl) (fun x => rfl) (fun h => by first | rfl | exact absurd h (by decide))
theorem ty_41 : TyOk PP 41 tSl := TyOk.mk' (k := 1) (by kernel_rfl) (fun _ => rfl) (fun x => rfl) (fun h => by first | rfl | exact absurd h (by decide))
theorem ty_43 : TyOk PP 43 t_store_Store := TyOk.mk' (k := 14) (by kernel_rfl) (fun _ => rfl) (fun x => by first | rfl | simp [plain, plain_ifc, plain_fn]) (fun h => by first | rfl | exact absurd h (by decide))
theorem ty_46 : TyOk PP 46 tI64 := TyOk.mk' (k := 1) (by kernel_rfl) (fun _ => rfl) (fun x => rfl) (fun h => by first | rfl | exact absurd h (by decide))
theorem ty_47 : TyOk PP 47 tSl := TyOk.mk' (k := 1) (by kernel_rfl) (fun _ => rfl) (fun x => rfl) (fun h => by first | rfl | exact absurd h (by decide))
theorem ty_48 : TyOk PP 48 tSl := TyOk.mk' (k := 1) (by kernel_rfl) (fun _ => rfl) (fun x => rfl) (fun h => by first | rfl | exact absurd h (by decide))
theorem ty_50 : TyOk PP 50 t_api_Block := TyOk.mk' (k := 5) (by kernel_rfl) (fun _ => rfl) (fun x => by first | rfl | simp [plain, plain_ifc, plain_fn]) (fun h => by first | rfl | exact absurd h (by decide))
theorem ty_51 : TyOk PP 51 tSl := TyOk.mk' (k := 1) (by kernel_rfl) (fun _ => rfl) (fun x => rfl) (fun h => by first | rfl | exact absurd h (by decide))
theorem ty_53 : TyOk PP 53 t_api_Vote := TyOk.mk' (k := 7) (by kernel_rfl) (fun _ => rfl) (fun x => by first | rfl | simp [plain, plain_ifc, plain_fn]) (fun h => by first | rfl | exact absurd h (by decide))
theorem ty_55 : TyOk PP 55 t_api_Proof := TyOk.mk' (k := 14) (by kernel_rfl) (fun _ => rfl) (fun x => by first | rfl | simp [plain, plain_ifc, plain_fn]) (fun h => by first | rfl | exact absurd h (by decide))
theorem ty_57 : TyOk PP 57 t_api_Event := TyOk.mk' (k := 28) (by kernel_rfl) (fun _ => rfl) (fun x => by first | rfl | simp [plain, plain_ifc, plain_fn]) (fun h => by first | rfl | exact absurd h (by decide))
theorem ty_64 : TyOk PP 64 tI64 := TyOk.mk' (k := 1) (by kernel_rfl) (fun _ => rfl) (fun x => rfl) (fun h => by first | rfl | exact absurd h (by decide))
theorem ty_66 : TyOk PP 66 t_store_Change := TyOk.mk' (k := 6) (by kernel_rfl) (fun _ => rfl) (fun x => by first | rfl | simp [plain, plain_ifc, plain_fn]) (fun h => by first | rfl | exact absurd h (by decide))
theorem ty_68 : TyOk PP 68 t_latest_Entry := TyOk.mk' (k := 4) (by kernel_rfl) (fun _ => rfl) (fun x => by first | rfl | simp [plain, plain_ifc, plain_fn]) (fun h => by first | rfl | exact absurd h (by decide))
theorem ty_73 : TyOk PP 73 t_Arr4_bool := TyOk.mk' (k := 4) (by kernel_rfl) (fun _ => rfl) (fun x => by first | rfl | simp [plain, plain_ifc, plain_fn]) (fun h => by first | rfl | exact absurd h (by decide))
theorem ty_75 : TyOk PP 75 t_justify_State := TyOk.mk' (k := 10) (by kernel_rfl) (fun _ => rfl) (fun x => by first | rfl | simp [plain, plain_ifc, plain_fn]) (fun h => by first | rfl | exact absurd h (by decide))
theorem ty_76 : TyOk PP 76 tSl := TyOk.mk' (k := 1) (by kernel_rfl) (fun _ => rfl) (fun x => rfl) (fun h => by first | rfl | exact absurd h (by decide))
theorem ty_78 : TyOk PP 78 t_ledger_State := TyOk.mk' (k := 13) (by kernel_rfl) (fun _ => rfl) (fun x => by first | rfl | simp [plain, plain_ifc, plain_fn]) (fun h => by first | rfl | exact absurd h (by decide))
theorem ty_99 : TyOk PP 99 t_psephoslaw14_maker := TyOk.mk' (k := 3) (by kernel_rfl) (fun _ => rfl) (fun x => by first | rfl | simp [plain, plain_ifc, plain_fn]) (fun h => by first | rfl | exact absurd h (by decide))
theorem ty_109 : TyOk PP 109 t_tree_node := TyOk.mk' (k := 3) (by kernel_rfl) (fun _ => rfl) (fun x => by first | rfl | simp [plain, plain_ifc, plain_fn]) (fun h => by first | rfl | exact absurd h (by decide))
theorem ty_111 : TyOk PP 111 tMap := TyOk.mk' (k := 1) (by kernel_rfl) (fun _ => rfl) (fun x => rfl) (fun h => by first | rfl | exact absurd h (by decide))
theorem ty_113 : TyOk PP 113 t_tree_Tree := TyOk.mk' (k := 2) (by kernel_rfl) (fun _ => rfl) (fun x => by first | rfl | simp [plain, plain_ifc, plain_fn]) (fun h => by first | rfl | exact absurd h (by decide))
theorem ty_154 : TyOk PP 154 tU64 := TyOk.mk' (k := 1) (by kernel_rfl) (fun _ => rfl) (fun x => rfl) (fun h => by first | rfl | exact absurd h (by decide))
theorem tz_3 : tyZero PP 3 = some (tI64.val 0) := by kernel_rfl
theorem tz_4 : tyZero PP 4 = some (tBool.val false) := by kernel_rfl
theorem tz_26 : tyZero PP 26 = some (t_api_Config.val (⟨nilSl, 0, 0⟩ : G_api_Config)) := by kernel_rfl
theorem tz_38 : tyZero PP 38 = some (t_api_Point.val (⟨0, 0⟩ : G_api_Point)) := by kernel_rfl
theorem tz_50 : tyZero PP 50 = some (t_api_Block.val (⟨0, 0, 0, nilSl, nilSl⟩ : G_api_Block)) := by kernel_rfl
theorem tz_53 : tyZero PP 53 = some (t_api_Vote.val (⟨0, 0, (⟨0, 0⟩ : G_api_Point), (⟨0, 0⟩ : G_api_Point), nilSl⟩ : G_api_Vote)) := by kernel_rfl
theorem tz_55 : tyZero PP 55 = some (t_api_Proof.val (⟨(⟨0, 0, (⟨0, 0⟩ : G_api_Point), (⟨0, 0⟩ : G_api_Point), nilSl⟩ : G_api_Vote), (⟨0, 0, (⟨0, 0⟩ : G_api_Point), (⟨0, 0⟩ : G_api_Point), nilSl⟩ : G_api_Vote)⟩ : G_api_Proof)) := by kernel_rfl
theorem tz_57 : tyZero PP 57 = some (t_api_Event.val (⟨0, 0, (⟨0, 0, 0, nilSl, nilSl⟩ : G_api_Block), (⟨0, 0, (⟨0, 0⟩ : G_api_Point), (⟨0, 0⟩ : G_api_Point), nilSl⟩ : G_api_Vote), (⟨(⟨0, 0, (⟨0, 0⟩ : G_api_Point), (⟨0, 0⟩ : G_api_Point), nilSl⟩ : G_api_Vote), (⟨0, 0, (⟨0, 0⟩ : G_api_Point), (⟨0, 0⟩ : G_api_Point), nilSl⟩ : G_api_Vote)⟩ : G_api_Proof)⟩ : G_api_Event)) := by kernel_rfl
theorem tz_66 : tyZero PP 66 = some (t_store_Change.val (⟨0, 0, 0, 0, 0, false⟩ : G_store_Change)) := by kernel_rfl
theorem tz_68 : tyZero PP 68 = some (t_latest_Entry.val (⟨false, 0, 0, false⟩ : G_latest_Entry)) := by kernel_rfl
theorem tz_73 : tyZero PP 73 = some (t_Arr4_bool.val (⟨false, false, false, false⟩ : G_Arr4_bool)) := by kernel_rfl
theorem tz_75 : tyZero PP 75 = some (t_justify_State.val (⟨(⟨false, false, false, false⟩ : G_Arr4_bool), (⟨0, 0⟩ : G_api_Point), (⟨0, 0⟩ : G_api_Point), (⟨0, 0⟩ : G_api_Point)⟩ : G_justify_State)) := by kernel_rfl
theorem tz_78 : tyZero PP 78 = some (t_ledger_State.val (⟨(⟨(⟨false, false, false, false⟩ : G_Arr4_bool), (⟨0, 0⟩ : G_api_Point), (⟨0, 0⟩ : G_api_Point), (⟨0, 0⟩ : G_api_Point)⟩ : G_justify_State), 0, nilSl, nilSl⟩ : G_ledger_State)) := by kernel_rfl
theorem tz_109 : tyZero PP 109 = some (t_tree_node.val (⟨0, 0, 0⟩ : G_tree_node)) := by kernel_rfl
theorem tz_154 : tyZero PP 154 = some (tU64.val 0) := by kernel_rfl
theorem fo_26_0 : fieldOff PP 26 0 = some 0 := by kernel_rfl
theorem fo_26_1 : fieldOff PP 26 1 = some 1 := by kernel_rfl
theorem fo_26_2 : fieldOff PP 26 2 = some 2 := by kernel_rfl
theorem fo_38_0 : fieldOff PP 38 0 = some 0 := by kernel_rfl
theorem fo_38_1 : fieldOff PP 38 1 = some 1 := by kernel_rfl
theorem fo_43_0 : fieldOff PP 43 0 = some 0 := by kernel_rfl
theorem fo_43_1 : fieldOff PP 43 1 = some 3 := by kernel_rfl
theorem fo_43_2 : fieldOff PP 43 2 = some 4 := by kernel_rfl
theorem fo_43_3 : fieldOff PP 43 3 = some 5 := by kernel_rfl
theorem fo_43_4 : fieldOff PP 43 4 = some 6 := by kernel_rfl
theorem fo_43_5 : fieldOff PP 43 5 = some 7 := by kernel_rfl
theorem fo_43_6 : fieldOff PP 43 6 = some 9 := by kernel_rfl
theorem fo_43_7 : fieldOff PP 43 7 = some 11 := by kernel_rfl
theorem fo_43_8 : fieldOff PP 43 8 = some 12 := by kernel_rfl
theorem fo_43_9 : fieldOff PP 43 9 = some 13 := by kernel_rfl
theorem fo_50_0 : fieldOff PP 50 0 = some 0 := by kernel_rfl
theorem fo_50_1 : fieldOff PP 50 1 = some 1 := by kernel_rfl
theorem fo_50_2 : fieldOff PP 50 2 = some 2 := by kernel_rfl
theorem fo_50_3 : fieldOff PP 50 3 = some 3 := by kernel_rfl
theorem fo_50_4 : fieldOff PP 50 4 = some 4 := by kernel_rfl
theorem fo_53_0 : fieldOff PP 53 0 = some 0 := by kernel_rfl
theorem fo_53_1 : fieldOff PP 53 1 = some 1 := by kernel_rfl
theorem fo_53_2 : fieldOff PP 53 2 = some 2 := by kernel_rfl
theorem fo_53_3 : fieldOff PP 53 3 = some 4 := by kernel_rfl
theorem fo_53_4 : fieldOff PP 53 4 = some 6 := by kernel_rfl
theorem fo_55_0 : fieldOff PP 55 0 = some 0 := by kernel_rfl
theorem fo_55_1 : fieldOff PP 55 1 = some 7 := by kernel_rfl
theorem fo_57_0 : fieldOff PP 57 0 = some 0 := by kernel_rfl
theorem fo_57_1 : fieldOff PP 57 1 = some 1 := by kernel_rfl
theorem fo_57_2 : fieldOff PP 57 2 = some 2 := by kernel_rfl
theorem fo_57_3 : fieldOff PP 57 3 = some 7 := by kernel_rfl
theorem fo_57_4 : fieldOff PP 57 4 = some 14 := by kernel_rfl
theorem fo_66_0 : fieldOff PP 66 0 = some 0 := by kernel_rfl
theorem fo_66_1 : fieldOff PP 66 1 = some 1 := by kernel_rfl
theorem fo_68_0 : fieldOff PP 68 0 = some 0 := by kernel_rfl
theorem fo_68_1 : fieldOff PP 68 1 = some 1 := by kernel_rfl
theorem fo_68_2 : fieldOff PP 68 2 = some 2 := by kernel_rfl
theorem fo_68_3 : fieldOff PP 68 3 = some 3 := by kernel_rfl
theorem fo_75_0 : fieldOff PP 75 0 = some 0 := by kernel_rfl
theorem fo_75_1 : fieldOff PP 75 1 = some 4 := by kernel_rfl
theorem fo_75_2 : fieldOff PP 75 2 = some 6 := by kernel_rfl
theorem fo_75_3 : fieldOff PP 75 3 = some 8 := by kernel_rfl
theorem fo_78_0 : fieldOff PP 78 0 = some 0 := by kernel_rfl
theorem fo_78_1 : fieldOff PP 78 1 = some 10 := by kernel_rfl
theorem fo_78_2 : fieldOff PP 78 2 = some 11 := by kernel_rfl
theorem fo_78_3 : fieldOff PP 78 3 = some 12 := by kernel_rfl
theorem fo_99_0 : fieldOff PP 99 0 = some 0 := by kernel_rfl
theorem fo_99_1 : fieldOff PP 99 1 = some 1 := by kernel_rfl
theorem fo_99_2 : fieldOff PP 99 2 = some 2 := by kernel_rfl
theorem fo_109_0 : fieldOff PP 109 0 = some 0 := by kernel_rfl
theorem fo_109_1 : fieldOff PP 109 1 = some 1 := by kernel_rfl
theorem fo_109_2 : fieldOff PP 109 2 = some 2 := by kernel_rfl
theorem fo_113_0 : fieldOff PP 113 0 = some 0 := by kernel_rfl
theorem fo_113_1 : fieldOff PP 113 1 = some 1 := by kernel_rfl
theorem az_73 : arrOf PP 73 = some (4, 1) := by kernel_rfl
theorem eo_24 : elemInfo PP 24 = some (36, 1, 8, 1) := by kernel_rfl
theorem eo_35 : elemInfo PP 35 = some (68, 4, 32, 4) := by kernel_rfl
theorem eo_41 : elemInfo PP 41 = some (66, 6, 48, 6) := by kernel_rfl
theorem eo_44 : elemInfo PP 44 = some (57, 28, 304, 28) := by kernel_rfl
theorem eo_47 : elemInfo PP 47 = some (53, 7, 72, 7) := by kernel_rfl
theorem eo_48 : elemInfo PP 48 = some (55, 14, 144, 14) := by kernel_rfl
theorem eo_51 : elemInfo PP 51 = some (3, 1, 8, 1) := by kernel_rfl
theorem eo_76 : elemInfo PP 76 = some (4, 1, 1, 1) := by kernel_rfl
theorem ez_22 : elemSize PP 22 = some 1 := by kernel_rfl
theorem ez_24 : elemSize PP 24 = some 1 := by kernel_rfl
theorem ez_35 : elemSize PP 35 = some 4 := by kernel_rfl
theorem ez_41 : elemSize PP 41 = some 6 := by kernel_rfl
theorem ez_44 : elemSize PP 44 = some 28 := by kernel_rfl
theorem ez_47 : elemSize PP 47 = some 7 := by kernel_rfl
theorem ez_48 : elemSize PP 48 = some 14 := by kernel_rfl
theorem ez_51 : elemSize PP 51 = some 1 := by kernel_rfl
theorem ez_76 : elemSize PP 76 = some 1 := by kernel_rfl
theorem ib_4 : isBoolT PP 4 = true := by kernel_rfl
theorem ii_30 : isIface PP 30 = true := by kernel_rfl
theorem ip_28 : isPtr PP 28 = true := by kernel_rfl
theorem ip_33 : isPtr PP 33 = true := by kernel_rfl
theorem is_22 : isSlice PP 22 = true := by kernel_rfl
theorem is_24 : isSlice PP 24 = true := by kernel_rfl
theorem is_35 : isSlice PP 35 = true := by kernel_rfl
theorem is_41 : isSlice PP 41 = true := by kernel_rfl
theorem is_44 : isSlice PP 44 = true := by kernel_rfl
theorem is_47 : isSlice PP 47 = true := by kernel_rfl
theorem is_48 : isSlice PP 48 = true := by kernel_rfl
theorem is_51 : isSlice PP 51 = true := by kernel_rfl
theorem is_76 : isSlice PP 76 = true := by kernel_rfl
theorem it_9 : isString PP 9 = true := by kernel_rfl
theorem mu_111 : isMapU PP 111 = some 109 := by kernel_rfl
theorem mu_39 : isMapU PP 39 = some 78 := by kernel_rfl
theorem mu_40 : isMapU PP 40 = some 4 := by kernel_rfl
theorem mv_111 : (isMapU PP 111).isSome = true := by kernel_rfl
theorem ni_94 : (match PP.underlying 94 with | some (.interface _) => false | some _ => true | none => false) = true := by kernel_rfl
theorem uk_136 : PP.underlying 136 = some (.int .u64) := by kernel_rfl
theorem uk_154 : PP.underlying 154 = some (.int .u64) := by kernel_rfl
theorem uk_3 : PP.underlying 3 = some (.int .i64) := by kernel_rfl
theorem uk_36 : PP.underlying 36 = some (.int .u64) := by kernel_rfl
theorem uk_5 : PP.underlying 5 = some (.int .u8) := by kernel_rfl
theorem us_136 : (PP.underlying 136).isSome = true := by kernel_rfl
theorem us_3 : (PP.underlying 3).isSome = true := by kernel_rfl
theorem us_36 : (PP.underlying 36).isSome = true := by kernel_rfl
theorem us_5 : (PP.underlying 5).isSome = true := by kernel_rfl
def eq_api_Point (a b : G_api_Point) : Bool := (a.Epoch == b.Epoch) && ((a.Root == b.Root) && true)
theorem eqk_38 : EqOk PP 38 := ⟨by kernel_rfl, by kernel_rfl, by kernel_rfl⟩
theorem eqf_38 (a b : G_api_Point) : simpleEq PP (t_api_Point.enc a).toArray (t_api_Point.enc b).toArray (PP.fieldsOf 38).toList = some (eq_api_Point a b) := by kernel_rfl
def eq_store_Change (a b : G_store_Change) : Bool := (a.Kind == b.Kind) && ((a.Root == b.Root) && ((a.Parent == b.Parent) && ((a.Who == b.Who) && ((a.From == b.From) && ((a.Had == b.Had) && true)))))
theorem eqk_66 : EqOk PP 66 := ⟨by kernel_rfl, by kernel_rfl, by kernel_rfl⟩
theorem eqf_66 (a b : G_store_Change) : simpleEq PP (t_store_Change.enc a).toArray (t_store_Change.enc b).toArray (PP.fieldsOf 66).toList = some (eq_store_Change a b) := by kernel_rfl
end Go.Proofs.Ytdefmgkicdhmkaa
namespace Go.Proofs.Ytdefmgkicdhmkaa
open Go Go.Sx
set_option linter.unusedVariables false
set_option maxRecDepth 100000
set_option maxHeartbeats 2000000
end Go.Proofs.Ytdefmgkicdhmkaa
namespace Go.Proofs.Ytdefmgkicdhmkaa
open Go Go.Sx
set_option linter.unusedVariables false
set_option maxRecDepth 100000
set_option maxHeartbeats 2000000
end Go.Proofs.Ytdefmgkicdhmkaa
namespace Go.Proofs.Ytdefmgkicdhmkaa
open Go Go.Sx
set_option linter.unusedVariables false
set_option maxRecDepth 100000
set_option maxHeartbeats 2000000
end Go.Proofs.Ytdefmgkicdhmkaa
namespace Go.Proofs.Ytdefmgkicdhmkaa
open Go Go.Sx
set_option linter.unusedVariables false
set_option maxRecDepth 100000
set_option maxHeartbeats 2000000
end Go.Proofs.Ytdefmgkicdhmkaa
namespace Go.Proofs.Ytdefmgkicdhmkaa
open Go Go.Sx
set_option linter.unusedVariables false
set_option maxRecDepth 100000
set_option maxHeartbeats 2000000
end Go.Proofs.Ytdefmgkicdhmkaa
namespace Go.Proofs.Ytdefmgkicdhmkaa
open Go Go.Sx
set_option linter.unusedVariables false
set_option maxRecDepth 100000
set_option maxHeartbeats 2000000
def sh_f8_j2 (Q : QW) (x12 : Bool) (w7 : World) : Prop :=
  Q (.bool x12) w7
def sh_f8_j1 (Q : QW) (x1 : Option Addr) (x3 : Bool) (w3 : World) : Prop :=
  br x3 (Q (.bool false) w3) (CallsR PP n_f12 #[.pointer x1, t_api_Event.val (⟨0, 3, (⟨0, 0, 0, nilSl, nilSl⟩ : G_api_Block), (⟨0, 0, (⟨0, 0⟩ : G_api_Point), (⟨0, 0⟩ : G_api_Point), nilSl⟩ : G_api_Vote), (⟨(⟨0, 0, (⟨0, 0⟩ : G_api_Point), (⟨0, 0⟩ : G_api_Point), nilSl⟩ : G_api_Vote), (⟨0, 0, (⟨0, 0⟩ : G_api_Point), (⟨0, 0⟩ : G_api_Point), nilSl⟩ : G_api_Vote)⟩ : G_api_Proof)⟩ : G_api_Event)] (fun v2 w4 => ∃ x4 : Sl, ∃ x5 : Ifc, v2 = .tuple #[.slice x4.a x4.len x4.cap, x5.v] /\ (CallsR PP n_f12 #[.pointer x1, t_api_Event.val (⟨1, 0, (⟨2, 1, 3, nilSl, nilSl⟩ : G_api_Block), (⟨0, 0, (⟨0, 0⟩ : G_api_Point), (⟨0, 0⟩ : G_api_Point), nilSl⟩ : G_api_Vote), (⟨(⟨0, 0, (⟨0, 0⟩ : G_api_Point), (⟨0, 0⟩ : G_api_Point), nilSl⟩ : G_api_Vote), (⟨0, 0, (⟨0, 0⟩ : G_api_Point), (⟨0, 0⟩ : G_api_Point), nilSl⟩ : G_api_Vote)⟩ : G_api_Proof)⟩ : G_api_Event)] (fun v3 w5 => ∃ x6 : Sl, ∃ x7 : Ifc, v3 = .tuple #[.slice x6.a x6.len x6.cap, x7.v] /\ (br x5.isNil (br x7.isNil (br ((x6.len : Int) == 1) (ixs x6 0 fun b2 o1 => ld tI64 w5 b2 ((o1 + (0 : Int).toNat * 6) + 0) fun x8 => br (x8 == 0) (nc x1 fun b3 o2 => ld tU64 w5 b3 (o2 + 6) fun x9 => br (x9 == 2) (ld tPtr w5 b3 (o2 + 3) fun x10 => CallsR PP n_f27 #[.pointer x10] (fun v4 w6 => ∃ x11 : Int, v4 = .int .i64 x11 /\ ((sh_f8_j2 Q (x11 == 2) w6))) w5) ((sh_f8_j2 Q false w5))) ((sh_f8_j2 Q false w5))) ((sh_f8_j2 Q false w5))) ((sh_f8_j2 Q false w5))) ((sh_f8_j2 Q false w5)))) w4)) w3)
def sh_f8 (Q : QW) (w0 : World) : Prop :=
  alr 36 w0 (tU64.enc 1) fun b1 w1 => CallsR PP n_f10 #[t_api_Config.val (⟨(Sl.mk (some ⟨b1, 0, none⟩) 1 1), 4, 0⟩ : G_api_Config)] (fun v1 w2 => ∃ x1 : Option Addr, ∃ x2 : Ifc, v1 = .tuple #[.pointer x1, x2.v] /\ (br (!x2.isNil) ((sh_f8_j1 Q x1 true w2)) ((sh_f8_j1 Q x1 x1.isNone w2)))) w1
theorem so_f8 (Q : QW) (w0 : World) (h : sh_f8 Q w0) : CallsR PP n_f8 #[] Q w0 := by
 refine callsR_of_WX (args := []) Try.func8 rfl Try.ntmps8 nl ?_
 refine WX_seq (WX_region ?_)
 refine mva (vb false) rfl (ops_nil ?_)
 refine WX_seq (WX_region ?_)
 refine op_w (pw_buildSlice (e := 36) (cs := tU64.enc 1) (vs := [(0, vu 1)]) rfl (by kernel_rfl) ?_)
 intro b1 w1 hw1 hw2
 replace h := h b1 w1 hw1 hw2
 refine op_v (pv_build (cs := t_api_Config.enc (⟨(Sl.mk (some ⟨b1, 0, none⟩) 1 1), 4, 0⟩ : G_api_Config)) (vs := [(0, .slice (some ⟨b1, 0, none⟩) 1 1), (1, vi 4)]) rfl (by kernel_rfl)) ?_
 refine op_w (pw_call co_10 rfl (cm h ?_))
 rintro v1 w2 ⟨x1, x2, rfl, h⟩
 refine mv (.tuple #[.pointer x1, x2.v]) rfl <| op_v (pv_extract (vs := [.pointer x1, x2.v]) (v := .pointer x1) rfl rfl) ?_
 refine op_v (pv_extract (vs := [.pointer x1, x2.v]) (v := x2.v) rfl rfl) <| mva (.pointer x1) rfl <| mva x2.v rfl (ops_nil ?_)
 refine WX_seq ?_
 refine WX_join (fun f w3 => ∃ x3 : Bool, Agree f [(1, .pointer x1), (18, vb x3)] /\ sh_f8_j1 Q x1 x3 w3) ?_ ?_
 refine WX_region ?_
 refine mv x2.v rfl <| op_v (pv_ifnil (e := x2) (v := (!x2.isNil)) ii_30 rfl rfl) <| mv (vb (!x2.isNil)) rfl ?_
 refine ops_split 15 (b := (!x2.isNil)) rfl (fun hb1 => ?_) (fun hb1 => ?_)
 have h := h.1 hb1
 iterate 2 refine opg_no ?_
 refine op_v (pv_pick (b := true) (v := vb true) rfl rfl) (ops_nil ?_)
 exact ⟨true, ⟨rfl, rfl, trivial⟩, h⟩
 have h := h.2 hb1
 refine opg_v (pv_move (v := .pointer x1) rfl) <| opg_v (pv_ptrnil (p := x1) (v := x1.isNone) ip_28 rfl rfl) ?_
 refine op_v (pv_pick (b := false) (v := vb x1.isNone) rfl rfl) (ops_nil ?_)
 exact ⟨x1.isNone, ⟨rfl, rfl, trivial⟩, h⟩
 rintro f w3 ⟨x3, ha, h⟩
 obtain ⟨g1, rfl⟩ := canon ha
 refine WX_cond (b := x3) rfl (fun hb2 => ?_) (fun hb2 => ?_)
 have h := h.1 hb2
 refine WX_seq (WX_region ?_)
 refine mva (vb false) rfl (ops_nil ?_)
 refine WX_ret ?_
 exact fin_of [vb false] rfl ⟨rfl, trivial⟩ h
 have h := h.2 hb2
 refine WX_skip <| WX_seq (WX_region ?_)
 refine mv (.pointer x1) rfl ?_
 refine op_v (pv_build (cs := t_api_Event.enc (⟨0, 3, (⟨0, 0, 0, nilSl, nilSl⟩ : G_api_Block), (⟨0, 0, (⟨0, 0⟩ : G_api_Point), (⟨0, 0⟩ : G_api_Point), nilSl⟩ : G_api_Vote), (⟨(⟨0, 0, (⟨0, 0⟩ : G_api_Point), (⟨0, 0⟩ : G_api_Point), nilSl⟩ : G_api_Vote), (⟨0, 0, (⟨0, 0⟩ : G_api_Point), (⟨0, 0⟩ : G_api_Point), nilSl⟩ : G_api_Vote)⟩ : G_api_Proof)⟩ : G_api_Event)) (vs := [(1, vi 3)]) rfl (by kernel_rfl)) ?_
 refine op_w (pw_call co_12 rfl (cm h ?_))
 rintro v2 w4 ⟨x4, x5, rfl, h⟩
 refine mv (.tuple #[.slice x4.a x4.len x4.cap, x5.v]) rfl ?_
 refine op_v (pv_extract (vs := [.slice x4.a x4.len x4.cap, x5.v]) (v := .slice x4.a x4.len x4.cap) rfl rfl) ?_
 refine op_v (pv_extract (vs := [.slice x4.a x4.len x4.cap, x5.v]) (v := x5.v) rfl rfl) <| mva (.slice x4.a x4.len x4.cap) rfl ?_
 refine mva x5.v rfl (ops_nil ?_)
 refine WX_seq (WX_region ?_)
 refine mv (.pointer x1) rfl ?_
 refine op_v (pv_build (cs := t_api_Block.enc (⟨2, 1, 3, nilSl, nilSl⟩ : G_api_Block)) (vs := [(0, vu 2), (1, vu 1), (2, vi 3)]) rfl (by kernel_rfl)) ?_
 refine op_v (pv_build (cs := t_api_Event.enc (⟨1, 0, (⟨2, 1, 3, nilSl, nilSl⟩ : G_api_Block), (⟨0, 0, (⟨0, 0⟩ : G_api_Point), (⟨0, 0⟩ : G_api_Point), nilSl⟩ : G_api_Vote), (⟨(⟨0, 0, (⟨0, 0⟩ : G_api_Point), (⟨0, 0⟩ : G_api_Point), nilSl⟩ : G_api_Vote), (⟨0, 0, (⟨0, 0⟩ : G_api_Point), (⟨0, 0⟩ : G_api_Point), nilSl⟩ : G_api_Vote)⟩ : G_api_Proof)⟩ : G_api_Event)) (vs := [(0, vi 1), (2, t_api_Block.val (⟨2, 1, 3, nilSl, nilSl⟩ : G_api_Block))]) rfl (by kernel_rfl)) ?_
 refine op_w (pw_call co_12 rfl (cm h ?_))
 rintro v3 w5 ⟨x6, x7, rfl, h⟩
 refine mv (.tuple #[.slice x6.a x6.len x6.cap, x7.v]) rfl ?_
 refine op_v (pv_extract (vs := [.slice x6.a x6.len x6.cap, x7.v]) (v := .slice x6.a x6.len x6.cap) rfl rfl) ?_
 refine op_v (pv_extract (vs := [.slice x6.a x6.len x6.cap, x7.v]) (v := x7.v) rfl rfl) <| mva (.slice x6.a x6.len x6.cap) rfl ?_
 refine mva x7.v rfl (ops_nil ?_)
 refine WX_join (fun f w7 => ∃ x12 : Bool, Agree f [(0, vb x12)] /\ sh_f8_j2 Q x12 w7) ?_ ?_
 refine WX_region ?_
 refine mv x5.v rfl <| op_v (pv_ifnil (e := x5) (v := x5.isNil) ii_30 rfl rfl) <| mv (vb x5.isNil) rfl ?_
 refine ops_split 34 (b := x5.isNil) rfl (fun hb3 => ?_) (fun hb3 => ?_)
 have h := h.1 hb3
 refine opg_v (pv_move (v := x7.v) rfl) <| opg_v (pv_ifnil (e := x7) (v := x7.isNil) ii_30 rfl rfl) ?_
 refine op_v (pv_pick (b := true) (v := vb x7.isNil) rfl rfl) <| mv (vb x7.isNil) rfl <| ops_split 38 (b := x7.isNil) rfl (fun hb4 => ?_) (fun hb4 => ?_)
 have h := h.1 hb4
 refine opg_v (pv_move (v := .slice x6.a x6.len x6.cap) rfl) <| opg_v (pv_lenS (s := x6) is_41 rfl) ?_
 refine opg_v (pv_cmp (v := ((x6.len : Int) == 1)) rfl rfl rfl rfl) <| op_v (pv_pick (b := true) (v := vb ((x6.len : Int) == 1)) rfl rfl) ?_
 refine mv (vb ((x6.len : Int) == 1)) rfl <| ops_split 43 (b := ((x6.len : Int) == 1)) rfl (fun hb5 => ?_) (fun hb5 => ?_)
 have h := h.1 hb5
 refine opg_v (pv_move (v := .slice x6.a x6.len x6.cap) rfl) ?_
 obtain ⟨b2, o1, hi1, hi2, hi3, h⟩ := h
 refine opg_v (pv_ix (s := x6) ez_41 rfl rfl hi1 hi2 hi3) <| opg_v (pv_fld fo_66_0 rfl) ?_
 obtain ⟨x8, hx8, h⟩ := h
 refine opg_v (pv_ld ty_64 rfl hx8) <| opg_v (pv_cmp (v := (x8 == 0)) rfl rfl rfl rfl) <| op_v (pv_pick (b := true) (v := vb (x8 == 0)) rfl rfl) ?_
 refine mv (vb (x8 == 0)) rfl <| ops_split 50 (b := (x8 == 0)) rfl (fun hb6 => ?_) (fun hb6 => ?_)
 have h := h.1 hb6
 refine opg_v (pv_move (v := .pointer x1) rfl) ?_
 obtain ⟨b3, o2, hp1, h⟩ := h
 refine opg_v (pv_nilh rfl hp1) <| opg_v (pv_fld fo_43_4 rfl) ?_
 obtain ⟨x9, hx9, h⟩ := h
 refine opg_v (pv_ld ty_36 rfl hx9) <| opg_v (pv_cmp (v := (x9 == 2)) rfl rfl rfl rfl) <| op_v (pv_pick (b := true) (v := vb (x9 == 2)) rfl rfl) ?_
 refine mv (vb (x9 == 2)) rfl <| ops_split 57 (b := (x9 == 2)) rfl (fun hb7 => ?_) (fun hb7 => ?_)
 have h := h.1 hb7
 refine opg_v (pv_move (v := .pointer x1) rfl) <| opg_v (pv_nilh rfl hp1) <| opg_v (pv_fld fo_43_1 rfl) ?_
 obtain ⟨x10, hx10, h⟩ := h
 refine opg_v (pv_ld ty_33 rfl hx10) <| opg_w (pw_call co_27 rfl (CallsR.mono h ?_))
 rintro v4 w6 ⟨x11, rfl, h⟩
 refine opg_v (pv_cmp (v := (x11 == 2)) rfl rfl rfl rfl) <| op_v (pv_pick (b := true) (v := vb (x11 == 2)) rfl rfl) ?_
 refine mva (vb (x11 == 2)) rfl (ops_nil ?_)
 exact ⟨(x11 == 2), ⟨rfl, trivial⟩, h⟩
 have h := h.2 hb7
 iterate 6 refine opg_no ?_
 refine op_v (pv_pick (b := false) (v := vb false) rfl rfl) <| mva (vb false) rfl (ops_nil ?_)
 exact ⟨false, ⟨rfl, trivial⟩, h⟩
 have h := h.2 hb6
 iterate 5 refine opg_no ?_
 refine op_v (pv_pick (b := false) (v := vb false) rfl rfl) <| mv (vb false) rfl ?_
 iterate 6 refine opg_no ?_
 refine op_v (pv_pick (b := false) (v := vb false) rfl rfl) <| mva (vb false) rfl (ops_nil ?_)
 exact ⟨false, ⟨rfl, trivial⟩, h⟩
 have h := h.2 hb5
 iterate 5 refine opg_no ?_
 refine op_v (pv_pick (b := false) (v := vb false) rfl rfl) <| mv (vb false) rfl ?_
 iterate 5 refine opg_no ?_
 refine op_v (pv_pick (b := false) (v := vb false) rfl rfl) <| mv (vb false) rfl ?_
 iterate 6 refine opg_no ?_
 refine op_v (pv_pick (b := false) (v := vb false) rfl rfl) <| mva (vb false) rfl (ops_nil ?_)
 exact ⟨false, ⟨rfl, trivial⟩, h⟩
 have h := h.2 hb4
 iterate 3 refine opg_no ?_
 refine op_v (pv_pick (b := false) (v := vb false) rfl rfl) <| mv (vb false) rfl ?_
 iterate 5 refine opg_no ?_
 refine op_v (pv_pick (b := false) (v := vb false) rfl rfl) <| mv (vb false) rfl ?_
 iterate 5 refine opg_no ?_
 refine op_v (pv_pick (b := false) (v := vb false) rfl rfl) <| mv (vb false) rfl ?_
 iterate 6 refine opg_no ?_
 refine op_v (pv_pick (b := false) (v := vb false) rfl rfl) <| mva (vb false) rfl (ops_nil ?_)
 exact ⟨false, ⟨rfl, trivial⟩, h⟩
 have h := h.2 hb3
 iterate 2 refine opg_no ?_
 refine op_v (pv_pick (b := false) (v := vb false) rfl rfl) <| mv (vb false) rfl ?_
 iterate 3 refine opg_no ?_
 refine op_v (pv_pick (b := false) (v := vb false) rfl rfl) <| mv (vb false) rfl ?_
 iterate 5 refine opg_no ?_
 refine op_v (pv_pick (b := false) (v := vb false) rfl rfl) <| mv (vb false) rfl ?_
 iterate 5 refine opg_no ?_
 refine op_v (pv_pick (b := false) (v := vb false) rfl rfl) <| mv (vb false) rfl ?_
 iterate 6 refine opg_no ?_
 refine op_v (pv_pick (b := false) (v := vb false) rfl rfl) <| mva (vb false) rfl (ops_nil ?_)
 exact ⟨false, ⟨rfl, trivial⟩, h⟩
 rintro f w7 ⟨x12, ha, h⟩
 obtain ⟨g2, rfl⟩ := canon ha
 refine WX_ret ?_
 exact fin_of [vb x12] rfl ⟨rfl, trivial⟩ h
def sh_f9_j2 (b2 : Nat) (x1 : Int) (nxt1 : Int -> World -> Prop) (x3 : Int) (w5 : World) : Prop :=
  ld tSl w5 b2 0 fun x4 => alr 36 w5 (tU64.enc x3) fun b4 w6 => app 36 1 8 w6 x4 (Sl.mk (some ⟨b4, 0, none⟩) 1 1) fun x5 w7 => st tSl w7 b2 0 x5 fun w8 => nxt1 (IntKind.i64.wrap (x1 + 1)) w8
def sh_f9_j3 (Q : QW) (b1 : Nat) (b2 : Nat) (w9 : World) : Prop :=
  ld t_api_Config w9 b2 0 fun x6 => st t_api_Config w9 b1 0 x6 fun w10 => ld t_api_Config w10 b1 0 fun x7 => Q (t_api_Config.val x7) w10
def sh_f9_b1 (a0 : Sl) (Q : QW) (b1 : Nat) (b2 : Nat) (x1 : Int) (w4 : World) (nxt1 : Int -> World -> Prop) : Prop :=
  br (decide (x1 < 6)) (br (decide (x1 < (a0.len : Int))) (ixs a0 x1 fun b3 o1 => ld tU8 w4 b3 (o1 + (x1).toNat * 1) fun x2 => (sh_f9_j2 b2 x1 nxt1 (IntKind.u64.wrap x2) w4)) ((sh_f9_j2 b2 x1 nxt1 10 w4))) ((sh_f9_j3 Q b1 b2 w4))
def sh_f9 (a0 : Sl) (a1 : Int) (a2 : Int) (Q : QW) (w0 : World) : Prop :=
  al t_api_Config 26 w0 (⟨nilSl, 0, 0⟩ : G_api_Config) fun b1 w1 => al t_api_Config 26 w1 (⟨nilSl, 0, 0⟩ : G_api_Config) fun b2 w2 => st t_api_Config w2 b2 0 (⟨nilSl, (IntKind.i64.wrap (1 + (IntKind.i64.wrap (Int.tmod a1 4)))), (IntKind.i64.wrap (Int.tmod a2 101))⟩ : G_api_Config) fun w3 => (∃ I1 : Nat -> Int -> World -> Prop, (∃ m, I1 m 0 w3) /\ ∀ m x1 w4, I1 m x1 w4 -> sh_f9_b1 a0 Q b1 b2 x1 w4 (fun y0 w => ∃ m2, m2 < m /\ I1 m2 y0 w))
theorem so_f9 {a0 : Sl} {a1 : Int} {a2 : Int} (Q : QW) (w0 : World) (h : sh_f9 a0 a1 a2 Q w0) : CallsR PP n_f9 #[.slice a0.a a0.len a0.cap, .int .u8 a1, .int .u8 a2] Q w0 := by
 refine callsR_of_WX (args := [.slice a0.a a0.len a0.cap, .int .u8 a1, .int .u8 a2]) Try.func9 rfl Try.ntmps9 nl ?_
 refine WX_seq (WX_region ?_)
 refine op_w (pw_alloc ty_26 tz_26 ?_)
 intro b1 w1 hw1 hw2
 replace h := h b1 w1 hw1 hw2
 refine ops_nil ?_
 refine WX_seq (WX_region ?_)
 refine mv (.int .u8 a1) rfl <| op_v (pv_rem rfl rfl (by decide)) <| op_v (pv_conv us_5 uk_3 rfl) <| op_v (pv_add rfl rfl) <| mv (.int .u8 a2) rfl ?_
 refine op_v (pv_rem rfl rfl (by decide)) <| op_v (pv_conv us_5 uk_3 rfl) ?_
 refine op_v (pv_build (cs := t_api_Config.enc (⟨nilSl, (IntKind.i64.wrap (1 + (IntKind.i64.wrap (Int.tmod a1 4)))), (IntKind.i64.wrap (Int.tmod a2 101))⟩ : G_api_Config)) (vs := [(1, vi (IntKind.i64.wrap (1 + (IntKind.i64.wrap (Int.tmod a1 4))))), (2, vi (IntKind.i64.wrap (Int.tmod a2 101)))]) rfl (by kernel_rfl)) ?_
 refine op_w (pw_alloc ty_26 tz_26 ?_)
 intro b2 w2 hw3 hw4
 replace h := h b2 w2 hw3 hw4
 refine op_w (pw_st (x := (⟨nilSl, (IntKind.i64.wrap (1 + (IntKind.i64.wrap (Int.tmod a1 4)))), (IntKind.i64.wrap (Int.tmod a2 101))⟩ : G_api_Config)) ty_26 rfl rfl h.1 ?_)
 intro w3 hw5
 replace h := h.2 w3 hw5
 refine ops_nil ?_
 refine WX_join (fun f w9 => Agree f [(6, vp b1 0), (7, vp b2 0)] /\ sh_f9_j3 Q b1 b2 w9) ?_ ?_
 refine WX_seq (WX_region ?_)
 refine mva (vi 0) rfl (ops_nil ?_)
 refine WX_block ?_
 obtain ⟨I1, ⟨m, h0⟩, hB1⟩ := h
 refine WX_loop (fun m f w4 => ∃ x1 : Int, Agree f [(0, .slice a0.a a0.len a0.cap), (6, vp b1 0), (7, vp b2 0), (8, vi x1)] /\ I1 m x1 w4) ⟨m, 0, ⟨rfl, rfl, rfl, rfl, trivial⟩, h0⟩ ?_
 clear h0 m
 rintro m f w4 ⟨x1, ha, h⟩
 obtain ⟨g2, rfl⟩ := canon ha
 replace h := hB1 m x1 w4 h
 clear hB1
 generalize hn_nxt1 : (fun (y0 : Int) (w : World) => ∃ m2, m2 < m /\ I1 m2 y0 w) = nxt1 at h
 refine WX_seq ?_
 refine WX_seq (WX_region ?_)
 refine mv (vi x1) rfl <| op_v (pv_cmp (v := decide (x1 < 6)) rfl rfl rfl rfl) (ops_nil ?_)
 refine WX_cond (b := decide (x1 < 6)) rfl (fun hb1 => ?_) (fun hb1 => ?_)
 have h := h.1 hb1
 refine WX_skip <| WX_seq ?_
 refine WX_block ?_
 refine WX_seq (WX_region ?_)
 refine mva (vu 10) rfl (ops_nil ?_)
 refine WX_join (fun f w5 => ∃ x3 : Int, Agree f [(0, .slice a0.a a0.len a0.cap), (6, vp b1 0), (7, vp b2 0), (8, vi x1), (9, vu x3)] /\ sh_f9_j2 b2 x1 nxt1 x3 w5) ?_ ?_
 refine WX_seq (WX_region ?_)
 refine mv (vi x1) rfl <| mv (.slice a0.a a0.len a0.cap) rfl <| op_v (pv_lenS (s := a0) is_22 rfl) ?_
 refine op_v (pv_cmp (v := decide (x1 < (a0.len : Int))) rfl rfl rfl rfl) (ops_nil ?_)
 refine WX_cond (b := decide (x1 < (a0.len : Int))) rfl (fun hb2 => ?_) (fun hb2 => ?_)
 have h := h.1 hb2
 refine WX_region ?_
 refine mv (.slice a0.a a0.len a0.cap) rfl <| mv (vi x1) rfl ?_
 obtain ⟨b3, o1, hi1, hi2, hi3, h⟩ := h
 refine op_v (pv_ix (s := a0) ez_22 rfl rfl hi1 hi2 hi3) ?_
 obtain ⟨x2, hx2, h⟩ := h
 refine op_v (pv_ld ty_5 rfl hx2) <| op_v (pv_conv us_5 uk_36 rfl) <| mva (vu (IntKind.u64.wrap x2)) rfl (ops_nil ?_)
 exact ⟨(IntKind.u64.wrap x2), ⟨rfl, rfl, rfl, rfl, rfl, trivial⟩, h⟩
 have h := h.2 hb2
 refine WX_skip ?_
 exact ⟨10, ⟨rfl, rfl, rfl, rfl, rfl, trivial⟩, h⟩
 rintro f w5 ⟨x3, ha, h⟩
 obtain ⟨g1, rfl⟩ := canon ha
 refine WX_region ?_
 refine op_v (pv_fld fo_26_0 rfl) ?_
 obtain ⟨x4, hx4, h⟩ := h
 refine op_v (pv_ld ty_24 rfl hx4) <| mv (vu x3) rfl <| op_w (pw_buildSlice (e := 36) (cs := tU64.enc x3) (vs := [(0, vu x3)]) rfl (by kernel_rfl) ?_)
 intro b4 w6 hw6 hw7
 replace h := h b4 w6 hw6 hw7
 obtain ⟨ol1, ne1, ha1, ha2, ha3, ha4, ha5, h⟩ := h
 refine op_w (pw_append (s := x4) (r := (Sl.mk (some ⟨b4, 0, none⟩) 1 1)) eo_24 is_24 rfl rfl ha1 ha2 ha3 ha4 ha5 ?_)
 intro x5 w7 ha6
 replace h := h x5 w7 ha6
 refine op_v (pv_fld fo_26_0 rfl) <| op_w (pw_st (x := x5) ty_24 rfl rfl h.1 ?_)
 intro w8 hw8
 replace h := h.2 w8 hw8
 refine ops_nil ?_
 refine WX_region ?_
 refine mv (vi x1) rfl <| op_v (pv_add rfl rfl) <| mva (vi (IntKind.i64.wrap (x1 + 1))) rfl (ops_nil ?_)
 subst hn_nxt1
 obtain ⟨m2, hm2, h⟩ := h
 exact ⟨m2, hm2, (IntKind.i64.wrap (x1 + 1)), ⟨rfl, rfl, rfl, rfl, trivial⟩, h⟩
 have h := h.2 hb1
 refine WX_exit0 ?_
 exact ⟨⟨rfl, rfl, trivial⟩, h⟩
 rintro f w9 ⟨ha, h⟩
 obtain ⟨g3, rfl⟩ := canon ha
 refine WX_seq (WX_region ?_)
 obtain ⟨x6, hx6, h⟩ := h
 refine op_v (pv_ld ty_26 rfl hx6) <| op_w (pw_st (x := x6) ty_26 rfl rfl h.1 ?_)
 intro w10 hw9
 replace h := h.2 w10 hw9
 refine ops_nil ?_
 refine WX_ret ?_
 obtain ⟨x7, hx7, h⟩ := h
 exact fin_of [t_api_Config.val x7] rfl ⟨⟨_, _, rfl, run_loadVar ty_26 hx7⟩, trivial⟩ h
end Go.Proofs.Ytdefmgkicdhmkaa
