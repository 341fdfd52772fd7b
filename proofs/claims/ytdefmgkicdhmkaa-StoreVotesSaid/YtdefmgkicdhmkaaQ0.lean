/- What the functions do, part 0; for every memory. -/
import Derived.Calls
import Derived.Orders
import Derived.KernelRfl
import Derived.Laws.World
import Derived.Laws.Sem
import Derived.Laws.StructEq
import Derived.Test.YtdefmgkicdhmkaaProg
import Derived.Sort.AssemblyPlain
import Derived.Shelf.SlIterI.Collect
import Derived.Below
namespace Go.Sx
open Go
abbrev Fr := Nat -> Value
def upd (f : Fr) (d : Nat) (v : Value) : Fr := fun t => bif Nat.beq t d then v else f t
def updO (f : Fr) : Option Tmp -> Value -> Fr
 | some d, v => upd f d v
 | none, _ => f
def mk (n : Nat) (f : Fr) : Act := { tmps := Array.ofFn (n := n) fun i => f i.val, defers := [] }
def evF (n : Nat) (f : Fr) : Operand -> Value
 | .tmp t => bif Nat.blt t n then f t else undef
 | .const v => v
 | .global g => .pointer (some ⟨g, 0, none⟩)
 | .func k => .func (.func k) #[] #[]
theorem mk_getD (n : Nat) (f : Fr) (t : Nat) : (mk n f).tmps.getD t undef = bif Nat.blt t n then f t else undef := by
 unfold mk
 by_cases h : t < n
 ·have : Nat.blt t n = true := by simpa using h
  simp [this, h]
 ·have : Nat.blt t n = false := by
   cases hb : Nat.blt t n with
   | false => rfl
   | true => exact absurd (by simpa using hb) h
  simp [this, h]
theorem mk_eval (n : Nat) (f : Fr) : (mk n f).eval = evF n f := by
 funext x
 cases x with
 | tmp t => exact mk_getD n f t
 | const v => rfl
 | global g => rfl
 | func k => rfl
theorem mk_put (n : Nat) (f : Fr) (d : Option Tmp) (v : Value) : (mk n f).put d v = mk n (updO f d v) := by
 cases d with
 | none => rfl
 | some d =>
  show ({ tmps := _, defers := _ } : Act) = { tmps := _, defers := _ }
  refine congrArg (fun t => ({ tmps := t, defers := [] } : Act)) ?_
  show (Array.ofFn (n := n) fun i => f i.val).setIfInBounds d v = Array.ofFn (n := n) fun i => upd f d v i.val
  apply Array.ext
  ·simp
  ·intro i h1 h2
   by_cases e : d = i
   ·subst e; simp [upd]
   ·have : Nat.beq i d = false := by
     cases hb : Nat.beq i d with
     | false => rfl
     | true => exact absurd (Nat.eq_of_beq_eq_true hb).symm e
    have hi : i < (Array.ofFn (n := n) fun i => f i.val).size := by simpa using h2
    rw [Array.getElem_setIfInBounds_ne (h := e) (hj := hi)]
    simp [upd, this]
def Agree (f : Fr) : List (Nat × Value) -> Prop
 | [] => True
 | (t, v) :: r => f t = v /\ Agree f r
def upds (f : Fr) : List (Nat × Value) -> Fr
 | [] => f
 | (t, v) :: r => upd (upds f r) t v
theorem ag0 {f : Fr} : Agree f [] := trivial
theorem upd_self {f : Fr} {t : Nat} {v : Value} (h : f t = v) : upd f t v = f := by
 funext s
 unfold upd
 cases hb : Nat.beq s t with
 | false => rfl
 | true => have := Nat.eq_of_beq_eq_true hb; subst this; simp [h]
theorem upds_self {f : Fr} : ∀ {l : List (Nat × Value)}, Agree f l -> upds f l = f
 | [], _ => rfl
 | (t, v) :: r, h => by
  show upd (upds f r) t v = f
  rw [upds_self h.2]; exact upd_self h.1
theorem canon {f : Fr} {l : List (Nat × Value)} (h : Agree f l) : ∃ g, f = upds g l := ⟨f, (upds_self h).symm⟩
theorem eq_of_beq_nat {a b : Nat} (h : Nat.beq a b = true) : a = b := Nat.eq_of_beq_eq_true h
abbrev FW := Fr -> World -> Prop
def look : List (Nat × FW) -> Nat -> FW
 | [], _ => fun _ _ => False
 | (j, K) :: r, i => fun f w => bif Nat.beq i j then K f w else look r i f w
def post (n : Nat) (N : FW) (X : List (Nat × FW)) (R : FW) : Exit -> Act -> World -> Prop
 | .normal, a, w => ∃ f, a = mk n f /\ N f w
 | .ret, a, w => ∃ f, a = mk n f /\ R f w
 | .exit i, a, w => ∃ f, a = mk n f /\ look X i f w
 | _, _, _ => False
def WX (P : Program) (n : Nat) (c : Code) (N : FW) (X : List (Nat × FW)) (R : FW) (f : Fr) (w : World) : Prop :=
 c.wp P (post n N X R) (mk n f) w
section
variable {P : Program} {n : Nat} {N : FW} {X : List (Nat × FW)} {R : FW} {f : Fr} {w : World}
theorem WX_skip (h : N f w) : WX P n .skip N X R f w := wp_skip ⟨f, rfl, h⟩
theorem WX_ret (h : R f w) : WX P n .ret N X R f w := wp_ret ⟨f, rfl, h⟩
theorem WX_exit {i : Nat} (h : look X i f w) : WX P n (.exit i) N X R f w := wp_exit ⟨f, rfl, h⟩
theorem WX_exit0 {i : Nat} {K : FW} {Y : List (Nat × FW)} (h : K f w) : WX P n (.exit i) N ((i, K) :: Y) R f w := by
 refine WX_exit ?_
 simp only [look, Nat.beq_refl, cond_true]; exact h
theorem WX_exit1 {i j : Nat} {K L : FW} {Y : List (Nat × FW)} (h : K f w) (hj : Nat.beq i j = false := by exact rfl) : WX P n (.exit i) N ((j, L) :: (i, K) :: Y) R f w := by
 refine WX_exit ?_
 simp only [look, Nat.beq_refl, cond_true, hj, cond_false]; exact h
theorem WX_seq {x y : Code} (h : WX P n x (fun f w => WX P n y N X R f w) X R f w) : WX P n (.seq x y) N X R f w := by
 refine wp_seq (wp_mono h ?_)
 intro e a w' hq
 cases e with
 | normal => obtain ⟨g, rfl, hg⟩ := hq; exact hg
 | ret => exact hq
 | exit i => exact hq
 | goto l => exact hq
 | panic ch => exact hq
 | outgrown => exact hq
theorem WX_mono {c : Code} {N' : FW} (h : WX P n c N' X R f w) (hn : ∀ f w, N' f w -> N f w) : WX P n c N X R f w := by
 refine wp_mono h ?_
 intro e a w' hq
 cases e with
 | normal => obtain ⟨g, rfl, hg⟩ := hq; exact ⟨g, rfl, hn _ _ hg⟩
 | ret => exact hq
 | exit i => exact hq
 | goto l => exact hq
 | panic ch => exact hq
 | outgrown => exact hq
theorem WX_join {x y : Code} (M : FW) (h : WX P n x M X R f w) (hM : ∀ f w, M f w -> WX P n y N X R f w) : WX P n (.seq x y) N X R f w :=
 WX_seq (WX_mono h hM)
theorem WX_cond {c : Operand} {x y : Code} {b : Bool} (hc : evF n f c = .bool b) (ht : b = true -> WX P n x N X R f w) (hf : b = false -> WX P n y N X R f w) :
  WX P n (.cond c x y) N X R f w :=
 wp_cond_split (by rw [mk_eval]; exact hc) ht hf
theorem WX_condF {c : Operand} {x y : Code} (hc : evF n f c = .bool false) (ht : WX P n y N X R f w) : WX P n (.cond c x y) N X R f w :=
 wp_cond_false (by rw [mk_eval]; exact hc) ht
theorem WX_block {i : Nat} {c : Code} (h : WX P n c N ((i, N) :: X) R f w) : WX P n (.block i c) N X R f w := by
 refine wp_block (wp_mono h ?_)
 intro e a w' hq
 cases e with
 | normal => exact hq
 | ret => exact hq
 | exit j =>
  obtain ⟨g, rfl, hg⟩ := hq
  show if j = i then _ else _
  by_cases e : j = i
  ·subst e
   rw [if_pos rfl]
   simp only [look, Nat.beq_refl, cond_true] at hg
   exact ⟨g, rfl, hg⟩
  ·rw [if_neg e]
   have hb : Nat.beq j i = false := by
    cases hb : Nat.beq j i with
    | false => rfl
    | true => exact absurd (eq_of_beq_nat hb) e
   simp only [look, hb, cond_false] at hg
   exact ⟨g, rfl, hg⟩
 | goto l => exact hq
 | panic ch => exact hq
 | outgrown => exact hq
theorem WX_loop {c : Code} (I : Nat -> Fr -> World -> Prop) (h0 : ∃ m, I m f w)
  (round : ∀ m f w, I m f w -> WX P n c (fun f' w' => ∃ m', m' < m /\ I m' f' w') X R f w) : WX P n (.loop c) N X R f w := by
 obtain ⟨m, hm⟩ := h0
 intro b k cs
 have key : ∀ m f w, I m f w ->
   ∃ e a' w', post n N X R e a' w' /\ Arrives P (lone (b.at (mk n f) (.code c :: .inLoop c :: k)) cs w) b k cs e a' w' := by
  intro m
  induction m using Nat.strongRecOn with
  | _ m ih =>
   intro f w hI
   obtain ⟨e, a₁, w₁, hq, harr⟩ := round m f w hI b (.inLoop c :: k) cs
   cases e with
   | normal =>
    obtain ⟨g, rfl, m', hlt, hI₁⟩ := hq
    obtain ⟨e₂, a₂, w₂, hq₂, harr₂⟩ := ih m' hlt g w₁ hI₁
    exact ⟨e₂, a₂, w₂, hq₂, .of_steps (Steps.trans harr (.one step_inLoop)) harr₂⟩
   | exit id => exact ⟨.exit id, a₁, w₁, hq, .pass (x := .inLoop c) rfl (fun _ _ => .inl (by simp)) harr⟩
   | goto l => exact hq.elim
   | ret => exact ⟨.ret, a₁, w₁, hq, .pass (x := .inLoop c) rfl (fun _ _ => .inl (by simp)) harr⟩
   | panic ch => exact hq.elim
   | outgrown => exact hq.elim
 obtain ⟨e, a', w', hq, harr⟩ := key m f w hm
 exact ⟨e, a', w', hq, .of_steps (.one step_loop) harr⟩
end
def CallsR (P : Program) (k : FuncId) (args : Array Value) (Q : Value -> World -> Prop) (w : World) : Prop :=
 Calls P k args w fun e w' => ∃ v, e = .returned v /\ Q v w'
theorem CallsR.mono {P : Program} {k : FuncId} {args : Array Value} {Q Q' : Value -> World -> Prop} {w : World} (h : CallsR P k args Q w)
  (hq : ∀ v w', Q v w' -> Q' v w') : CallsR P k args Q' w :=
 Calls.mono h fun _ _ ⟨v, he, hv⟩ => ⟨v, he, hq _ _ hv⟩
def OpW (P : Program) (n : Nat) (o : Oper) (f : Fr) (w : World) (K : Value -> World -> Prop) : Prop :=
 match (execOp (evF n f) o).run P w with
 | .ok (.value v) w' => K v w'
 | .ok .skip w' => K undef w'
 | .ok (.enter g args) w' => CallsR P g args K w'
 | _ => False
theorem OpW.wp {P : Program} {n : Nat} {o : Oper} {f : Fr} {w : World} {K : Value -> World -> Prop} (h : OpW P n o f w K)
  {next : Act -> World -> Prop} {Q : Exit -> Act -> World -> Prop} (hk : ∀ v w', K v w' -> next ((mk n f).put o.dst v) w') : o.wp P (mk n f) w next Q := by
 unfold OpW at h
 unfold Oper.wp
 rw [mk_eval]
 generalize (execOp (evF n f) o).run P w = r at h
 cases r with
 | halt x w' => exact h.elim
 | ok x w' =>
  cases x with
  | value v => exact hk _ _ h
  | skip => exact hk _ _ h
  | enter g args =>
   show Calls P g args w' _
   refine Calls.mono h ?_
   rintro e w'' ⟨v, rfl, hv⟩
   exact hk _ _ hv
  | _ => exact h.elim
def OpV (P : Program) (n : Nat) (o : Oper) (f : Fr) (w : World) (v : Value) : Prop :=
 (execOp (evF n f) o).run P w = .ok (.value v) w
theorem OpV.w {P : Program} {n : Nat} {o : Oper} {f : Fr} {w : World} {v : Value} (h : OpV P n o f w v) {K : Value -> World -> Prop} (hk : K v w) : OpW P n o f w K := by
 unfold OpW; rw [h]; exact hk
def wantF (n : Nat) (R0 : Array Oper) (f : Fr) : Option (Nat × Bool) -> Bool
 | none => true
 | some (j, b) => match (R0[j]?).bind (·.dst) with
  | some d => match evF n f (.tmp d) with
   | .bool c => c == b
   | _ => false
  | none => false
theorem wanted_mk (n : Nat) (R0 : Array Oper) (f : Fr) (o : Oper) : Region.wanted o (yielded R0 (mk n f).tmps) = wantF n R0 f o.guard := by
 unfold Region.wanted wantF
 cases o.guard with
 | none => rfl
 | some p =>
  obtain ⟨j, b⟩ := p
  show (yielded R0 (mk n f).tmps j == some b) = match (R0[j]?).bind (·.dst) with
   | some d => match evF n f (.tmp d) with
    | .bool c => c == b
    | _ => false
   | none => false
  unfold yielded
  cases hd : (R0[j]?).bind (·.dst) with
  | none => simp
  | some d =>
   have hg : (mk n f).tmps[d]? = if d < n then some (f d) else none := by
    unfold mk
    by_cases h : d < n
    ·simp [h]
    ·simp [h]
   by_cases h : d < n
   ·have hb : Nat.blt d n = true := by simpa using h
    simp only [Option.bind_some, hg, if_pos h, evF, hb, cond_true]
    cases f d <;> simp
   ·have hb : Nat.blt d n = false := by
     cases hb : Nat.blt d n with
     | false => rfl
     | true => exact absurd (by simpa using hb) h
    simp only [Option.bind_some, hg, if_neg h, evF, hb, cond_false]
    rfl
def OpsL (P : Program) (n : Nat) (R0 : Array Oper) (K : FW) : List Oper -> FW
 | [], f, w => K f w
 | o :: os, f, w => bif wantF n R0 f o.guard then OpW P n o f w (fun v w' => OpsL P n R0 K os (updO f o.dst v) w') else OpsL P n R0 K os (updO f o.dst undef) w
section
variable {P : Program} {n : Nat} {N : FW} {X : List (Nat × FW)} {R : FW} {f : Fr} {w : World} {R0 : Array Oper} {K : FW} {o : Oper} {os : List Oper}
theorem wpOps_of_OpsL : ∀ (l : List Oper) (i : Nat), (∀ j, j < l.length -> R0[i + j]? = l[j]?) -> ∀ f w, OpsL P n R0 N l f w ->
  wpOps P R0 (post n N X R) (List.range' i l.length) (mk n f) w := by
 intro l
 induction l with
 | nil => intro i _ f w h; exact ⟨f, rfl, h⟩
 | cons o os ih =>
  intro i hi f w h
  have h0 : R0[i]? = some o := by simpa using hi 0 (by simp)
  have hr : ∀ j, j < os.length -> R0[i + 1 + j]? = os[j]? := fun j hj => by
   have := hi (j + 1) (by simpa using hj)
   rw [show i + 1 + j = i + (j + 1) from by omega, this]; simp
  simp only [List.length_cons, List.range'_succ, wpOps, h0]
  rw [wanted_mk]
  unfold OpsL at h
  cases hw : wantF n R0 f o.guard with
  | true =>
   rw [hw] at h
   simp only [cond_true] at h
   rw [if_pos rfl]
   left
   refine h.wp ?_
   intro v w' hv
   rw [mk_put]
   exact ih (i + 1) hr _ _ hv
  | false =>
   rw [hw] at h
   simp only [cond_false] at h
   rw [if_neg (by simp), mk_put]
   exact ih (i + 1) hr _ _ h
theorem WX_region {id : Nat} {l : List Oper} (h : OpsL P n l.toArray N l f w) : WX P n (.region id l.toArray false) N X R f w := by
 refine wp_region ?_
 have := wpOps_of_OpsL (P := P) (n := n) (N := N) (X := X) (R := R) (R0 := l.toArray) l 0 (by intro j _; simp) f w h
 rw [List.range_eq_range']
 simpa using this
theorem ops_nil (h : K f w) : OpsL P n R0 K [] f w := h
theorem ops_w (hg : wantF n R0 f o.guard = true) (h : OpW P n o f w fun v w' => OpsL P n R0 K os (updO f o.dst v) w') : OpsL P n R0 K (o :: os) f w := by
 unfold OpsL; rw [hg]; exact h
theorem ops_v {v : Value} (hv : OpV P n o f w v) (h : OpsL P n R0 K os (updO f o.dst v) w) (hg : wantF n R0 f o.guard = true := by exact rfl) : OpsL P n R0 K (o :: os) f w :=
 ops_w hg (hv.w h)
theorem op_v {d : Option Tmp} {op : Op} {ty : TypeId} {ps : String} {af : Array Edge} {v : Value} (hv : OpV P n ⟨d, op, ty, ps, af, none⟩ f w v) (h : OpsL P n R0 K os (updO f d v) w) :
  OpsL P n R0 K (⟨d, op, ty, ps, af, none⟩ :: os) f w := ops_v hv h
theorem op_w {d : Option Tmp} {op : Op} {ty : TypeId} {ps : String} {af : Array Edge} (h : OpW P n ⟨d, op, ty, ps, af, none⟩ f w fun v w' => OpsL P n R0 K os (updO f d v) w') :
  OpsL P n R0 K (⟨d, op, ty, ps, af, none⟩ :: os) f w := ops_w rfl h
theorem opg_v {d : Option Tmp} {op : Op} {ty : TypeId} {ps : String} {af : Array Edge} {g : Nat × Bool} {v : Value} (hv : OpV P n ⟨d, op, ty, ps, af, some g⟩ f w v) (h : OpsL P n R0 K os (updO f d v) w)
  (hg : wantF n R0 f (some g) = true := by exact rfl) : OpsL P n R0 K (⟨d, op, ty, ps, af, some g⟩ :: os) f w := ops_v hv h hg
theorem opg_w {d : Option Tmp} {op : Op} {ty : TypeId} {ps : String} {af : Array Edge} {g : Nat × Bool} (h : OpW P n ⟨d, op, ty, ps, af, some g⟩ f w fun v w' => OpsL P n R0 K os (updO f d v) w')
  (hg : wantF n R0 f (some g) = true := by exact rfl) : OpsL P n R0 K (⟨d, op, ty, ps, af, some g⟩ :: os) f w := ops_w hg h
theorem opg_no {d : Option Tmp} {op : Op} {ty : TypeId} {ps : String} {af : Array Edge} {g : Nat × Bool} (h : OpsL P n R0 K os (updO f d undef) w)
  (hg : wantF n R0 f (some g) = false := by exact rfl) : OpsL P n R0 K (⟨d, op, ty, ps, af, some g⟩ :: os) f w := by
 unfold OpsL; rw [hg]; exact h
theorem ops_split (d : Nat) {b : Bool} {l : List Oper} (hd : f d = .bool b) (ht : b = true -> OpsL P n R0 K l (upd f d (.bool true)) w)
  (hf : b = false -> OpsL P n R0 K l (upd f d (.bool false)) w) : OpsL P n R0 K l f w := by
 cases b with
 | true => have := ht rfl; rwa [upd_self hd] at this
 | false => have := hf rfl; rwa [upd_self hd] at this
end
def argF (l : List Value) : Fr := fun t => l.getD t undef
def fin (P : Program) (fn : Func) (n : Nat) (Q : Value -> World -> Prop) : FW := fun f w => ∃ v, (results fn (mk n f).tmps).run P w = .ok v w /\ Q v w
theorem callsR_of_WX {P : Program} {k : FuncId} {fn : Func} {c : Code} {n : Nat} {args : List Value} {w : World} {Q : Value -> World -> Prop}
  (hf : P.funcs[k]? = some fn) (hb : fn.body = some c) (hn : fn.ntmps = n) (hl : args.length <= n)
  (h : WX P n c (fin P fn n Q) [] (fin P fn n Q) (argF args) w) : CallsR P k args.toArray Q w := by
 refine calls_of_wp hf hb ?_
 have e : ({ tmps := args.toArray ++ Array.replicate (fn.ntmps - args.toArray.size) undef, defers := [] } : Act) = mk n (argF args) := by
  unfold mk
  congr 1
  subst hn
  apply Array.ext
  ·simp; omega
  ·intro i h1 h2
   simp only [Array.getElem_append, Array.getElem_ofFn, argF, List.size_toArray, List.getElem_toArray, Array.getElem_replicate]
   split
   ·rename_i hi; simp [hi]
   ·rename_i hi; simp [hi]
 rw [e]
 refine wp_mono h ?_
 intro e a w' hq
 cases e with
 | normal =>
  obtain ⟨g, rfl, v, hr, hv⟩ := hq
  exact ⟨rfl, v, hr, v, rfl, hv⟩
 | ret =>
  obtain ⟨g, rfl, v, hr, hv⟩ := hq
  exact ⟨rfl, v, hr, v, rfl, hv⟩
 | exit i => obtain ⟨g, rfl, hg⟩ := hq; exact hg.elim
 | goto l => exact hq.elim
 | panic ch => exact hq.elim
 | outgrown => exact hq.elim
end Go.Sx
namespace Go.Sx
open Go
def vg (V : List Value) (k : Nat) : Value := V.getD k undef
def fV (f0 : Fr) : List Oper -> Nat -> List Value -> Fr
 | [], _, _ => f0
 | o :: os, k, V => updO (fV f0 os (k + 1) V) o.dst (vg V k)
def putV : List Value -> List Nat -> List Value -> List Value
 | V, i :: is, v :: vs => putV (V.set i v) is vs
 | V, _, _ => V
structure Node where
 done : List Nat
 pu : List Nat
 rd : List Nat
 ch : List (Nat × List Nat × Nat)
structure Plan where
 needs : List (List Nat)
 musts : List (List Nat)
 e : List Nat
 pure : List Nat
 nodes : List Node
def depsOf (o : Oper) : List Nat := (o.after.toList.filter (Region.binds .any)).map (·.on)
def slotsOf (l : List Oper) (o : Oper) : List Nat :=
  (o.op.operands.toList.filterMap fun | .tmp t => some t | _ => none) ++
  (match o.guard with
   | some (g, _) => ((l[g]?).bind (·.dst)).toList
   | none => [])
def isSelect : Op -> Bool
 | .select .. => true
 | _ => false
def Plan.nd (p : Plan) (i : Nat) : List Nat := p.needs.getD i []
def Plan.ms (p : Plan) (i : Nat) : List Nat := p.musts.getD i []
def subB (a b : List Nat) : Bool := a.all fun x => b.contains x
def Plan.okAt (p : Plan) (l : List Oper) (i : Nat) (o : Oper) : Bool :=
  (depsOf o).all (fun k => decide (k < i)) &&
  (depsOf o).all (fun k => subB (p.nd k) (p.nd i) && (!p.e.contains k || (p.nd i).contains k)) &&
  (p.nd i).all (fun x => (depsOf o).any fun k => (k == x && p.e.contains k) || (p.nd k).contains x) &&
  (p.ms i).all (fun x => l.zipIdx.any fun (y, j) => decide (i < j) && (depsOf y).contains i && (j == x || (p.ms j).contains x)) &&
  (match o.dst with
   | some d => l.zipIdx.all fun (x, j) => x.dst != some d || i == j
   | none => true) &&
  (slotsOf l o).all (fun t => l.zipIdx.all fun (x, k) => x.dst != some t || i == k || (decide (k < i) && (depsOf o).contains k) || (decide (i < k) && (depsOf x).contains i)) &&
  !isSelect o.op
def Plan.okNode (p : Plan) (l : List Oper) (nd : Node) : Bool :=
  p.e.all (fun i => nd.done.contains i || !subB (p.nd i) nd.done || nd.ch.any fun c => c.1 == i) &&
  nd.ch.all (fun c => p.e.contains c.1 && !nd.done.contains c.1 && decide (c.1 < l.length) &&
    (match p.nodes[c.2.2]? with | some n' => n'.done == c.1 :: nd.done | none => false) &&
    c.2.1.head? == some c.1 && c.2.1.tail.all (fun k => !p.e.contains k && k != c.1 && (p.nd k).contains c.1)) &&
  l.zipIdx.all (fun (_, i) => p.e.contains i || !subB (p.nd i) nd.done ||
    (if p.pure.contains i then (match nd.done with | [] => nd.pu.contains i | x :: _ => !(p.nd i).contains x || nd.pu.contains i)
     else nd.rd.contains i || nd.done.any fun x => (p.ms i).contains x))
def Plan.ok (p : Plan) (l : List Oper) : Bool :=
 l.zipIdx.all (fun (o, i) => p.okAt l i o) && p.nodes.all (fun nd => p.okNode l nd) && (match p.nodes[0]? with | some nd => nd.done == [] | none => false)
section
variable (P : Program) (n : Nat) (l : List Oper) (f0 : Fr) (N : FW)
def OpOk (V : List Value) (w : World) (i : Nat) : Prop :=
 match l[i]? with
 | none => False
 | some o => (wantF n l.toArray (fV f0 (l.take i) 0 V) o.guard = true /\ OpV P n o (fV f0 (l.take i) 0 V) w (vg V i)) \/ (wantF n l.toArray (fV f0 (l.take i) 0 V) o.guard = false /\ vg V i = undef)
def AllOk (V : List Value) (w : World) : List Nat -> Prop
 | [] => True
 | i :: r => OpOk P n l f0 V w i /\ AllOk V w r
def AllPu (V : List Value) : List Nat -> Prop
 | [] => True
 | i :: r => (∀ w, OpOk P n l f0 V w i) /\ AllPu V r
def StepE (V : List Value) (w : World) (i : Nat) (K : Value -> World -> Prop) : Prop :=
 match l[i]? with
 | none => False
 | some o => (wantF n l.toArray (fV f0 (l.take i) 0 V) o.guard = true /\ OpW P n o (fV f0 (l.take i) 0 V) w K) \/ (wantF n l.toArray (fV f0 (l.take i) 0 V) o.guard = false /\ K undef w)
def AllCh (V : List Value) (w : World) (D : Nat -> List Value -> World -> Prop) : List (Nat × List Nat × Nat) -> Prop
 | [] => True
 | (i, nw, q) :: r => (StepE P n l f0 V w i fun v w' => ∃ vs, nw.length = vs.length + 1 /\ i < V.length /\ D q (putV V nw (v :: vs)) w') /\ AllCh V w D r
def Draw (nodes : List Node) : Nat -> Nat -> List Value -> World -> Prop
 | 0, _, _, _ => False
 | k + 1, q, V, w => match nodes[q]? with
  | none => False
  | some nd => AllPu P n l f0 V nd.pu /\ AllOk P n l f0 V w nd.rd /\ AllCh P n l f0 V w (Draw nodes k) nd.ch /\ (nd.ch = [] -> N (fV f0 l 0 V) w)
end
theorem vg_putV : ∀ (nw : List Nat) (vs V : List Value) (k : Nat), k ∉ nw -> vg (putV V nw vs) k = vg V k
 | [], vs, _, _, _ => by cases vs <;> rfl
 | i :: is, [], _, _, _ => rfl
 | i :: is, v :: vs, V, k, h => by
  show vg (putV (V.set i v) is vs) k = _
  rw [vg_putV is vs _ k (fun hk => h (List.mem_cons_of_mem _ hk))]
  have : i ≠ k := fun e => h (e ▸ List.mem_cons_self)
  simp [vg, List.getElem?_set_ne this]
theorem vg_putV_head (i : Nat) (is : List Nat) (v : Value) (vs V : List Value) (hn : i ∉ is) (hl : i < V.length) : vg (putV V (i :: is) (v :: vs)) i = v := by
 show vg (putV (V.set i v) is vs) i = v
 rw [vg_putV is vs _ i hn]
 simp [vg, hl]
theorem all_zipIdx {α : Type} {l : List α} {q : α × Nat -> Bool} (h : l.zipIdx.all q = true) (i : Nat) (o : α) (ho : l[i]? = some o) : q (o, i) = true := by
 rw [List.all_eq_true] at h
 exact h (o, i) (List.mk_mem_zipIdx_iff_getElem?.2 ho)
structure Plan.Good (p : Plan) (l : List Oper) : Prop where
 back : ∀ (i : Nat) (o : Oper), l[i]? = some o -> ∀ k ∈ depsOf o, k < i
 n1 : ∀ (i : Nat) (o : Oper), l[i]? = some o -> ∀ k ∈ depsOf o, (∀ x ∈ p.nd k, x ∈ p.nd i) /\ (k ∈ p.e -> k ∈ p.nd i)
 n2 : ∀ (i : Nat) (o : Oper), l[i]? = some o -> ∀ x ∈ p.nd i, ∃ k ∈ depsOf o, (k = x /\ k ∈ p.e) \/ x ∈ p.nd k
 m : ∀ (i : Nat) (o : Oper), l[i]? = some o -> ∀ x ∈ p.ms i, ∃ (j : Nat) (y : Oper), l[j]? = some y /\ i < j /\ i ∈ depsOf y /\ (j = x \/ x ∈ p.ms j)
 dst : ∀ (i : Nat) (o : Oper) d, l[i]? = some o -> o.dst = some d -> ∀ (k : Nat) (x : Oper), l[k]? = some x -> x.dst = some d -> i = k
 slot : ∀ (i : Nat) (o : Oper), l[i]? = some o -> ∀ t ∈ slotsOf l o, ∀ (k : Nat) (x : Oper), l[k]? = some x -> x.dst = some t -> i = k \/ (k < i /\ k ∈ depsOf o) \/ (i < k /\ i ∈ depsOf x)
 sel : ∀ (i : Nat) (o : Oper), l[i]? = some o -> isSelect o.op = false
 na : ∀ (q : Nat) (nd : Node), p.nodes[q]? = some nd -> ∀ i ∈ p.e, i ∈ nd.done \/ (¬ ∀ x ∈ p.nd i, x ∈ nd.done) \/ ∃ c ∈ nd.ch, c.1 = i
 nb : ∀ (q : Nat) (nd : Node), p.nodes[q]? = some nd -> ∀ c ∈ nd.ch, c.1 ∈ p.e /\ c.1 ∉ nd.done /\ c.1 < l.length /\ (∃ n', p.nodes[c.2.2]? = some n' /\ n'.done = c.1 :: nd.done) /\
  c.2.1.head? = some c.1 /\ ∀ k ∈ c.2.1.tail, k ∉ p.e /\ k ≠ c.1 /\ c.1 ∈ p.nd k
 nc : ∀ (q : Nat) (nd : Node), p.nodes[q]? = some nd -> ∀ (i : Nat) (o : Oper), l[i]? = some o -> i ∈ p.e \/ (¬ ∀ x ∈ p.nd i, x ∈ nd.done) \/
  (i ∈ p.pure /\ ((nd.done = [] /\ i ∈ nd.pu) \/ ∃ x r, nd.done = x :: r /\ (x ∉ p.nd i \/ i ∈ nd.pu))) \/ (i ∉ p.pure /\ (i ∈ nd.rd \/ ∃ x ∈ nd.done, x ∈ p.ms i))
 root : ∃ nd, p.nodes[0]? = some nd /\ nd.done = []
theorem subB_iff {a b : List Nat} : subB a b = true ↔ ∀ x ∈ a, x ∈ b := by
 unfold subB
 rw [List.all_eq_true]
 exact ⟨fun h x hx => by simpa using h x hx, fun h x hx => by simpa using h x hx⟩
theorem Plan.good {p : Plan} {l : List Oper} (h : p.ok l = true) : p.Good l := by
 unfold Plan.ok at h
 simp only [Bool.and_eq_true] at h
 obtain ⟨⟨h1, h2⟩, h3⟩ := h
 have g : ∀ i o, l[i]? = some o -> p.okAt l i o = true := fun i o ho => all_zipIdx h1 i o ho
 have gn : ∀ (q : Nat) nd, p.nodes[q]? = some nd -> p.okNode l nd = true := fun q nd hq => by
  rw [List.all_eq_true] at h2
  exact h2 nd (List.mem_of_getElem? hq)
 simp only [Plan.okAt, Bool.and_eq_true] at g
 simp only [Plan.okNode, Bool.and_eq_true] at gn
 refine ⟨?_, ?_, ?_, ?_, ?_, ?_, ?_, ?_, ?_, ?_, ?_⟩
 ·intro i o ho k hk
  have := (g i o ho).1.1.1.1.1.1
  rw [List.all_eq_true] at this
  exact of_decide_eq_true (this k hk)
 ·intro i o ho k hk
  have := (g i o ho).1.1.1.1.1.2
  rw [List.all_eq_true] at this
  have := this k hk
  simp only [Bool.and_eq_true, Bool.or_eq_true, Bool.not_eq_true'] at this
  refine ⟨subB_iff.1 this.1, fun hke => ?_⟩
  rcases this.2 with h | h
  ·have hc : p.e.contains k = true := by simpa using hke
   rw [hc] at h; exact absurd h (by simp)
  ·simpa using h
 ·intro i o ho x hx
  have := (g i o ho).1.1.1.1.2
  rw [List.all_eq_true] at this
  have := this x hx
  rw [List.any_eq_true] at this
  obtain ⟨k, hk, hd⟩ := this
  refine ⟨k, hk, ?_⟩
  simp only [Bool.or_eq_true, Bool.and_eq_true, beq_iff_eq] at hd
  rcases hd with h | h
  ·exact .inl ⟨h.1, by simpa using h.2⟩
  ·exact .inr (by simpa using h)
 ·intro i o ho x hx
  have := (g i o ho).1.1.1.2
  rw [List.all_eq_true] at this
  have := this x hx
  rw [List.any_eq_true] at this
  obtain ⟨⟨y, j⟩, hy, hd⟩ := this
  simp only [Bool.and_eq_true, Bool.or_eq_true, decide_eq_true_eq, beq_iff_eq] at hd
  exact ⟨j, y, List.mk_mem_zipIdx_iff_getElem?.1 hy, hd.1.1, by simpa using hd.1.2, hd.2.imp id fun h => by simpa using h⟩
 ·intro i o d ho hd k x hk hx
  have := (g i o ho).1.1.2
  rw [hd] at this
  have := all_zipIdx this k x hk
  simp only [hx, Bool.or_eq_true, beq_iff_eq] at this
  simpa using this
 ·intro i o ho t ht k x hk hx
  have := (g i o ho).1.2
  rw [List.all_eq_true] at this
  have := all_zipIdx (this t ht) k x hk
  simp only [hx, Bool.or_eq_true, Bool.and_eq_true, beq_iff_eq, decide_eq_true_eq, bne_self_eq_false, Bool.false_eq_true, false_or] at this
  rcases this with (h | h) | h
  ·exact .inl h
  ·exact .inr (.inl ⟨h.1, by simpa using h.2⟩)
  ·exact .inr (.inr ⟨h.1, by simpa using h.2⟩)
 ·intro i o ho
  simpa using (g i o ho).2
 ·intro q nd hq i hi
  have := (gn q nd hq).1.1
  rw [List.all_eq_true] at this
  have := this i hi
  simp only [Bool.or_eq_true, Bool.not_eq_true'] at this
  rcases this with (h | h) | h
  ·exact .inl (by simpa using h)
  ·refine .inr (.inl fun hs => ?_)
   rw [subB_iff.2 hs] at h; exact absurd h (by simp)
  ·rw [List.any_eq_true] at h
   obtain ⟨c, hc, he⟩ := h
   exact .inr (.inr ⟨c, hc, by simpa using he⟩)
 ·intro q nd hq c hc
  have := (gn q nd hq).1.2
  rw [List.all_eq_true] at this
  have := this c hc
  simp only [Bool.and_eq_true, Bool.not_eq_true', decide_eq_true_eq, beq_iff_eq] at this
  obtain ⟨⟨⟨⟨⟨a1, a2⟩, a3⟩, a4⟩, a5⟩, a6⟩ := this
  refine ⟨by simpa using a1, fun hm => ?_, a3, ?_, a5, ?_⟩
  ·have : nd.done.contains c.1 = true := by simpa using hm
   rw [this] at a2; exact absurd a2 (by simp)
  ·cases hn : p.nodes[c.2.2]? with
   | none => rw [hn] at a4; exact absurd a4 (by simp)
   | some n' => rw [hn] at a4; exact ⟨n', rfl, by simpa using a4⟩
  ·intro k hk
   rw [List.all_eq_true] at a6
   have := a6 k hk
   simp only [Bool.and_eq_true, Bool.not_eq_true', bne_iff_ne] at this
   refine ⟨fun hm => ?_, this.1.2, by simpa using this.2⟩
   have hc : p.e.contains k = true := by simpa using hm
   rw [hc] at this; exact absurd this.1.1 (by simp)
 ·intro q nd hq i o ho
  have := all_zipIdx (gn q nd hq).2 i o ho
  simp only [Bool.or_eq_true, Bool.not_eq_true'] at this
  rcases this with (h | h) | h
  ·exact .inl (by simpa using h)
  ·refine .inr (.inl fun hs => ?_)
   rw [subB_iff.2 hs] at h; exact absurd h (by simp)
  ·right; right
   by_cases hp : p.pure.contains i = true
   ·rw [if_pos hp] at h
    refine .inl ⟨by simpa using hp, ?_⟩
    cases hd : nd.done with
    | nil => rw [hd] at h; exact .inl ⟨rfl, by simpa using h⟩
    | cons x r =>
     rw [hd] at h
     simp only [Bool.or_eq_true, Bool.not_eq_true'] at h
     refine .inr ⟨x, r, rfl, ?_⟩
     rcases h with h | h
     ·refine .inl fun hm => ?_
      have : (p.nd i).contains x = true := by simpa using hm
      rw [this] at h; exact absurd h (by simp)
     ·exact .inr (by simpa using h)
   ·rw [if_neg hp] at h
    refine .inr ⟨fun hm => hp (by simpa using hm), ?_⟩
    simp only [Bool.or_eq_true] at h
    rcases h with h | h
    ·exact .inl (by simpa using h)
    ·rw [List.any_eq_true] at h
     obtain ⟨x, hx, hm⟩ := h
     exact .inr ⟨x, hx, by simpa using hm⟩
 ·cases hn : p.nodes[0]? with
  | none => rw [hn] at h3; exact absurd h3 (by simp)
  | some nd => rw [hn] at h3; exact ⟨nd, rfl, by simpa using h3⟩
theorem fV_miss {f0 : Fr} {V : List Value} {t : Nat} : ∀ (l : List Oper) (i : Nat), (∀ (k : Nat) (o : Oper), l[k]? = some o -> o.dst ≠ some t) -> fV f0 l i V t = f0 t
 | [], _, _ => rfl
 | o :: os, i, h => by
  have ho : o.dst ≠ some t := h 0 o rfl
  have hr := fV_miss (f0 := f0) (V := V) os (i + 1) fun k x hx => h (k + 1) x hx
  show updO (fV f0 os (i + 1) V) o.dst (vg V i) t = f0 t
  cases hd : o.dst with
  | none => exact hr
  | some d =>
   have hb : Nat.beq t d = false := by
    cases hb : Nat.beq t d with
    | false => rfl
    | true => exact absurd (by rw [hd, eq_of_beq_nat hb]) ho
   show (bif Nat.beq t d then _ else _) = _
   rw [hb]; exact hr
theorem fV_hit {f0 : Fr} {V : List Value} {t : Nat} : ∀ (l : List Oper) (i k : Nat) (o : Oper), l[k]? = some o -> o.dst = some t ->
  (∀ (j : Nat) (x : Oper), l[j]? = some x -> x.dst = some t -> j = k) -> fV f0 l i V t = vg V (i + k)
 | [], _, _, _, h, _, _ => by simp at h
 | x :: os, i, k, o, h, hd, hu => by
  show updO (fV f0 os (i + 1) V) x.dst (vg V i) t = _
  cases k with
  | zero =>
   obtain rfl : x = o := by simpa using h
   rw [hd]
   show (bif Nat.beq t t then _ else _) = _
   rw [Nat.beq_refl]; rfl
  | succ k =>
   have hr := fV_hit (f0 := f0) (V := V) os (i + 1) k o (by simpa using h) hd fun j y hy hyd => by
    have := hu (j + 1) y (by simpa using hy) hyd; omega
   have hx : x.dst ≠ some t := fun e => by have := hu 0 x rfl e; omega
   cases hxd : x.dst with
   | none => rw [show i + (k + 1) = i + 1 + k from by omega]; exact hr
   | some d =>
    have hb : Nat.beq t d = false := by
     cases hb : Nat.beq t d with
     | false => rfl
     | true => exact absurd (by rw [hxd, eq_of_beq_nat hb]) hx
    show (bif Nat.beq t d then _ else _) = _
    rw [hb, show i + (k + 1) = i + 1 + k from by omega]; exact hr
theorem evF_congr {n : Nat} {f g : Fr} {x : Operand} (h : ∀ t, x = .tmp t -> f t = g t) : evF n f x = evF n g x := by
 cases x with
 | tmp t => show (bif Nat.blt t n then f t else undef) = _; rw [h t rfl]; rfl
 | _ => rfl
theorem opSame {n : Nat} {l : List Oper} {o : Oper} {f g : Fr} (hs : isSelect o.op = false) (h : ∀ t ∈ slotsOf l o, f t = g t) :
  execOp (evF n f) o = execOp (evF n g) o /\ wantF n l.toArray f o.guard = wantF n l.toArray g o.guard := by
 constructor
 ·refine execOp_congr o (fun cs b e => ?_) fun x hx => evF_congr fun t ht => ?_
  ·rw [e] at hs; simp [isSelect] at hs
  ·refine h t ?_
   subst ht
   unfold slotsOf
   refine List.mem_append.2 (.inl ?_)
   rw [List.mem_filterMap]
   exact ⟨.tmp t, by simpa using hx, rfl⟩
 ·unfold wantF
  cases hg : o.guard with
  | none => rfl
  | some p =>
   obtain ⟨j, b⟩ := p
   show (match (l.toArray[j]?).bind (·.dst) with
    | some d => match evF n f (.tmp d) with
     | .bool c => c == b
     | _ => false
    | none => false) = (match (l.toArray[j]?).bind (·.dst) with
    | some d => match evF n g (.tmp d) with
     | .bool c => c == b
     | _ => false
    | none => false)
   cases hd : (l.toArray[j]?).bind (·.dst) with
   | none => rfl
   | some d =>
    have hm : f d = g d := by
     refine h d ?_
     unfold slotsOf
     refine List.mem_append.2 (.inr ?_)
     rw [hg]
     simp only [List.getElem?_toArray] at hd
     simp [hd]
    have := evF_congr (n := n) (f := f) (g := g) (x := .tmp d) fun t ht => by injection ht with ht; subst ht; exact hm
    simp only [this]
theorem mem_depsOf {o : Oper} {k : Nat} : k ∈ depsOf o ↔ ∃ e ∈ o.after, Region.binds .any e = true /\ e.on = k := by
 unfold depsOf
 simp only [List.mem_map, List.mem_filter]
 constructor
 ·rintro ⟨e, ⟨h1, h2⟩, h3⟩; exact ⟨e, by simpa using h1, h2, h3⟩
 ·rintro ⟨e, h1, h2, h3⟩; exact ⟨e, ⟨by simpa using h1, h2⟩, h3⟩
theorem mem_ready {l : List Oper} {listed : Array Bool} {i : Nat} : i ∈ Region.ready .any l.toArray listed ↔
  ∃ o, l[i]? = some o /\ listed.getD i true = false /\ ∀ k ∈ depsOf o, listed.getD k false = true := by
 unfold Region.ready
 simp only [List.mem_filter, List.mem_range, Bool.and_eq_true, Bool.not_eq_true']
 constructor
 ·rintro ⟨h1, h2, h3⟩
  have hi : i < l.length := by simpa using h1
  refine ⟨l[i], by simp [hi], h2, ?_⟩
  simp only [List.getElem?_toArray, List.getElem?_eq_getElem hi, Option.map_some, Option.getD_some, Array.all_eq_true_iff_forall_mem, Bool.or_eq_true, Bool.not_eq_true'] at h3
  intro k hk
  obtain ⟨e, he, hb, rfl⟩ := mem_depsOf.1 hk
  rcases h3 e he with h | h
  ·rw [hb] at h; exact absurd h (by simp)
  ·exact h
 ·rintro ⟨o, ho, h2, h3⟩
  have hi : i < l.length := (List.getElem?_eq_some_iff.1 ho).1
  refine ⟨by simpa using hi, h2, ?_⟩
  simp only [List.getElem?_toArray, ho, Option.map_some, Option.getD_some, Array.all_eq_true_iff_forall_mem, Bool.or_eq_true, Bool.not_eq_true']
  intro e he
  cases hb : Region.binds .any e with
  | false => exact .inl rfl
  | true => exact .inr (h3 _ (mem_depsOf.2 ⟨e, he, hb, rfl⟩))
section
variable {P : Program} {n : Nat} {l : List Oper} {f0 : Fr} {N : FW} {X : List (Nat × FW)} {R : FW} {p : Plan}
structure Inv (P : Program) (n : Nat) (l : List Oper) (f0 : Fr) (N : FW) (p : Plan) (listed : Array Bool) (nd : Node) (V : List Value) (f : Fr) (w : World) : Prop where
 size : listed.size = l.length
 node : ∃ q : Nat, p.nodes[q]? = some nd
 d1 : ∀ i ∈ nd.done, listed[i]? = some true
 d2 : ∀ i ∈ p.e, listed[i]? = some true -> i ∈ nd.done
 i1 : ∀ i, listed[i]? = some true -> ∀ x ∈ p.nd i, x ∈ nd.done
 i3 : ∀ (i : Nat) (o : Oper), l[i]? = some o -> listed[i]? = some true -> ∀ k ∈ depsOf o, listed[k]? = some true
 f1 : ∀ (k : Nat) (o : Oper) t, l[k]? = some o -> listed[k]? = some true -> o.dst = some t -> f t = vg V k
 f2 : ∀ t, (∀ (k : Nat) (o : Oper), l[k]? = some o -> listed[k]? = some true -> o.dst ≠ some t) -> f t = f0 t
 pu : ∀ (i : Nat) (o : Oper), l[i]? = some o -> i ∈ p.pure -> i ∉ p.e -> (∀ x ∈ p.nd i, x ∈ nd.done) -> ∀ w, OpOk P n l f0 V w i
 rd : AllOk P n l f0 V w nd.rd
 ch : ∃ k, AllCh P n l f0 V w (Draw P n l f0 N p.nodes k) nd.ch
 nn : nd.ch = [] -> N (fV f0 l 0 V) w
theorem allOk_mem {V : List Value} {w : World} : ∀ {r : List Nat} {i : Nat}, AllOk P n l f0 V w r -> i ∈ r -> OpOk P n l f0 V w i
 | a :: r, i, h, hi => by
  cases hi with
  | head => exact h.1
  | tail _ hm => exact allOk_mem h.2 hm
theorem allPu_mem {V : List Value} : ∀ {r : List Nat} {i : Nat}, AllPu P n l f0 V r -> i ∈ r -> ∀ w, OpOk P n l f0 V w i
 | a :: r, i, h, hi => by
  cases hi with
  | head => exact h.1
  | tail _ hm => exact allPu_mem h.2 hm
theorem allCh_mem {V : List Value} {w : World} {D : Nat -> List Value -> World -> Prop} : ∀ {r : List (Nat × List Nat × Nat)} {c : Nat × List Nat × Nat}, AllCh P n l f0 V w D r -> c ∈ r ->
  StepE P n l f0 V w c.1 fun v w' => ∃ vs, c.2.1.length = vs.length + 1 /\ c.1 < V.length /\ D c.2.2 (putV V c.2.1 (v :: vs)) w'
 | (i, nw, q) :: r, c, h, hc => by
  cases hc with
  | head => exact h.1
  | tail _ hm => exact allCh_mem h.2 hm
theorem getD_of {listed : Array Bool} {i : Nat} {d : Bool} (h : i < listed.size) : listed[i]? = some (listed.getD i d) := by
 simp [h]
theorem take_get {l : List Oper} {i k : Nat} (h : k < i) : (l.take i)[k]? = l[k]? := by
 rw [List.getElem?_take]; rw [if_pos h]
theorem take_get' {l : List Oper} {i k : Nat} {o : Oper} (h : (l.take i)[k]? = some o) : k < i /\ l[k]? = some o := by
 rw [List.getElem?_take] at h
 split at h
 ·rename_i hk; exact ⟨hk, h⟩
 ·simp at h
theorem fVt_hit (g : p.Good l) {V : List Value} {t i k : Nat} {x : Oper} (hki : k < i) (hx : l[k]? = some x) (hxt : x.dst = some t) : fV f0 (l.take i) 0 V t = vg V k := by
 rw [fV_hit (l.take i) 0 k x (by rw [take_get hki]; exact hx) hxt fun a y hy hyt => g.dst a y t (take_get' hy).2 hyt k x hx hxt, Nat.zero_add]
theorem fVt_miss (g : p.Good l) {V : List Value} {t i k : Nat} {x : Oper} (hki : ¬ k < i) (hx : l[k]? = some x) (hxt : x.dst = some t) : fV f0 (l.take i) 0 V t = f0 t := by
 refine fV_miss (l.take i) 0 fun a y hy hyt => hki ?_
 have := g.dst a y t (take_get' hy).2 hyt k x hx hxt
 rw [<- this]; exact (take_get' hy).1
theorem Inv.agree (g : p.Good l) {listed : Array Bool} {nd : Node} {V : List Value} {f : Fr} {w : World} (h : Inv P n l f0 N p listed nd V f w)
  {i : Nat} {o : Oper} (ho : l[i]? = some o) (hi : listed[i]? = some false) (hd : ∀ k ∈ depsOf o, listed[k]? = some true) : ∀ t ∈ slotsOf l o, f t = fV f0 (l.take i) 0 V t := by
 intro t ht
 by_cases hk : ∃ (k : Nat) (x : Oper), l[k]? = some x /\ x.dst = some t
 ·obtain ⟨k, x, hx, hxt⟩ := hk
  have old : listed[k]? ≠ some true -> ¬ k < i -> f t = fV f0 (l.take i) 0 V t := fun hl hki => by
   rw [fVt_miss g hki hx hxt]
   refine h.f2 t fun a y hy hla hyt => hl ?_
   have := g.dst a y t hy hyt k x hx hxt
   rw [<- this]; exact hla
  rcases g.slot i o ho t ht k x hx hxt with h1 | ⟨h1, h2⟩ | ⟨h1, h2⟩
  ·subst h1; exact old (by rw [hi]; simp) (by omega)
  ·rw [h.f1 k x t hx (hd k h2) hxt, fVt_hit g h1 hx hxt]
  ·refine old (fun hl => ?_) (by omega)
   have := h.i3 k x hx hl i h2
   rw [this] at hi; simp at hi
 ·have hn : ∀ (k : Nat) (x : Oper), l[k]? = some x -> x.dst ≠ some t := fun k x hx e => hk ⟨k, x, hx, e⟩
  rw [h.f2 t fun k x hx _ => hn k x hx, fV_miss (l.take i) 0 fun k x hx => hn k x (take_get' hx).2]
theorem get_set {listed : Array Bool} {i : Nat} (hi : i < listed.size) (k : Nat) : (listed.setIfInBounds i true)[k]? = if i = k then some true else listed[k]? := by
 by_cases e : i = k
 ·subst e; simp [hi]
 ·simp [e]
theorem upd_same {f : Fr} {d : Nat} {v : Value} : upd f d v d = v := by
 show (bif Nat.beq d d then v else f d) = v
 rw [Nat.beq_refl]; rfl
theorem upd_ne {f : Fr} {d t : Nat} {v : Value} (h : t ≠ d) : upd f d v t = f t := by
 have hb : Nat.beq t d = false := by
  cases hb : Nat.beq t d with
  | false => rfl
  | true => exact absurd (eq_of_beq_nat hb) h
 show (bif Nat.beq t d then v else f t) = _
 rw [hb]; rfl
theorem Inv.frame (g : p.Good l) {listed : Array Bool} {nd : Node} {V V' : List Value} {f : Fr} {w : World} (h : Inv P n l f0 N p listed nd V f w)
  {i : Nat} {o : Oper} (ho : l[i]? = some o) (hi : listed[i]? = some false) (hV : ∀ k, listed[k]? = some true -> vg V' k = vg V k) (v : Value) (hv : vg V' i = v) :
  (∀ (k : Nat) (x : Oper) t, l[k]? = some x -> (listed.setIfInBounds i true)[k]? = some true -> x.dst = some t -> updO f o.dst v t = vg V' k) /\
  (∀ t, (∀ (k : Nat) (x : Oper), l[k]? = some x -> (listed.setIfInBounds i true)[k]? = some true -> x.dst ≠ some t) -> updO f o.dst v t = f0 t) := by
 have his : i < listed.size := by
  rcases Nat.lt_or_ge i listed.size with h | h
  ·exact h
  ·simp [Array.getElem?_eq_none h] at hi
 constructor
 ·intro k x t hx hk hxt
  rw [get_set his] at hk
  by_cases e : i = k
  ·subst e
   obtain rfl : o = x := by rw [ho] at hx; injection hx
   rw [hxt]
   show upd f t v t = _
   rw [upd_same, hv]
  ·rw [if_neg e] at hk
   have h1 := h.f1 k x t hx hk hxt
   cases hod : o.dst with
   | none => show f t = _; rw [h1, hV k hk]
   | some d =>
    have hne : t ≠ d := fun e' => e (g.dst i o d ho hod k x hx (e' ▸ hxt))
    show upd f d v t = _
    rw [upd_ne hne, h1, hV k hk]
 ·intro t ht
  have h2 := h.f2 t fun k x hx hk => ht k x hx (by rw [get_set his]; split; rfl; exact hk)
  have hot : o.dst ≠ some t := ht i o ho (by rw [get_set his, if_pos rfl])
  cases hod : o.dst with
  | none => exact h2
  | some d =>
   have hne : t ≠ d := fun e' => hot (by rw [hod, e'])
   show upd f d v t = _
   rw [upd_ne hne]; exact h2
theorem OpOk.carry (g : p.Good l) {D : List Nat} {V V' : List Value} {i : Nat} {w : World} (hs : ∀ x ∈ p.nd i, x ∈ D) (hi : vg V' i = vg V i)
  (hV : ∀ k, (∀ x ∈ p.nd k, x ∈ D) -> (k ∈ p.e -> k ∈ D) -> vg V' k = vg V k)
  (h : OpOk P n l f0 V w i) : OpOk P n l f0 V' w i := by
 unfold OpOk at h ⊢
 cases ho : l[i]? with
 | none => rw [ho] at h; exact h
 | some o =>
  rw [ho] at h
  simp only at h ⊢
  have ha : ∀ t ∈ slotsOf l o, fV f0 (l.take i) 0 V t = fV f0 (l.take i) 0 V' t := by
   intro t ht
   by_cases hk : ∃ (k : Nat) (x : Oper), l[k]? = some x /\ x.dst = some t
   ·obtain ⟨k, x, hx, hxt⟩ := hk
    by_cases hki : k < i
    ·rcases g.slot i o ho t ht k x hx hxt with h3 | ⟨_, hd⟩ | ⟨h3, _⟩
     ·omega
     ·obtain ⟨h1, h2⟩ := g.n1 i o ho k hd
      rw [fVt_hit g hki hx hxt, fVt_hit g hki hx hxt, hV k (fun y hy => hs y (h1 y hy)) (fun hke => hs k (h2 hke))]
     ·omega
    ·rw [fVt_miss g hki hx hxt, fVt_miss g hki hx hxt]
   ·have hn : ∀ (k : Nat) (x : Oper), l[k]? = some x -> x.dst ≠ some t := fun k x hx e => hk ⟨k, x, hx, e⟩
    rw [fV_miss (l.take i) 0 fun k x hx => hn k x (take_get' hx).2, fV_miss (l.take i) 0 fun k x hx => hn k x (take_get' hx).2]
  have hsame := opSame (n := n) (g.sel i o ho) ha
  unfold OpV at h ⊢
  rw [<- hsame.1, <- hsame.2, hi]
  exact h
theorem ready_needs (g : p.Good l) {listed : Array Bool} {nd : Node} {V : List Value} {f : Fr} {w : World} (h : Inv P n l f0 N p listed nd V f w)
  {i : Nat} {o : Oper} (ho : l[i]? = some o) (hd : ∀ k ∈ depsOf o, listed[k]? = some true) : ∀ x ∈ p.nd i, x ∈ nd.done := by
 intro x hx
 obtain ⟨k, hk, h1 | h1⟩ := g.n2 i o ho x hx
 ·obtain ⟨rfl, he⟩ := h1
  exact h.d2 k he (hd k hk)
 ·exact h.i1 k (hd k hk) x h1
theorem forced (g : p.Good l) {listed : Array Bool} {nd : Node} {V : List Value} {f : Fr} {w : World} (h : Inv P n l f0 N p listed nd V f w) {x : Nat} (hx : x ∈ nd.done) :
  ∀ m i, l.length - i = m -> i < l.length -> x ∈ p.ms i -> listed[i]? = some true := by
 intro m
 induction m using Nat.strongRecOn with
 | _ m ih =>
  intro i hm hi hxi
  obtain ⟨o, ho⟩ : ∃ o, l[i]? = some o := ⟨l[i], by simp [hi]⟩
  obtain ⟨j, y, hy, hlt, hdep, hj⟩ := g.m i o ho x hxi
  have hjl : j < l.length := (List.getElem?_eq_some_iff.1 hy).1
  rcases hj with rfl | hj
  ·exact h.i3 j y hy (h.d1 j hx) i hdep
  ·exact h.i3 j y hy (ih (l.length - j) (by omega) j rfl hjl hj) i hdep
theorem Inv.read (g : p.Good l) {listed : Array Bool} {nd : Node} {V : List Value} {f : Fr} {w : World} (h : Inv P n l f0 N p listed nd V f w)
  {i : Nat} {o : Oper} (ho : l[i]? = some o) (hi : listed[i]? = some false) (hd : ∀ k ∈ depsOf o, listed[k]? = some true) (hne : i ∉ p.e) :
  ((wantF n l.toArray f o.guard = true /\ OpV P n o f w (vg V i)) \/ (wantF n l.toArray f o.guard = false /\ vg V i = undef)) /\
  Inv P n l f0 N p (listed.setIfInBounds i true) nd V (updO f o.dst (vg V i)) w := by
 have his : i < listed.size := by
  rcases Nat.lt_or_ge i listed.size with h | h
  ·exact h
  ·simp [Array.getElem?_eq_none h] at hi
 have hnd := ready_needs g h ho hd
 have hil : i < l.length := (List.getElem?_eq_some_iff.1 ho).1
 have hok : OpOk P n l f0 V w i := by
  obtain ⟨q, hq⟩ := h.node
  rcases g.nc q nd hq i o ho with he | hc | ⟨hp, _⟩ | ⟨_, hr | ⟨x, hx, hm⟩⟩
  ·exact absurd he hne
  ·exact absurd hnd hc
  ·exact h.pu i o ho hp hne hnd w
  ·exact allOk_mem h.rd hr
  ·have := forced g h hx _ i rfl hil hm
   rw [this] at hi; simp at hi
 constructor
 ·have hsame := opSame (n := n) (g.sel i o ho) (h.agree g ho hi hd)
  unfold OpOk at hok
  rw [ho] at hok
  unfold OpV at hok ⊢
  rw [hsame.1, hsame.2]
  exact hok
 ·have hf := h.frame (V' := V) g ho hi (fun _ _ => rfl) (vg V i) rfl
  refine ⟨by rw [Array.size_setIfInBounds]; exact h.size, h.node, ?_, ?_, ?_, ?_, hf.1, hf.2, h.pu, h.rd, h.ch, h.nn⟩
  ·intro k hk
   rw [get_set his]; split
   ·rfl
   ·exact h.d1 k hk
  ·intro k hk hl
   rw [get_set his] at hl
   by_cases e : i = k
   ·subst e; exact absurd hk hne
   ·rw [if_neg e] at hl; exact h.d2 k hk hl
  ·intro k hk
   rw [get_set his] at hk
   by_cases e : i = k
   ·subst e; exact hnd
   ·rw [if_neg e] at hk; exact h.i1 k hk
  ·intro k x hx hk a ha
   rw [get_set his] at hk ⊢
   by_cases e' : i = a
   ·rw [if_pos e']
   ·rw [if_neg e']
    by_cases e : i = k
    ·subst e
     obtain rfl : o = x := by rw [ho] at hx; injection hx
     exact hd a ha
    ·rw [if_neg e] at hk; exact h.i3 k x hx hk a ha
theorem Inv.turn (g : p.Good l) {listed : Array Bool} {nd : Node} {V : List Value} {f : Fr} {w : World} (h : Inv P n l f0 N p listed nd V f w)
  {i : Nat} {o : Oper} (ho : l[i]? = some o) (hi : listed[i]? = some false) (hd : ∀ k ∈ depsOf o, listed[k]? = some true) (he : i ∈ p.e) :
  (wantF n l.toArray f o.guard = true /\ OpW P n o f w fun v w' => ∃ nd' V', Inv P n l f0 N p (listed.setIfInBounds i true) nd' V' (updO f o.dst v) w') \/
  (wantF n l.toArray f o.guard = false /\ ∃ nd' V', Inv P n l f0 N p (listed.setIfInBounds i true) nd' V' (updO f o.dst undef) w) := by
 have his : i < listed.size := by
  rcases Nat.lt_or_ge i listed.size with h | h
  ·exact h
  ·simp [Array.getElem?_eq_none h] at hi
 have hnd := ready_needs g h ho hd
 have hnd' : i ∉ nd.done := fun hm => by rw [h.d1 i hm] at hi; simp at hi
 have hsame := opSame (n := n) (g.sel i o ho) (h.agree g ho hi hd)
 obtain ⟨q, hq⟩ := h.node
 obtain ⟨⟨ci, nw, q'⟩, hc, hci⟩ : ∃ c ∈ nd.ch, c.1 = i := by
  rcases g.na q nd hq i he with h1 | h1 | h1
  ·exact absurd h1 hnd'
  ·exact absurd hnd h1
  ·exact h1
 simp only at hci
 subst hci
 obtain ⟨_, _, _, ⟨n', hn', hdone⟩, hhead, htail⟩ := g.nb q nd hq _ hc
 simp only at hn' hdone hhead htail
 obtain ⟨fuel, hch⟩ := h.ch
 have htl := allCh_mem hch hc
 simp only at htl
 unfold StepE at htl
 rw [ho] at htl
 simp only at htl
 rw [hsame.2]
 have key : ∀ v w', (∃ vs, nw.length = vs.length + 1 /\ ci < V.length /\ Draw P n l f0 N p.nodes fuel q' (putV V nw (v :: vs)) w') ->
   ∃ nd' V', Inv P n l f0 N p (listed.setIfInBounds ci true) nd' V' (updO f o.dst v) w' := by
  rintro v w' ⟨vs, hlen, hiV, hdraw⟩
  obtain ⟨nt, rfl⟩ : ∃ nt, nw = ci :: nt := by
   cases nw with
   | nil => exact absurd hlen (by simp)
   | cons a nt => exact ⟨nt, by rw [List.head?_cons] at hhead; injection hhead with hhead; rw [hhead]⟩
  simp only [List.tail_cons] at htail
  have hnt : ci ∉ nt := fun hm => (htail ci hm).2.1 rfl
  have hV : ∀ k, (∀ x ∈ p.nd k, x ∈ nd.done) -> (k ∈ p.e -> k ∈ nd.done) -> vg (putV V (ci :: nt) (v :: vs)) k = vg V k := by
   intro k hk hke
   refine vg_putV _ _ _ _ fun hm => ?_
   rcases List.mem_cons.1 hm with rfl | hm
   ·exact hnd' (hke he)
   ·exact hnd' (hk ci (htail k hm).2.2)
  have hVi : vg (putV V (ci :: nt) (v :: vs)) ci = v := vg_putV_head ci nt v vs V hnt hiV
  have hf := h.frame (V' := putV V (ci :: nt) (v :: vs)) g ho hi (fun k hk => hV k (h.i1 k hk) (fun hke => h.d2 k hke hk)) v hVi
  cases fuel with
  | zero => exact hdraw.elim
  | succ fuel =>
   unfold Draw at hdraw
   rw [hn'] at hdraw
   obtain ⟨hpu, hrd, hch', hnn⟩ := hdraw
   refine ⟨n', putV V (ci :: nt) (v :: vs), ⟨by rw [Array.size_setIfInBounds]; exact h.size, ⟨q', hn'⟩, ?_, ?_, ?_, ?_, hf.1, hf.2, ?_, hrd, ⟨fuel, hch'⟩, hnn⟩⟩
   ·intro k hk
    rw [hdone] at hk
    rw [get_set his]
    by_cases e : ci = k
    ·rw [if_pos e]
    ·rw [if_neg e]
     rcases List.mem_cons.1 hk with rfl | hk
     ·exact absurd rfl e
     ·exact h.d1 k hk
   ·intro k hk hl
    rw [hdone]
    rw [get_set his] at hl
    by_cases e : ci = k
    ·rw [e]; exact List.mem_cons_self
    ·rw [if_neg e] at hl; exact List.mem_cons_of_mem _ (h.d2 k hk hl)
   ·intro k hk x hx
    rw [hdone]
    rw [get_set his] at hk
    by_cases e : ci = k
    ·subst e; exact List.mem_cons_of_mem _ (hnd x hx)
    ·rw [if_neg e] at hk; exact List.mem_cons_of_mem _ (h.i1 k hk x hx)
   ·intro k x hx hk a ha
    rw [get_set his] at hk ⊢
    by_cases e' : ci = a
    ·rw [if_pos e']
    ·rw [if_neg e']
     by_cases e : ci = k
     ·subst e
      obtain rfl : o = x := by rw [ho] at hx; injection hx
      exact hd a ha
     ·rw [if_neg e] at hk; exact h.i3 k x hx hk a ha
   ·intro a oa hoa hap hae hna w2
    by_cases hc2 : ci ∈ p.nd a
    ·rcases g.nc q' n' hn' a oa hoa with h1 | h1 | ⟨_, h1⟩ | ⟨h1, _⟩
     ·exact absurd h1 hae
     ·exact absurd hna h1
     ·rcases h1 with ⟨h2, _⟩ | ⟨x, r, h2, h3⟩
      ·rw [hdone] at h2; simp at h2
      ·rw [hdone] at h2
       injection h2 with h2 _
       subst h2
       rcases h3 with h3 | h3
       ·exact absurd hc2 h3
       ·exact allPu_mem hpu h3 w2
     ·exact absurd hap h1
    ·have hsub : ∀ x ∈ p.nd a, x ∈ nd.done := fun x hx => by
      have := hna x hx
      rw [hdone] at this
      rcases List.mem_cons.1 this with rfl | h2
      ·exact absurd hx hc2
      ·exact h2
     exact OpOk.carry g hsub (hV a hsub fun hke => absurd hke hae) hV (h.pu a oa hoa hap hae hsub w2)
 rcases htl with ⟨hw, hop⟩ | ⟨hw, hk⟩
 ·refine .inl ⟨hw, ?_⟩
  revert hop
  unfold OpW
  rw [hsame.1]
  generalize (execOp (evF n (fV f0 (l.take ci) 0 V)) o).run P w = r
  intro hop
  cases r with
  | halt x w' => exact hop
  | ok x w' =>
   cases x with
   | value v => exact key _ _ hop
   | skip => exact key _ _ hop
   | enter gg args => exact CallsR.mono hop key
   | _ => exact hop
 ·exact .inr ⟨hw, key _ _ hk⟩
def left (listed : Array Bool) : Nat := listed.toList.count false
theorem left_set {listed : Array Bool} {i : Nat} (h : listed[i]? = some false) : left (listed.setIfInBounds i true) + 1 = left listed := by
 unfold left
 rw [Array.toList_setIfInBounds]
 have h' : listed.toList[i]? = some false := by simpa using h
 obtain ⟨hl, he⟩ := List.getElem?_eq_some_iff.1 h'
 rw [List.count_set hl, he]
 have hpos : 0 < List.count false listed.toList := List.count_pos_iff.2 (he ▸ List.getElem_mem hl)
 have h1 : (false == false) = true := rfl
 have h2 : (true == false) = false := rfl
 rw [if_pos h1, if_neg (by simp)]
 omega
theorem Inv.end (g : p.Good l) {listed : Array Bool} {nd : Node} {V : List Value} {f : Fr} {w : World} (h : Inv P n l f0 N p listed nd V f w)
  (hr : Region.ready .any l.toArray listed = []) : N f w := by
 have all : ∀ m i, i = m -> i < l.length -> listed[i]? = some true := by
  intro m
  induction m using Nat.strongRecOn with
  | _ m ih =>
   intro i hm hi
   subst hm
   cases hb : listed[i]? with
   | none => exact absurd (Array.getElem?_eq_none_iff.1 hb) (by rw [h.size]; omega)
   | some b =>
    cases b with
    | true => rfl
    | false =>
     exfalso
     obtain ⟨o, ho⟩ : ∃ o, l[i]? = some o := ⟨l[i], by simp [hi]⟩
     have : i ∈ Region.ready .any l.toArray listed := mem_ready.2 ⟨o, ho, by
       simp [Array.getD_eq_getD_getElem?, hb], fun k hk => by
       have hlt := g.back i o ho k hk
       have := ih k hlt k rfl (by omega)
       simp [Array.getD_eq_getD_getElem?, this]⟩
     rw [hr] at this
     exact absurd this (by simp)
 have hj : nd.ch = [] := by
  cases hc : nd.ch with
  | nil => rfl
  | cons c r =>
   exfalso
   obtain ⟨q, hq⟩ := h.node
   obtain ⟨h1, h2, h3, _⟩ := g.nb q nd hq c (by rw [hc]; simp)
   exact h2 (h.d2 _ h1 (all _ _ rfl h3))
 have hf : f = fV f0 l 0 V := by
  funext t
  by_cases hk : ∃ (k : Nat) (x : Oper), l[k]? = some x /\ x.dst = some t
  ·obtain ⟨k, x, hx, hxt⟩ := hk
   have hkl := (List.getElem?_eq_some_iff.1 hx).1
   rw [h.f1 k x t hx (all k k rfl hkl) hxt, fV_hit l 0 k x hx hxt fun a y hy hyt => g.dst a y t hy hyt k x hx hxt, Nat.zero_add]
  ·have hn : ∀ (k : Nat) (x : Oper), l[k]? = some x -> x.dst ≠ some t := fun k x hx e => hk ⟨k, x, hx, e⟩
   rw [h.f2 t fun k x hx _ => hn k x hx, fV_miss l 0 hn]
 rw [hf]; exact h.nn hj
theorem wpAny_of (g : p.Good l) : ∀ (fuel : Nat) (listed : Array Bool) (nd : Node) (V : List Value) (f : Fr) (w : World), Inv P n l f0 N p listed nd V f w -> left listed = fuel ->
  wpAny P .any l.toArray (post n N X R) fuel listed (mk n f) w := by
 intro fuel
 induction fuel with
 | zero =>
  intro listed nd V f w h hl
  have hr : Region.ready .any l.toArray listed = [] := by
   refine List.eq_nil_iff_forall_not_mem.2 fun i hi => ?_
   obtain ⟨o, ho, h2, _⟩ := mem_ready.1 hi
   have hil := (List.getElem?_eq_some_iff.1 ho).1
   have hb : listed[i]? = some false := by rw [getD_of (d := true) (by rw [h.size]; exact hil), h2]
   have := left_set hb
   omega
  exact ⟨hr, f, rfl, h.end g hr⟩
 | succ fuel ih =>
  intro listed nd V f w h hl
  refine ⟨fun hr => ⟨f, rfl, h.end g hr⟩, fun i hi => ?_⟩
  obtain ⟨o, ho, h2, h3⟩ := mem_ready.1 hi
  have hil := (List.getElem?_eq_some_iff.1 ho).1
  have hb : listed[i]? = some false := by rw [getD_of (d := true) (by rw [h.size]; exact hil), h2]
  have hd : ∀ k ∈ depsOf o, listed[k]? = some true := fun k hk => by
   have hkl := g.back i o ho k hk
   rw [getD_of (d := false) (by rw [h.size]; omega), h3 k hk]
  have hleft : left (listed.setIfInBounds i true) = fuel := by have := left_set hb; omega
  unfold wpOp
  simp only [List.getElem?_toArray, ho]
  rw [wanted_mk]
  by_cases he : i ∈ p.e
  ·rcases h.turn g ho hb hd he with ⟨hw, hop⟩ | ⟨hw, nd', V', hk⟩
   ·rw [if_pos hw]
    left
    refine hop.wp ?_
    rintro v w' ⟨nd', V', hv⟩
    rw [mk_put]
    exact ih _ _ _ _ _ hv hleft
   ·rw [hw, if_neg (by simp), mk_put]
    exact ih _ _ _ _ _ hk hleft
  ·obtain ⟨hv, hn⟩ := h.read g ho hb hd he
   rcases hv with ⟨hw, hop⟩ | ⟨hw, hu⟩
   ·rw [if_pos hw]
    left
    refine (hop.w (K := fun v w' => v = vg V i /\ w' = w) ⟨rfl, rfl⟩).wp ?_
    rintro v w' ⟨rfl, rfl⟩
    rw [mk_put]
    exact ih _ _ _ _ _ hn hleft
   ·rw [hw, if_neg (by simp), mk_put, <- hu]
    exact ih _ _ _ _ _ hn hleft
theorem WX_draw {id : Nat} {f0 : Fr} {w w' : World} (p : Plan) (V : List Value) (fuel : Nat) (hm : P.follows .mixedOrders = true) (hok : p.ok l = true) (hw : w' = w.drew)
  (h : Draw P n l f0 N p.nodes fuel 0 V w') : WX P n (.region id l.toArray true) N X R f0 w := by
 subst hw
 have g := Plan.good hok
 refine wp_region_any hm ?_
 have hsz : l.toArray.size = l.length := by simp
 rw [hsz]
 obtain ⟨nd, hn, hdone⟩ := g.root
 refine wpAny_of (f0 := f0) g l.length _ nd V f0 _ ?_ (by simp [left])
 have nolist : ∀ (i : Nat) (b : Bool), (Array.replicate l.length false)[i]? = some b -> b = false := by
  intro i b hb
  rw [Array.getElem?_replicate] at hb
  split at hb
  ·injection hb with hb; exact hb.symm
  ·simp at hb
 cases fuel with
 | zero => exact h.elim
 | succ fuel =>
  unfold Draw at h
  rw [hn] at h
  obtain ⟨h1, h2, h3, h4⟩ := h
  refine ⟨by simp, ⟨0, hn⟩, fun i hi => by rw [hdone] at hi; simp at hi, fun i _ hi => absurd (nolist i _ hi) (by simp), fun i hi => absurd (nolist i _ hi) (by simp),
   fun i o _ hi => absurd (nolist i _ hi) (by simp), fun k o t _ hk => absurd (nolist k _ hk) (by simp), fun t _ => rfl, ?_, h2, ⟨fuel, h3⟩, h4⟩
  intro i o ho hp he hsub w2
  rcases g.nc 0 nd hn i o ho with h5 | h5 | ⟨_, h5⟩ | ⟨h5, _⟩
  ·exact absurd h5 he
  ·exact absurd hsub h5
  ·rcases h5 with ⟨_, h6⟩ | ⟨x, r, h6, _⟩
   ·exact allPu_mem h1 h6 w2
   ·rw [hdone] at h6; simp at h6
  ·exact absurd hp h5
end
section
variable {P : Program} {n : Nat} {l : List Oper} {f0 : Fr} {N : FW} {V : List Value} {w : World} {i : Nat} {o : Oper} {r : List Nat}
theorem ok_yes (ho : l[i]? = some o) (hv : OpV P n o (fV f0 (l.take i) 0 V) w (vg V i)) (hw : wantF n l.toArray (fV f0 (l.take i) 0 V) o.guard = true := by exact rfl) : OpOk P n l f0 V w i := by
 unfold OpOk; rw [ho]; exact .inl ⟨hw, hv⟩
theorem ok_no (ho : l[i]? = some o := by exact rfl) (hw : wantF n l.toArray (fV f0 (l.take i) 0 V) o.guard = false := by exact rfl) (hv : vg V i = undef := by exact rfl) : OpOk P n l f0 V w i := by
 unfold OpOk; rw [ho]; exact .inr ⟨hw, hv⟩
theorem ao0 : AllOk P n l f0 V w [] := trivial
theorem ao (h : OpOk P n l f0 V w i) (hr : AllOk P n l f0 V w r) : AllOk P n l f0 V w (i :: r) := ⟨h, hr⟩
theorem ap0 : AllPu P n l f0 V [] := trivial
theorem ap (h : ∀ w, OpOk P n l f0 V w i) (hr : AllPu P n l f0 V r) : AllPu P n l f0 V (i :: r) := ⟨h, hr⟩
variable {nodes : List Node} {k q : Nat} {done pu rd nw : List Nat} {ch : List (Nat × List Nat × Nat)} {D : Nat -> List Value -> World -> Prop}
theorem draw_end (hq : nodes[q]? = some ⟨done, pu, rd, []⟩) (hpu : AllPu P n l f0 V pu) (hrd : AllOk P n l f0 V w rd) (h : N (fV f0 l 0 V) w) : Draw P n l f0 N nodes (k + 1) q V w := by
 unfold Draw
 rw [hq]
 exact ⟨hpu, hrd, trivial, fun _ => h⟩
theorem draw_go (hq : nodes[q]? = some ⟨done, pu, rd, ch⟩) (hpu : AllPu P n l f0 V pu) (hrd : AllOk P n l f0 V w rd) (hne : ch.isEmpty = false) (h : AllCh P n l f0 V w (Draw P n l f0 N nodes k) ch) :
  Draw P n l f0 N nodes (k + 1) q V w := by
 unfold Draw
 rw [hq]
 exact ⟨hpu, hrd, h, fun e => by rw [show (Node.mk done pu rd ch).ch = ch from rfl] at e; rw [e] at hne; exact absurd hne (by simp)⟩
theorem ch0 : AllCh P n l f0 V w D [] := trivial
theorem ch_yes (ho : l[i]? = some o) (hw : wantF n l.toArray (fV f0 (l.take i) 0 V) o.guard = true)
  (h : OpW P n o (fV f0 (l.take i) 0 V) w fun v w' => ∃ vs, nw.length = vs.length + 1 /\ i < V.length /\ D q (putV V nw (v :: vs)) w') (hr : AllCh P n l f0 V w D ch) : AllCh P n l f0 V w D ((i, nw, q) :: ch) := by
 refine ⟨?_, hr⟩
 show StepE P n l f0 V w i _
 unfold StepE
 rw [ho]
 exact .inl ⟨hw, h⟩
theorem ch_no (vs : List Value) {V' : List Value} (ho : l[i]? = some o) (hw : wantF n l.toArray (fV f0 (l.take i) 0 V) o.guard = false)
  (h1 : nw.length = vs.length + 1) (h2 : i < V.length) (hV : putV V nw (undef :: vs) = V') (h : D q V' w) (hr : AllCh P n l f0 V w D ch) : AllCh P n l f0 V w D ((i, nw, q) :: ch) := by
 refine ⟨?_, hr⟩
 show StepE P n l f0 V w i _
 unfold StepE
 rw [ho]
 exact .inr ⟨hw, vs, h1, h2, hV ▸ h⟩
theorem nx (vs : List Value) {V' : List Value} {v : Value} (h1 : nw.length = vs.length + 1) (h2 : i < V.length) (hV : putV V nw (v :: vs) = V') (h : D q V' w) :
  ∃ vs, nw.length = vs.length + 1 /\ i < V.length /\ D q (putV V nw (v :: vs)) w := ⟨vs, h1, h2, hV ▸ h⟩
end
end Go.Sx
namespace Go.Sx
open Go
set_option linter.unusedSimpArgs false
structure Ty (α : Type) where
 enc : α -> List Value
 agg : Bool
def Ty.val {α : Type} (T : Ty α) (x : α) : Value := bif T.agg then .agg (T.enc x).toArray else (T.enc x).headD undef
def plain : Value -> Bool
 | .agg _ | .tuple _ => false
 | _ => true
structure Sl where
 a : Option Addr
 len : Nat
 cap : Nat
def Sl.v (s : Sl) : Value := .slice s.a s.len s.cap
def nilSl : Sl := ⟨none, 0, 0⟩
inductive Ifc where
 | nil
 | mk (t : TypeId) (v : Value)
def Ifc.v : Ifc -> Value
 | .nil => .nilIface
 | .mk t v => .iface t v
inductive Fv where
 | nil
 | mk (k : FuncId) (first cap : List Value)
def Fv.v : Fv -> Value
 | .nil => .nilFunc
 | .mk k a b => .func (.func k) a.toArray b.toArray
abbrev tI64 : Ty Int := ⟨fun n => [.int .i64 n], false⟩
abbrev tU64 : Ty Int := ⟨fun n => [.int .u64 n], false⟩
abbrev tU8 : Ty Int := ⟨fun n => [.int .u8 n], false⟩
abbrev tBool : Ty Bool := ⟨fun b => [.bool b], false⟩
abbrev tPtr : Ty (Option Addr) := ⟨fun p => [.pointer p], false⟩
abbrev tSl : Ty Sl := ⟨fun s => [.slice s.a s.len s.cap], false⟩
abbrev tMap : Ty (Option Nat) := ⟨fun m => [.map m], false⟩
theorem plain_ifc (e : Ifc) : plain e.v = true := by cases e <;> rfl
theorem plain_fn (e : Fv) : plain e.v = true := by cases e <;> rfl
def tyInfo (P : Program) (t : TypeId) : Option (Bool × Nat) :=
 match P.underlying t, P.info? t with
 | some u, some i => some ((match u with | .struct _ | .array _ _ => true | _ => false), i.size)
 | _, _ => none
structure TyOk (P : Program) (t : TypeId) {α : Type} (T : Ty α) : Prop where
 agg : ∀ w, (isAgg t).run P w = .ok T.agg w
 size : ∀ x w, (sizeOf t).run P w = .ok (T.enc x).length w
 plain : ∀ x v, v ∈ T.enc x -> plain v = true
 one : T.agg = false -> ∀ x, (T.enc x).length = 1
theorem run_bind {α β : Type} {P : Program} {s : Sem α} {k : α -> Sem β} {w : World} : (s >>= k).run P w = match s.run P w with
    | .ok a w' => (k a).run P w'
    | .halt h w' => .halt h w' := by
  show (Sem.bind s k).run P w = _
  induction s generalizing w with
  | pure a => rfl
  | load m a k ih =>
    simp only [Sem.bind, Sem.run]
    split
    · exact ih _
    · split
      · exact ih _
      · rfl
  | store m a v k ih =>
    simp only [Sem.bind]
    cases v <;> simp only [Sem.run] <;> first
      | rfl
      | (split
         · split
           · rfl
           · exact ih
         · split
           · exact ih
           · rfl)
  | new o k ih => exact ih _
  | shape r k ih => exact ih _
  | freeze a n k ih => exact ih
  | frozen a k ih => exact ih _
  | getObj r k ih =>
    simp only [Sem.bind, Sem.run]
    split <;> first | rfl | exact ih _
  | setObj r o k ih =>
    simp only [Sem.bind, Sem.run]
    split <;> first | rfl | exact ih
  | choose q k ih =>
    simp only [Sem.bind, Sem.run]
    split <;> exact ih _
  | sys c k ih => exact ih _
  | program k ih => exact ih _
  | mark m k ih => exact ih
  | halt h => rfl
theorem run_pure {α : Type} {P : Program} {a : α} {w : World} : (pure a : Sem α).run P w = .ok a w := rfl
theorem run_underlying' {P : Program} {t : TypeId} {u : TypeDesc} (h : P.underlying t = some u) (w : World) : (underlying t).run P w = .ok u w := by
 unfold underlying
 show (match P.underlying t with | some d => (pure d : Sem TypeDesc) | none => stuck "no such type").run P w = _
 rw [h]; rfl
theorem run_typeInfo {P : Program} {t : TypeId} {i : TypeInfo} (h : P.info? t = some i) (w : World) : (typeInfo t).run P w = .ok i w := by
 unfold typeInfo
 show (match P.info? t with | some d => (pure d : Sem TypeInfo) | none => stuck "no such type").run P w = _
 rw [h]; rfl
theorem TyOk.mk' {P : Program} {t : TypeId} {α : Type} {T : Ty α} {k : Nat} (h : tyInfo P t = some (T.agg, k)) (hl : ∀ x, (T.enc x).length = k)
  (hp : ∀ x, (T.enc x).all Sx.plain = true) (h1 : T.agg = false -> k = 1) : TyOk P t T := by
 unfold tyInfo at h
 cases hu : P.underlying t with
 | none => rw [hu] at h; simp at h
 | some u =>
  cases hi : P.info? t with
  | none => rw [hu, hi] at h; simp at h
  | some i =>
   rw [hu, hi] at h
   injection h with h
   injection h with ha hs
   refine ⟨fun w => ?_, fun x w => ?_, fun x v hv => List.all_eq_true.1 (hp x) v hv, fun e x => (hl x).trans (h1 e)⟩
   ·unfold isAgg
    rw [run_bind, run_underlying' hu, <- ha]
    cases u <;> rfl
   ·unfold sizeOf
    rw [run_bind, run_typeInfo hi, hl x, <- hs]
    rfl
def CellsAt (w : World) (b : Nat) : Nat -> List Value -> Prop
 | _, [] => True
 | o, v :: r => w.cell? ⟨b, o, none⟩ = some v /\ CellsAt w b (o + 1) r
def CanSt (w : World) (b : Nat) : Nat -> Nat -> Prop
 | _, 0 => True
 | o, k + 1 => (∃ v, w.cell? ⟨b, o, none⟩ = some v) /\ w.frozen? ⟨b, o, none⟩ = false /\ CanSt w b (o + 1) k
def putL (w : World) (b : Nat) : Nat -> List Value -> World
 | _, [] => w
 | o, v :: r => putL (w.setCell ⟨b, o, none⟩ v) b (o + 1) r
theorem add_at (b o i : Nat) : (⟨b, o, none⟩ : Addr).add i = ⟨b, o + i, none⟩ := by
 unfold Addr.add
 split
 ·rename_i h; rw [h]; rfl
 ·rfl
theorem run_load {P : Program} {w : World} {a : Addr} {v : Value} (h : w.cell? a = some v) : (load a).run P w = .ok v w := by
 show Sem.run P (.load .plain a .pure) w = _
 simp only [Sem.run, h]
theorem run_loadCellsFrom {P : Program} {w : World} {b o : Nat} : ∀ (vs : List Value) (i : Nat) (acc : Array Value), CellsAt w b (o + i) vs ->
  (loadCellsFrom ⟨b, o, none⟩ i vs.length acc).run P w = .ok (acc ++ vs.toArray) w
 | [], i, acc, _ => by simp [loadCellsFrom, Sem.run, pure]
 | v :: r, i, acc, h => by
  show (loadCellsFrom _ i (r.length + 1) acc).run P w = _
  unfold loadCellsFrom
  rw [run_bind, add_at, run_load h.1]
  simp only
  rw [run_loadCellsFrom r (i + 1) (acc.push v) (by rw [<- Nat.add_assoc]; exact h.2)]
  simp
theorem run_loadVar {P : Program} {t : TypeId} {α : Type} {T : Ty α} (hT : TyOk P t T) {w : World} {b o : Nat} {x : α} (h : CellsAt w b o (T.enc x)) :
  (loadVar t ⟨b, o, none⟩).run P w = .ok (T.val x) w := by
 unfold loadVar Ty.val
 rw [run_bind, hT.agg]
 cases ha : T.agg with
 | true =>
  simp only [if_true, cond_true]
  rw [run_bind, hT.size x]
  simp only
  unfold loadCells
  rw [run_bind, run_loadCellsFrom (T.enc x) 0 #[] (by simpa using h)]
  simp [Sem.run, pure]
 | false =>
  simp only [Bool.false_eq_true, if_false, cond_false]
  have h1 := hT.one ha x
  match hx : T.enc x, h1, h with
  | [v], _, h => exact run_load h.1
theorem run_store {P : Program} {w : World} {a : Addr} {u v : Value} (hp : plain v = true) (h : w.cell? a = some u) (hf : w.frozen? a = false) :
  (store a v).run P w = .ok () (w.setCell a v) := by
 show Sem.run P (.store .plain a v (.pure ())) w = _
 cases v <;> first
  | (simp [plain] at hp; done)
  | simp only [Sem.run, h, hf, Bool.false_eq_true, if_false]
theorem canSt_set {w : World} {b o : Nat} {v : Value} : ∀ {k i : Nat}, CanSt w b i k -> CanSt (w.setCell ⟨b, o, none⟩ v) b i k
 | 0, _, _ => trivial
 | k + 1, i, h => by
  refine ⟨?_, by rw [World.frozen?_setCell]; exact h.2.1, canSt_set h.2.2⟩
  obtain ⟨u, hu⟩ := h.1
  by_cases e : (⟨b, o, none⟩ : Addr) = ⟨b, i, none⟩
  ·rw [e]; exact ⟨v, World.cell?_setCell_same _ _ _ hu⟩
  ·exact ⟨u, by rw [World.cell?_setCell_other _ _ _ _ e]; exact hu⟩
theorem run_storeCells {P : Program} {b o : Nat} : ∀ (vs : List Value) (i : Nat) (w : World), CanSt w b (o + i) vs.length -> (∀ v ∈ vs, plain v = true) ->
  (storeCells ⟨b, o, none⟩ vs i).run P w = .ok () (putL w b (o + i) vs)
 | [], i, w, _, _ => by simp [storeCells, Sem.run, pure, putL]
 | v :: r, i, w, h, hp => by
  obtain ⟨u, hu⟩ := h.1
  unfold storeCells
  rw [run_bind, add_at, run_store (hp v (by simp)) hu h.2.1]
  simp only
  rw [run_storeCells r (i + 1) _ (by rw [<- Nat.add_assoc]; exact canSt_set h.2.2) fun x hx => hp x (by simp [hx])]
  rw [<- Nat.add_assoc]; rfl
theorem val_cells {P : Program} {t : TypeId} {α : Type} {T : Ty α} (hT : TyOk P t T) (x : α) : (T.val x).cells = (T.enc x).toArray := by
 unfold Ty.val
 cases ha : T.agg with
 | true => rfl
 | false =>
  have h1 := hT.one ha x
  match hx : T.enc x, h1 with
  | [v], _ =>
   have hp := hT.plain x v (by rw [hx]; simp)
   show Value.cells v = _
   cases v <;> first
    | rfl
    | simp [plain] at hp
theorem run_storeVar {P : Program} {t : TypeId} {α : Type} {T : Ty α} (hT : TyOk P t T) {w : World} {b o : Nat} {x : α} (h : CanSt w b o (T.enc x).length) :
  (storeVar t ⟨b, o, none⟩ (T.val x)).run P w = .ok () (putL w b o (T.enc x)) := by
 unfold storeVar
 rw [run_bind, hT.size x]
 simp only [val_cells hT]
 rw [if_neg (by simp)]
 have := run_storeCells (P := P) (b := b) (o := o) (T.enc x) 0 w (by simpa using h) (hT.plain x)
 simpa using this
section
variable {P : Program} {n : Nat} {f : Fr} {w : World} {d : Option Tmp} {ty : TypeId} {ps : String} {af : Array Edge} {g : Option (Nat × Bool)}
theorem pv_move {x : Operand} {v : Value} (hx : evF n f x = v) : OpV P n ⟨d, .move x, ty, ps, af, g⟩ f w v := by
 unfold OpV execOp; rw [<- hx]; rfl
theorem pv_assign {x : Operand} {v : Value} (hx : evF n f x = v) : OpV P n ⟨d, .assign x, ty, ps, af, g⟩ f w v := by
 unfold OpV execOp; rw [<- hx]; rfl
theorem pv_pick {c x y : Operand} {b : Bool} {v : Value} (hc : evF n f c = .bool b) (hv : (bif b then evF n f x else evF n f y) = v) : OpV P n ⟨d, .pick c x y, ty, ps, af, g⟩ f w v := by
 unfold OpV
 simp only [execOp, hc]
 rw [<- hv]
 cases b <;> rfl
theorem pv_nil {x : Operand} {b o : Nat} (hx : evF n f x = .pointer (some ⟨b, o, none⟩)) : OpV P n ⟨d, .nilCheck x, ty, ps, af, g⟩ f w (.pointer (some ⟨b, o, none⟩)) := by
 unfold OpV
 simp only [execOp, hx]
 rfl
theorem pv_nilh {x : Operand} {p : Option Addr} {b o : Nat} (hx : evF n f x = .pointer p) (hp : p = some ⟨b, o, none⟩) : OpV P n ⟨d, .nilCheck x, ty, ps, af, g⟩ f w (.pointer (some ⟨b, o, none⟩)) :=
 pv_nil (hx.trans (congrArg Value.pointer hp))
theorem pv_ld {α : Type} {T : Ty α} {t : TypeId} {a : Operand} {b o : Nat} {x : α} (hT : TyOk P t T) (ha : evF n f a = .pointer (some ⟨b, o, none⟩)) (hc : CellsAt w b o (T.enc x)) :
  OpV P n ⟨d, .load t a, ty, ps, af, g⟩ f w (T.val x) := by
 unfold OpV
 simp only [execOp, ha, Instr.loadAt, Instr.sureAddr]
 simp only [run_bind, run_pure, run_loadVar hT hc]
theorem pw_st {α : Type} {T : Ty α} {t : TypeId} {a v : Operand} {b o : Nat} {x : α} {K : Value -> World -> Prop} (hT : TyOk P t T) (ha : evF n f a = .pointer (some ⟨b, o, none⟩)) (hv : evF n f v = T.val x)
  (hc : CanSt w b o (T.enc x).length) (h : ∀ w', w' = putL w b o (T.enc x) -> K undef w') : OpW P n ⟨d, .store t a v, ty, ps, af, g⟩ f w K := by
 unfold OpW
 simp only [execOp, ha, hv, Instr.storeAt, Instr.sureAddr]
 simp only [run_bind, run_pure, run_storeVar hT hc]
 exact h _ rfl
def fieldOff (P : Program) (s : TypeId) (i : Nat) : Option Nat :=
 match P.underlying s with
 | some (.struct fs) => match fs[i]? with
  | some fd => match P.info? fd.type with
   | some t => if t.size = 0 then none else some fd.offset
   | none => none
  | none => none
 | _ => none
theorem pv_fld {s : TypeId} {x : Operand} {i b o k : Nat} (hf : fieldOff P s i = some k) (hx : evF n f x = .pointer (some ⟨b, o, none⟩)) :
  OpV P n ⟨d, .fieldAddr s x i, ty, ps, af, g⟩ f w (.pointer (some ⟨b, o + k, none⟩)) := by
 unfold OpV
 simp only [execOp, hx, Instr.fieldAt]
 unfold fieldOff at hf
 split at hf
 ·rename_i fs hu
  split at hf
  ·rename_i fd hfd
   split at hf
   ·rename_i t ht
    split at hf
    ·simp at hf
    ·rename_i hz
     injection hf with hf
     have : (fieldPlace ⟨b, o, none⟩ fd).run P w = .ok ⟨b, o + k, none⟩ w := by
      unfold fieldPlace sizeOf
      rw [run_bind, run_bind, run_typeInfo ht]
      simp only [run_pure, if_neg hz, add_at, hf]
     simp only [run_bind, run_underlying' hu, hfd, Instr.sureAddr, run_pure, this]
   ·simp at hf
  ·simp at hf
 ·simp at hf
def elemSize (P : Program) (s : TypeId) : Option Nat :=
 match P.underlying s with
 | some (.slice e) => (P.info? e).map (·.size)
 | _ => none
theorem elemSize_of {s : TypeId} {k : Nat} (h : elemSize P s = some k) : ∃ e i, P.underlying s = some (.slice e) /\ P.info? e = some i /\ i.size = k := by
 unfold elemSize at h
 split at h
 ·rename_i e hu
  cases hi : P.info? e with
  | none => rw [hi] at h; simp at h
  | some i => rw [hi] at h; injection h with h; exact ⟨e, i, hu, hi, h⟩
 ·simp at h
theorem run_sizeOf {e : TypeId} {i : TypeInfo} (hi : P.info? e = some i) (w : World) : (sizeOf e).run P w = .ok i.size w := by
 unfold sizeOf; rw [run_bind, run_typeInfo hi]; rfl
theorem pv_ix {t : TypeId} {x y : Operand} {s : Sl} {k : IntKind} {i : Int} {sz b o : Nat} (hz : elemSize P t = some sz) (hx : evF n f x = .slice s.a s.len s.cap) (hy : evF n f y = .int k i)
  (ha : s.a = some ⟨b, o, none⟩) (h0 : 0 <= i) (h1 : i < s.len) : OpV P n ⟨d, .indexAddr t x y, ty, ps, af, g⟩ f w (.pointer (some ⟨b, o + i.toNat * sz, none⟩)) := by
 obtain ⟨e, ei, hu, hi, rfl⟩ := elemSize_of hz
 unfold OpV
 simp only [execOp, hx, hy, Instr.indexAt, ha]
 simp only [run_bind, asIntOf, run_pure, run_underlying' hu]
 rw [if_pos ⟨h0, h1⟩]
 simp only [run_bind, run_sizeOf hi, run_pure, add_at]
theorem pv_add {t u : TypeId} {x y : Operand} {k : IntKind} {a b : Int} (hx : evF n f x = .int k a) (hy : evF n f y = .int k b) :
  OpV P n ⟨d, .binOp .add t x y u, ty, ps, af, g⟩ f w (.int k (k.wrap (a + b))) := by
 unfold OpV
 simp only [execOp, hx, hy, eqGuard, binOp, Op.intArith]
 simp [run_bind, run_pure]
theorem pv_sub {t u : TypeId} {x y : Operand} {k : IntKind} {a b : Int} (hx : evF n f x = .int k a) (hy : evF n f y = .int k b) :
  OpV P n ⟨d, .binOp .sub t x y u, ty, ps, af, g⟩ f w (.int k (k.wrap (a - b))) := by
 unfold OpV
 simp only [execOp, hx, hy, eqGuard, binOp, Op.intArith]
 simp [run_bind, run_pure]
theorem pv_mul {t u : TypeId} {x y : Operand} {k : IntKind} {a b : Int} (hx : evF n f x = .int k a) (hy : evF n f y = .int k b) :
  OpV P n ⟨d, .binOp .mul t x y u, ty, ps, af, g⟩ f w (.int k (k.wrap (a * b))) := by
 unfold OpV
 simp only [execOp, hx, hy, eqGuard, binOp, Op.intArith]
 simp [run_bind, run_pure]
theorem pv_quo {t u : TypeId} {x y : Operand} {k : IntKind} {a b : Int} (hx : evF n f x = .int k a) (hy : evF n f y = .int k b) (h0 : b ≠ 0) :
  OpV P n ⟨d, .binOp .quo t x y u, ty, ps, af, g⟩ f w (.int k (k.wrap (a.tdiv b))) := by
 unfold OpV
 simp only [execOp, hx, hy, eqGuard, binOp, Op.intDiv]
 simp [run_bind, run_pure, h0]
theorem pv_rem {t u : TypeId} {x y : Operand} {k : IntKind} {a b : Int} (hx : evF n f x = .int k a) (hy : evF n f y = .int k b) (h0 : b ≠ 0) :
  OpV P n ⟨d, .binOp .rem t x y u, ty, ps, af, g⟩ f w (.int k (a.tmod b)) := by
 unfold OpV
 simp only [execOp, hx, hy, eqGuard, binOp, Op.intDiv]
 simp [run_bind, run_pure, h0]
def cmpI : BinOp -> Int -> Int -> Bool
 | .eql, a, b => a == b
 | .neq, a, b => a != b
 | .lss, a, b => decide (a < b)
 | .leq, a, b => decide (a <= b)
 | .gtr, a, b => decide (a > b)
 | .geq, a, b => decide (a ≥ b)
 | _, _, _ => false
def isCmp : BinOp -> Bool
 | .eql | .neq | .lss | .leq | .gtr | .geq => true
 | _ => false
theorem pv_cmp {op : BinOp} {t u : TypeId} {x y : Operand} {k : IntKind} {a b : Int} {v : Bool} (hx : evF n f x = .int k a) (hy : evF n f y = .int k b) (hc : isCmp op = true) (hv : cmpI op a b = v) :
  OpV P n ⟨d, .binOp op t x y u, ty, ps, af, g⟩ f w (.bool v) := by
 unfold OpV
 subst hv
 cases op <;> first
  | (simp [isCmp] at hc; done)
  | (simp only [execOp, hx, hy, eqGuard, binOp, Op.intCmp, cmpI]; simp [run_bind, run_pure])
theorem pv_bits {op : BinOp} {t u : TypeId} {x y : Operand} {k : IntKind} {a b : Int} {r : Int} (hx : evF n f x = .int k a) (hy : evF n f y = .int k b)
    (hr : (match op with | .and => some (k.wrap (BitVec.ofInt k.bits a &&& BitVec.ofInt k.bits b).toNat) | .or => some (k.wrap (BitVec.ofInt k.bits a ||| BitVec.ofInt k.bits b).toNat) | .xor => some (k.wrap (BitVec.ofInt k.bits a ^^^ BitVec.ofInt k.bits b).toNat) | _ => none) = some r) :
    OpV P n ⟨d, .binOp op t x y u, ty, ps, af, g⟩ f w (.int k r) := by
  unfold OpV
  cases op <;> first
    | (simp at hr; done)
    | (injection hr with hr
       subst hr
       simp only [execOp, hx, hy, eqGuard, binOp, Op.intBits]; simp [run_bind, run_pure])
theorem pv_shl {t u : TypeId} {x y : Operand} {k k' : IntKind} {a b : Int} (hx : evF n f x = .int k a) (hy : evF n f y = .int k' b) (h0 : 0 <= b) :
  OpV P n ⟨d, .binOp .shl t x y u, ty, ps, af, g⟩ f w (.int k (k.wrap (a * 2 ^ (min b.toNat k.bits)))) := by
 unfold OpV
 have : ¬ b < 0 := by omega
 simp only [execOp, hx, hy, eqGuard, binOp, Op.shift]; simp [run_bind, run_pure, this]
theorem pv_shr {t u : TypeId} {x y : Operand} {k k' : IntKind} {a b : Int} (hx : evF n f x = .int k a) (hy : evF n f y = .int k' b) (h0 : 0 <= b) :
  OpV P n ⟨d, .binOp .shr t x y u, ty, ps, af, g⟩ f w (.int k (a.fdiv (2 ^ (min b.toNat k.bits)))) := by
 unfold OpV
 have : ¬ b < 0 := by omega
 simp only [execOp, hx, hy, eqGuard, binOp, Op.shift]; simp [run_bind, run_pure, this]
theorem pv_not {t : TypeId} {x : Operand} {b : Bool} (hx : evF n f x = .bool b) : OpV P n ⟨d, .unOp .not t x, ty, ps, af, g⟩ f w (.bool (!b)) := by
 unfold OpV
 simp only [execOp, hx]; rfl
theorem pv_conv {s t : TypeId} {x : Operand} {j k : IntKind} {a : Int} (hs : (P.underlying s).isSome = true) (ht : P.underlying t = some (.int k)) (hx : evF n f x = .int j a) :
  OpV P n ⟨d, .convert s t x, ty, ps, af, g⟩ f w (.int k (k.wrap a)) := by
 obtain ⟨u, hu⟩ := Option.isSome_iff_exists.1 hs
 unfold OpV
 simp only [execOp, hx, convert]
 rw [run_bind, run_bind, run_underlying' hu]
 simp only
 rw [run_bind, run_underlying' ht]
 simp only [Conv.intToInt]
 cases u <;> rfl
theorem pv_extract {x : Operand} {vs : List Value} {i : Nat} {v : Value} (hx : evF n f x = .tuple vs.toArray) (hv : vs[i]? = some v) : OpV P n ⟨d, .extract x i, ty, ps, af, g⟩ f w v := by
 unfold OpV
 simp only [execOp, hx, Instr.extract]
 rw [run_bind]
 simp only [List.getElem?_toArray, hv, run_pure]
theorem pv_iface {t : TypeId} {x : Operand} {v : Value} (ht : (match P.underlying t with | some (.interface _) => false | some _ => true | none => false) = true) (hx : evF n f x = v) :
  OpV P n ⟨d, .makeInterface t x, ty, ps, af, g⟩ f w (.iface t v) := by
 unfold OpV
 simp only [execOp, hx, Instr.makeInterface]
 cases hu : P.underlying t with
 | none => rw [hu] at ht; simp at ht
 | some u =>
  rw [hu] at ht
  rw [run_bind, run_bind, run_underlying' hu]
  cases u <;> first
   | (simp at ht; done)
   | rfl
theorem pv_func {k : FuncId} {a b : List Operand} {va vb : List Value} (ha : a.map (evF n f) = va) (hb : b.map (evF n f) = vb) :
  OpV P n ⟨d, .makeFunc (.func k) a.toArray b.toArray, ty, ps, af, g⟩ f w (.func (.func k) va.toArray vb.toArray) := by
 unfold OpV
 simp only [execOp, List.map_toArray, ha, hb, Instr.makeFunc]; rfl
def Ifc.isNil : Ifc -> Bool
 | .nil => true
 | .mk .. => false
def isIface (P : Program) (t : TypeId) : Bool :=
 match P.underlying t with
 | some (.interface _) => true
 | _ => false
theorem run_ifc_nil {t : TypeId} (ht : isIface P t = true) (e : Ifc) (w : World) : (Op.equal t e.v .nilIface).run P w = .ok e.isNil w := by
 unfold isIface at ht
 split at ht
 ·rename_i ms hu
  unfold Op.equal Op.maxDepth Op.equalIn
  rw [run_bind, run_underlying' hu]
  cases e <;> rfl
 ·simp at ht
theorem pv_ifnil {op : BinOp} {t u : TypeId} {x : Operand} {e : Ifc} {v : Bool} (ht : isIface P t = true) (hx : evF n f x = e.v) (hv : (match op with | .eql => some e.isNil | .neq => some (!e.isNil) | _ => none) = some v) :
    OpV P n ⟨d, .binOp op t x (.const .nilIface) u, ty, ps, af, g⟩ f w (.bool v) := by
  unfold OpV
  have hy : evF n f (.const .nilIface) = .nilIface := rfl
  have he := run_ifc_nil ht e w
  cases op <;> first
    | (simp at hv; done)
    | (injection hv with hv
       subst hv
       simp only [execOp, hx, hy]
       cases e <;> simp only [Ifc.v, eqGuard, binOp] at he ⊢ <;> simp [run_bind, run_pure, he])
def isPtr (P : Program) (t : TypeId) : Bool :=
 match P.underlying t with
 | some (.pointer _) => true
 | _ => false
theorem pv_ptrnil {op : BinOp} {t u : TypeId} {x : Operand} {p : Option Addr} {v : Bool} (ht : isPtr P t = true) (hx : evF n f x = .pointer p) (hv : (match op with | .eql => some p.isNone | .neq => some (!p.isNone) | _ => none) = some v) :
    OpV P n ⟨d, .binOp op t x (.const (.pointer none)) u, ty, ps, af, g⟩ f w (.bool v) := by
  unfold isPtr at ht
  split at ht
  · rename_i e hu
    have he : (Op.equal t (.pointer p) (.pointer none)).run P w = .ok p.isNone w := by
      unfold Op.equal Op.maxDepth Op.equalIn
      rw [run_bind, run_underlying' hu]
      cases p <;> rfl
    unfold OpV
    have hy : evF n f (.const (.pointer none)) = .pointer none := rfl
    cases op <;> first
      | (simp at hv; done)
      | (injection hv with hv
         subst hv
         simp only [execOp, hx, hy, eqGuard, binOp]; simp [run_bind, run_pure, he])
  · simp at ht
end
end Go.Sx
namespace Go.Sx
open Go
set_option linter.unusedSimpArgs false
def tyZero (P : Program) (t : TypeId) : Option Value := (P.info? t).bind (·.zero)
theorem run_zero {P : Program} {t : TypeId} {v : Value} (h : tyZero P t = some v) (w : World) : (zeroValue t).run P w = .ok v w := by
 unfold tyZero at h
 cases hi : P.info? t with
 | none => rw [hi] at h; simp at h
 | some i =>
  rw [hi] at h
  unfold zeroValue
  rw [run_bind, run_typeInfo hi]
  simp only [Option.bind_some] at h
  simp only [h]; rfl
theorem run_new {P : Program} {o : Obj} {w : World} : (newObj o).run P w = .ok w.heap.size (w.alloc o) := rfl
section
variable {P : Program} {n : Nat} {f : Fr} {w : World} {d : Option Tmp} {ty : TypeId} {ps : String} {af : Array Edge} {g : Option (Nat × Bool)}
theorem pw_alloc {α : Type} {T : Ty α} {t : TypeId} {z : α} {K : Value -> World -> Prop} (hT : TyOk P t T) (hz : tyZero P t = some (T.val z))
  (h : ∀ b w', b = w.heap.size -> w' = w.alloc (.cells (T.enc z).toArray t) -> K (.pointer (some ⟨b, 0, none⟩)) w') : OpW P n ⟨d, .alloc t, ty, ps, af, g⟩ f w K := by
 unfold OpW
 simp only [execOp, Instr.alloc, newVar, newRow, run_bind, run_zero hz, run_new, run_pure, val_cells hT]
 exact h _ _ rfl rfl
theorem pw_box {α : Type} {T : Ty α} {t : TypeId} {x : Operand} {v : α} {K : Value -> World -> Prop} (hT : TyOk P t T) (hx : evF n f x = T.val v)
  (h : ∀ b w', b = w.heap.size -> w' = w.alloc (.cells (T.enc v).toArray t) -> K (.pointer (some ⟨b, 0, none⟩)) w') : OpW P n ⟨d, .box t x, ty, ps, af, g⟩ f w K := by
 unfold OpW
 simp only [execOp, Instr.box, newVar, newRow, run_bind, run_new, run_pure, hx, val_cells hT]
 exact h _ _ rfl rfl
def buildOf (P : Program) (t : TypeId) (parts : List (Nat × Value)) : Option (Array Value) :=
 match tyZero P t, P.underlying t with
 | some z, some (.struct fs) => match fs.toList.mapM fun fd => (P.info? fd.type).map fun i => (fd.offset, i.size) with
  | some places => Instr.fill (places.toArray[·]?) z.cells parts
  | none => none
 | some z, some (.array _ e) => match P.info? e with
  | some i => Instr.fill (fun k => some (k * i.size, i.size)) z.cells parts
  | none => none
 | _, _ => none
theorem run_places {P : Program} {w : World} : ∀ (fs : List Field) {ps : List (Nat × Nat)}, fs.mapM (fun fd => (P.info? fd.type).map fun i => (fd.offset, i.size)) = some ps ->
  (fs.mapM fun fd => (do pure (fd.offset, <- sizeOf fd.type) : Sem (Nat × Nat))).run P w = .ok ps w
 | [], ps, h => by simp at h; subst h; rfl
 | fd :: r, ps, h => by
  rw [List.mapM_cons] at h ⊢
  cases hi : P.info? fd.type with
  | none => rw [hi] at h; simp at h
  | some i =>
   rw [hi] at h
   cases hr : r.mapM (fun fd => (P.info? fd.type).map fun i => (fd.offset, i.size)) with
   | none => rw [hr] at h; simp at h
   | some qs =>
    rw [hr] at h
    simp at h
    subst h
    rw [run_bind, run_bind, run_sizeOf hi]
    simp only [run_pure]
    rw [run_bind, run_places r hr]
    rfl
theorem pv_build {t : TypeId} {ps' : List (Nat × Operand)} {vs : List (Nat × Value)} {cs : List Value} (hv : (ps'.map fun (i, x) => (i, evF n f x)) = vs) (hb : buildOf P t vs = some cs.toArray) :
  OpV P n ⟨d, .build t ps'.toArray, ty, ps, af, g⟩ f w (.agg cs.toArray) := by
 unfold OpV
 have e : execOp (evF n f) ⟨d, .build t ps'.toArray, ty, ps, af, g⟩ = (do pure (.value (<- Instr.build t (ps'.toArray.map fun (i, x) => (i, evF n f x)))) : Sem Next) := rfl
 rw [e, List.map_toArray, hv]
 unfold buildOf at hb
 split at hb
 ·rename_i z fs hz hu
  split at hb
  ·rename_i places hp
   have hrun : (fs.mapM fun fd => (do pure (fd.offset, <- sizeOf fd.type) : Sem (Nat × Nat))).run P w = .ok places.toArray w := by
    rw [Array.mapM_eq_mapM_toList]
    show (Sem.bind _ _).run P w = _
    have h1 := run_places (w := w) fs.toList hp
    have h3 := run_bind (P := P) (w := w) (s := fs.toList.mapM fun fd => (do pure (fd.offset, <- sizeOf fd.type) : Sem (Nat × Nat))) (k := fun a => (pure a.toArray : Sem _))
    rw [h1] at h3
    exact h3
   unfold Instr.build
   simp only [run_bind, run_zero hz, run_underlying' hu, hrun, hb, run_pure]
  ·simp at hb
 ·rename_i z m el hz hu
  split at hb
  ·rename_i i hi
   unfold Instr.build
   simp only [run_bind, run_zero hz, run_underlying' hu, run_sizeOf hi, hb, run_pure]
  ·simp at hb
 ·simp at hb
def buildSliceOf (P : Program) (t : TypeId) (len : Nat) (parts : List (Nat × Value)) : Option (TypeId × Array Value) :=
 match P.underlying t with
 | some (.slice e) => match P.info? e with
  | some i => if len * i.size > 2 ^ 24 \/ len * i.size = 0 then none else
   match i.zero with
   | some z => (Instr.fill (fun k => some (k * i.size, i.size)) ((Array.range (len * i.size)).map (z.cells[· % z.cells.size]!)) parts).map fun cs => (e, cs)
   | none => none
  | none => none
 | _ => none
theorem pw_buildSlice {t e : TypeId} {len : Nat} {ps' : List (Nat × Operand)} {vs : List (Nat × Value)} {cs : List Value} {K : Value -> World -> Prop} (hv : (ps'.map fun (i, x) => (i, evF n f x)) = vs)
  (hb : buildSliceOf P t len vs = some (e, cs.toArray)) (h : ∀ b w', b = w.heap.size -> w' = w.alloc (.cells cs.toArray e) -> K (.slice (some ⟨b, 0, none⟩) len len) w') :
  OpW P n ⟨d, .buildSlice t len ps'.toArray, ty, ps, af, g⟩ f w K := by
 unfold OpW
 have e' : execOp (evF n f) ⟨d, .buildSlice t len ps'.toArray, ty, ps, af, g⟩ = (do pure (.value (<- Instr.buildSlice t len (ps'.toArray.map fun (i, x) => (i, evF n f x)))) : Sem Next) := rfl
 rw [e', List.map_toArray, hv]
 unfold buildSliceOf at hb
 split at hb
 ·rename_i el hu
  split at hb
  ·rename_i i hi
   split at hb
   ·simp at hb
   ·rename_i hn
    have h1 : ¬ len * i.size > 2 ^ 24 := fun h => hn (.inl h)
    have h2 : ¬ len * i.size = 0 := fun h => hn (.inr h)
    split at hb
    ·rename_i z hz
     have hz' : tyZero P el = some z := by unfold tyZero; rw [hi]; exact hz
     cases hf : Instr.fill (fun k => some (k * i.size, i.size)) ((Array.range (len * i.size)).map (z.cells[· % z.cells.size]!)) vs with
     | none => rw [hf] at hb; simp at hb
     | some cs' =>
      rw [hf] at hb
      injection hb with hb
      injection hb with hb1 hb2
      subst hb1 hb2
      unfold Instr.buildSlice
      simp only [run_bind, run_underlying' hu, run_sizeOf hi]
      rw [if_neg h1]
      simp only [run_bind, run_pure]
      rw [if_neg h2]
      simp only [run_bind, run_zero hz', run_pure, hf, newRow, run_new]
      exact h _ _ rfl rfl
    ·simp at hb
  ·simp at hb
 ·simp at hb
def isSlice (P : Program) (t : TypeId) : Bool :=
 match P.underlying t with
 | some (.slice _) => true
 | _ => false
theorem pv_lenS {t : TypeId} {x : Operand} {s : Sl} (ht : isSlice P t = true) (hx : evF n f x = .slice s.a s.len s.cap) :
  OpV P n ⟨d, .call ⟨.builtin .len, #[x], #[t]⟩, ty, ps, af, g⟩ f w (.int .i64 s.len) := by
 unfold isSlice at ht
 split at ht
 ·rename_i e hu
  unfold OpV
  simp only [execOp, resolve, invoke, builtin, Builtin.len_, List.map_toArray, List.map_cons, List.map_nil, hx]
  simp only [run_bind, run_pure, List.getElem?_toArray, List.getElem?_cons_zero, run_underlying' hu]
  rfl
 ·simp at ht
def isString (P : Program) (t : TypeId) : Bool :=
 match P.underlying t with
 | some .string => true
 | _ => false
theorem pv_max {t t' : TypeId} {x y : Operand} {k : IntKind} {a b : Int} (hx : evF n f x = .int k a) (hy : evF n f y = .int k b) :
  OpV P n ⟨d, .call ⟨.builtin .max, #[x, y], #[t, t']⟩, ty, ps, af, g⟩ f w (.int k (if b > a then b else a)) := by
 unfold OpV
 simp only [execOp, resolve, invoke, builtin, Builtin.max_, List.map_toArray, List.map_cons, List.map_nil, hx, hy]
 simp only [run_bind, run_pure, List.foldlM_cons, List.foldlM_nil, Builtin.max2]
theorem pv_min {t t' : TypeId} {x y : Operand} {k : IntKind} {a b : Int} (hx : evF n f x = .int k a) (hy : evF n f y = .int k b) :
  OpV P n ⟨d, .call ⟨.builtin .min, #[x, y], #[t, t']⟩, ty, ps, af, g⟩ f w (.int k (if b < a then b else a)) := by
 unfold OpV
 simp only [execOp, resolve, invoke, builtin, Builtin.min_, List.map_toArray, List.map_cons, List.map_nil, hx, hy]
 simp only [run_bind, run_pure, List.foldlM_cons, List.foldlM_nil, Builtin.min2]
theorem pw_makeMap {t : TypeId} {K : Value -> World -> Prop} (h : ∀ b w', b = w.heap.size -> w' = w.alloc (.map #[] 0) -> K (.map (some b)) w') : OpW P n ⟨d, .makeMap t none, ty, ps, af, g⟩ f w K := by
 unfold OpW
 simp only [execOp, Instr.makeMap, Option.map_none, run_bind, run_new, run_pure]
 exact h _ _ rfl rfl
def CallOk (P : Program) (k : FuncId) : Prop := ∀ args w, (callFunc k args).run P w = .ok (.enter k args) w
theorem CallOk.mk {k : FuncId} {fn : Func} (h : P.funcs[k]? = some fn) (hn : (fn.name == "runtime.NumGoroutine") = false) (hb : fn.body.isNone = false) : CallOk P k := by
 intro args w
 unfold callFunc
 rw [run_bind]
 show (match P.funcs[k]? with | none => _ | some fn => _ : Sem Next).run P w = _
 rw [h]
 simp only [hn, hb, Bool.false_eq_true, if_false, run_pure]
theorem pw_call {k : FuncId} {args : List Operand} {ts : Array TypeId} {vs : List Value} {K : Value -> World -> Prop} (hk : CallOk P k) (ha : args.map (evF n f) = vs) (h : CallsR P k vs.toArray K w) :
  OpW P n ⟨d, .call ⟨.value (.func k), args.toArray, ts⟩, ty, ps, af, g⟩ f w K := by
 unfold OpW
 have e : evF n f (.func k) = .func (.func k) #[] #[] := rfl
 have hk' : ∀ args w, (callFunc k args).run P w = .ok (.enter k args) w := hk
 simp only [execOp, resolve, e, List.map_toArray, ha, Deferred.ofValue, run_bind, run_pure, invoke, Array.append_empty, Array.empty_append, hk']
 exact h
theorem pw_callv {t : Tmp} {args : List Operand} {ts : Array TypeId} {k : FuncId} {fi ca vs : List Value} {K : Value -> World -> Prop} (hk : CallOk P k) (hf : evF n f (.tmp t) = .func (.func k) fi.toArray ca.toArray)
  (ha : args.map (evF n f) = vs) (h : CallsR P k (fi ++ vs ++ ca).toArray K w) :
  OpW P n ⟨d, .call ⟨.value (.tmp t), args.toArray, ts⟩, ty, ps, af, g⟩ f w K := by
 unfold OpW
 have hk' : ∀ args w, (callFunc k args).run P w = .ok (.enter k args) w := hk
 simp only [execOp, resolve, hf, List.map_toArray, ha, Deferred.ofValue, run_bind, run_pure, invoke, hk']
 simpa using h
def SlCells (w : World) (sz : Nat) (s : Sl) (cs : List Value) : Prop :=
 cs.length = s.len * sz /\ (s.len * sz = 0 \/ ∃ b o, s.a = some ⟨b, o, none⟩ /\ CellsAt w b o cs)
theorem CellsAt.drew {w : World} {b : Nat} : ∀ {vs : List Value} {o : Nat}, CellsAt w b o vs -> CellsAt w.drew b o vs
 | [], _, _ => trivial
 | _ :: _, _, h => ⟨h.1, CellsAt.drew h.2⟩
theorem run_loadCells {b o : Nat} {vs : List Value} (h : CellsAt w b o vs) : (loadCells ⟨b, o, none⟩ vs.length).run P w = .ok vs.toArray w := by
 unfold loadCells
 rw [run_loadCellsFrom vs 0 #[] (by simpa using h)]
 simp
theorem run_firstCells {sz : Nat} {s : Sl} {cs : List Value} (h : SlCells w sz s cs) : (Builtin.firstCells sz s.len s.v).run P w = .ok cs.toArray w := by
 unfold Builtin.firstCells Sl.v
 obtain ⟨hl, h | ⟨b, o, ha, hc⟩⟩ := h
 ·have : cs = [] := List.length_eq_zero_iff.1 (hl.trans h)
  subst this
  cases s.a with
  | none => rfl
  | some a => simp only [h]; rfl
 ·simp only [ha, <- hl]
  exact run_loadCells hc
theorem run_choose_cap {a b : Nat} {c : TypeId} : (choose (.appendCap a b c)).run P w = .ok ((Question.appendCap a b c).cut (w.tape w.drawn (.appendCap a b c))) w.drew := rfl
theorem run_askRoom {k : Nat} : (askRoom k).run P w = .ok () w := by
 unfold askRoom
 split <;> rfl
def AppCan (w : World) (sz : Nat) (s : Sl) (k : Nat) : Prop := s.len + k <= s.cap -> k * sz = 0 \/ s.a = none \/ ∃ b o, s.a = some ⟨b, o, none⟩ /\ CanSt w b (o + s.len * sz) (k * sz)
def App (e : TypeId) (sz : Nat) (w : World) (s : Sl) (old new : List Value) (k : Nat) (s' : Sl) (w' : World) : Prop :=
 (s.len + k <= s.cap /\ s' = ⟨s.a, s.len + k, s.cap⟩ /\ ((new = [] /\ w' = w) \/ (s.a = none /\ w' = w) \/ ∃ b o, s.a = some ⟨b, o, none⟩ /\ w' = putL w b (o + s.len * sz) new)) \/
 (s.cap < s.len + k /\ ∃ cap' rest, s.len + k <= cap' /\ rest.length = (cap' - (s.len + k)) * sz /\ s' = ⟨some ⟨w.heap.size, 0, none⟩, s.len + k, cap'⟩ /\ w' = w.drew.alloc (.cells (old ++ new ++ rest).toArray e))
def elemInfo (P : Program) (t : TypeId) : Option (TypeId × Nat × Nat × Nat) :=
 match P.underlying t with
 | some (.slice e) => match P.info? e with
  | some i => match i.zero with
   | some z => some (e, i.size, i.bytes, z.cells.size)
   | none => none
  | none => none
 | _ => none
theorem elemInfo_of {t e : TypeId} {sz by' zs : Nat} (h : elemInfo P t = some (e, sz, by', zs)) : ∃ i z, P.underlying t = some (.slice e) /\ P.info? e = some i /\ i.size = sz /\ i.bytes = by' /\ i.zero = some z /\ z.cells.size = zs := by
 unfold elemInfo at h
 split at h
 ·rename_i e' hu
  split at h
  ·rename_i i hi
   split at h
   ·rename_i z hz
    injection h with h
    injection h with h1 h
    injection h with h2 h
    injection h with h3 h4
    subst h1
    exact ⟨i, z, hu, hi, h2, h3, hz, h4⟩
   ·simp at h
  ·simp at h
 ·simp at h
theorem pw_append {t t' e : TypeId} {sz by' : Nat} {x y : Operand} {s r : Sl} {old new : List Value} {K : Value -> World -> Prop} (ht : elemInfo P t = some (e, sz, by', sz)) (ht' : isSlice P t' = true)
  (hx : evF n f x = .slice s.a s.len s.cap) (hy : evF n f y = .slice r.a r.len r.cap) (hs : SlCells w sz s old) (hr : SlCells w sz r new) (hp : ∀ v ∈ new, plain v = true)
  (hc : AppCan w sz s r.len) (hb : (s.len + r.len) * 4 * (by' + 1) <= 2 ^ 47)
  (h : ∀ s' w', App e sz w s old new r.len s' w' -> K (.slice s'.a s'.len s'.cap) w') :
  OpW P n ⟨d, .call ⟨.builtin .append, #[x, y], #[t, t']⟩, ty, ps, af, g⟩ f w K := by
 obtain ⟨i, z, hu, hi, rfl, rfl, hz, hzs⟩ := elemInfo_of ht
 have hz' : tyZero P e = some z := by unfold tyZero; rw [hi]; exact hz
 obtain ⟨e', hu'⟩ : ∃ e', P.underlying t' = some (.slice e') := by
  unfold isSlice at ht'
  split at ht'
  ·rename_i e' h'; exact ⟨_, h'⟩
  ·simp at ht'
 unfold OpW
 simp only [execOp, resolve, invoke, builtin, List.map_toArray, List.map_cons, List.map_nil, hx, hy]
 unfold Builtin.append_
 simp only [run_bind, run_pure, List.getElem?_toArray, List.getElem?_cons_zero, List.getElem?_cons_succ, run_underlying' hu, run_sizeOf hi, run_underlying' hu']
 simp only [Bool.false_eq_true, if_false, Builtin.lenOf, run_pure, Bool.not_false, if_true]
 simp only [run_bind, run_pure]
 by_cases hfit : s.len + r.len <= s.cap
 ·rw [if_pos hfit]
  have hfr := run_firstCells (P := P) hr
  unfold Sl.v at hfr
  simp only [run_bind, hfr]
  rcases hc hfit with h0 | h0 | ⟨b, o, ha, hst⟩
  ·have : new = [] := List.length_eq_zero_iff.1 (hr.1.trans h0)
   subst this
   cases ha : s.a with
   | none =>
    simp only [run_pure]
    have := h ⟨s.a, s.len + r.len, s.cap⟩ w (.inl ⟨hfit, rfl, .inl ⟨rfl, rfl⟩⟩)
    rw [ha] at this; exact this
   | some a =>
    simp only [run_bind, storeCells, run_pure]
    have := h ⟨s.a, s.len + r.len, s.cap⟩ w (.inl ⟨hfit, rfl, .inl ⟨rfl, rfl⟩⟩)
    rw [ha] at this; exact this
  ·rw [h0]
   simp only [run_pure]
   have := h ⟨s.a, s.len + r.len, s.cap⟩ w (.inl ⟨hfit, rfl, .inr (.inl ⟨h0, rfl⟩)⟩)
   rw [h0] at this; exact this
  ·rw [ha]
   have hsc := run_storeCells (P := P) (b := b) (o := o + s.len * i.size) new 0 w (by rw [hr.1]; simpa using hst) hp
   simp only [run_bind, add_at, hsc, run_pure]
   have := h ⟨s.a, s.len + r.len, s.cap⟩ _ (.inl ⟨hfit, rfl, .inr (.inr ⟨b, o, ha, rfl⟩)⟩)
   rw [ha] at this; simpa using this
 ·rw [if_neg hfit]
  have hbound : (s.len + r.len) * 4 <= 2 ^ 47 := by
   refine Nat.le_trans ?_ hb
   exact Nat.le_mul_of_pos_right _ (by omega)
  have hmax : ¬ (((s.len + r.len : Nat) : Int) > IntKind.i64.max /\ (False \/ i.bytes = 0)) := by
   rintro ⟨h1, _⟩
   have : IntKind.i64.max = 9223372036854775807 := rfl
   rw [this] at h1
   have : (2 : Nat) ^ 47 = 140737488355328 := rfl
   omega
  have hnext : Builtin.nextslicecap (s.len + r.len) s.cap <= 4 * (s.len + r.len) := by
   unfold Builtin.nextslicecap
   split
   ·omega
   ·split
    ·omega
    ·rename_i h1 h2
     simp only [Builtin.growBy]
     repeat' split
     all_goals omega
  have hn48 : ¬ Builtin.nextslicecap (s.len + r.len) s.cap * i.bytes > 2 ^ 48 := by
   have h1 : Builtin.nextslicecap (s.len + r.len) s.cap * i.bytes <= (s.len + r.len) * 4 * (i.bytes + 1) := by
    rw [Nat.mul_comm (s.len + r.len) 4]
    exact Nat.mul_le_mul hnext (by omega)
   have h2 : (2 : Nat) ^ 47 <= 2 ^ 48 := by decide
   omega
  simp only [run_bind, run_typeInfo hi]
  rw [if_neg hmax]
  simp only [run_bind, run_pure, run_typeInfo hi]
  rw [if_neg hn48]
  have hfo := run_firstCells (P := P) (w := w.drew) (sz := i.size) (s := s) (cs := old) ⟨hs.1, hs.2.imp id fun ⟨b, o, ha, hc⟩ => ⟨b, o, ha, CellsAt.drew hc⟩⟩
  have hfn := run_firstCells (P := P) (w := w.drew) (sz := i.size) (s := r) (cs := new) ⟨hr.1, hr.2.imp id fun ⟨b, o, ha, hc⟩ => ⟨b, o, ha, CellsAt.drew hc⟩⟩
  unfold Sl.v at hfo hfn
  simp only [run_bind, run_choose_cap, run_askRoom, run_typeInfo hi, hfo, hfn, run_zero hz', newRow, run_new, run_pure]
  have hsz : (Builtin.zeroCells z.cells ((Question.appendCap (s.len + r.len) s.cap e).cut (w.tape w.drawn (.appendCap (s.len + r.len) s.cap e)) - (s.len + r.len))).size =
    ((Question.appendCap (s.len + r.len) s.cap e).cut (w.tape w.drawn (.appendCap (s.len + r.len) s.cap e)) - (s.len + r.len)) * i.size := by
   unfold Builtin.zeroCells
   simp [hzs]
  have := h ⟨some ⟨w.heap.size, 0, none⟩, s.len + r.len, (Question.appendCap (s.len + r.len) s.cap e).cut (w.tape w.drawn (.appendCap (s.len + r.len) s.cap e))⟩ _
   (.inr ⟨by omega, _, (Builtin.zeroCells z.cells ((Question.appendCap (s.len + r.len) s.cap e).cut (w.tape w.drawn (.appendCap (s.len + r.len) s.cap e)) - (s.len + r.len))).toList,
    by simp only [Question.cut]; omega, by simpa using hsz, rfl, rfl⟩)
  have ea : (old ++ new ++ (Builtin.zeroCells z.cells ((Question.appendCap (s.len + r.len) s.cap e).cut (w.tape w.drawn (.appendCap (s.len + r.len) s.cap e)) - (s.len + r.len))).toList).toArray =
    old.toArray ++ new.toArray ++ Builtin.zeroCells z.cells ((Question.appendCap (s.len + r.len) s.cap e).cut (w.tape w.drawn (.appendCap (s.len + r.len) s.cap e)) - (s.len + r.len)) := by
   apply Array.ext'; simp
  rw [ea] at this
  exact this
end
end Go.Sx
namespace Go.Sx
open Go
set_option linter.unusedSimpArgs false
structure Keeps (S : Nat -> Prop) (w w' : World) : Prop where
 os : w'.os = w.os
 tape : w'.tape = w.tape
 output : w'.output = w.output
 size : w.heap.size <= w'.heap.size
 block : ∀ k, k < w.heap.size -> ¬ S k -> w'.heap[k]? = w.heap[k]?
theorem Keeps.refl (S : Nat -> Prop) (w : World) : Keeps S w w := ⟨rfl, rfl, rfl, Nat.le_refl _, fun _ _ _ => rfl⟩
theorem Keeps.trans {S : Nat -> Prop} {a b c : World} (h : Keeps S a b) (k : Keeps S b c) : Keeps S a c :=
 ⟨k.os.trans h.os, k.tape.trans h.tape, k.output.trans h.output, Nat.le_trans h.size k.size,
  fun i hi hs => (k.block i (Nat.lt_of_lt_of_le hi h.size) hs).trans (h.block i hi hs)⟩
theorem Keeps.mono {S S' : Nat -> Prop} {a b : World} (h : Keeps S a b) (hs : ∀ k, k < a.heap.size -> S k -> S' k) : Keeps S' a b :=
 ⟨h.os, h.tape, h.output, h.size, fun i hi hn => h.block i hi fun hS => hn (hs i hi hS)⟩
theorem Keeps.drew {S : Nat -> Prop} {a w : World} (h : Keeps S a w) : Keeps S a w.drew := ⟨h.os, h.tape, h.output, h.size, h.block⟩
def setB (w : World) (r : Nat) (o : Obj) : World := { w with heap := w.heap.setIfInBounds r o }
theorem alloc_at (w : World) (o : Obj) (k : Nat) : (w.alloc o).heap[k]? = if k = w.heap.size then some o else w.heap[k]? := by
 show (w.heap.push o)[k]? = _
 rw [Array.getElem?_push]
theorem Keeps.alloc (w : World) (o : Obj) (S : Nat -> Prop) : Keeps S w (w.alloc o) :=
 ⟨rfl, rfl, rfl, by simp, fun k hk _ => by rw [alloc_at, if_neg (by omega)]⟩
theorem setB_at (w : World) (r : Nat) (o : Obj) (k : Nat) : (setB w r o).heap[k]? = if k = r /\ r < w.heap.size then some o else w.heap[k]? := by
 show (w.heap.setIfInBounds r o)[k]? = _
 rw [Array.getElem?_setIfInBounds]
 by_cases e : r = k
 ·subst e
  by_cases h : r < w.heap.size
  ·simp [h]
  ·simp [h]
 ·rw [if_neg e, if_neg (fun h => e h.1.symm)]
theorem Keeps.setB (w : World) (r : Nat) (o : Obj) : Keeps (· = r) w (setB w r o) :=
 ⟨rfl, rfl, rfl, by simp [Sx.setB], fun k _ hs => by rw [setB_at, if_neg (fun h => hs h.1)]⟩
theorem Keeps.setCell (w : World) (b o : Nat) (v : Value) : Keeps (· = b) w (w.setCell ⟨b, o, none⟩ v) :=
 ⟨rfl, rfl, rfl, by simp, fun k _ hs => by
  simp only [World.setCell, Array.getElem?_modify]
  rw [if_neg (fun e => hs e.symm)]⟩
theorem Keeps.putL (b : Nat) : ∀ (vs : List Value) (o : Nat) (w : World), Keeps (· = b) w (putL w b o vs)
 | [], _, w => Keeps.refl _ w
 | v :: r, o, w => (Keeps.setCell w b o v).trans (Keeps.putL b r (o + 1) _)
section
variable {P : Program} {n : Nat} {f : Fr} {w : World} {d : Option Tmp} {ty : TypeId} {ps : String} {af : Array Edge} {g : Option (Nat × Bool)}
theorem wrap_i64 {n : Int} (h0 : -9223372036854775808 <= n) (h1 : n <= 9223372036854775807) : IntKind.i64.wrap n = n := by
 have e : IntKind.i64.wrap n = if (true && decide (n % 18446744073709551616 ≥ 9223372036854775808)) = true then n % 18446744073709551616 - 18446744073709551616 else n % 18446744073709551616 := rfl
 rw [e]
 split
 ·rename_i h
  have := of_decide_eq_true ((Bool.true_and _).symm.trans h)
  omega
 ·rename_i h
  have : ¬ n % 18446744073709551616 ≥ 9223372036854775808 := fun hh => h (by rw [Bool.true_and]; exact decide_eq_true hh)
  omega
theorem wrap_u64 {n : Int} (h0 : 0 <= n) (h1 : n <= 18446744073709551615) : IntKind.u64.wrap n = n := by
 have e : IntKind.u64.wrap n = if (false && decide (n % 18446744073709551616 ≥ 9223372036854775808)) = true then n % 18446744073709551616 - 18446744073709551616 else n % 18446744073709551616 := rfl
 rw [e, Bool.false_and, if_neg (by simp)]
 omega
theorem wrap_u8 {n : Int} (h0 : 0 <= n) (h1 : n <= 255) : IntKind.u8.wrap n = n := by
 have e : IntKind.u8.wrap n = if (false && decide (n % 256 ≥ 128)) = true then n % 256 - 256 else n % 256 := rfl
 rw [e, Bool.false_and, if_neg (by simp)]
 omega
def mkCells (z : Array Value) (k : Nat) : Array Value := (Array.range k).map (z[· % z.size]!)
theorem pw_makeSlice {t e : TypeId} {sz by' zs : Nat} {z : Value} {x y : Operand} {k : IntKind} {l : Int} {K : Value -> World -> Prop} (ht : elemInfo P t = some (e, sz, by', zs)) (hz : tyZero P e = some z)
  (hx : evF n f x = .int k l) (hy : evF n f y = .int k l) (h0 : 0 <= l) (hb : l * (by' + 1) <= 2 ^ 47)
  (h' : ∀ b w', b = w.heap.size -> w' = w.alloc (.cells (mkCells z.cells (l.toNat * sz)) e) -> K (.slice (some ⟨b, 0, none⟩) l.toNat l.toNat) w') : OpW P n ⟨d, .makeSlice t x y, ty, ps, af, g⟩ f w K := by
 obtain ⟨i, z', hu, hi, rfl, rfl, hz', rfl⟩ := elemInfo_of ht
 have h := h' _ _ rfl rfl
 have hlb : l <= 2 ^ 47 := by
  have hle : l * 1 <= l * ((i.bytes : Int) + 1) := Int.mul_le_mul_of_nonneg_left (by omega) h0
  omega
 have hlb2 : (i.bytes : Int) * l <= 2 ^ 47 := by
  have hle : (i.bytes : Int) * l <= l * ((i.bytes : Int) + 1) := by rw [Int.mul_comm]; exact Int.mul_le_mul_of_nonneg_left (by omega) h0
  omega
 have hw : IntKind.i64.wrap l = l := wrap_i64 (by omega) (by
  have h1 : (2 : Int) ^ 47 = 140737488355328 := by decide
  omega)
 have h48 : ¬ ((i.bytes : Int) * l > 2 ^ 48) := by
  have h1 : (2 : Int) ^ 47 = 140737488355328 := by decide
  have h2 : (2 : Int) ^ 48 = 281474976710656 := by decide
  omega
 have hn : ¬ l < 0 := by omega
 unfold OpW
 simp only [execOp, Instr.makeSlice, hx, hy]
 simp only [run_bind, run_underlying' hu, asInt, asIntOf, run_pure, run_typeInfo hi, hw]
 have h48' : (i.bytes : Int) * l <= 281474976710656 := by
  have h1 : (2 : Int) ^ 47 = 140737488355328 := by decide
  omega
 rw [if_neg (by simp [hn, h48'])]
 simp only [run_bind, run_askRoom, run_sizeOf hi, run_pure]
 by_cases hz0 : l.toNat * i.size = 0
 ·rw [if_pos hz0]
  simp only [run_bind, newRow, run_new, run_pure, hz0]
  rw [hz0] at h
  have e0 : mkCells z.cells 0 = (Array.range 0).map (fun x => (#[] : Array Value)[x % (#[] : Array Value).size]!) := by simp [mkCells]
  rw [e0] at h
  exact h
 ·rw [if_neg hz0]
  simp only [run_bind, run_zero hz, newRow, run_new, run_pure]
  exact h
def Sl.cut (s : Sl) (sz l h m : Nat) : Sl := ⟨if m = l then s.a else s.a.map (·.add (l * sz)), h - l, m - l⟩
theorem run_sliceBound {k : IntKind} {a : Int} {y : Nat} {c : BoundsCode} (h0 : 0 <= a) (h1 : a <= y) : (Instr.sliceBound (.int k a) y c).run P w = .ok a.toNat w := by
 unfold Instr.sliceBound
 simp only [run_bind, asIntOf, run_pure]
 rw [if_pos ⟨h0, h1⟩]; rfl
theorem pv_sliceLo {t : TypeId} {x lo : Operand} {s : Sl} {sz : Nat} {k : IntKind} {a : Int} (hz : elemSize P t = some sz) (hx : evF n f x = .slice s.a s.len s.cap) (hl : evF n f lo = .int k a) (h0 : 0 <= a) (h1 : a <= s.len) :
  OpV P n ⟨d, .slice t x (some lo) none none, ty, ps, af, g⟩ f w (.slice (s.cut sz a.toNat s.len s.cap).a (s.cut sz a.toNat s.len s.cap).len (s.cut sz a.toNat s.len s.cap).cap) := by
 obtain ⟨e, i, hu, hi, rfl⟩ := elemSize_of hz
 unfold OpV
 simp only [execOp, Instr.sliceAt, hx, Option.map_some, Option.map_none, hl]
 simp only [run_bind, run_underlying' hu, Instr.slice, Instr.sliceBounds, run_pure, Option.isSome_none, Bool.false_eq_true, if_false, run_sliceBound h0 h1, run_sizeOf hi]
 rfl
theorem pv_sliceHiMax {t : TypeId} {x hi' mx : Operand} {s : Sl} {sz : Nat} {k k' : IntKind} {a b : Int} (hz : elemSize P t = some sz) (hx : evF n f x = .slice s.a s.len s.cap) (hl : evF n f hi' = .int k a) (hh : evF n f mx = .int k' b)
  (h0 : 0 <= a) (h1 : a <= b) (h2 : b <= s.cap) :
  OpV P n ⟨d, .slice t x none (some hi') (some mx), ty, ps, af, g⟩ f w (.slice (s.cut sz 0 a.toNat b.toNat).a (s.cut sz 0 a.toNat b.toNat).len (s.cut sz 0 a.toNat b.toNat).cap) := by
 obtain ⟨e, i, hu, hi, rfl⟩ := elemSize_of hz
 have hb0 : 0 <= b := by omega
 have hab : a <= (b.toNat : Int) := by omega
 unfold OpV
 simp only [execOp, Instr.sliceAt, hx, Option.map_some, Option.map_none, hl, hh]
 simp only [run_bind, run_underlying' hu, Instr.slice, Instr.sliceBounds, run_pure, Option.isSome_some, if_true, run_sliceBound hb0 h2, run_sliceBound h0 hab, run_sizeOf hi]
 rfl
def isAggD : TypeDesc -> Bool
 | .struct _ | .array _ _ => true
 | _ => false
theorem run_isAgg {t : TypeId} {u : TypeDesc} (hu : P.underlying t = some u) : (isAgg t).run P w = .ok (isAggD u) w := by
 unfold isAgg
 rw [run_bind, run_underlying' hu]
 cases u <;> rfl
def partOf (P : Program) (s : TypeId) (i : Nat) (cs : Array Value) : Option Value :=
 match P.underlying s with
 | some (.struct fs) => match fs[i]? with
  | some fd => match P.underlying fd.type, P.info? fd.type with
   | some u, some t => if isAggD u then some (.agg (cs.extract fd.offset (fd.offset + t.size))) else cs[fd.offset]?
   | _, _ => none
  | none => none
 | _ => none
theorem pv_part {s : TypeId} {x : Operand} {i : Nat} {cs : Array Value} {v : Value} (hx : evF n f x = .agg cs) (hp : partOf P s i cs = some v) : OpV P n ⟨d, .field s x i, ty, ps, af, g⟩ f w v := by
 unfold OpV
 simp only [execOp, Instr.field, hx]
 unfold partOf at hp
 split at hp
 ·rename_i fs hu
  split at hp
  ·rename_i fd hfd
   split at hp
   ·rename_i u t hu' ht
    simp only [run_bind, run_underlying' hu, hfd, asAgg, run_pure, part, run_isAgg hu']
    split at hp
    ·rename_i hc
     injection hp with hp
     rw [if_pos hc]
     simp only [run_bind, run_sizeOf ht, run_pure, hp]
    ·rename_i hc
     rw [if_neg hc, hp]
     rfl
   ·simp at hp
  ·simp at hp
 ·simp at hp
def arrOf (P : Program) (s : TypeId) : Option (Nat × Nat) :=
 match P.underlying s with
 | some (.array l e) => (P.info? e).map fun i => (l, i.size)
 | _ => none
theorem pv_ixA {t : TypeId} {x y : Operand} {k : IntKind} {i : Int} {len sz b o : Nat} (hz : arrOf P t = some (len, sz)) (hx : evF n f x = .pointer (some ⟨b, o, none⟩)) (hy : evF n f y = .int k i)
  (h0 : 0 <= i) (h1 : i < len) : OpV P n ⟨d, .indexAddr t x y, ty, ps, af, g⟩ f w (.pointer (some ⟨b, o + i.toNat * sz, none⟩)) := by
 unfold arrOf at hz
 split at hz
 ·rename_i l e hu
  cases hi : P.info? e with
  | none => rw [hi] at hz; simp at hz
  | some ei =>
   rw [hi] at hz
   injection hz with hz
   injection hz with hz1 hz2
   subst hz1 hz2
   unfold OpV
   simp only [execOp, hx, hy, Instr.indexAt]
   simp only [run_bind, asIntOf, run_pure, run_underlying' hu, Instr.sureAddr]
   rw [if_pos ⟨h0, h1⟩]
   simp only [run_bind, run_sizeOf hi, run_pure, add_at]
 ·simp at hz
end
end Go.Sx
