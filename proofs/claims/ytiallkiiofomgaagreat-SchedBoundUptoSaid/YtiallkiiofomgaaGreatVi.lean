/- Abstract values: what a call is said to do; code in order; what is left of it is reckoned out. -/
import Derived.Test.YtiallkiiofomgaaGreatVh
namespace Go.Proofs.YtiallkiiofomgaaGreat
abbrev Kt := Exit → Fr → Hp → Prop
def np : Exit → Prop
  | .panic _ => False
  | _ => True
def Post (Wr : Nat → Prop) (K : Kt) (w : World) (s : Sto) (own : Nat → Option Nat) (n : Nat) (ds : List Deferred) (e : Exit) (a : Act) (w' : World) : Prop :=
  np e ∧ a.defers = ds ∧ a.tmps.size = n ∧ ∃ fr s' own' H', Ext Wr w s own w' s' own' ∧ St w' s' own' H' ∧ RepF s' fr a.tmps ∧ K e fr H'
theorem Post.back {Wr : Nat → Prop} {K : Kt} {w w1 w' : World} {s s1 : Sto} {own own1 : Nat → Option Nat} {n : Nat} {ds : List Deferred} {e : Exit} {a : Act} (x : Ext Wr w s own w1 s1 own1) (h : Post Wr K w1 s1 own1 n ds e a w') : Post Wr K w s own n ds e a w' := by
  obtain ⟨h0, h1, h2, fr, s', own', H', h3, h4⟩ := h
  exact ⟨h0, h1, h2, fr, s', own', H', x.trans h3, h4⟩
/-- temporaries are there -/
def Oper.bd (ops : Array Oper) (n : Nat) (o : Oper) : Bool :=
  o.dst.all (fun d => decide (d < n)) && o.op.operands.toList.all (Operand.bd n) && (match o.guard with | some (j, _) => ((ops[j]?).bind (·.dst)).all (fun d => decide (d < n)) | none => true)
def Code.bd (n : Nat) : Code → Bool
  | .region _ ops _ => ops.toList.all (Oper.bd ops n)
  | .seq a b => Code.bd n a && Code.bd n b
  | .cond c a b => Operand.bd n c && Code.bd n a && Code.bd n b
  | .block _ b | .loop b | .scope b => Code.bd n b
  | .rangeFunc f _ a b => Operand.bd n f && Code.bd n a && Code.bd n b
  | _ => true
/-- a call by this function: it is entered; or it is none of the program's and yields at once -/
def ACq (P : Program) (f : FuncId) (vs : Array Value) (w : World) (Q : Ending → World → Prop) : Prop :=
  ((callFunc f vs).run P w = .ok (.enter f vs) w ∧ Calls P f vs w Q) ∨ ∃ v w', (callFunc f vs).run P w = .ok (.value v) w' ∧ Q (.returned v) w'
/-- what is told behind a call: of the names that it may have made, of the value, of the heap -/
abbrev Rs := (Nat → Prop) → AV → Hp → Prop
/-- a call: of these arguments, in such a heap, it may write W alone, and gives R -/
def AC (P : Program) (f : FuncId) (as : List AV) (H : Hp) (W : List Nat) (R : Rs) : Prop :=
  ∀ (w : World) (s : Sto) (own : Nat → Option Nat) (vs : List Value) (Wr : Nat → Prop), St w s own H → Reps s as vs → (∀ m ∈ W, Wr m) → (∀ m, w.heap.size ≤ m → Wr m) →
    ACq P f vs.toArray w fun e w' => ∃ v a s' own' H', e = .returned v ∧ Ext Wr w s own w' s' own' ∧ St w' s' own' H' ∧ Rep s' a v ∧ R Wr a H'
section
variable (P : Program) (Wr : Nat → Prop)
def aC (c : Code) (K : Kt) (fr : Fr) (H : Hp) : Prop := ∀ (w : World) (s : Sto) (own : Nat → Option Nat) (tm : Array Value) (ds : List Deferred), St w s own H → RepF s fr tm → (∀ m, w.heap.size ≤ m → Wr m) → Code.bd tm.size c = true →
  c.wp P (Post Wr K w s own tm.size ds) ⟨tm, ds⟩ w
def aO (ops : Array Oper) (K : Kt) (rest : List Oper) (fr : Fr) (H : Hp) : Prop := ∀ (w : World) (s : Sto) (own : Nat → Option Nat) (tm : Array Value) (ds : List Deferred), St w s own H → RepF s fr tm → (∀ m, w.heap.size ≤ m → Wr m) → rest.all (Oper.bd ops tm.size) = true →
  wpList P ops (Post Wr K w s own tm.size ds) rest ⟨tm, ds⟩ w
def acall (pu : Bool) (f : FuncId) (as : List AV) (H : Hp) (k : AV → Hp → Prop) : Prop := ∃ W R, AC P f as H W R ∧ (pu = true → W = []) ∧ (∀ m ∈ W, Wr m) ∧ ∀ N a H', (∀ b, N b → Wr b) → R N a H' → k a H'
def ebc (rv : Operand → AV) (H : Hp) : Callee → List Operand → List TypeId → (AV → Hp → Prop) → Prop
  | .builtin .append, [x, y], [t, u], k => eap (tE P t) (tEz P t) (tN P u) Wr (nrm (rv x)) (asrc H (nrm (rv y))) H k
  | .builtin .copy, [x, y], [t, u], k => ecp (tE P t) (tN P u) Wr (nrm (rv x)) (asrc H (nrm (rv y))) H k
  | ce, as, ts, k => pcl P rv ce as ts fun a => k a H
def eop (rv : Operand → AV) (H : Hp) : Op → (AV → Hp → Prop) → Prop
  | .load t x, k => eld (tK P t) (nrm (rv x)) H fun a => k a H
  | .store t x y, k => est (tS P t) Wr (nrm (rv x)) (nrm (rv y)) H fun H' => k (.v undef) H'
  | .alloc t, k => enew t Wr (zcells (tZ P t)) H k
  | .box t x, k => enew t Wr (avc (nrm (rv x))) H k
  | .buildSlice t n ps, k => ebs (tEz P t) (tE P t) n (fun x => nrm (rv x)) ps.toList fun a => k a H
  | .makeSlice t x y, k => emk (tE P t) (tZe P (tE P t)) Wr (num (nrm (rv x))) (num (nrm (rv y))) H k
  | .call c, k => ebc P Wr rv H c.callee c.args.toList c.argTypes.toList k
  | op, k => pop P rv op fun a => k a H
/-- whom a call calls -/
def ecv (pu : Bool) (f : AV) (as : List AV) (H : Hp) (k : AV → Hp → Prop) : Prop := match f with
  | .v (.func (.func g) a b) => acall P Wr pu g (a.toList.map .v ++ as ++ b.toList.map .v) H k
  | _ => False
/-- a method, called through an interface -/
def eiv (pu : Bool) (name : String) (x : AV) (as : List AV) (H : Hp) (k : AV → Hp → Prop) : Prop := match x with
  | .v (.iface t v) => ∃ g v', (∀ w, (method (P.types.size + Made.depth) t v name).run P w = .ok (g, v') w) ∧ acall P Wr pu g (.v v' :: as) H k
  | _ => False
def ecl (pu : Bool) (rv : Operand → AV) (H : Hp) (c : Call) (k : AV → Hp → Prop) : Prop := match c.callee with
  | .value f => ecv P Wr pu (nrm (rv f)) (c.args.toList.map fun x => nrm (rv x)) H k
  | .invoke x m => eiv P Wr pu m (nrm (rv x)) (c.args.toList.map fun x => nrm (rv x)) H k
  | _ => False
end
def isCall : Op → Bool
  | .call c => match c.callee with
    | .builtin _ => false
    | _ => true
  | _ => false
def isPure : Op → Bool
  | .load .. | .store .. | .alloc _ | .box .. | .buildSlice .. | .makeSlice .. => false
  | .call c => match c.callee with
    | .builtin .append | .builtin .copy => false
    | .builtin _ => true
    | _ => false
  | _ => true
/-- a guarded operation: it comes up, or not; or what it yields is known under the guard -/
def eG (g : Bool) (X Y Z : Unit → Prop) : Prop := ((g = true → X ()) ∧ (g = false → Y ())) ∨ Z ()
theorem eG.yes {X Y Z : Unit → Prop} (h : X ()) : eG true X Y Z := .inl ⟨fun _ => h, fun e => by cases e⟩
theorem eG.no {X Y Z : Unit → Prop} (h : Y ()) : eG false X Y Z := .inl ⟨fun e => (by cases e), fun _ => h⟩
theorem eG.go {g : Bool} {X Y Z : Unit → Prop} (h : Z ()) : eG g X Y Z := .inr h
theorem eG.both {g : Bool} {X Y Z : Unit → Prop} (h : g = true → X ()) (k : g = false → Y ()) : eG g X Y Z := .inl ⟨h, k⟩
def acond (c : AV) (X Y : Prop) : Prop := match c with
  | .v (.bool b) => (b = true → X) ∧ (b = false → Y)
  | _ => False
def gv (ops : Array Oper) (fr : Fr) (j : Nat) : AV := match (ops[j]?).bind (·.dst) with
  | some t => fr t
  | none => .any
def egd (a : AV) (wt : Bool) (X Y : Unit → Prop) (Z : Bool → Unit → Prop) : Prop := match a with
  | .v (.bool A) => eG (A == wt) X Y (Z (A == wt))
  | _ => False
section
variable (P : Program) (Wr : Nat → Prop)
/-- behind a call: what is to be shown; or on with the reckoning -/
abbrev Ct := List Oper → Fr → Hp → Prop → Prop
def cT (ops : Array Oper) (K : Kt) : Ct := fun rest fr H _ => aO P Wr ops K rest fr H
def cD : Ct := fun _ _ _ X => X
def eO (ops : Array Oper) (pu : Option Tmp → Bool) (C : Ct) (K : Kt) : List Oper → Fr → Hp → Prop
  | [], fr, H => K .normal fr H
  | o :: rest, fr, H =>
    let run (fr : Fr) : Prop := match o.op with
      | .call c => if isCall (.call c) then ecl P Wr (pu o.dst) (aev fr) H c fun a H' => C rest (fput fr o.dst a) H' (eO ops pu C K rest (fput fr o.dst a) H')
        else eop P Wr (aev fr) H (.call c) fun a H' => eO ops pu C K rest (fput fr o.dst a) H'
      | op => eop P Wr (aev fr) H op fun a H' => eO ops pu C K rest (fput fr o.dst a) H'
    match o.guard with
    | none => run fr
    | some (j, wt) => egd (gv ops fr j) wt (fun _ => run fr) (fun _ => eO ops pu C K rest (fput fr o.dst (.v undef)) H)
        fun g _ => match o.op with
        | .load t x => eld (tK P t) (nrm (str g (aev fr x))) H fun a => eO ops pu C K rest (fput fr o.dst (.gd g a)) H
        | op => pop P (fun x => str g (aev fr x)) op fun a => eO ops pu C K rest (fput fr o.dst (.gd g a)) H
/-- code, reckoned out till a call, a loop or a test -/
def eC : Code → Kt → Fr → Hp → Prop
  | .skip, K, fr, H => K .normal fr H
  | .region _ ops false, K, fr, H => eO P Wr ops (fun _ => false) (cT P Wr ops K) K ops.toList fr H
  | .seq a b, K, fr, H => eC a (fun e fr H => match e with | .normal => eC b K fr H | e => K e fr H) fr H
  | .cond c a b, K, fr, H => acond (nrm (aev fr c)) (aC P Wr a K fr H) (aC P Wr b K fr H)
  | .block id b, K, fr, H => eC b (fun e fr H => match e with | .exit i => if i = id then K .normal fr H else K (.exit i) fr H | e => K e fr H) fr H
  | .exit id, K, fr, H => K (.exit id) fr H
  | .ret, K, fr, H => K .ret fr H
  | .label _, K, fr, H => K .normal fr H
  | c, K, fr, H => aC P Wr c K fr H
end
end Go.Proofs.YtiallkiiofomgaaGreat
