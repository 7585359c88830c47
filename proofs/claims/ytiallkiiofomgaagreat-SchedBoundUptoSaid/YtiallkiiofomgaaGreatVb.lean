/- Abstract values: operations that only compute. -/
import Derived.Test.YtiallkiiofomgaaGreatVa
namespace Go.Proofs.YtiallkiiofomgaaGreat
abbrev Fr := Nat → AV
def fset (f : Fr) (d : Nat) (a : AV) : Fr := fun i => if i = d then a else f i
def fput (f : Fr) : Option Nat → AV → Fr
  | none, _ => f
  | some d, a => fset f d a
def ofVal : Value → AV
  | .agg cs => if cs.toList.all (·.oneCell') then .agg (cs.toList.map .v) else .any
  | x => .v x
def aev (f : Fr) : Operand → AV
  | .tmp t => f t
  | .const x => ofVal x
  | .global g => .v (.pointer (some ⟨g, 0, none⟩))
  | .func g => .v (.func (.func g) #[] #[])
/-- what is known under a test that said yes -/
def str (A : Bool) : AV → AV
  | .gd B x => bif A == B then x else .gd B x
  | a => a
def nrm : AV → AV
  | .gd B x => bif B then x else .any
  | a => a
/-- an operand, as it is looked at -/
def ev (f : Fr) (x : Operand) : AV := nrm (aev f x)
def RepF (s : Sto) (f : Fr) (tm : Array Value) : Prop := ∀ i x, tm[i]? = some x → Rep s (f i) x
def Operand.bd (n : Nat) : Operand → Bool
  | .tmp t => decide (t < n)
  | _ => true
theorem ofVal_rep (s : Sto) (x : Value) : Rep s (ofVal x) x := by
  unfold ofVal
  split
  · rename_i cs
    split
    · rename_i ha
      have h : (Value.agg cs) = .agg cs.toList.toArray := by simp
      rw [h]
      refine .agg _ _ (by simp) (fun x hx => List.all_eq_true.1 ha x (by simpa using hx)) (fun i a y e g => ?_)
      simp only [List.getElem?_map, Option.map_eq_some_iff] at e
      obtain ⟨z, e, rfl⟩ := e
      rw [show cs.toList.toArray.toList = cs.toList by simp] at e
      rw [g] at e; cases e
      exact .v y
    · exact .any _
  · exact .v x
theorem str_rep {s : Sto} {A : Bool} {a : AV} {x : Value} (h : Rep s a x) (hA : A = true) : Rep s (str A a) x := by
  subst hA
  cases h with
  | gd B a x h =>
    unfold str
    cases B with
    | true => exact h rfl
    | false => exact .gd false a x h
  | any x => exact .any x
  | v x => exact .v x
  | nil x a c h hx => exact .nil x a c h hx
  | sl x l b o es c f h1 h2 h3 h4 h5 => exact .sl x l b o es c f h1 h2 h3 h4 h5
  | ep l i k b o es f h1 h2 h3 => exact .ep l i k b o es f h1 h2 h3
  | agg l vs h1 h2 h3 => exact .agg l vs h1 h2 h3
  | tup l vs h1 h3 => exact .tup l vs h1 h3
  | wd q n => exact .wd q n
theorem nrm_rep {s : Sto} {a : AV} {x : Value} (h : Rep s a x) : Rep s (nrm a) x := by
  cases h with
  | gd B a x h =>
    unfold nrm
    cases B with
    | true => exact h rfl
    | false => exact .any x
  | any x => exact .any x
  | v x => exact .v x
  | nil x a c h hx => exact .nil x a c h hx
  | sl x l b o es c f h1 h2 h3 h4 h5 => exact .sl x l b o es c f h1 h2 h3 h4 h5
  | ep l i k b o es f h1 h2 h3 => exact .ep l i k b o es f h1 h2 h3
  | agg l vs h1 h2 h3 => exact .agg l vs h1 h2 h3
  | tup l vs h1 h3 => exact .tup l vs h1 h3
  | wd q n => exact .wd q n
theorem RepF.eval {s : Sto} {f : Fr} {tm : Array Value} {ds : List Deferred} (h : RepF s f tm) {x : Operand} (hb : Operand.bd tm.size x = true) : Rep s (aev f x) (Act.eval ⟨tm, ds⟩ x) := by
  cases x with
  | tmp t =>
    have ht : t < tm.size := by simpa [Operand.bd] using hb
    refine h t _ ?_
    simp [Act.eval, ht]
  | const x => exact ofVal_rep s x
  | global g => exact .v _
  | func g => exact .v _
theorem RepF.mono {s t : Sto} (h : s.le t) {f : Fr} {tm : Array Value} (r : RepF s f tm) : RepF t f tm := fun i x e => (r i x e).mono h
theorem RepF.put {s : Sto} {f : Fr} {tm : Array Value} (h : RepF s f tm) (d : Option Nat) {a : AV} {x : Value} {ds : List Deferred} (r : Rep s a x) : RepF s (fput f d a) (Act.put ⟨tm, ds⟩ d x).tmps := by
  cases d with
  | none => exact h
  | some d =>
    intro i y e
    simp only [Act.put, Array.getElem?_setIfInBounds] at e
    unfold fput fset
    dsimp only
    split at e
    · rename_i hd
      rw [if_pos hd.symm]
      split at e
      · cases e; exact r
      · cases e
    · rename_i hd
      rw [if_neg (fun q => hd q.symm)]; exact h i y e
/- what the program's types say -/
section
variable (P : Program)
/-- one cell, or a struct of so many -/
def tK (t : TypeId) : Option (Option Nat) := match P.underlying t, P.info? t with
  | some (.struct _), some i => some (some i.size)
  | some (.array _ _), some i => some (some i.size)
  | some _, some _ => some none
  | _, _ => none
def tS (t : TypeId) : Option Nat := (P.info? t).map (·.size)
def tZ (t : TypeId) : Option Value := (P.info? t).bind (·.zero)
/-- where a field lies; what it is -/
def tF (s : TypeId) (f : Nat) : Option (Nat × Nat × Option Nat) := match P.underlying s with
  | some (.struct fs) => match fs[f]? with
    | some d => match tS P d.type, tK P d.type with
      | some (n + 1), some k => some (d.offset, n + 1, k)
      | _, _ => none
    | none => none
  | _ => none
/-- a slice's elements: their type, their cells, their bytes -/
def tE (t : TypeId) : Option (TypeId × Nat × Nat) := match P.underlying t with
  | some (.slice e) => (P.info? e).map fun i => (e, i.size, i.bytes)
  | _ => none
/-- a struct's fields: where, how many cells -/
def tPl (t : TypeId) : Option (List (Nat × Nat)) := match P.underlying t with
  | some (.struct fs) => fs.toList.mapM (fun f => (P.info? f.type).map fun i => (f.offset, i.size))
  | _ => none
def tN (t : TypeId) : Nat := match P.underlying t with
  | some (.pointer _) => 1
  | some (.slice _) => 2
  | some (.func _ _ _) => 3
  | some (.interface _) => 4
  | some (.map _ _) => 5
  | some .bool => 6
  | some .string => 7
  | some (.int _) => 8
  | some _ => 9
  | none => 0
def tI (t : TypeId) : Option IntKind := match P.underlying t with
  | some (.int k) => some k
  | _ => none
end
def nlV : Value → Option (Nat × Bool)
  | .pointer none => some (1, true)
  | .pointer (some _) => some (1, false)
  | .slice none _ _ => some (2, true)
  | .slice (some _) _ _ => some (2, false)
  | .nilFunc => some (3, true)
  | .func _ _ _ => some (3, false)
  | .nilIface => some (4, true)
  | .iface _ _ => some (4, false)
  | .map none => some (5, true)
  | .map (some _) => some (5, false)
  | _ => none
def nlA : AV → Option (Nat × Bool)
  | .v x => nlV x
  | .sl _ (_ :: _) => some (2, false)
  | .ep _ _ _ => some (1, false)
  | _ => none
theorem nlA_sound {s : Sto} {a : AV} {x : Value} {p : Nat × Bool} (r : Rep s a x) (h : nlA a = some p) : nlV x = some p := by
  cases r with
  | v x => exact h
  | sl x l b o es c f h1 h2 h3 h4 h5 => cases l with
    | nil => cases h
    | cons r l => exact h
  | ep l i k b o es f h1 h2 h3 => exact h
  | _ => cases h
def lo64 : Int := -9223372036854775808
def hi64 : Int := 9223372036854775807
/-- a number that does not run over -/
def pnum (q : IntKind) (n : Int) (k : AV → Prop) : Prop := match q with
  | .i64 => (-9223372036854775808 ≤ n ∧ n ≤ 9223372036854775807) ∧ k (.v (.int .i64 n))
  | q => k (.v (.int q (q.wrap n)))
def pint (op : BinOp) (q : IntKind) (a b : Int) (k : AV → Prop) : Prop := match op with
  | .add => pnum q (a + b) k
  | .sub => pnum q (a - b) k
  | .mul => pnum q (a * b) k
  | .quo => b ≠ 0 ∧ k (.v (.int q (q.wrap (a.tdiv b))))
  | .rem => b ≠ 0 ∧ k (.v (.int q (a.tmod b)))
  | .and => k (.v (.int q (q.wrap (BitVec.ofInt q.bits a &&& BitVec.ofInt q.bits b).toNat)))
  | .or => k (.v (.int q (q.wrap (BitVec.ofInt q.bits a ||| BitVec.ofInt q.bits b).toNat)))
  | .xor => k (.v (.int q (q.wrap (BitVec.ofInt q.bits a ^^^ BitVec.ofInt q.bits b).toNat)))
  | .andNot => k (.v (.int q (q.wrap (BitVec.ofInt q.bits a &&& ~~~BitVec.ofInt q.bits b).toNat)))
  | .eql => k (.v (.bool (a == b)))
  | .neq => k (.v (.bool (a != b)))
  | .lss => k (.v (.bool (a < b)))
  | .leq => k (.v (.bool (a ≤ b)))
  | .gtr => k (.v (.bool (a > b)))
  | .geq => k (.v (.bool (a ≥ b)))
  | .shl => 0 ≤ b ∧ k (.v (.int q (q.wrap (a * 2 ^ min b.toNat q.bits))))
  | .shr => 0 ≤ b ∧ k (.v (.int q (a.fdiv (2 ^ min b.toNat q.bits))))
def isC : Operand → Bool
  | .const _ => true
  | _ => false
/-- equality where it is no number's -/
def peq (tn : Nat) (c : Bool) (x y : AV) (k : Bool → Prop) : Prop := match x, y with
  | .v (.bool a), .v (.bool b) => tn = 6 ∧ k (a == b)
  | .v (.string a), .v (.string b) => tn = 7 ∧ k (a.toList == b.toList)
  | x, y => match nlA x, nlA y with
    | some (n, a), some (m, b) => (tn = n ∧ tn = m ∧ (a || b) = true ∧ (n ≠ 4 ∨ (a && b) = false ∨ c = true)) ∧ k (a && b)
    | _, _ => False
def pbin (tn : Nat) (c : Bool) (op : BinOp) (x y : AV) (k : AV → Prop) : Prop := match x, y with
  | .v (.int q a), .v (.int q' b) => (q = q' ∨ op = .shl ∨ op = .shr) ∧ pint op q a b k
  | .wd q, .v (.int q' b) => (q = q' ∧ op = .add) ∧ k (.wd q)
  | .sl _ l, .v (.slice none 0 0) => (tn = 2 ∧ (op = .eql ∨ op = .neq)) ∧ ∀ b, (b = true → l = []) → k (.v (.bool (if op = .eql then b else !b)))
  | x, y => match op with
    | .eql => peq tn c x y fun b => k (.v (.bool b))
    | .neq => peq tn c x y fun b => k (.v (.bool (!b)))
    | _ => False
def pun (op : UnOp) (x : AV) (k : AV → Prop) : Prop := match op, x with
  | .not, .v (.bool b) => k (.v (.bool !b))
  | .neg, .v (.int q n) => pnum q (0 - n) k
  | _, _ => False
def pfa (o : Option (Nat × Nat × Option Nat)) (x : AV) (k : AV → Prop) : Prop := match o, x with
  | some (n, _), .v (.pointer (some ⟨b, o, none⟩)) => k (.v (.pointer (some ⟨b, o + n, none⟩)))
  | some (n, _), .ep l i j => k (.ep l i (j + n))
  | _, _ => False
def optk : Option AV → (AV → Prop) → Prop
  | some a, k => k a
  | none, _ => False
theorem optk_inv {o : Option AV} {k : AV → Prop} (h : optk o k) : ∃ a, o = some a ∧ k a := by cases o; exact h.elim; exact ⟨_, rfl, h⟩
/-- some cells as a value -/
def pick1 (tk : Option Nat) (l : List AV) (o : Nat) (k : AV → Prop) : Prop := match tk with
  | none => optk l[o]? k
  | some n => o + n ≤ l.length ∧ k (.agg ((l.drop o).take n))
def pfd (o : Option (Nat × Nat × Option Nat)) (x : AV) (k : AV → Prop) : Prop := match o, x with
  | some (n, _, tk), .agg l => pick1 tk l n k
  | _, _ => False
def pext (i : Nat) (x : AV) (k : AV → Prop) : Prop := match x with
  | .tup l => optk l[i]? k
  | _ => False
/-- a row that is only read -/
def AV.rows : AV → Option (Bool × List (List AV))
  | .sl x l => some (x, l)
  | _ => none
def alen (tn : Nat) (x : AV) (k : AV → Prop) : Prop := match x with
  | .v (.slice _ n _) => tn = 2 ∧ k (.v (.int .i64 n))
  | .v (.string s) => tn = 7 ∧ k (.v (.int .i64 s.size))
  | x => match x.rows with
    | some (_, l) => tn = 2 ∧ k (.v (.int .i64 l.length))
    | none => False
def acap (tn : Nat) (x : AV) (k : AV → Prop) : Prop := match x with
  | .v (.slice _ _ c) => tn = 2 ∧ k (.v (.int .i64 c))
  | .sl true l => tn = 2 ∧ k (.v (.int .i64 l.length))
  | _ => False
def pix (e : Option (TypeId × Nat × Nat)) (x i : AV) (k : AV → Prop) : Prop := match e, i with
  | some (_, n, _), .v (.int _ j) => match x with
    | .v (.slice (some ⟨b, o, none⟩) m _) => (0 ≤ j ∧ j < m) ∧ k (.v (.pointer (some ⟨b, o + j.toNat * n, none⟩)))
    | x => match x.rows with
      | some (_, l) => (0 ≤ j ∧ j < l.length ∧ ∀ r ∈ l, r.length = n) ∧ k (.ep l j.toNat 0)
      | none => False
  | _, _ => False
def pnl (x : AV) (k : AV → Prop) : Prop := match x with
  | .v (.pointer (some a)) => k (.v (.pointer (some a)))
  | .v (.iface t v) => k (.v (.iface t v))
  | .v (.func (.func f) a b) => k (.v (.func (.func f) a b))
  | .ep l i j => k (.ep l i j)
  | _ => False
/-- a choice -/
def avif (A : Bool) (x y : AV) (k : AV → Prop) : Prop := match x, y with
  | .v (.bool a), .v (.bool b) => k (.v (.bool (bif A then a else b)))
  | .v (.int q a), .v (.int q' b) => q = q' ∧ k (.v (.int q (bif A then a else b)))
  | x, y => (A = true → k x) ∧ (A = false → k y)
def ppick (c x y : AV) (k : AV → Prop) : Prop := match c with
  | .v (.bool A) => avif A (str A x) (str (!A) y) k
  | _ => False
def AV.val : AV → Option Value
  | .v x => some x
  | _ => none
def avals (ev : Operand → AV) : List Operand → Option (List Value)
  | [] => some []
  | x :: l => match (ev x).val, avals ev l with
    | some a, some r => some (a :: r)
    | _, _ => none
def pfn (fn : Fn) (a b : Option (List Value)) (k : AV → Prop) : Prop := match a, b with
  | some a, some b => k (.v (.func fn a.toArray b.toArray))
  | _, _ => False
def pif (tn : Nat) (t : TypeId) (x : AV) (k : AV → Prop) : Prop := match x with
  | .v x => (tn ≠ 4 ∧ tn ≠ 0) ∧ k (.v (.iface t x))
  | _ => False
def pcv (a : Nat) (q : Option IntKind) (x : AV) (k : AV → Prop) : Prop := match q, x with
  | some q, .v (.int _ n) => a = 8 ∧ pnum q n k
  | _, _ => False
/-- a value's cells -/
def avc : AV → Option (List AV)
  | .agg l => some l
  | .v x => if x.oneCell' then some [.v x] else none
  | .sl x l => some [.sl x l]
  | .ep l i j => some [.ep l i j]
  | .wd q => some [.wd q]
  | _ => none
def splice (l : List AV) (o : Nat) (m : List AV) : List AV := match m with
  | [x] => l.set o x
  | m => l.take o ++ m ++ l.drop (o + m.length)
/-- a struct made of parts -/
def pfill (pl : List (Nat × Nat)) (ev : Operand → AV) : List (Nat × Operand) → List AV → (List AV → Prop) → Prop
  | [], l, k => k l
  | (i, x) :: r, l, k => match pl[i]?, avc (ev x) with
    | some (o, n), some m => (m.length = n ∧ o + n ≤ l.length) ∧ pfill pl ev r (splice l o m) k
    | _, _ => False
def zcells : Option Value → Option (List AV)
  | some x => avc (ofVal x)
  | none => none
def kAgg (k : AV → Prop) (l : List AV) : Prop := k (.agg l)
def pbz (z : Option (List AV)) (pl : List (Nat × Nat)) (ev : Operand → AV) (ps : List (Nat × Operand)) (k : AV → Prop) : Prop := match z with
  | some l => pfill pl ev ps l (kAgg k)
  | none => False
def pbuild (z : Option Value) (pl : Option (List (Nat × Nat))) (ev : Operand → AV) (ps : List (Nat × Operand)) (k : AV → Prop) : Prop := match z, pl with
  | some z, some pl => pbz (avc (ofVal z)) pl ev ps k
  | _, _ => False
/-- is there no room behind what was cut out? -/
def slx (e : Bool) : Option Int → Option Int → Bool
  | none, none => e
  | some m, some h => decide (m = h)
  | _, _ => false
/-- x[lo:hi], x[lo:hi:mx] -/
def num : AV → Option Int
  | .v (.int _ n) => some n
  | _ => none
def onum (ev : Operand → AV) : Option Operand → Option (Option Int)
  | none => some none
  | some x => (num (ev x)).map some
def psl3 (tn : Nat) (e : Option (TypeId × Nat × Nat)) (x : AV) (lo hi mx : Option Int) (k : AV → Prop) : Prop := match x with
  | .v (.string s) => (0 ≤ lo.getD 0 ∧ lo.getD 0 ≤ hi.getD s.size ∧ hi.getD s.size ≤ s.size ∧ mx = none ∧ tn = 7) ∧ k (.v (.string (s.extract (lo.getD 0).toNat (hi.getD s.size).toNat)))
  | .v (.slice none 0 0) => (tn = 2 ∧ e.isSome = true ∧ lo.getD 0 = 0 ∧ hi.getD 0 = 0 ∧ mx.getD 0 = 0 ∧ (mx = none ∨ hi ≠ none)) ∧ k (.v (.slice none 0 0))
  | .v (.slice (some ⟨b, o, none⟩) n c) => match e with
    | some (_, sz, _) => (tn = 2 ∧ 0 ≤ lo.getD 0 ∧ lo.getD 0 ≤ hi.getD n ∧ hi.getD n ≤ mx.getD c ∧ mx.getD c ≤ c ∧ (lo.getD 0 < mx.getD c ∨ lo.getD 0 = 0) ∧ (mx = none ∨ hi ≠ none)) ∧
      k (.v (.slice (some ⟨b, o + (lo.getD 0).toNat * sz, none⟩) ((hi.getD n).toNat - (lo.getD 0).toNat) ((mx.getD c).toNat - (lo.getD 0).toNat)))
    | none => False
  | x => match x.rows, e with
    | some (ex, l), some (_, sz, _) => (tn = 2 ∧ 0 ≤ lo.getD 0 ∧ lo.getD 0 ≤ hi.getD l.length ∧ hi.getD l.length ≤ mx.getD l.length ∧ mx.getD l.length ≤ l.length ∧ (mx = none ∨ hi ≠ none) ∧ ∀ r ∈ l, r.length = sz) ∧
        k (.sl (slx ex mx hi) ((l.take (hi.getD l.length).toNat).drop (lo.getD 0).toNat))
    | _, _ => False
def psl (tn : Nat) (e : Option (TypeId × Nat × Nat)) (ev : Operand → AV) (x : Operand) (lo hi mx : Option Operand) (k : AV → Prop) : Prop := match onum ev lo, onum ev hi, onum ev mx with
  | some lo, some hi, some mx => psl3 tn e (ev x) lo hi mx k
  | _, _, _ => False
def pmm (b : Bool) (x y : AV) (k : AV → Prop) : Prop := match x, y with
  | .v (.int q a), .v (.int _ c) => k (.v (.int q (bif b then min a c else max a c)))
  | _, _ => False
def pcl (P : Program) (rv : Operand → AV) : Callee → List Operand → List TypeId → (AV → Prop) → Prop
  | .builtin .len, [x], [t], k => alen (tN P t) (nrm (rv x)) k
  | .builtin .cap, [x], [t], k => acap (tN P t) (nrm (rv x)) k
  | .builtin .min, [x, y], _, k => pmm true (nrm (rv x)) (nrm (rv y)) k
  | .builtin .max, [x, y], _, k => pmm false (nrm (rv x)) (nrm (rv y)) k
  | _, _, _, _ => False
/-- the operations that only compute; rv: what is said of operands -/
def pop (P : Program) (rv : Operand → AV) : Op → (AV → Prop) → Prop
  | .move x, k | .assign x, k => k (rv x)
  | .pick c x y, k => ppick (nrm (rv c)) (rv x) (rv y) k
  | .nilCheck x, k => pnl (nrm (rv x)) k
  | .binOp op t x y _, k => pbin (tN P t) (isC x || isC y) op (nrm (rv x)) (nrm (rv y)) k
  | .unOp op _ x, k => pun op (nrm (rv x)) k
  | .convert a b x, k => pcv (tN P a) (tI P b) (nrm (rv x)) k
  | .fieldAddr s x f, k => pfa (tF P s f) (nrm (rv x)) k
  | .field s x f, k => pfd (tF P s f) (nrm (rv x)) k
  | .extract x i, k => pext i (nrm (rv x)) k
  | .indexAddr t x i, k => pix (tE P t) (nrm (rv x)) (nrm (rv i)) k
  | .slice t x lo hi mx, k => psl (tN P t) (tE P t) (fun x => nrm (rv x)) x lo hi mx k
  | .build t ps, k => pbuild (tZ P t) (tPl P t) (fun x => nrm (rv x)) ps.toList k
  | .makeFunc fn a b, k => pfn fn (avals (fun x => nrm (rv x)) a.toList) (avals (fun x => nrm (rv x)) b.toList) k
  | .makeInterface t x, k => pif (tN P t) t (nrm (rv x)) k
  | .call c, k => pcl P rv c.callee c.args.toList c.argTypes.toList k
  | _, _ => False
end Go.Proofs.YtiallkiiofomgaaGreat
