/- A run that is reckoned out by a program: values with names of its own for blocks. -/
import Derived.Test.YtiallkiiofomgaaGreatVm
namespace Go.Proofs.YtiallkiiofomgaaGreat
/-- a table by numbers -/
inductive Tr (α : Type) where
  | e
  | n (l : Tr α) (v : Option α) (r : Tr α)
def Tr.get {α : Type} : Tr α → Nat → Option α
  | .e, _ => none
  | .n l v r, i => match i with
    | 0 => v
    | i + 1 => bif Nat.beq (i % 2) 0 then l.get (i / 2) else r.get (i / 2)
def Tr.put {α : Type} : Nat → Tr α → Nat → α → Tr α
  | 0, t, _, _ => t
  | f + 1, .e, i, x => match i with
    | 0 => .n .e (some x) .e
    | i + 1 => bif Nat.beq (i % 2) 0 then .n (Tr.put f .e (i / 2) x) none .e else .n .e none (Tr.put f .e (i / 2) x)
  | f + 1, .n l v r, i, x => match i with
    | 0 => .n l (some x) r
    | i + 1 => bif Nat.beq (i % 2) 0 then .n (Tr.put f l (i / 2) x) v r else .n l v (Tr.put f r (i / 2) x)
def Tr.set {α : Type} (t : Tr α) (i : Nat) (x : α) : Tr α := Tr.put (i + 1) t i x
/-- an object: cells (sz: of an element, if it may be appended to; more cells may lie behind); a map from numbers to numbers; none any more -/
inductive XO where
  | cells (T : TypeId) (sz : Nat) (l : List AV)
  | mp (l : List (Int × Int × Nat)) (c : Nat)
  | gone
abbrev XH := Tr XO
/-- values that name no block -/
def clo : Value → Bool
  | .bool _ | .int _ _ | .string _ | .pointer none | .slice none _ _ | .map none | .nilFunc | .nilIface => true
  | .tuple cs => cs.toList.isEmpty
  | _ => false
def xcv : Value → AV
  | .agg cs => if cs.toList.all fun x => clo x && x.oneCell' then .agg (cs.toList.map .v) else .any
  | x => if clo x then .v x else .any
def xev (fr : Tr AV) : Operand → AV
  | .tmp t => (fr.get t).getD .any
  | .const x => xcv x
  | .global _ => .any
  | .func g => .v (.func (.func g) #[] #[])
def xnum (q : IntKind) (n : Int) : Option AV := match q with
  | .i64 => bif decide (-9223372036854775808 ≤ n) && decide (n ≤ 9223372036854775807) then some (.v (.int .i64 n)) else none
  | q => some (.v (.int q (q.wrap n)))
def xint (op : BinOp) (q : IntKind) (a b : Int) : Option AV := match op with
  | .add => xnum q (a + b)
  | .sub => xnum q (a - b)
  | .mul => xnum q (a * b)
  | .quo => bif b == 0 then none else some (.v (.int q (q.wrap (a.tdiv b))))
  | .rem => bif b == 0 then none else some (.v (.int q (a.tmod b)))
  | .and => some (.v (.int q (q.wrap (BitVec.ofInt q.bits a &&& BitVec.ofInt q.bits b).toNat)))
  | .or => some (.v (.int q (q.wrap (BitVec.ofInt q.bits a ||| BitVec.ofInt q.bits b).toNat)))
  | .xor => some (.v (.int q (q.wrap (BitVec.ofInt q.bits a ^^^ BitVec.ofInt q.bits b).toNat)))
  | .andNot => some (.v (.int q (q.wrap (BitVec.ofInt q.bits a &&& ~~~BitVec.ofInt q.bits b).toNat)))
  | .eql => some (.v (.bool (a == b)))
  | .neq => some (.v (.bool (a != b)))
  | .lss => some (.v (.bool (a < b)))
  | .leq => some (.v (.bool (a ≤ b)))
  | .gtr => some (.v (.bool (a > b)))
  | .geq => some (.v (.bool (a ≥ b)))
  | .shl => bif decide (0 ≤ b) then some (.v (.int q (q.wrap (a * 2 ^ min b.toNat q.bits)))) else none
  | .shr => bif decide (0 ≤ b) then some (.v (.int q (a.fdiv (2 ^ min b.toNat q.bits)))) else none
/-- a value that may be nil: is it? -/
def xnl : AV → Option (Nat × Bool)
  | .v x => nlV x
  | .sl _ (_ :: _) => some (2, false)
  | .ep _ _ _ => some (1, false)
  | _ => none
def xeq (tn : Nat) (c : Bool) (x y : AV) : Option Bool := match x, y with
  | .v (.bool a), .v (.bool b) => bif Nat.beq tn 6 then some (a == b) else none
  | .v (.string a), .v (.string b) => bif Nat.beq tn 7 then some (a.toList == b.toList) else none
  | x, y => match xnl x, xnl y with
    | some (n, a), some (m, b) => bif Nat.beq tn n && Nat.beq tn m && (a || b) && (!(Nat.beq n 4) || !(a && b) || c) then some (a && b) else none
    | _, _ => none
def xbin (tn : Nat) (c : Bool) (op : BinOp) (x y : AV) : Option AV := match x, y with
  | .v (.int q a), .v (.int q' b) => bif decide (q = q') || decide (op = .shl) || decide (op = .shr) then xint op q a b else none
  | x, y => match op with
    | .eql => (xeq tn c x y).map fun b => .v (.bool b)
    | .neq => (xeq tn c x y).map fun b => .v (.bool (!b))
    | _ => none
def xun (op : UnOp) (x : AV) : Option AV := match op, x with
  | .not, .v (.bool b) => some (.v (.bool !b))
  | .neg, .v (.int q n) => xnum q (0 - n)
  | _, _ => none
def xfa (o : Option (Nat × Nat × Option Nat)) (x : AV) : Option AV := match o, x with
  | some (n, _), .v (.pointer (some ⟨b, o, none⟩)) => some (.v (.pointer (some ⟨b, o + n, none⟩)))
  | some (n, _), .ep l i j => some (.ep l i (j + n))
  | _, _ => none
def xpick1 (tk : Option Nat) (l : List AV) (o : Nat) : Option AV := match tk with
  | none => l[o]?
  | some n => bif Nat.ble (o + n) l.length then some (.agg ((l.drop o).take n)) else none
def xfd (o : Option (Nat × Nat × Option Nat)) (x : AV) : Option AV := match o, x with
  | some (n, _, tk), .agg l => xpick1 tk l n
  | _, _ => none
def xext (i : Nat) (x : AV) : Option AV := match x with
  | .tup l => l[i]?
  | _ => none
def xlen (tn : Nat) (x : AV) : Option AV := match x with
  | .v (.slice _ n _) => bif Nat.beq tn 2 then some (.v (.int .i64 n)) else none
  | .v (.string s) => bif Nat.beq tn 7 then some (.v (.int .i64 s.size)) else none
  | .sl _ l => bif Nat.beq tn 2 then some (.v (.int .i64 l.length)) else none
  | _ => none
def xcap (tn : Nat) (x : AV) : Option AV := match x with
  | .v (.slice none _ c) => bif Nat.beq tn 2 then some (.v (.int .i64 c)) else none
  | .v (.slice _ _ (c + 1)) => bif Nat.beq tn 2 then some (.v (.int .i64 (c + 1 : Nat))) else none
  | .sl true l => bif Nat.beq tn 2 then some (.v (.int .i64 l.length)) else none
  | _ => none
def xix (e : Option (TypeId × Nat × Nat)) (x i : AV) : Option AV := match e, i with
  | some (_, n, _), .v (.int _ j) => match x with
    | .v (.slice (some ⟨b, o, none⟩) m _) => bif decide (0 ≤ j) && decide (j < m) then some (.v (.pointer (some ⟨b, o + j.toNat * n, none⟩))) else none
    | .sl _ l => bif decide (0 ≤ j) && decide (j < l.length) && l.all (fun r => Nat.beq r.length n) then some (.ep l j.toNat 0) else none
    | _ => none
  | _, _ => none
def xnc (x : AV) : Option AV := match x with
  | .v (.pointer (some a)) => some (.v (.pointer (some a)))
  | .v (.iface t v) => some (.v (.iface t v))
  | .v (.func (.func f) a b) => some (.v (.func (.func f) a b))
  | .ep l i j => some (.ep l i j)
  | _ => none
def xpk (c x y : AV) : Option AV := match c with
  | .v (.bool A) => match x, y with
    | .v (.bool a), .v (.bool b) => some (.v (.bool (bif A then a else b)))
    | .v (.int q a), .v (.int q' b) => bif decide (q = q') then some (.v (.int q (bif A then a else b))) else none
    | .any, _ => none
    | _, .any => none
    | x, y => some (bif A then x else y)
  | _ => none
def xvals (l : List AV) : Option (List Value) := match l with
  | [] => some []
  | .v x :: l => (xvals l).map (x :: ·)
  | _ => none
def xfn (fn : Fn) (a b : Option (List Value)) : Option AV := match fn, a, b with
  | .func g, some a, some b => some (.v (.func (.func g) a.toArray b.toArray))
  | _, _, _ => none
def xif (tn : Nat) (t : TypeId) (x : AV) : Option AV := match x with
  | .v x => bif !(Nat.beq tn 4) && !(Nat.beq tn 0) then some (.v (.iface t x)) else none
  | _ => none
def xcvt (a : Nat) (q : Option IntKind) (x : AV) : Option AV := match q, x with
  | some q, .v (.int _ n) => bif Nat.beq a 8 then xnum q n else none
  | _, _ => none
def xavc : AV → Option (List AV)
  | .agg l => some l
  | .v x => bif x.oneCell' then some [.v x] else none
  | .sl x l => some [.sl x l]
  | .ep l i j => some [.ep l i j]
  | _ => none
def xfill (pl : List (Nat × Nat)) (ev : Operand → AV) : List (Nat × Operand) → List AV → Option (List AV)
  | [], l => some l
  | (i, x) :: r, l => match pl[i]?, xavc (ev x) with
    | some (o, n), some m => bif Nat.beq m.length n && Nat.ble (o + n) l.length then xfill pl ev r (splice l o m) else none
    | _, _ => none
def xzc : Option Value → Option (List AV)
  | some x => xavc (xcv x)
  | none => none
def xbuild (z : Option Value) (pl : Option (List (Nat × Nat))) (ev : Operand → AV) (ps : List (Nat × Operand)) : Option AV := match xzc z, pl with
  | some z, some pl => (xfill pl ev ps z).map .agg
  | _, _ => none
def xonum (ev : Operand → AV) : Option Operand → Option (Option Int)
  | none => some none
  | some x => (num (ev x)).map some
def xsl3 (tn : Nat) (e : Option (TypeId × Nat × Nat)) (x : AV) (lo hi mx : Option Int) : Option AV := match x with
  | .v (.string s) => bif decide (0 ≤ lo.getD 0) && decide (lo.getD 0 ≤ hi.getD s.size) && decide (hi.getD s.size ≤ s.size) && mx.isNone && Nat.beq tn 7 then some (.v (.string (s.extract (lo.getD 0).toNat (hi.getD s.size).toNat))) else none
  | .v (.slice none 0 0) => bif Nat.beq tn 2 && e.isSome && decide (lo.getD 0 = 0) && decide (hi.getD 0 = 0) && decide (mx.getD 0 = 0) && (mx.isNone || hi.isSome) then some (.v (.slice none 0 0)) else none
  | .v (.slice (some ⟨b, o, none⟩) n c) => match e with
    | some (_, sz, _) => match c, mx with
      | 0, none => -- nobody knows how much room there is
        bif !(Nat.beq sz 0) && Nat.beq tn 2 && decide (0 ≤ lo.getD 0) && decide (lo.getD 0 ≤ hi.getD n) && decide (hi.getD n ≤ n) && (decide (lo.getD 0 < n) || decide (lo.getD 0 = 0)) then
          some (.v (.slice (some ⟨b, o + (lo.getD 0).toNat * sz, none⟩) ((hi.getD n).toNat - (lo.getD 0).toNat) 0)) else none
      | c, mx => bif Nat.beq tn 2 && decide (0 ≤ lo.getD 0) && decide (lo.getD 0 ≤ hi.getD n) && decide (hi.getD n ≤ mx.getD c) && decide (mx.getD c ≤ max n c) && (decide (lo.getD 0 < mx.getD c) || decide (lo.getD 0 = 0)) && (mx.isNone || hi.isSome) then
          some (.v (.slice (some ⟨b, o + (lo.getD 0).toNat * sz, none⟩) ((hi.getD n).toNat - (lo.getD 0).toNat) ((mx.getD c).toNat - (lo.getD 0).toNat))) else none
    | none => none
  | .sl ex l => match e with
    | some (_, sz, _) => bif Nat.beq tn 2 && decide (0 ≤ lo.getD 0) && decide (lo.getD 0 ≤ hi.getD l.length) && decide (hi.getD l.length ≤ mx.getD l.length) && decide (mx.getD l.length ≤ l.length) && (mx.isNone || hi.isSome) && l.all (fun r => Nat.beq r.length sz) then
        some (.sl (slx ex mx hi) ((l.take (hi.getD l.length).toNat).drop (lo.getD 0).toNat)) else none
    | none => none
  | _ => none
def xsl (tn : Nat) (e : Option (TypeId × Nat × Nat)) (ev : Operand → AV) (x : Operand) (lo hi mx : Option Operand) : Option AV := match xonum ev lo, xonum ev hi, xonum ev mx with
  | some lo, some hi, some mx => xsl3 tn e (ev x) lo hi mx
  | _, _, _ => none
def xmm (b : Bool) (x y : AV) : Option AV := match x, y with
  | .v (.int q a), .v (.int _ c) => some (.v (.int q (bif b then min a c else max a c)))
  | _, _ => none
def xcl (P : Program) (rv : Operand → AV) : Callee → List Operand → List TypeId → Option AV
  | .builtin .len, [x], [t] => xlen (tN P t) (rv x)
  | .builtin .cap, [x], [t] => xcap (tN P t) (rv x)
  | .builtin .min, [x, y], _ => xmm true (rv x) (rv y)
  | .builtin .max, [x, y], _ => xmm false (rv x) (rv y)
  | _, _, _ => none
def xpop (P : Program) (rv : Operand → AV) : Op → Option AV
  | .move x | .assign x => some (rv x)
  | .pick c x y => xpk (rv c) (rv x) (rv y)
  | .nilCheck x => xnc (rv x)
  | .binOp op t x y _ => xbin (tN P t) (isC x || isC y) op (rv x) (rv y)
  | .unOp op _ x => xun op (rv x)
  | .convert a b x => xcvt (tN P a) (tI P b) (rv x)
  | .fieldAddr s x f => xfa (tF P s f) (rv x)
  | .field s x f => xfd (tF P s f) (rv x)
  | .extract x i => xext i (rv x)
  | .indexAddr t x i => xix (tE P t) (rv x) (rv i)
  | .slice t x lo hi mx => xsl (tN P t) (tE P t) rv x lo hi mx
  | .build t ps => xbuild (tZ P t) (tPl P t) rv ps.toList
  | .makeFunc fn a b => xfn fn (xvals (a.toList.map rv)) (xvals (b.toList.map rv))
  | .makeInterface t x => xif (tN P t) t (rv x)
  | .call c => xcl P rv c.callee c.args.toList c.argTypes.toList
  | _ => none
/- memory -/
abbrev XR := Option (AV × XH × Nat)
def xld (tk : Option (Option Nat)) (x : AV) (hp : XH) : Option AV := match tk, x with
  | some tk, .v (.pointer (some ⟨b, o, none⟩)) => match hp.get b with
    | some (.cells _ _ l) => xpick1 tk l o
    | _ => none
  | some tk, .ep l i j => match l[i]? with
    | some r => xpick1 tk r j
    | none => none
  | _, _ => none
def xst (lo : Nat) (n : Option Nat) (x y : AV) (hp : XH) : Option XH := match n, x, xavc y with
  | some n, .v (.pointer (some ⟨b, o, none⟩)), some m => match hp.get b with
    | some (.cells T sz l) => bif Nat.ble lo b && Nat.beq m.length n && Nat.ble (o + n) l.length then some (hp.set b (.cells T sz (splice l o m))) else none
    | _ => none
  | _, _, _ => none
def xnew (T : TypeId) (m : Option (List AV)) (hp : XH) (nx : Nat) : XR := match m with
  | some m => some (.v (.pointer (some ⟨nx, 0, none⟩)), hp.set nx (.cells T 0 m), nx + 1)
  | none => none
def xbrow (ev : Operand → AV) (sz : Nat) : Nat → List (Nat × Operand) → Option (List (List AV))
  | _, [] => some []
  | i, (j, x) :: r => bif Nat.beq j i then match xavc (ev x), xbrow ev sz (i + 1) r with
    | some m, some t => bif Nat.beq m.length sz then some (m :: t) else none
    | _, _ => none
    else none
def xbs (zk : Bool) (e : Option (TypeId × Nat × Nat)) (len : Nat) (ev : Operand → AV) (ps : List (Nat × Operand)) (hp : XH) (nx : Nat) : XR := match e with
  | some (te, sz, _) => match xbrow ev sz 0 ps with
    | some [] => bif Nat.beq 0 len && zk then some (.sl true [], hp, nx) else none
    | some l => bif Nat.beq l.length len && Nat.ble (len * sz) 16777216 && zk && !(Nat.beq sz 0) then some (.v (.slice (some ⟨nx, 0, none⟩) len 0), hp.set nx (.cells te sz l.flatten), nx + 1) else none
    | none => none
  | none => none
/-- []byte of a constant: its row is marked -/
def xmark (lo : Nat) (e : Option (TypeId × Nat × Nat)) (u8 : Bool) (x : AV) (hp : XH) (nx : Nat) : XR := match e, x with
  | some (_, 1, _), .v (.slice (some ⟨b, 0, none⟩) n _) => match hp.get b with
    | some (.cells _ _ l) => bif Nat.ble lo b && u8 && Nat.ble n l.length then some (.sl false ((l.take n).map fun a => [a]), hp.set b .gone, nx) else none
    | _ => none
  | _, _ => none
def xbytes : List (List AV) → Option (List UInt8)
  | [] => some []
  | [.v (.int .u8 n)] :: l => match xbytes l with
    | some t => some (UInt8.ofNat n.toNat :: t)
    | none => none
  | _ => none
/-- a slice's elements are bytes -/
def tU8 (P : Program) (t : TypeId) : Bool := match P.underlying t with
  | some (.slice e) => match P.underlying e with
    | some (.int .u8) => true
    | _ => false
  | _ => false
def xsrc (sz : Nat) (hp : XH) : AV → Option (List (List AV))
  | .v (.slice none 0 0) => some []
  | .v (.slice (some ⟨b, o, none⟩) n _) => match hp.get b with
    | some (.cells _ _ l) => bif Nat.ble (o + n * sz) l.length then some (rowsOf sz n (l.drop o)) else none
    | _ => none
  | .v (.string s) => some (s.data.toList.map byt)
  | .sl _ l => some l
  | _ => none
def xgrow (te sz n : Nat) (l : List AV) (hp : XH) (nx : Nat) : XR :=
  bif Nat.beq l.length (n * sz) then some (.v (.slice (some ⟨nx, 0, none⟩) n 0), hp.set nx (.cells te sz l), nx + 1) else none
def xap (lo : Nat) (e : Option (TypeId × Nat × Nat)) (zk : Bool) (tn : Nat) (x y : AV) (hp : XH) (nx : Nat) : XR := match e with
  | some (te, sz, by_) => match xsrc sz hp y with
    | some m => bif zk && (Nat.beq tn 2 || Nat.beq tn 7) && !(Nat.beq sz 0) && m.all (fun r => Nat.beq r.length sz) then (match x with
      | .sl true l => bif l.all (fun r => Nat.beq r.length sz) && Nat.ble ((l.length + m.length) * by_) 140737488355328 && Nat.ble (l.length + m.length) 9223372036854775807 then
          (match m with
          | [] => some (.sl true l, hp, nx)
          | m => xgrow te sz (l.length + m.length) (l.flatten ++ m.flatten) hp nx) else none
      | .v (.slice none 0 0) => bif Nat.ble (m.length * by_) 140737488355328 && Nat.ble m.length 9223372036854775807 then
          (match m with
          | [] => some (.v (.slice none 0 0), hp, nx)
          | m => xgrow te sz m.length m.flatten hp nx) else none
      | .v (.slice (some ⟨b, 0, none⟩) n 0) => bif !m.isEmpty && Nat.ble ((n + m.length) * by_) 140737488355328 && Nat.ble (n + m.length) 9223372036854775807 then
          (match hp.get b with
          | some (.cells T sz' l) => bif Nat.ble lo b && Nat.beq T te && Nat.beq sz' sz then xgrow te sz (n + m.length) (l.take (n * sz) ++ m.flatten) (hp.set b .gone) nx else none
          | _ => none) else none
      | _ => none) else none
    | none => none
  | none => none
def xcp (lo : Nat) (e : Option (TypeId × Nat × Nat)) (tn : Nat) (x y : AV) (hp : XH) : Option (AV × XH) := match e with
  | some (_, sz, _) => match xsrc sz hp y with
    | some m => bif (Nat.beq tn 2 || Nat.beq tn 7) && !(Nat.beq sz 0) && m.all (fun r => Nat.beq r.length sz) then (match x with
      | .v (.slice none 0 0) => some (.v (.int .i64 0), hp)
      | .v (.slice (some ⟨b, o, none⟩) n _) => match hp.get b with
        | some (.cells T s l) => bif Nat.ble lo b && Nat.ble (o + n * sz) l.length then some (.v (.int .i64 (min m.length n : Nat)), hp.set b (.cells T s (l.take o ++ (m.take n).flatten ++ l.drop (o + (min m.length n) * sz)))) else none
        | _ => none
      | _ => none) else none
    | none => none
  | none => none
def xmk (e : Option (TypeId × Nat × Nat)) (z : Option (List AV)) (l c : Option Int) (hp : XH) (nx : Nat) : XR := match e, z, l, c with
  | some (te, 1, by_), some [z], some l, some c => bif decide (0 ≤ l) && decide (l ≤ c) && decide ((by_ : Int) * c ≤ 281474976710656) && decide (c ≤ 9223372036854775807) then
      some (.v (.slice (some ⟨nx, 0, none⟩) l.toNat 0), hp.set nx (.cells te 1 (List.replicate c.toNat z)), nx + 1) else none
  | _, _, _, _ => none
def xZe (P : Program) : Option (TypeId × Nat × Nat) → Option (List AV)
  | some (te, _) => xzc (tZ P te)
  | none => none
/-- bytes as a string -/
def xstr (hp : XH) (x : AV) : Option (List UInt8) := match x with
  | .v (.string _) => none
  | x => match xsrc 1 hp x with
    | some m => xbytes m
    | none => none
/- maps from numbers to numbers -/
def mpFind (k : Int) : List (Int × Int × Nat) → Option Int
  | [] => none
  | (a, v, _) :: l => bif a == k then some v else mpFind k l
def mpSet (k v : Int) : List (Int × Int × Nat) → List (Int × Int × Nat)
  | [] => []
  | (a, u, t) :: l => bif a == k then (a, v, t) :: l else (a, u, t) :: mpSet k v l
/-- a map's key and element: numbers of 64 bits -/
def tM (P : Program) (t : TypeId) : Bool := match P.underlying t with
  | some (.map k e) => (match P.underlying k, tZ P e with
    | some (.int .i64), some (.int .i64 (.ofNat 0)) => true
    | _, _ => false)
  | _ => false
def xmap (lo : Nat) (P : Program) (rv : Operand → AV) (hp : XH) (nx : Nat) : Op → XR
  | .makeMap t none => bif tM P t then some (.v (.map (some nx)), hp.set nx (.mp [] 0), nx + 1) else none
  | .lookup t m k c => bif tM P t then match rv m, rv k with
    | .v (.map (some b)), .v (.int .i64 k) => match hp.get b with
      | some (.mp l _) => match mpFind k l with
        | some v => some (bif c then .tup [.v (.int .i64 v), .v (.bool true)] else .v (.int .i64 v), hp, nx)
        | none => some (bif c then .tup [.v (.int .i64 0), .v (.bool false)] else .v (.int .i64 0), hp, nx)
      | _ => none
    | _, _ => none else none
  | .mapUpdate t m k v => bif tM P t then match rv m, rv k, rv v with
    | .v (.map (some b)), .v (.int .i64 k), .v (.int .i64 v) => match hp.get b with
      | some (.mp l c) => bif Nat.ble lo b then (match mpFind k l with
        | some _ => some (.v undef, hp.set b (.mp (mpSet k v l) c), nx)
        | none => some (.v undef, hp.set b (.mp (l ++ [(k, v, c)]) (c + 1)), nx)) else none
      | _ => none
    | _, _, _ => none else none
  | _ => none
def xkeep (hp : XH) (nx : Nat) : Option AV → XR
  | some a => some (a, hp, nx)
  | none => none
def xcb (lo : Nat) (P : Program) (rv : Operand → AV) (hp : XH) (nx : Nat) : Callee → List Operand → List TypeId → XR
  | .builtin .append, [x, y], [t, u] => xap lo (tE P t) (tEz P t) (tN P u) (rv x) (rv y) hp nx
  | .builtin .copy, [x, y], [t, u] => match xcp lo (tE P t) (tN P u) (rv x) (rv y) hp with
    | some (a, hp) => some (a, hp, nx)
    | none => none
  | ce, xs, ts => xkeep hp nx (xcl P rv ce xs ts)
/-- what is no call -/
def xop (lo : Nat) (P : Program) (rv : Operand → AV) (hp : XH) (nx : Nat) : Op → XR
  | .load t x => xkeep hp nx (xld (tK P t) (rv x) hp)
  | .store t x y => match xst lo (tS P t) (rv x) (rv y) hp with
    | some hp => some (.v undef, hp, nx)
    | none => none
  | .alloc t => xnew t (xzc (tZ P t)) hp nx
  | .box t x => xnew t (xavc (rv x)) hp nx
  | .buildSlice t n ps => xbs (tEz P t) (tE P t) n rv ps.toList hp nx
  | .convert a b x => bif (tI P a).isSome && (tI P b).isSome then xkeep hp nx (xcvt (tN P a) (tI P b) (rv x))
    else bif Nat.beq a b then xmark lo (tE P a) (tU8 P a) (rv x) hp nx
    else bif tU8 P a && Nat.beq (tN P b) 7 then (match xstr hp (rv x) with
      | some l => some (.v (.string ⟨l.toArray⟩), hp, nx)
      | none => none)
    else none
  | .makeSlice t x y => xmk (tE P t) (xZe P (tE P t)) (num (rv x)) (num (rv y)) hp nx
  | .makeMap t r => xmap lo P rv hp nx (.makeMap t r)
  | .lookup t m k c => xmap lo P rv hp nx (.lookup t m k c)
  | .mapUpdate t m k v => xmap lo P rv hp nx (.mapUpdate t m k v)
  | .call c => xcb lo P rv hp nx c.callee c.args.toList c.argTypes.toList
  | op => xkeep hp nx (xpop P rv op)
/- code -/
structure XS where
  fr : Tr AV
  hp : XH
  nx : Nat
/-- a call: function, arguments, objects, the next name, from which name on it may write -/
abbrev XF := FuncId → List AV → XH → Nat → Nat → XR
/-- the method of a pointer's type, its own -/
def xmeth (P : Program) (t : TypeId) (name : String) : Option FuncId := match P.info? t, P.underlying t with
  | some i, some (.pointer _) => match i.methods.find? (·.name == name) with
    | some m => match m.func with
      | some (f, true) => bif m.path.isEmpty then some f else none
      | _ => none
    | none => none
  | _, _ => none
def xcall (lo : Nat) (P : Program) (F : XF) (rv : Operand → AV) (c : Call) (hp : XH) (nx : Nat) : XR := match c.callee with
  | .value f => match rv f with
    | .v (.func (.func g) a b) => F g (a.toList.map .v ++ c.args.toList.map rv ++ b.toList.map .v) hp nx lo
    | _ => none
  | .invoke x m => match rv x with
    | .v (.iface t v) => match xmeth P t m with
      | some g => F g (.v v :: c.args.toList.map rv) hp nx lo
      | none => none
    | _ => none
  | _ => none
def xput (fr : Tr AV) : Option Nat → AV → Tr AV
  | none, _ => fr
  | some d, a => fr.set d a
def xrun (lo : Nat) (P : Program) (F : XF) (pu : Option Tmp → Bool) (o : Oper) (st : XS) : Option XS :=
  match (match o.op with
    | .call c => bif isCall (.call c) then xcall (bif pu o.dst then st.nx else lo) P F (xev st.fr) c st.hp st.nx else xop lo P (xev st.fr) st.hp st.nx (.call c)
    | op => xop lo P (xev st.fr) st.hp st.nx op) with
  | some (a, hp, nx) => some ⟨xput st.fr o.dst a, hp, nx⟩
  | none => none
/-- an operation, if it comes up -/
def xstep (lo : Nat) (P : Program) (F : XF) (pu : Option Tmp → Bool) (ops : Array Oper) (o : Oper) (st : XS) : Option XS := match o.guard with
  | none => xrun lo P F pu o st
  | some (j, wt) => match (ops[j]?).bind (·.dst) with
    | some t => match st.fr.get t with
      | some (.v (.bool A)) => bif A == wt then xrun lo P F pu o st else some ⟨xput st.fr o.dst (.v undef), st.hp, st.nx⟩
      | _ => none
    | none => none
def xO (lo : Nat) (P : Program) (F : XF) (pu : Option Tmp → Bool) (ops : Array Oper) : List Oper → XS → Option XS
  | [], st => some st
  | o :: rest, st => match xstep lo P F pu ops o st with
    | some st => xO lo P F pu ops rest st
    | none => none
/-- a call of a function that only reads (PU) -/
def puOp (PU : FuncId → Bool) (o : Oper) : Bool := match o.op with
  | .call c => match c.callee with
    | .value (.func g) => PU g
    | _ => false
  | _ => false
def puOf (PU : FuncId → Bool) (ops : Array Oper) : Option Tmp → Bool
  | some d => ops.toList.any fun o => puOp PU o && (match o.dst with | some e => Nat.beq e d | none => false)
  | none => false
/-- how an operation may come up: 0: at any time; 1: while nothing is written; 2: else -/
def xkind (P : Program) (o : Oper) : Nat := match o.op with
  | .convert a b _ => bif (tI P a).isSome && (tI P b).isSome then 0 else 2
  | .lookup .. | .mapUpdate .. | .makeMap .. => 2
  | _ => okind o
/-- does it write? -/
def xW : Op → Bool
  | .mapUpdate .. => true
  | .convert a b _ => Nat.beq a b
  | op => isW op
/-- new memory: it may come up at any time -/
def isFl (o : Oper) : Bool := match o.op with
  | .alloc _ => o.guard.isNone && o.dst.isSome
  | _ => false
/-- the numbers of what may write -/
def hcOf (P : Program) (PU : FuncId → Bool) (ops : Array Oper) : List Nat := (List.range ops.size).filter fun i => match ops[i]? with
  | some o => Nat.ble 2 (xkind P o) && (xW o.op || isCall o.op && !(puOf PU ops o.dst))
  | none => false
/-- an order in which a region may be reckoned -/
def planGo (P : Program) (ops : Array Oper) : Nat → Array Bool → List Nat
  | 0, _ => []
  | n + 1, listed =>
    let r := Region.ready .any ops listed
    let ok (k : Nat) (i : Nat) : Bool := match ops[i]? with
      | some o => Nat.beq (xkind P o) k && Region.free .any ops listed i
      | none => false
    let nf (i : Nat) : Bool := match ops[i]? with
      | some o => !isFl o
      | none => false
    match r.find? (ok 0) with
    | some i => i :: planGo P ops n (listed.setIfInBounds i true)
    | none => match r.find? (ok 1) with
      | some i => i :: planGo P ops n (listed.setIfInBounds i true)
      | none => match r.find? nf with
        | some i => i :: planGo P ops n (listed.setIfInBounds i true)
        | none => match r with
          | i :: _ => i :: planGo P ops n (listed.setIfInBounds i true)
          | [] => []
def planOf (P : Program) (ops : Array Oper) : List Nat := planGo P ops ops.size (Array.replicate ops.size false)
/-- some are listed too -/
def lst (listed : Array Bool) (E : List Nat) : Array Bool := E.foldl (fun a e => a.setIfInBounds e true) listed
/-- the temporaries of some numbers -/
def dsts (ops : Array Oper) (E : List Nat) : List Nat := E.filterMap fun e => (ops[e]?).bind (·.dst)
def fls (ops : Array Oper) (pl : List Nat) : List Nat := pl.filter fun i => match ops[i]? with
  | some o => isFl o
  | none => false
/-- an operation does not touch some temporaries -/
def clear (ops : Array Oper) (o : Oper) (D : List Nat) : Bool :=
  (match o.dst with | some d => !(D.contains d) | none => true) &&
  o.op.operands.toList.all (fun x => match x with | .tmp t => !(D.contains t) | _ => true) &&
  (match o.guard with | some (j, _) => (match (ops[j]?).bind (·.dst) with | some t => !(D.contains t) | none => true) | none => true)
/-- may the operations be reckoned in this order? -/
def okX (P : Program) (ops : Array Oper) (hc : List Nat) (pu : Option Tmp → Bool) : Array Bool → List Nat → Bool
  | listed, [] => Region.ready .any ops listed == []
  | listed, i :: pl => (match ops[i]? with
      | some o => (match xkind P o with
        | 0 => (Region.ready .any ops listed).contains i && Region.free .any ops listed i && !hc.contains i
        | 1 => (Region.ready .any ops listed).contains i && Region.free .any ops listed i && !hc.contains i && waits .any ops (nxt hc ops.size pl) i
        | _ => (Region.ready .any ops listed).contains i && (Region.ready .any ops (lst listed (fls ops pl))).all (fun j => Nat.beq j i) && (hc.contains i || !xW o.op && (!isCall o.op || pu o.dst))) &&
          clear ops o (dsts ops (fls ops pl)) && (!isFl o || !hc.contains i)
      | none => false) && !(listed.getD i true) && okX P ops hc pu (listed.setIfInBounds i true) pl
def planOk (P : Program) (PU : FuncId → Bool) (ops : Array Oper) (pl : List Nat) : Bool := Nat.beq pl.length ops.size && Nat.ble (fls ops pl).length 1 && Region.noSelect ops && okX P ops (hcOf P PU ops) (puOf PU ops) (Array.replicate ops.size false) pl
def xloop (body : XS → Option (Exit × XS)) : Nat → XS → Option (Exit × XS)
  | 0, _ => none
  | n + 1, st => match body st with
    | some (.normal, st) => xloop body n st
    | r => r
def xC (lo : Nat) (PU : FuncId → Bool) (P : Program) (F : XF) (lim : Nat) : Code → XS → Option (Exit × XS)
  | .skip, st => some (.normal, st)
  | .label _, st => some (.normal, st)
  | .region _ ops d, st => match xO lo P F (bif d then puOf PU ops else fun _ => false) ops (bif d then (planOf P ops).map fun i => ops.getD i default else ops.toList) st with
    | some st => bif !d || planOk P PU ops (planOf P ops) then some (.normal, st) else none
    | none => none
  | .seq a b, st => match xC lo PU P F lim a st with
    | some (.normal, st) => xC lo PU P F lim b st
    | r => r
  | .cond c a b, st => match xev st.fr c with
    | .v (.bool A) => bif A then xC lo PU P F lim a st else xC lo PU P F lim b st
    | _ => none
  | .block id b, st => match xC lo PU P F lim b st with
    | some (.exit i, st) => bif Nat.beq i id then some (.normal, st) else some (.exit i, st)
    | r => r
  | .exit id, st => some (.exit id, st)
  | .ret, st => some (.ret, st)
  | .loop b, st => xloop (fun st => xC lo PU P F lim b st) lim st
  | .scope b, st => match xC lo PU P F lim b st with
    | some (.goto _, _) => none
    | r => r
  | _, _ => none
def xres (P : Program) (st : XS) : List ResultVar → Option (List AV)
  | [] => some []
  | .tmp t :: l => match st.fr.get t with
    | some a => (xres P st l).map (a :: ·)
    | none => none
  | .cell t T :: l => match st.fr.get t with
    | some (.v (.pointer p)) => match xld (tK P T) (.v (.pointer p)) st.hp with
      | some a => (xres P st l).map (a :: ·)
      | none => none
    | _ => none
def xargs : Nat → List AV → Tr AV → Tr AV
  | _, [], t => t
  | i, a :: l, t => xargs (i + 1) l (t.set i a)
/-- results, as they are given back -/
def xend (P : Program) (st : XS) (rs : List ResultVar) : XR := match xres P st rs with
  | some [a] => some (a, st.hp, st.nx)
  | some l => some (.tup l, st.hp, st.nx)
  | none => none
/-- a function that defers nothing -/
def xplain (PU : FuncId → Bool) (P : Program) (F : XF) (lim : Nat) : XF := fun f xs hp nx lo => match P.funcs[f]? with
  | some fn => match fn.body with
    | some c => bif !(fn.name == "runtime.NumGoroutine") && (Code.bd fn.ntmps c && fn.results.toList.all (fun r => decide (ResultVar.tm r < fn.ntmps)) && decide (xs.length ≤ fn.ntmps)) then
        (match xC lo PU P F lim c ⟨xargs 0 xs .e, hp, nx⟩ with
        | some (.normal, st) | some (.ret, st) => xend P st fn.results.toList
        | _ => none)
      else none
    | none => none
  | none => none
/-- what is deferred: a function, its arguments -/
def xdef (fr : Tr AV) : Op → Option (FuncId × List AV)
  | .defer c => match c.callee with
    | .value f => match xev fr f with
      | .v (.func (.func g) a b) => some (g, a.toList.map .v ++ c.args.toList.map (xev fr) ++ b.toList.map .v)
      | _ => none
    | _ => none
  | _ => none
/-- a region whose last operation defers a call -/
def isDef (ops : Array Oper) : Option (List Oper × Oper) := match ops.toList.getLast? with
  | some o => match o.op with
    | .defer _ => some (ops.toList.dropLast, o)
    | _ => none
  | none => none
def dfOf : Code → Option (Array Oper × List Oper × Oper)
  | .region _ ops false => match isDef ops with
    | some (pre, o) => some (ops, pre, o)
    | none => none
  | _ => none
/-- code in order, one call of which may be deferred -/
def xspine (lo : Nat) (PU : FuncId → Bool) (P : Program) (F : XF) (lim : Nat) (rs : List ResultVar) : Code → XS → XR
  | .seq a b, st => match dfOf a with
    | some (ops, pre, o) => match xO lo P F (fun _ => false) ops pre st with
      | some st => match o.guard, o.dst, xdef st.fr o.op with
        | none, none, some (g, xs) => match xC lo PU P F lim b st with
          | some (.normal, st) | some (.ret, st) => match xplain PU P F lim g xs st.hp st.nx lo with
            | some (_, hp, nx) => xend P ⟨st.fr, hp, nx⟩ rs
            | none => none
          | _ => none
        | _, _, _ => none
      | none => none
    | none => match xC lo PU P F lim a st with
      | some (.normal, st) => xspine lo PU P F lim rs b st
      | some (.ret, st) => xend P st rs
      | _ => none
  | c, st => match xC lo PU P F lim c st with
    | some (.normal, st) | some (.ret, st) => xend P st rs
    | _ => none
/-- does a function defer? -/
def hasDef : Code → Bool
  | .region _ ops _ => (isDef ops).isSome
  | .seq a b => hasDef a || hasDef b
  | _ => false
def xfun (PU : FuncId → Bool) (P : Program) (F : XF) (lim : Nat) : XF := fun f xs hp nx lo => match P.funcs[f]? with
  | some fn => match fn.body with
    | some c => bif hasDef c then
        bif !(fn.name == "runtime.NumGoroutine") && (Code.bd fn.ntmps c && fn.results.toList.all (fun r => decide (ResultVar.tm r < fn.ntmps)) && decide (xs.length ≤ fn.ntmps)) then
          xspine lo PU P F lim fn.results.toList c ⟨xargs 0 xs .e, hp, nx⟩ else none
      else xplain PU P F lim f xs hp nx lo
    | none => none
  | none => none
def xgo (PU : FuncId → Bool) (P : Program) (S : FuncId → Option (List AV → XH → Nat → Nat → XR)) (lim : Nat) : Nat → XF
  | 0 => fun _ _ _ _ _ => none
  | n + 1 => fun f xs hp nx lo => match S f with
    | some g => g xs hp nx lo
    | none => xfun PU P (xgo PU P S lim n) lim f xs hp nx lo
end Go.Proofs.YtiallkiiofomgaaGreat
