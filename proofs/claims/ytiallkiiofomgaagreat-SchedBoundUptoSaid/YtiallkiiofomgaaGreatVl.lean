/- Abstract values: rules by which 'simp' reckons. -/
import Derived.Test.YtiallkiiofomgaaGreatVk
namespace Go.Proofs.YtiallkiiofomgaaGreat
section
variable {P : Program} {Wr : Nat → Prop} {ops : Array Oper} {pu : Option Tmp → Bool} {C : Ct} {K : Kt} {rest : List Oper} {fr fr' : Fr} {H H' : Hp} {d : Option Tmp} {ty t t' : TypeId} {ps : String} {af : Array Edge} {x y z : Operand} {rv : Operand → AV} {a b a' b' : AV} {k : AV → Prop} {kh : AV → Hp → Prop}
/-- a text -/
def tx (l : List UInt8) : AV := .sl false (l.map byt)
@[simp] theorem nrm_tx (l : List UInt8) : nrm (tx l) = tx l := (rfl)
@[simp] theorem str_tx (A : Bool) (l : List UInt8) : str A (tx l) = tx l := (rfl)
@[simp] theorem avc_tx (l : List UInt8) : avc (tx l) = some [tx l] := (rfl)
@[simp] theorem rows_tx (l : List UInt8) : (tx l).rows = some (false, l.map byt) := (rfl)
/-- numbers; texts -/
def inl (n : Int) : List AV := [.v (.int .i64 n)]
def its (l : List Int) : AV := .sl false (l.map inl)
def txl (l : List UInt8) : List AV := [tx l]
def txs (l : List (List UInt8)) : AV := .sl false (l.map txl)
@[simp] theorem nrm_its (l : List Int) : nrm (its l) = its l := (rfl)
@[simp] theorem str_its (A : Bool) (l : List Int) : str A (its l) = its l := (rfl)
@[simp] theorem avc_its (l : List Int) : avc (its l) = some [its l] := (rfl)
@[simp] theorem nrm_txs (l : List (List UInt8)) : nrm (txs l) = txs l := (rfl)
@[simp] theorem str_txs (A : Bool) (l : List (List UInt8)) : str A (txs l) = txs l := (rfl)
@[simp] theorem avc_txs (l : List (List UInt8)) : avc (txs l) = some [txs l] := (rfl)
@[simp] theorem sl_tx0 (l : List UInt8) : AV.sl false (l.map byt) = tx l := (rfl)
@[simp] theorem sl_its (l : List Int) : AV.sl false (l.map inl) = its l := (rfl)
@[simp] theorem sl_txs (l : List (List UInt8)) : AV.sl false (l.map txl) = txs l := (rfl)
@[simp] theorem inl_len (n : Int) : (inl n).length = 1 := (rfl)
@[simp] theorem txl_len (n : List UInt8) : (txl n).length = 1 := (rfl)
@[simp] theorem intl (l : List Int) (x : List AV) : x ∈ l.map inl → x.length = 1 := fun h => by obtain ⟨b, _, rfl⟩ := List.mem_map.1 h; rfl
@[simp] theorem txtl (l : List (List UInt8)) (x : List AV) : x ∈ l.map txl → x.length = 1 := fun h => by obtain ⟨b, _, rfl⟩ := List.mem_map.1 h; rfl
-- frames, heaps, values
@[simp] theorem fset_app (f : Fr) (i j : Nat) (a : AV) : fset f i a j = if j = i then a else f j := (rfl)
@[simp] theorem fput_some (f : Fr) (i : Nat) (a : AV) : fput f (some i) a = fset f i a := (rfl)
@[simp] theorem fput_none (f : Fr) (a : AV) : fput f none a = f := (rfl)
@[simp] theorem fargs_app (l : List AV) (i : Nat) : fargs l i = l.getD i .any := (rfl)
@[simp] theorem aev_tmp (f : Fr) (i : Nat) : aev f (.tmp i) = f i := (rfl)
@[simp] theorem aev_const (f : Fr) (v : Value) : aev f (.const v) = ofVal v := (rfl)
@[simp] theorem aev_global (f : Fr) (g : Nat) : aev f (.global g) = .v (.pointer (some ⟨g, 0, none⟩)) := (rfl)
@[simp] theorem aev_func (f : Fr) (g : Nat) : aev f (.func g) = .v (.func (.func g) #[] #[]) := (rfl)
@[simp] theorem ofVal_int (q : IntKind) (n : Int) : ofVal (.int q n) = .v (.int q n) := (rfl)
@[simp] theorem ofVal_bool (n : Bool) : ofVal (.bool n) = .v (.bool n) := (rfl)
@[simp] theorem ofVal_string (n : ByteArray) : ofVal (.string n) = .v (.string n) := (rfl)
@[simp] theorem ofVal_pointer (n : Option Addr) : ofVal (.pointer n) = .v (.pointer n) := (rfl)
@[simp] theorem ofVal_slice (n : Option Addr) (l c : Nat) : ofVal (.slice n l c) = .v (.slice n l c) := (rfl)
@[simp] theorem ofVal_map (n : Option Nat) : ofVal (.map n) = .v (.map n) := (rfl)
@[simp] theorem ofVal_nilFunc : ofVal .nilFunc = .v .nilFunc := (rfl)
@[simp] theorem ofVal_nilIface : ofVal .nilIface = .v .nilIface := (rfl)
@[simp] theorem ofVal_tuple (l : Array Value) : ofVal (.tuple l) = .v (.tuple l) := (rfl)
@[simp] theorem ofVal_agg (l : List Value) : ofVal (.agg l.toArray) = if l.all (·.oneCell') then .agg (l.map .v) else .any := by simp [ofVal]
@[simp] theorem nrm_any : nrm .any = .any := (rfl)
@[simp] theorem nrm_v (x : Value) : nrm (.v x) = .v x := (rfl)
@[simp] theorem nrm_sl (e : Bool) (l : List (List AV)) : nrm (.sl e l) = .sl e l := (rfl)
@[simp] theorem nrm_ep (l : List (List AV)) (i j : Nat) : nrm (.ep l i j) = .ep l i j := (rfl)
@[simp] theorem nrm_agg (l : List AV) : nrm (.agg l) = .agg l := (rfl)
@[simp] theorem nrm_tup (l : List AV) : nrm (.tup l) = .tup l := (rfl)
@[simp] theorem nrm_gt (a : AV) : nrm (.gd true a) = a := (rfl)
@[simp] theorem nrm_gf (a : AV) : nrm (.gd false a) = .any := (rfl)
variable {g : Bool}
@[simp] theorem str_any : str g .any = .any := (rfl)
@[simp] theorem str_v (x : Value) : str g (.v x) = .v x := (rfl)
@[simp] theorem str_sl (e : Bool) (l : List (List AV)) : str g (.sl e l) = .sl e l := (rfl)
@[simp] theorem str_ep (l : List (List AV)) (i j : Nat) : str g (.ep l i j) = .ep l i j := (rfl)
@[simp] theorem str_agg (l : List AV) : str g (.agg l) = .agg l := (rfl)
@[simp] theorem str_tup (l : List AV) : str g (.tup l) = .tup l := (rfl)
@[simp] theorem str_gd (a : AV) : str g (.gd g a) = a := by simp [str]
@[simp] theorem str_gn (a : AV) : str (!g) (.gd (g == false) a) = a := by cases g <;> rfl
@[simp] theorem str_gn' (a : AV) : str (!g) (.gd (!g) a) = a := by simp [str]
@[simp] theorem str_gt (a : AV) : str g (.gd (g == true) a) = a := by cases g <;> rfl
@[simp] theorem rows_sl (e : Bool) (l : List (List AV)) : (AV.sl e l).rows = some (e, l) := (rfl)
@[simp] theorem val_v (x : Value) : (AV.v x).val = some x := (rfl)
@[simp] theorem avc_agg (l : List AV) : avc (.agg l) = some l := (rfl)
@[simp] theorem avc_sl (e : Bool) (l : List (List AV)) : avc (.sl e l) = some [.sl e l] := (rfl)
@[simp] theorem avc_ep (l : List (List AV)) (i j : Nat) : avc (.ep l i j) = some [.ep l i j] := (rfl)
@[simp] theorem avc_v (x : Value) : avc (.v x) = if x.oneCell' then some [.v x] else none := (rfl)
@[simp] theorem splice_1 (l : List AV) (o : Nat) (x : AV) : splice l o [x] = l.set o x := (rfl)
@[simp] theorem splice_0 (l : List AV) (o : Nat) : splice l o [] = l := by simp [splice]
@[simp] theorem splice_2 (l m : List AV) (o : Nat) (x y : AV) : splice l o (x :: y :: m) = l.take o ++ (x :: y :: m) ++ l.drop (o + (x :: y :: m).length) := (rfl)
@[simp] theorem num_v (q : IntKind) (n : Int) : num (.v (.int q n)) = some n := (rfl)
@[simp] theorem slx_0 (e : Bool) : slx e none none = e := (rfl)
@[simp] theorem slx_1 (e : Bool) (m : Int) : slx e none (some m) = false := (rfl)
@[simp] theorem slx_2 (e : Bool) (m n : Int) : slx e (some m) (some n) = decide (m = n) := (rfl)
@[simp] theorem ev_tmp (f : Fr) (i : Nat) : ev f (.tmp i) = nrm (f i) := (rfl)
@[simp] theorem ev_const (f : Fr) (v : Value) : ev f (.const v) = nrm (ofVal v) := (rfl)
@[simp] theorem ev_global (f : Fr) (g : Nat) : ev f (.global g) = .v (.pointer (some ⟨g, 0, none⟩)) := (rfl)
@[simp] theorem ev_func (f : Fr) (g : Nat) : ev f (.func g) = .v (.func (.func g) #[] #[]) := (rfl)
@[simp] theorem hset_app (H : Hp) (m b : Nat) (o : AO) : hset H m o b = if b = m then some o else H b := (rfl)
@[simp] theorem hdel_app (H : Hp) (m b : Nat) : hdel H m b = if b = m then none else H b := (rfl)
attribute [simp] ecv optk ldO ldR stO eld est pnum pun pfa pfd pick1 pext pnl ppick avals pfn pif pcv pfill zcells onum psl pmm brow ebs
@[simp] theorem pbuild_s {z : Value} {u : List (Nat × Nat)} {l : List (Nat × Operand)} : pbuild (some z) (some u) rv l k = pbz (avc (ofVal z)) u rv l k := (rfl)
attribute [simp] pbz
@[simp] theorem one_int (q : IntKind) (n : Int) : (Value.int q n).oneCell' = true := (rfl)
@[simp] theorem one_bool (n : Bool) : (Value.bool n).oneCell' = true := (rfl)
@[simp] theorem one_string (n : ByteArray) : (Value.string n).oneCell' = true := (rfl)
@[simp] theorem one_pointer (n : Option Addr) : (Value.pointer n).oneCell' = true := (rfl)
@[simp] theorem one_slice (n : Option Addr) (l c : Nat) : (Value.slice n l c).oneCell' = true := (rfl)
@[simp] theorem one_func (f : Fn) (l c : Array Value) : (Value.func f l c).oneCell' = true := (rfl)
@[simp] theorem one_map (n : Option Nat) : (Value.map n).oneCell' = true := (rfl)
@[simp] theorem one_nilFunc : Value.nilFunc.oneCell' = true := (rfl)
@[simp] theorem one_nilIface : Value.nilIface.oneCell' = true := (rfl)
@[simp] theorem one_iface (t : TypeId) (v : Value) : (Value.iface t v).oneCell' = true := (rfl)
@[simp] theorem isC_c (v : Value) : isC (.const v) = true := (rfl)
@[simp] theorem isC_t (t : Nat) : isC (.tmp t) = false := (rfl)
@[simp] theorem isC_g (t : Nat) : isC (.global t) = false := (rfl)
@[simp] theorem isC_f (t : Nat) : isC (.func t) = false := (rfl)
@[simp] theorem alen_tx (n : Nat) (l : List UInt8) : alen n (tx l) k = (n = 2 ∧ k (.v (.int .i64 l.length))) := by simp [tx, alen, -sl_tx0, AV.rows]
@[simp] theorem alen_sl (n : Nat) (e : Bool) (l : List (List AV)) : alen n (.sl e l) k = (n = 2 ∧ k (.v (.int .i64 l.length))) := (rfl)
@[simp] theorem alen_vs (n : Nat) (p : Option Addr) (l c : Nat) : alen n (.v (.slice p l c)) k = (n = 2 ∧ k (.v (.int .i64 l))) := (rfl)
@[simp] theorem alen_vt (n : Nat) (p : ByteArray) : alen n (.v (.string p)) k = (n = 7 ∧ k (.v (.int .i64 p.size))) := (rfl)
variable {q : IntKind} {m n : Int} {c : Bool} {tn : Nat} {u : Option (TypeId × Nat × Nat)} {te : TypeId} {sz by_ : Nat}
@[simp] theorem byt_len (b : UInt8) : (byt b).length = 1 := (rfl)
@[simp] theorem pix_tx (l : List UInt8) : pix (some (te, sz, by_)) (tx l) (.v (.int q m)) k = ((0 ≤ m ∧ m < l.length ∧ ∀ r ∈ l.map byt, r.length = sz) ∧ k (.ep (l.map byt) m.toNat 0)) := by
  simp only [tx, pix, AV.rows, List.length_map]
@[simp] theorem pix_sl (e : Bool) (l : List (List AV)) : pix (some (te, sz, by_)) (.sl e l) (.v (.int q m)) k = ((0 ≤ m ∧ m < l.length ∧ ∀ r ∈ l, r.length = sz) ∧ k (.ep l m.toNat 0)) := (rfl)
@[simp] theorem pix_v (b o l c : Nat) : pix (some (te, sz, by_)) (.v (.slice (some ⟨b, o, none⟩) l c)) (.v (.int q m)) k = ((0 ≤ m ∧ m < l) ∧ k (.v (.pointer (some ⟨b, o + m.toNat * sz, none⟩)))) := (rfl)
@[simp] theorem avif_b (a b c : Bool) : avif c (.v (.bool a)) (.v (.bool b)) k = k (.v (.bool (bif c then a else b))) := (rfl)
@[simp] theorem avif_i (c : Bool) : avif c (.v (.int q m)) (.v (.int q n)) k = k (.v (.int q (bif c then m else n))) := by simp [avif]
@[simp] theorem pbin_i {op : BinOp} : pbin tn c op (.v (.int q m)) (.v (.int q n)) k = pint op q m n k := by simp [pbin]
@[simp] theorem pbin_shl {q' : IntKind} : pbin tn c .shl (.v (.int q m)) (.v (.int q' n)) k = pint .shl q m n k := by simp [pbin]
@[simp] theorem pbin_shr {q' : IntKind} : pbin tn c .shr (.v (.int q m)) (.v (.int q' n)) k = pint .shr q m n k := by simp [pbin]
attribute [simp] pint
@[simp] theorem pbin_sl (e : Bool) (l : List (List AV)) : pbin tn c .eql (.sl e l) (.v (.slice none 0 0)) k = (tn = 2 ∧ ∀ b, (b = true → l = []) → k (.v (.bool b))) := by simp [pbin]
@[simp] theorem pbin_sln (e : Bool) (l : List (List AV)) : pbin tn c .neq (.sl e l) (.v (.slice none 0 0)) k = (tn = 2 ∧ ∀ b, (b = true → l = []) → k (.v (.bool (!b)))) := by simp [pbin]
@[simp] theorem pbin_tx (l : List UInt8) : pbin tn c .eql (tx l) (.v (.slice none 0 0)) k = (tn = 2 ∧ ∀ b, (b = true → l = []) → k (.v (.bool b))) := by simp [tx, pbin, -sl_tx0]
@[simp] theorem pbin_txn (l : List UInt8) : pbin tn c .neq (tx l) (.v (.slice none 0 0)) k = (tn = 2 ∧ ∀ b, (b = true → l = []) → k (.v (.bool (!b)))) := by simp [tx, pbin, -sl_tx0]
@[simp] theorem pbin_wd : pbin tn c .add (.wd q) (.v (.int q m)) k = k (.wd q) := by simp [pbin]
@[simp] theorem nrm_wd : nrm (.wd q) = .wd q := (rfl)
@[simp] theorem str_wd : str g (.wd q) = .wd q := (rfl)
@[simp] theorem avc_wd : avc (.wd q) = some [.wd q] := (rfl)
@[simp] theorem pbin_be (a b : Bool) : pbin tn c .eql (.v (.bool a)) (.v (.bool b)) k = (tn = 6 ∧ k (.v (.bool (a == b)))) := (rfl)
@[simp] theorem pbin_bn (a b : Bool) : pbin tn c .neq (.v (.bool a)) (.v (.bool b)) k = (tn = 6 ∧ k (.v (.bool (!(a == b))))) := (rfl)
@[simp] theorem pbin_se (a b : ByteArray) : pbin tn c .eql (.v (.string a)) (.v (.string b)) k = (tn = 7 ∧ k (.v (.bool (a.toList == b.toList)))) := (rfl)
@[simp] theorem pbin_sn (a b : ByteArray) : pbin tn c .neq (.v (.string a)) (.v (.string b)) k = (tn = 7 ∧ k (.v (.bool (!(a.toList == b.toList))))) := (rfl)
@[simp] theorem pbin_z1eql : pbin tn c .eql (.v (.pointer none)) (.v (.pointer none)) k = ((tn = 1) ∧ k (.v (.bool true))) := by simp [pbin, peq, nlA, nlV]
@[simp] theorem pbin_n1eql0 (p : Addr) : pbin tn c .eql (.v (.pointer (some p))) (.v (.pointer none)) k = (tn = 1 ∧ k (.v (.bool false))) := by simp [pbin, peq, nlA, nlV]
@[simp] theorem pbin_m1eql0 (p : Addr) : pbin tn c .eql (.v (.pointer none)) (.v (.pointer (some p))) k = (tn = 1 ∧ k (.v (.bool false))) := by simp [pbin, peq, nlA, nlV]
@[simp] theorem pbin_n1eql1 (l : List (List AV)) (i j : Nat) : pbin tn c .eql (.ep l i j) (.v (.pointer none)) k = (tn = 1 ∧ k (.v (.bool false))) := by simp [pbin, peq, nlA, nlV]
@[simp] theorem pbin_m1eql1 (l : List (List AV)) (i j : Nat) : pbin tn c .eql (.v (.pointer none)) (.ep l i j) k = (tn = 1 ∧ k (.v (.bool false))) := by simp [pbin, peq, nlA, nlV]
@[simp] theorem pbin_z1neq : pbin tn c .neq (.v (.pointer none)) (.v (.pointer none)) k = ((tn = 1) ∧ k (.v (.bool false))) := by simp [pbin, peq, nlA, nlV]
@[simp] theorem pbin_n1neq0 (p : Addr) : pbin tn c .neq (.v (.pointer (some p))) (.v (.pointer none)) k = (tn = 1 ∧ k (.v (.bool true))) := by simp [pbin, peq, nlA, nlV]
@[simp] theorem pbin_m1neq0 (p : Addr) : pbin tn c .neq (.v (.pointer none)) (.v (.pointer (some p))) k = (tn = 1 ∧ k (.v (.bool true))) := by simp [pbin, peq, nlA, nlV]
@[simp] theorem pbin_n1neq1 (l : List (List AV)) (i j : Nat) : pbin tn c .neq (.ep l i j) (.v (.pointer none)) k = (tn = 1 ∧ k (.v (.bool true))) := by simp [pbin, peq, nlA, nlV]
@[simp] theorem pbin_m1neq1 (l : List (List AV)) (i j : Nat) : pbin tn c .neq (.v (.pointer none)) (.ep l i j) k = (tn = 1 ∧ k (.v (.bool true))) := by simp [pbin, peq, nlA, nlV]
@[simp] theorem pbin_z2eql : pbin tn c .eql (.v (.slice none 0 0)) (.v (.slice none 0 0)) k = ((tn = 2) ∧ k (.v (.bool true))) := by simp [pbin, peq, nlA, nlV]
@[simp] theorem pbin_n2eql0 (p : Addr) (i j : Nat) : pbin tn c .eql (.v (.slice (some p) i j)) (.v (.slice none 0 0)) k = (tn = 2 ∧ k (.v (.bool false))) := by simp [pbin, peq, nlA, nlV]
@[simp] theorem pbin_m2eql0 (p : Addr) (i j : Nat) : pbin tn c .eql (.v (.slice none 0 0)) (.v (.slice (some p) i j)) k = (tn = 2 ∧ k (.v (.bool false))) := by simp [pbin, peq, nlA, nlV]
@[simp] theorem pbin_m2eql1 (e : Bool) (r : List AV) (l : List (List AV)) : pbin tn c .eql (.v (.slice none 0 0)) (.sl e (r :: l)) k = (tn = 2 ∧ k (.v (.bool false))) := by simp [pbin, peq, nlA, nlV]
@[simp] theorem pbin_z2neq : pbin tn c .neq (.v (.slice none 0 0)) (.v (.slice none 0 0)) k = ((tn = 2) ∧ k (.v (.bool false))) := by simp [pbin, peq, nlA, nlV]
@[simp] theorem pbin_n2neq0 (p : Addr) (i j : Nat) : pbin tn c .neq (.v (.slice (some p) i j)) (.v (.slice none 0 0)) k = (tn = 2 ∧ k (.v (.bool true))) := by simp [pbin, peq, nlA, nlV]
@[simp] theorem pbin_m2neq0 (p : Addr) (i j : Nat) : pbin tn c .neq (.v (.slice none 0 0)) (.v (.slice (some p) i j)) k = (tn = 2 ∧ k (.v (.bool true))) := by simp [pbin, peq, nlA, nlV]
@[simp] theorem pbin_m2neq1 (e : Bool) (r : List AV) (l : List (List AV)) : pbin tn c .neq (.v (.slice none 0 0)) (.sl e (r :: l)) k = (tn = 2 ∧ k (.v (.bool true))) := by simp [pbin, peq, nlA, nlV]
@[simp] theorem pbin_z3eql : pbin tn c .eql (.v (.nilFunc)) (.v (.nilFunc)) k = ((tn = 3) ∧ k (.v (.bool true))) := by simp [pbin, peq, nlA, nlV]
@[simp] theorem pbin_n3eql0 (f : Fn) (a b : Array Value) : pbin tn c .eql (.v (.func f a b)) (.v (.nilFunc)) k = (tn = 3 ∧ k (.v (.bool false))) := by simp [pbin, peq, nlA, nlV]
@[simp] theorem pbin_m3eql0 (f : Fn) (a b : Array Value) : pbin tn c .eql (.v (.nilFunc)) (.v (.func f a b)) k = (tn = 3 ∧ k (.v (.bool false))) := by simp [pbin, peq, nlA, nlV]
@[simp] theorem pbin_z3neq : pbin tn c .neq (.v (.nilFunc)) (.v (.nilFunc)) k = ((tn = 3) ∧ k (.v (.bool false))) := by simp [pbin, peq, nlA, nlV]
@[simp] theorem pbin_n3neq0 (f : Fn) (a b : Array Value) : pbin tn c .neq (.v (.func f a b)) (.v (.nilFunc)) k = (tn = 3 ∧ k (.v (.bool true))) := by simp [pbin, peq, nlA, nlV]
@[simp] theorem pbin_m3neq0 (f : Fn) (a b : Array Value) : pbin tn c .neq (.v (.nilFunc)) (.v (.func f a b)) k = (tn = 3 ∧ k (.v (.bool true))) := by simp [pbin, peq, nlA, nlV]
@[simp] theorem pbin_z4eql : pbin tn c .eql (.v (.nilIface)) (.v (.nilIface)) k = ((tn = 4 ∧ c = true) ∧ k (.v (.bool true))) := by simp [pbin, peq, nlA, nlV]
@[simp] theorem pbin_n4eql0 (t : TypeId) (v : Value) : pbin tn c .eql (.v (.iface t v)) (.v (.nilIface)) k = (tn = 4 ∧ k (.v (.bool false))) := by simp [pbin, peq, nlA, nlV]
@[simp] theorem pbin_m4eql0 (t : TypeId) (v : Value) : pbin tn c .eql (.v (.nilIface)) (.v (.iface t v)) k = (tn = 4 ∧ k (.v (.bool false))) := by simp [pbin, peq, nlA, nlV]
@[simp] theorem pbin_z4neq : pbin tn c .neq (.v (.nilIface)) (.v (.nilIface)) k = ((tn = 4 ∧ c = true) ∧ k (.v (.bool false))) := by simp [pbin, peq, nlA, nlV]
@[simp] theorem pbin_n4neq0 (t : TypeId) (v : Value) : pbin tn c .neq (.v (.iface t v)) (.v (.nilIface)) k = (tn = 4 ∧ k (.v (.bool true))) := by simp [pbin, peq, nlA, nlV]
@[simp] theorem pbin_m4neq0 (t : TypeId) (v : Value) : pbin tn c .neq (.v (.nilIface)) (.v (.iface t v)) k = (tn = 4 ∧ k (.v (.bool true))) := by simp [pbin, peq, nlA, nlV]
@[simp] theorem pbin_z5eql : pbin tn c .eql (.v (.map none)) (.v (.map none)) k = ((tn = 5) ∧ k (.v (.bool true))) := by simp [pbin, peq, nlA, nlV]
@[simp] theorem pbin_n5eql0 (i : Nat) : pbin tn c .eql (.v (.map (some i))) (.v (.map none)) k = (tn = 5 ∧ k (.v (.bool false))) := by simp [pbin, peq, nlA, nlV]
@[simp] theorem pbin_m5eql0 (i : Nat) : pbin tn c .eql (.v (.map none)) (.v (.map (some i))) k = (tn = 5 ∧ k (.v (.bool false))) := by simp [pbin, peq, nlA, nlV]
@[simp] theorem pbin_z5neq : pbin tn c .neq (.v (.map none)) (.v (.map none)) k = ((tn = 5) ∧ k (.v (.bool false))) := by simp [pbin, peq, nlA, nlV]
@[simp] theorem pbin_n5neq0 (i : Nat) : pbin tn c .neq (.v (.map (some i))) (.v (.map none)) k = (tn = 5 ∧ k (.v (.bool true))) := by simp [pbin, peq, nlA, nlV]
@[simp] theorem pbin_m5neq0 (i : Nat) : pbin tn c .neq (.v (.map none)) (.v (.map (some i))) k = (tn = 5 ∧ k (.v (.bool true))) := by simp [pbin, peq, nlA, nlV]
@[simp] theorem sl_tx (l : List UInt8) (n m : Nat) : AV.sl false (((l.map byt).take n).drop m) = tx ((l.take n).drop m) := by simp [tx, -sl_tx0]
@[simp] theorem psl3_tx (l : List UInt8) (lo hi : Option Int) : psl3 tn (some (te, sz, by_)) (tx l) lo hi none k = ((tn = 2 ∧ 0 ≤ lo.getD 0 ∧ lo.getD 0 ≤ hi.getD l.length ∧ hi.getD l.length ≤ l.length ∧ ∀ r ∈ l.map byt, r.length = sz) ∧ k (tx ((l.take (hi.getD l.length).toNat).drop (lo.getD 0).toNat))) := by
  simp only [tx, psl3, AV.rows, List.length_map, Option.getD_none, true_or, true_and, Int.le_refl, and_true]
  congr 2
  cases hi <;> simp [slx, tx, -sl_tx, -sl_tx0]
  rw [List.take_of_length_le (by simp)]
@[simp] theorem psl3_sl (e : Bool) (l : List (List AV)) (lo hi mx : Option Int) : psl3 tn (some (te, sz, by_)) (.sl e l) lo hi mx k = ((tn = 2 ∧ 0 ≤ lo.getD 0 ∧ lo.getD 0 ≤ hi.getD l.length ∧ hi.getD l.length ≤ mx.getD l.length ∧ mx.getD l.length ≤ l.length ∧ (mx = none ∨ hi ≠ none) ∧ ∀ r ∈ l, r.length = sz) ∧ k (.sl (slx e mx hi) ((l.take (hi.getD l.length).toNat).drop (lo.getD 0).toNat))) := (rfl)
@[simp] theorem alen_its (n : Nat) (l : List Int) : alen n (its l) k = (n = 2 ∧ k (.v (.int .i64 l.length))) := by simp [its, alen, -sl_its, AV.rows]
@[simp] theorem pix_its (l : List Int) : pix (some (te, sz, by_)) (its l) (.v (.int q m)) k = ((0 ≤ m ∧ m < l.length ∧ ∀ r ∈ l.map inl, r.length = sz) ∧ k (.ep (l.map inl) m.toNat 0)) := by
  simp only [its, pix, AV.rows, List.length_map]
@[simp] theorem pbin_its (l : List Int) : pbin tn c .eql (its l) (.v (.slice none 0 0)) k = (tn = 2 ∧ ∀ b, (b = true → l = []) → k (.v (.bool b))) := by simp [its, pbin, -sl_its]
@[simp] theorem pbin_itsn (l : List Int) : pbin tn c .neq (its l) (.v (.slice none 0 0)) k = (tn = 2 ∧ ∀ b, (b = true → l = []) → k (.v (.bool (!b)))) := by simp [its, pbin, -sl_its]
@[simp] theorem sl_itsc (l : List Int) (n m : Nat) : AV.sl false (((l.map inl).take n).drop m) = its ((l.take n).drop m) := by simp [its, -sl_its]
@[simp] theorem psl3_its (l : List Int) (lo hi : Option Int) : psl3 tn (some (te, sz, by_)) (its l) lo hi none k = ((tn = 2 ∧ 0 ≤ lo.getD 0 ∧ lo.getD 0 ≤ hi.getD l.length ∧ hi.getD l.length ≤ l.length ∧ ∀ r ∈ l.map inl, r.length = sz) ∧ k (its ((l.take (hi.getD l.length).toNat).drop (lo.getD 0).toNat))) := by
  simp only [its, psl3, AV.rows, List.length_map, Option.getD_none, true_or, true_and, Int.le_refl, and_true]
  congr 2
  cases hi <;> simp [slx, its, -sl_itsc, -sl_its]
  rw [List.take_of_length_le (by simp)]
@[simp] theorem asrc_its (l : List Int) : asrc H (its l) = some (l.map inl) := (rfl)
@[simp] theorem alen_txs (n : Nat) (l : List (List UInt8)) : alen n (txs l) k = (n = 2 ∧ k (.v (.int .i64 l.length))) := by simp [txs, alen, -sl_txs, AV.rows]
@[simp] theorem pix_txs (l : List (List UInt8)) : pix (some (te, sz, by_)) (txs l) (.v (.int q m)) k = ((0 ≤ m ∧ m < l.length ∧ ∀ r ∈ l.map txl, r.length = sz) ∧ k (.ep (l.map txl) m.toNat 0)) := by
  simp only [txs, pix, AV.rows, List.length_map]
@[simp] theorem pbin_txs (l : List (List UInt8)) : pbin tn c .eql (txs l) (.v (.slice none 0 0)) k = (tn = 2 ∧ ∀ b, (b = true → l = []) → k (.v (.bool b))) := by simp [txs, pbin, -sl_txs]
@[simp] theorem pbin_txsn (l : List (List UInt8)) : pbin tn c .neq (txs l) (.v (.slice none 0 0)) k = (tn = 2 ∧ ∀ b, (b = true → l = []) → k (.v (.bool (!b)))) := by simp [txs, pbin, -sl_txs]
@[simp] theorem sl_txsc (l : List (List UInt8)) (n m : Nat) : AV.sl false (((l.map txl).take n).drop m) = txs ((l.take n).drop m) := by simp [txs, -sl_txs]
@[simp] theorem psl3_txs (l : List (List UInt8)) (lo hi : Option Int) : psl3 tn (some (te, sz, by_)) (txs l) lo hi none k = ((tn = 2 ∧ 0 ≤ lo.getD 0 ∧ lo.getD 0 ≤ hi.getD l.length ∧ hi.getD l.length ≤ l.length ∧ ∀ r ∈ l.map txl, r.length = sz) ∧ k (txs ((l.take (hi.getD l.length).toNat).drop (lo.getD 0).toNat))) := by
  simp only [txs, psl3, AV.rows, List.length_map, Option.getD_none, true_or, true_and, Int.le_refl, and_true]
  congr 2
  cases hi <;> simp [slx, txs, -sl_txsc, -sl_txs]
  rw [List.take_of_length_le (by simp)]
@[simp] theorem asrc_txs (l : List (List UInt8)) : asrc H (txs l) = some (l.map txl) := (rfl)
@[simp] theorem psl3_v (b o l c' : Nat) (lo hi mx : Option Int) : psl3 tn (some (te, sz, by_)) (.v (.slice (some ⟨b, o, none⟩) l c')) lo hi mx k = ((tn = 2 ∧ 0 ≤ lo.getD 0 ∧ lo.getD 0 ≤ hi.getD l ∧ hi.getD l ≤ mx.getD c' ∧ mx.getD c' ≤ c' ∧ (lo.getD 0 < mx.getD c' ∨ lo.getD 0 = 0) ∧ (mx = none ∨ hi ≠ none)) ∧
      k (.v (.slice (some ⟨b, o + (lo.getD 0).toNat * sz, none⟩) ((hi.getD l).toNat - (lo.getD 0).toNat) ((mx.getD c').toNat - (lo.getD 0).toNat)))) := (rfl)
@[simp] theorem psl3_n (lo hi mx : Option Int) : psl3 tn u (.v (.slice none 0 0)) lo hi mx k = ((tn = 2 ∧ u.isSome = true ∧ lo.getD 0 = 0 ∧ hi.getD 0 = 0 ∧ mx.getD 0 = 0 ∧ (mx = none ∨ hi ≠ none)) ∧ k (.v (.slice none 0 0))) := (rfl)
@[simp] theorem psl3_s (s : ByteArray) (lo hi mx : Option Int) : psl3 tn u (.v (.string s)) lo hi mx k = ((0 ≤ lo.getD 0 ∧ lo.getD 0 ≤ hi.getD s.size ∧ hi.getD s.size ≤ s.size ∧ mx = none ∧ tn = 7) ∧ k (.v (.string (s.extract (lo.getD 0).toNat (hi.getD s.size).toNat)))) := (rfl)
@[simp] theorem txl_0 (l : List UInt8) : (txl l)[0]? = some (tx l) := (rfl)
@[simp] theorem inl_0 (l : Int) : (inl l)[0]? = some (.v (.int .i64 l)) := (rfl)
@[simp] theorem byt_0 (l : UInt8) : (byt l)[0]? = some (.v (.int .u8 l.toNat)) := (rfl)
@[simp] theorem pcl_len : pcl P rv (.builtin .len) [x] [t] k = alen (tN P t) (nrm (rv x)) k := (rfl)
@[simp] theorem pcl_min {l : List TypeId} : pcl P rv (.builtin .min) [x, y] l k = pmm true (nrm (rv x)) (nrm (rv y)) k := (rfl)
@[simp] theorem pcl_max {l : List TypeId} : pcl P rv (.builtin .max) [x, y] l k = pmm false (nrm (rv x)) (nrm (rv y)) k := (rfl)
attribute [simp] egd acond gv acap eap eapO ecp ecpO tZe asrcO eiv
@[simp] theorem pcl_cap : pcl P rv (.builtin .cap) [x] [t] k = acap (tN P t) (nrm (rv x)) k := (rfl)
@[simp] theorem asrc_sl (e : Bool) (l : List (List AV)) : asrc H (.sl e l) = some l := (rfl)
@[simp] theorem asrc_n : asrc H (.v (.slice none 0 0)) = some [] := (rfl)
@[simp] theorem asrc_s (s : ByteArray) : asrc H (.v (.string s)) = some (s.data.toList.map byt) := (rfl)
@[simp] theorem asrc_v (b o n c : Nat) : asrc H (.v (.slice (some ⟨b, o, none⟩) n c)) = asrcO n o (H b) := (rfl)
@[simp] theorem bytl (l : List UInt8) (x : List AV) : x ∈ l.map byt → x.length = 1 := fun h => by obtain ⟨b, _, rfl⟩ := List.mem_map.1 h; rfl
@[simp] theorem asrc_tx (l : List UInt8) : asrc H (tx l) = some (l.map byt) := (rfl)
/-- what a type depends on 'simp' takes as it is -/
inductive Tk.{u} {α : Type u} (x : α) : Type
  | mk
def gO (P : Program) (Wr : Nat → Prop) (ops : Array Oper) (pu : Option Tmp → Bool) (C : Ct) (K : Kt) (rest : List Oper) (_ : Tk (ops, pu, C, K, rest)) (fr : Fr) (H : Hp) : Prop := eO P Wr ops pu C K rest fr H
def gC (P : Program) (Wr : Nat → Prop) (c : Code) (K : Kt) (_ : Tk (c, K)) (fr : Fr) (H : Hp) : Prop := eC P Wr c K fr H
def gA (P : Program) (Wr : Nat → Prop) (c : Code) (K : Kt) (_ : Tk (c, K)) (fr : Fr) (H : Hp) : Prop := aC P Wr c K fr H
def gQ (P : Program) (Wr : Nat → Prop) (ops : Array Oper) (K : Kt) (rest : List Oper) (_ : Tk (ops, K, rest)) (fr : Fr) (H : Hp) : Prop := aO P Wr ops K rest fr H
-- what comes later, by name: 'simp' does not reckon it ahead of its time
def kO (P : Program) (Wr : Nat → Prop) (ops : Array Oper) (pu : Option Tmp → Bool) (C : Ct) (K : Kt) (rest : List Oper) (d : Option Tmp) (_ : Tk (ops, pu, C, K, rest)) (fr : Fr) (H : Hp) (a : AV) : Prop := gO P Wr ops pu C K rest .mk (fput fr d a) H
def kV (P : Program) (Wr : Nat → Prop) (ops : Array Oper) (pu : Option Tmp → Bool) (C : Ct) (K : Kt) (rest : List Oper) (d : Option Tmp) (_ : Tk (ops, pu, C, K, rest)) (fr : Fr) (a : AV) (H : Hp) : Prop := gO P Wr ops pu C K rest .mk (fput fr d a) H
def kH (P : Program) (Wr : Nat → Prop) (ops : Array Oper) (pu : Option Tmp → Bool) (C : Ct) (K : Kt) (rest : List Oper) (d : Option Tmp) (_ : Tk (ops, pu, C, K, rest)) (fr : Fr) (H : Hp) : Prop := gO P Wr ops pu C K rest .mk (fput fr d (.v undef)) H
def kG (P : Program) (Wr : Nat → Prop) (ops : Array Oper) (pu : Option Tmp → Bool) (C : Ct) (K : Kt) (rest : List Oper) (d : Option Tmp) (_ : Tk (ops, pu, C, K, rest)) (fr : Fr) (H : Hp) (g : Bool) (a : AV) : Prop := gO P Wr ops pu C K rest .mk (fput fr d (.gd g a)) H
def kA (P : Program) (Wr : Nat → Prop) (ops : Array Oper) (pu : Option Tmp → Bool) (C : Ct) (K : Kt) (rest : List Oper) (d : Option Tmp) (_ : Tk (ops, pu, C, K, rest)) (fr : Fr) (a : AV) (H : Hp) : Prop := C rest (fput fr d a) H (gO P Wr ops pu C K rest .mk (fput fr d a) H)
@[simp] theorem kO_app : kO P Wr ops pu C K rest d .mk fr H a = gO P Wr ops pu C K rest .mk (fput fr d a) H := (rfl)
@[simp] theorem kV_app : kV P Wr ops pu C K rest d .mk fr a H = gO P Wr ops pu C K rest .mk (fput fr d a) H := (rfl)
@[simp] theorem kH_app : kH P Wr ops pu C K rest d .mk fr H = gO P Wr ops pu C K rest .mk (fput fr d (.v undef)) H := (rfl)
@[simp] theorem kG_app {g : Bool} : kG P Wr ops pu C K rest d .mk fr H g a = gO P Wr ops pu C K rest .mk (fput fr d (.gd g a)) H := (rfl)
@[simp] theorem kA_T {K' : Kt} : kA P Wr ops pu (cT P Wr ops K') K rest d .mk fr a H = gQ P Wr ops K' rest .mk (fput fr d a) H := (rfl)
@[simp] theorem kA_D : kA P Wr ops pu cD K rest d .mk fr a H = gO P Wr ops pu cD K rest .mk (fput fr d a) H := (rfl)
@[simp] theorem kAgg_app {l : List AV} : kAgg k l = k (.agg l) := (rfl)
@[simp] theorem eO_nil : gO P Wr ops pu C K [] .mk fr H = K .normal fr H := (rfl)
@[simp ↓] theorem eO_move : gO P Wr ops pu C K (⟨d, .move x, ty, ps, af, none⟩ :: rest) .mk fr H = gO P Wr ops pu C K rest .mk (fput fr d (aev fr x)) H := (rfl)
@[simp ↓] theorem eO_assign : gO P Wr ops pu C K (⟨d, .assign x, ty, ps, af, none⟩ :: rest) .mk fr H = gO P Wr ops pu C K rest .mk (fput fr d (aev fr x)) H := (rfl)
@[simp ↓] theorem eO_pick : gO P Wr ops pu C K (⟨d, .pick x y z, ty, ps, af, none⟩ :: rest) .mk fr H = ppick (nrm (aev fr x)) (aev fr y) (aev fr z) (kO P Wr ops pu C K rest d .mk fr H) := (rfl)
@[simp ↓] theorem eO_nilCheck : gO P Wr ops pu C K (⟨d, .nilCheck x, ty, ps, af, none⟩ :: rest) .mk fr H = pnl (nrm (aev fr x)) (kO P Wr ops pu C K rest d .mk fr H) := (rfl)
@[simp ↓] theorem eO_binOp {op : BinOp} : gO P Wr ops pu C K (⟨d, .binOp op t x y t', ty, ps, af, none⟩ :: rest) .mk fr H = pbin (tN P t) (isC x || isC y) op (nrm (aev fr x)) (nrm (aev fr y)) (kO P Wr ops pu C K rest d .mk fr H) := (rfl)
@[simp ↓] theorem eO_unOp {op : UnOp} : gO P Wr ops pu C K (⟨d, .unOp op t x, ty, ps, af, none⟩ :: rest) .mk fr H = pun op (nrm (aev fr x)) (kO P Wr ops pu C K rest d .mk fr H) := (rfl)
@[simp ↓] theorem eO_convert : gO P Wr ops pu C K (⟨d, .convert t t' x, ty, ps, af, none⟩ :: rest) .mk fr H = pcv (tN P t) (tI P t') (nrm (aev fr x)) (kO P Wr ops pu C K rest d .mk fr H) := (rfl)
@[simp ↓] theorem eO_fieldAddr {i : Nat} : gO P Wr ops pu C K (⟨d, .fieldAddr t x i, ty, ps, af, none⟩ :: rest) .mk fr H = pfa (tF P t i) (nrm (aev fr x)) (kO P Wr ops pu C K rest d .mk fr H) := (rfl)
@[simp ↓] theorem eO_field {i : Nat} : gO P Wr ops pu C K (⟨d, .field t x i, ty, ps, af, none⟩ :: rest) .mk fr H = pfd (tF P t i) (nrm (aev fr x)) (kO P Wr ops pu C K rest d .mk fr H) := (rfl)
@[simp ↓] theorem eO_extract {i : Nat} : gO P Wr ops pu C K (⟨d, .extract x i, ty, ps, af, none⟩ :: rest) .mk fr H = pext i (nrm (aev fr x)) (kO P Wr ops pu C K rest d .mk fr H) := (rfl)
@[simp ↓] theorem eO_indexAddr : gO P Wr ops pu C K (⟨d, .indexAddr t x y, ty, ps, af, none⟩ :: rest) .mk fr H = pix (tE P t) (nrm (aev fr x)) (nrm (aev fr y)) (kO P Wr ops pu C K rest d .mk fr H) := (rfl)
@[simp ↓] theorem eO_slice {lo hi mx : Option Operand} : gO P Wr ops pu C K (⟨d, .slice t x lo hi mx, ty, ps, af, none⟩ :: rest) .mk fr H = psl (tN P t) (tE P t) (ev fr) x lo hi mx (kO P Wr ops pu C K rest d .mk fr H) := (rfl)
@[simp ↓] theorem eO_build {l : List (Nat × Operand)} : gO P Wr ops pu C K (⟨d, .build t l.toArray, ty, ps, af, none⟩ :: rest) .mk fr H = pbuild (tZ P t) (tPl P t) (ev fr) l (kO P Wr ops pu C K rest d .mk fr H) := (rfl)
@[simp ↓] theorem eO_makeFunc {fn : Fn} {l m : List Operand} : gO P Wr ops pu C K (⟨d, .makeFunc fn l.toArray m.toArray, ty, ps, af, none⟩ :: rest) .mk fr H = pfn fn (avals (ev fr) l) (avals (ev fr) m) (kO P Wr ops pu C K rest d .mk fr H) := (rfl)
@[simp ↓] theorem eO_makeInterface : gO P Wr ops pu C K (⟨d, .makeInterface t x, ty, ps, af, none⟩ :: rest) .mk fr H = pif (tN P t) t (nrm (aev fr x)) (kO P Wr ops pu C K rest d .mk fr H) := (rfl)
@[simp ↓] theorem eO_load : gO P Wr ops pu C K (⟨d, .load t x, ty, ps, af, none⟩ :: rest) .mk fr H = eld (tK P t) (nrm (aev fr x)) H (kO P Wr ops pu C K rest d .mk fr H) := (rfl)
@[simp ↓] theorem eO_store : gO P Wr ops pu C K (⟨d, .store t x y, ty, ps, af, none⟩ :: rest) .mk fr H = est (tS P t) Wr (nrm (aev fr x)) (nrm (aev fr y)) H (kH P Wr ops pu C K rest d .mk fr) := (rfl)
@[simp ↓] theorem eO_alloc : gO P Wr ops pu C K (⟨d, .alloc t, ty, ps, af, none⟩ :: rest) .mk fr H = enew t Wr (zcells (tZ P t)) H (kV P Wr ops pu C K rest d .mk fr) := (rfl)
@[simp ↓] theorem eO_box : gO P Wr ops pu C K (⟨d, .box t x, ty, ps, af, none⟩ :: rest) .mk fr H = enew t Wr (avc (nrm (aev fr x))) H (kV P Wr ops pu C K rest d .mk fr) := (rfl)
@[simp ↓] theorem eO_buildSlice {n : Nat} {l : List (Nat × Operand)} : gO P Wr ops pu C K (⟨d, .buildSlice t n l.toArray, ty, ps, af, none⟩ :: rest) .mk fr H = ebs (tEz P t) (tE P t) n (ev fr) l (kO P Wr ops pu C K rest d .mk fr H) := (rfl)
@[simp ↓] theorem eO_len : gO P Wr ops pu C K (⟨d, .call ⟨.builtin .len, #[x], #[t]⟩, ty, ps, af, none⟩ :: rest) .mk fr H = alen (tN P t) (nrm (aev fr x)) (kO P Wr ops pu C K rest d .mk fr H) := (rfl)
@[simp ↓] theorem eO_cap : gO P Wr ops pu C K (⟨d, .call ⟨.builtin .cap, #[x], #[t]⟩, ty, ps, af, none⟩ :: rest) .mk fr H = acap (tN P t) (nrm (aev fr x)) (kO P Wr ops pu C K rest d .mk fr H) := (rfl)
@[simp ↓] theorem eO_min {l : List TypeId} : gO P Wr ops pu C K (⟨d, .call ⟨.builtin .min, #[x, y], l.toArray⟩, ty, ps, af, none⟩ :: rest) .mk fr H = pmm true (nrm (aev fr x)) (nrm (aev fr y)) (kO P Wr ops pu C K rest d .mk fr H) := (rfl)
@[simp ↓] theorem eO_max {l : List TypeId} : gO P Wr ops pu C K (⟨d, .call ⟨.builtin .max, #[x, y], l.toArray⟩, ty, ps, af, none⟩ :: rest) .mk fr H = pmm false (nrm (aev fr x)) (nrm (aev fr y)) (kO P Wr ops pu C K rest d .mk fr H) := (rfl)
@[simp ↓] theorem eO_append : gO P Wr ops pu C K (⟨d, .call ⟨.builtin .append, #[x, y], #[t, t']⟩, ty, ps, af, none⟩ :: rest) .mk fr H = eap (tE P t) (tEz P t) (tN P t') Wr (nrm (aev fr x)) (asrc H (nrm (aev fr y))) H (kV P Wr ops pu C K rest d .mk fr) := (rfl)
@[simp ↓] theorem eO_copy : gO P Wr ops pu C K (⟨d, .call ⟨.builtin .copy, #[x, y], #[t, t']⟩, ty, ps, af, none⟩ :: rest) .mk fr H = ecp (tE P t) (tN P t') Wr (nrm (aev fr x)) (asrc H (nrm (aev fr y))) H (kV P Wr ops pu C K rest d .mk fr) := (rfl)
@[simp ↓] theorem eO_makeSlice : gO P Wr ops pu C K (⟨d, .makeSlice t x y, ty, ps, af, none⟩ :: rest) .mk fr H = emk (tE P t) (tZe P (tE P t)) Wr (num (nrm (aev fr x))) (num (nrm (aev fr y))) H (kV P Wr ops pu C K rest d .mk fr) := (rfl)
@[simp ↓] theorem eO_invoke {m : String} {l : List Operand} {ts : Array TypeId} : gO P Wr ops pu C K (⟨d, .call ⟨.invoke x m, l.toArray, ts⟩, ty, ps, af, none⟩ :: rest) .mk fr H = eiv P Wr (pu d) m (nrm (aev fr x)) (l.map (ev fr)) H (kA P Wr ops pu C K rest d .mk fr) := (rfl)
@[simp ↓] theorem eO_callf {f : FuncId} {l : List Operand} {m : Array TypeId} : gO P Wr ops pu C K (⟨d, .call ⟨.value (.func f), l.toArray, m⟩, ty, ps, af, none⟩ :: rest) .mk fr H = acall P Wr (pu d) f (l.map (ev fr)) H (kA P Wr ops pu C K rest d .mk fr) := by
  show acall P Wr (pu d) f (#[].toList.map .v ++ l.map (fun x => nrm (aev fr x)) ++ #[].toList.map .v) H _ = _
  simp only [List.map_nil, List.append_nil, List.nil_append]
  rfl
@[simp ↓] theorem eO_callv {f : Nat} {l : List Operand} {m : Array TypeId} : gO P Wr ops pu C K (⟨d, .call ⟨.value (.tmp f), l.toArray, m⟩, ty, ps, af, none⟩ :: rest) .mk fr H = ecv P Wr (pu d) (nrm (fr f)) (l.map (ev fr)) H (kA P Wr ops pu C K rest d .mk fr) := (rfl)
/-- an operand under a guard -/
def eg (g : Bool) (fr : Fr) (x : Operand) : AV := str g (aev fr x)
@[simp] theorem eg_tmp {g : Bool} {i : Nat} : eg g fr (.tmp i) = str g (fr i) := (rfl)
@[simp] theorem eg_const {g : Bool} {v : Value} : eg g fr (.const v) = str g (ofVal v) := (rfl)
/-- a guarded operation -/
def tX (P : Program) (Wr : Nat → Prop) (ops : Array Oper) (pu : Option Tmp → Bool) (C : Ct) (K : Kt) (rest : List Oper) (d : Option Tmp) (_ : Tk (ops, pu, C, K, rest)) (fr : Fr) (H : Hp) (op : Op) (ty : TypeId) (ps : String) (af : Array Edge) (_ : Unit) : Prop := gO P Wr ops pu C K (⟨d, op, ty, ps, af, none⟩ :: rest) .mk fr H
def tY (P : Program) (Wr : Nat → Prop) (ops : Array Oper) (pu : Option Tmp → Bool) (C : Ct) (K : Kt) (rest : List Oper) (d : Option Tmp) (_ : Tk (ops, pu, C, K, rest)) (fr : Fr) (H : Hp) (_ : Unit) : Prop := gO P Wr ops pu C K rest .mk (fput fr d (.v undef)) H
def tW (P : Program) (Wr : Nat → Prop) (ops : Array Oper) (pu : Option Tmp → Bool) (C : Ct) (K : Kt) (rest : List Oper) (d : Option Tmp) (_ : Tk (ops, pu, C, K, rest)) (fr : Fr) (H : Hp) (op : Op) (g : Bool) (_ : Unit) : Prop := match op with
  | .load t x => eld (tK P t) (nrm (str g (aev fr x))) H (kG P Wr ops pu C K rest d .mk fr H g)
  | op => pop P (fun x => str g (aev fr x)) op (kG P Wr ops pu C K rest d .mk fr H g)
@[simp] theorem tX_app {op : Op} : tX P Wr ops pu C K rest d .mk fr H op ty ps af () = gO P Wr ops pu C K (⟨d, op, ty, ps, af, none⟩ :: rest) .mk fr H := (rfl)
@[simp] theorem tY_app : tY P Wr ops pu C K rest d .mk fr H () = gO P Wr ops pu C K rest .mk (fput fr d (.v undef)) H := (rfl)
@[simp ↓] theorem tW_load {g : Bool} : tW P Wr ops pu C K rest d .mk fr H (.load t x) g () = eld (tK P t) (nrm (str g (aev fr x))) H (kG P Wr ops pu C K rest d .mk fr H g) := (rfl)
@[simp ↓] theorem tW_move {g : Bool} : tW P Wr ops pu C K rest d .mk fr H (.move x) g () = gO P Wr ops pu C K rest .mk (fput fr d (.gd g (str g (aev fr x)))) H := (rfl)
@[simp ↓] theorem tW_assign {g : Bool} : tW P Wr ops pu C K rest d .mk fr H (.assign x) g () = gO P Wr ops pu C K rest .mk (fput fr d (.gd g (str g (aev fr x)))) H := (rfl)
@[simp ↓] theorem tW_pick {g : Bool} : tW P Wr ops pu C K rest d .mk fr H (.pick x y z) g () = ppick (nrm (str g (aev fr x))) (str g (aev fr y)) (str g (aev fr z)) (kG P Wr ops pu C K rest d .mk fr H g) := (rfl)
@[simp ↓] theorem tW_nilCheck {g : Bool} : tW P Wr ops pu C K rest d .mk fr H (.nilCheck x) g () = pnl (nrm (str g (aev fr x))) (kG P Wr ops pu C K rest d .mk fr H g) := (rfl)
@[simp ↓] theorem tW_binOp {g : Bool} {op : BinOp} : tW P Wr ops pu C K rest d .mk fr H (.binOp op t x y t') g () = pbin (tN P t) (isC x || isC y) op (nrm (str g (aev fr x))) (nrm (str g (aev fr y))) (kG P Wr ops pu C K rest d .mk fr H g) := (rfl)
@[simp ↓] theorem tW_unOp {g : Bool} {op : UnOp} : tW P Wr ops pu C K rest d .mk fr H (.unOp op t x) g () = pun op (nrm (str g (aev fr x))) (kG P Wr ops pu C K rest d .mk fr H g) := (rfl)
@[simp ↓] theorem tW_convert {g : Bool} : tW P Wr ops pu C K rest d .mk fr H (.convert t t' x) g () = pcv (tN P t) (tI P t') (nrm (str g (aev fr x))) (kG P Wr ops pu C K rest d .mk fr H g) := (rfl)
@[simp ↓] theorem tW_fieldAddr {g : Bool} {i : Nat} : tW P Wr ops pu C K rest d .mk fr H (.fieldAddr t x i) g () = pfa (tF P t i) (nrm (str g (aev fr x))) (kG P Wr ops pu C K rest d .mk fr H g) := (rfl)
@[simp ↓] theorem tW_extract {g : Bool} {i : Nat} : tW P Wr ops pu C K rest d .mk fr H (.extract x i) g () = pext i (nrm (str g (aev fr x))) (kG P Wr ops pu C K rest d .mk fr H g) := (rfl)
@[simp ↓] theorem tW_indexAddr {g : Bool} : tW P Wr ops pu C K rest d .mk fr H (.indexAddr t x y) g () = pix (tE P t) (nrm (str g (aev fr x))) (nrm (str g (aev fr y))) (kG P Wr ops pu C K rest d .mk fr H g) := (rfl)
@[simp ↓] theorem tW_builtin {g : Bool} {f : Builtin} {l : List Operand} {m : List TypeId} : tW P Wr ops pu C K rest d .mk fr H (.call ⟨.builtin f, l.toArray, m.toArray⟩) g () = pcl P (eg g fr) (.builtin f) l m (kG P Wr ops pu C K rest d .mk fr H g) := (rfl)
@[simp ↓] theorem eO_guard {op : Op} {j : Nat} {wt : Bool} : gO P Wr ops pu C K (⟨d, op, ty, ps, af, some (j, wt)⟩ :: rest) .mk fr H = egd (gv ops fr j) wt (tX P Wr ops pu C K rest d .mk fr H op ty ps af) (tY P Wr ops pu C K rest d .mk fr H) (tW P Wr ops pu C K rest d .mk fr H op) := by
  cases op <;> rfl
def kS (P : Program) (Wr : Nat → Prop) (b : Code) (K : Kt) (_ : Tk (b, K)) : Kt := fun e fr H => match e with | .normal => gC P Wr b K .mk fr H | e => K e fr H
def kB (id : Nat) (K : Kt) (_ : Tk K) : Kt := fun e fr H => match e with | .exit i => if i = id then K .normal fr H else K (.exit i) fr H | e => K e fr H
@[simp] theorem kS_n {b : Code} : kS P Wr b K .mk .normal fr H = gC P Wr b K .mk fr H := (rfl)
@[simp] theorem kS_r {b : Code} : kS P Wr b K .mk .ret fr H = K .ret fr H := (rfl)
@[simp] theorem kS_e {b : Code} {i : Nat} : kS P Wr b K .mk (.exit i) fr H = K (.exit i) fr H := (rfl)
@[simp] theorem kB_n {i : Nat} : kB i K .mk .normal fr H = K .normal fr H := (rfl)
@[simp] theorem kB_r {i : Nat} : kB i K .mk .ret fr H = K .ret fr H := (rfl)
@[simp] theorem kB_e {i j : Nat} : kB i K .mk (.exit j) fr H = if j = i then K .normal fr H else K (.exit j) fr H := (rfl)
@[simp] theorem eC_skip : gC P Wr .skip K .mk fr H = K .normal fr H := (rfl)
@[simp ↓] theorem eC_region {i : Nat} {l : List Oper} : gC P Wr (.region i l.toArray false) K .mk fr H = gO P Wr l.toArray (fun _ => false) (cT P Wr l.toArray K) K l .mk fr H := (rfl)
@[simp ↓] theorem eC_seq {a b : Code} : gC P Wr (.seq a b) K .mk fr H = gC P Wr a (kS P Wr b K .mk) .mk fr H := (rfl)
@[simp ↓] theorem eC_cond {c : Operand} {a b : Code} : gC P Wr (.cond c a b) K .mk fr H = acond (nrm (aev fr c)) (gA P Wr a K .mk fr H) (gA P Wr b K .mk fr H) := (rfl)
@[simp ↓] theorem eC_block {id : Nat} {b : Code} : gC P Wr (.block id b) K .mk fr H = gC P Wr b (kB id K .mk) .mk fr H := (rfl)
@[simp] theorem eC_exit {i : Nat} : gC P Wr (.exit i) K .mk fr H = K (.exit i) fr H := (rfl)
@[simp] theorem eC_ret : gC P Wr .ret K .mk fr H = K .ret fr H := (rfl)
@[simp] theorem eC_label {i : Nat} : gC P Wr (.label i) K .mk fr H = K .normal fr H := (rfl)
@[simp] theorem eC_loop {b : Code} : gC P Wr (.loop b) K .mk fr H = gA P Wr (.loop b) K .mk fr H := (rfl)
@[simp] theorem eC_draw {i : Nat} {l : Array Oper} : gC P Wr (.region i l true) K .mk fr H = gA P Wr (.region i l true) K .mk fr H := (rfl)
/-- the end of a function -/
def kR (Wr : Nat → Prop) (R : AV → Hp → Prop) (H : Hp) : Option AV → Prop
  | some a => Fin Wr R a H
  | none => False
@[simp] theorem kF_n {rs : List ResultVar} {R : AV → Hp → Prop} : kF P Wr rs R .normal fr H = kR Wr R H (ares1 (P := P) fr H rs) := by simp only [kF, retK, kR]; cases ares1 (P := P) fr H rs <;> rfl
@[simp] theorem kF_r {rs : List ResultVar} {R : AV → Hp → Prop} : kF P Wr rs R .ret fr H = kR Wr R H (ares1 (P := P) fr H rs) := by simp only [kF, retK, kR]; cases ares1 (P := P) fr H rs <;> rfl
attribute [simp] kR
theorem enew.of {m : List AV} (h : ∀ b, H b = none → Wr b → (∀ i O, H i = some O → i ≠ b ∧ b ≠ i) → kh (.v (.pointer (some ⟨b, 0, none⟩))) (hset H b (.cells t m))) : enew t Wr (some m) H kh := fun b hb hw => h b hb hw fun i O e => ⟨fun q => (by rw [q, hb] at e; cases e), fun q => (by rw [← q, hb] at e; cases e)⟩
attribute [simp] ares ares1
theorem eapS.imm {te sz by_ : Nat} {l m : List (List AV)} (hl : ∀ r ∈ l, r.length = sz) (h1 : (l.length + m.length) * by_ ≤ 140737488355328) (h2 : l.length + m.length ≤ 9223372036854775807) (h : kh (.sl false (l ++ m)) H) : eapS te sz by_ Wr l m H kh := ⟨⟨hl, h1, h2⟩, .inl h⟩
theorem eapS.own {te sz by_ : Nat} {l m : List (List AV)} (hl : ∀ r ∈ l, r.length = sz) (h1 : (l.length + m.length) * by_ ≤ 140737488355328) (h2 : l.length + m.length ≤ 9223372036854775807) (h : m = [] → kh (.sl true l) H) (k : m ≠ [] → egrow te sz Wr (l.length + m.length) (l.flatten ++ m.flatten) H kh) : eapS te sz by_ Wr l m H kh := ⟨⟨hl, h1, h2⟩, .inr ⟨h, k⟩⟩
theorem AC.of {f : FuncId} {fn : Func} {c : Code} {as : List AV} {H : Hp} {W : List Nat} {R : Rs} (hf : P.funcs[f]? = some fn) (hb : fn.body = some c) (hn : (fn.name == "runtime.NumGoroutine") = false)
    (hbd : (Code.bd fn.ntmps c && fn.results.toList.all (fun r => decide (ResultVar.tm r < fn.ntmps)) && decide (as.length ≤ fn.ntmps)) = true)
    (h : ∀ Wr : Nat → Prop, (∀ m ∈ W, Wr m) → gC P Wr c (kF P Wr fn.results.toList (R Wr)) .mk (fargs as) H) : AC P f as H W R := AC.of0 hf hb hn hbd h
theorem aC.ev {c : Code} {K : Kt} {fr : Fr} {H : Hp} (h : gC P Wr c K .mk fr H) : gA P Wr c K .mk fr H := eC_sound c K fr H h
theorem aO.ev {ops : Array Oper} {K : Kt} {l : List Oper} {fr : Fr} {H : Hp} (h : gO P Wr ops (fun _ => false) (cT P Wr ops K) K l .mk fr H) : gQ P Wr ops K l .mk fr H := eO_sound l fr H h
/-- some of the operations, in this order -/
def sel (l : List Oper) : List Nat → List Oper
  | [] => []
  | i :: p => l.getD i default :: sel l p
end
end Go.Proofs.YtiallkiiofomgaaGreat
