/- Part 1. -/
import Derived.Below
import Derived.Calls
import Derived.RowKit
import Derived.KernelRfl
import Derived.Laws.OwnMore
import Derived.Deep.AppendLies
import Derived.Deep.Draws
import Derived.WalkSmall
import Derived.OwnWalk
import Derived.Lib.Bytealg
import Derived.WalkKit
import Derived.WalkLawsBesides
import Derived.WalkSpells
import Derived.Test.YtepgcjbhabnciaaGreatChecked
import Derived.Lib.Hide
import Derived.Outline
import Derived.Deep.QuietTactic
import Derived.Tactics
import Derived.Laws.MakeOwn
import Derived.Laws.Entries
import Derived.LaidEqlPtr
import Derived.ChangeSame
import Derived.BigQuiet
import Derived.LoopTactic
import Derived.Lib.MinMax
import Derived.Deep.RegionHeld3
import Derived.Deep.LoopGhost
namespace Go.Proofs.YtepgcjbhabnciaaGreat
set_option maxRecDepth 100000
set_option maxHeartbeats 8000000
open Go.RowKit Go.Proofs.Tryz
open Go.Lib (compareBytes)
open Go.RowKit Go.WideShapes Go.ChangeShapes
variable {o n m k i c b:Nat} {xs ys bs a:List UInt8} {B A:Option Addr} {F G:Nat->Prop} {p:Nat->Bool} {P:Program} {w:World} {α:Type _} {x:Int} {u:Value}
theorem aa {p : Prop} (h : p) : Hid p := h
theorem letter {f : FuncId} {args : Array Value} {Q : Ending -> World -> Prop} (h : ∀ R, Hid (R = Q) -> Calls P f args w R) : Calls P f args w Q := h Q rfl
instance Za : Coe Nat Value := ⟨fun q => .pointer (some ⟨q,0,none⟩)⟩
instance Zi : Coe Int Value := ⟨fun q => .int .i64 q⟩
instance Zm : Coe Bool Value := ⟨fun q => .bool q⟩
instance Zp : Coe Unit Value := ⟨fun _ => .slice none 0 0⟩
instance caN : Coe Nat Addr := ⟨fun q => ⟨q,0,none⟩⟩
instance cwN : CoeOut World Nat := ⟨fun w => w.heap.size⟩
theorem mh {B : Nat} : Below B w w := Below.refl _ _
theorem gV {o : Obj} : Below w.heap.size w (w.alloc o) := (Below.refl _ _).alloc (Nat.le_refl _) _
theorem jO : n <= n := Nat.le_refl n
theorem ma (a : n <= m) (b : m <= k) : n <= k := Nat.le_trans a b
theorem mU (a : n < m) (b : m <= k) : n < k := Nat.lt_of_lt_of_le a b
theorem zLe (a : n <= m) (b : m < k) : n < k := Nat.lt_of_le_of_lt a b
theorem gF {α : Sort _} (a : α) : ∃ x, x = a := ⟨_, rfl⟩
theorem mP {l : List α} (h : i < l.length) : l[i]? = some l[i] := List.getElem?_eq_getElem h
theorem nE {a : α} {l : List α} : l[i]? = some a ↔ ∃ h : i < l.length, l[i] = a := List.getElem?_eq_some_iff
theorem qK {l m : List α} (h : i < l.length) : (l ++ m)[i]? = l[i]? := List.getElem?_append_left h
theorem q9 {l m : List α} (h : l.length <= i) : (l ++ m)[i]? = m[i - l.length]? := List.getElem?_append_right h
theorem mq {l m : List α} : (l ++ m).length = l.length + m.length := List.length_append
theorem nT {l : List α} {a : α} (h : l[i]? = some a) : a ∈ l := List.mem_of_getElem? h
theorem mi [BEq α] [LawfulBEq α] {a b : α} : (a == b) = false ↔ a ≠ b := beq_eq_false_iff_ne
section
structure ag (S:Nat->Prop) (w w':World):Prop where
 os:w'.os=w.os
 tape:w'.tape=w.tape
 output:w'.output=w.output
 size:w.heap.size<=w'
 block:∀k,k<w.heap.size->¬S k->w'.heap[k]? =w.heap[k]?
def Nil:Nat->Prop:=fun _=>False
def From (b:Nat):Nat->Prop:=fun k=>b<=k
def jX (b:Nat):Nat->Prop:=fun k=>k=b
section
variable {S T F G:Nat->Prop} {a w w' w1:World}
theorem ag.refl (S:Nat->Prop) (w:World):ag S w w:=⟨rfl,rfl,rfl,jO,fun _ _ _=>rfl⟩
theorem ag.trans (h:ag S a w) (k:ag T w w') (d:∀b,b<a.heap.size->T b->S b):ag S a w':=
 ⟨k.os.trans h.os,k.tape.trans h.tape,k.output.trans h.output,ma h.size k.size,fun i hi c=>
  (k.block i (mU hi h.size) (fun e=>c (d i hi e))).trans (h.block i hi c)⟩
theorem ag.mono (h:ag S w w') (a:∀b,b<w.heap.size->S b->T b):ag T w w':=
 ⟨h.os,h.tape,h.output,h.size,fun i hi c=>h.block i hi (fun d=>c (a i hi d))⟩
theorem ag.below (h:ag Nil w w'):Below w w w':=⟨h.os,h.tape,h.output,h.size,fun k b=>h.block k b (fun a=>a)⟩
theorem ag.of_below (h:Below w w w'):ag S w w':=⟨h.os,h.tape,h.output,h.size,fun k a _=>h.block k a⟩
theorem ag.below_of {B:Nat} (h:ag S w w') (c:B<=w) (d:∀b,b<B->¬S b):Below B w w':=
 ⟨h.os,h.tape,h.output,h.size,fun k a=>h.block k (mU a c) (d k a)⟩
theorem ag.of_below_ {B:Nat} (h:Below B w w') (c:∀b,b<w.heap.size->B<=b->S b):ag S w w':=
 ⟨h.os,h.tape,h.output,h.size,fun k d e=>h.block k (by rcases Nat.lt_or_ge k B with a|a;exact a;exact absurd (c k d a) e)⟩
theorem ag.then (h:ag S a w) (k:Below w w w'):ag S a w':=h.trans (ag.of_below (S:=Nil) k) (fun _ _ b=>b.elim)
theorem ag.drew (h:ag S a w):ag S a w.drew:=⟨h.os,h.tape,h.output,h.size,h.block⟩
theorem ag.drewN (h:ag S a w) (n:Nat):ag S a (w.drewN n):=⟨h.os,h.tape,h.output,h.size,h.block⟩
theorem ag.setCell (h:ag S a w) {p:Addr} (f:p.block<a->S p.block) (u:Value):ag S a (w.setCell p u):=
 h.trans (T:=jX p.block) ⟨rfl,rfl,rfl,by simp [World.setCell],fun k _ d=>Below.heap_setCell _ _ _ _ (fun e=>d e)⟩ (fun b c e=>by have e:b=p.block:=e;subst e;exact f c)
theorem ag.set1 (w:World) (b o:Nat) (u:Value):ag (jX b) w (w.setCell ⟨b,o,none⟩ u):=(ag.refl (jX b) w).setCell (p:=⟨b,o,none⟩) (fun _=>rfl) u
theorem ag.grown {row:Option Nat} (h:ag S a w) (c:w.grownBy w' row) (g:∀k,row=some k->k<a->S k):ag S a w':=
 h.trans (T:=fun k=>row=some k) ⟨c.os,c.tape,c.output,c.size,fun k f i=>c.block k f (fun e=>i e.symm)⟩ (fun b d e=>g b e d)
theorem eU {o:Nat} {b:Nat} {v:Value} (h:w.cell? ⟨b,o,none⟩=some v):b<w:=by
 by_cases a:b<w
 ·exact a
 ·simp [World.cell?,Array.getElem?_eq_none (show w<=b by omega)] at h
theorem ag.cell (h:ag S w w') {b o:Nat} {v:Value} (c:¬S b) (hv:w.cell? ⟨b,o,none⟩=some v):w'.cell? ⟨b,o,none⟩=some v:=
 (World.cell?_of_block (w:=w) (a:=⟨b,o,none⟩) (h.block b (eU hv) c)).trans hv
theorem iL {B:Nat} (a:Below B w w1) {b o:Nat} (h:b<B) {v:Value} (hv:w.cell? ⟨b,o,none⟩=some v):w1.cell? ⟨b,o,none⟩=some v:=
 (a.cell (p:=⟨b,o,none⟩) h).trans hv
theorem aj (a:Below w w w1) {b o:Nat} {v:Value} (hv:w.cell? ⟨b,o,none⟩=some v):w1.cell? ⟨b,o,none⟩=some v:=
 iL a (eU hv) hv
end
def ak (w:World) (g:Nat) (t:TypeId) (cs:Array Value):Prop:=w.heap[g]? =some (.cells cs t (0,0))
section
variable {S:Nat->Prop} {w w':World} {g:Nat} {t:TypeId} {cs:Array Value}
theorem ak.lt (h:ak w g t cs):g<w:=by
 rcases Nat.lt_or_ge g w with b|a
 ·exact b
 ·unfold ak at h;rw [Array.getElem?_eq_none a] at h;cases h
theorem ak.cell (h:ak w g t cs) (i:Nat):w.cell? ⟨g,i,none⟩=cs[i]? :=cell_of_row w g i cs t (0,0) h
theorem ak.frozen (h:ak w g t cs) (i:Nat):w.frozen? ⟨g,i,none⟩=false:=by
 unfold ak at h;simp [World.frozen?,h]
theorem ak.new (w:World) (t:TypeId) (cs:Array Value):ak (w.alloc (.cells cs t)) w t cs:=heap_alloc_new w _
theorem ak.drew (h:ak w g t cs):ak w.drew g t cs:=h
theorem ak.drewN (h:ak w g t cs) (n:Nat):ak (w.drewN n) g t cs:=h
theorem ak.alloc (h:ak w g t cs) (o:Obj):ak (w.alloc o) g t cs:=(Below.heap_alloc w o g h.lt).trans h
theorem ak.set_ (h:ak w g t cs) (i:Nat) (u:Value):ak (w.setCell ⟨g,i,none⟩ u) g t (cs.setIfInBounds i u):=by
 unfold ak at h|-;simp [World.setCell,Array.getElem?_modify,h]
theorem ak.far (h:ak w g t cs) {p:Addr} (a:g≠p.block) (u:Value):ak (w.setCell p u) g t cs:=(Below.heap_setCell w p u g a).trans h
theorem ak.below (h:ak w g t cs) (o:Below w w w'):ak w' g t cs:=(o.block g h.lt).trans h
theorem ak.chg (h:ak w g t cs) (a:ag S w w') (b:¬S g):ak w' g t cs:=(a.block g h.lt b).trans h
end
def Rd (w:World) (F:Nat->Prop) (size:Nat) (A:Option Addr) (n:Nat) (xs:List Value):Prop:=
 xs.length=n*size/\(0<n->∃b o,A=some ⟨b,o,none⟩/\F b/\∀j u,xs[j]? =some u->w.cell? ⟨b,o+j,none⟩=some u)
section
variable {S F G:Nat->Prop} {w w':World} {size n:Nat} {A:Option Addr} {xs:List Value}
theorem Rd.none_ (w:World) (F:Nat->Prop) (size:Nat) (A:Option Addr):Rd w F size A 0 []:=⟨by simp,fun h=>absurd h (by omega)⟩
theorem Rd.empty (h:Rd w F size A 0 xs):xs= []:=List.eq_nil_of_length_eq_zero (by simpa using h.1)
theorem Rd.at_ {k:Nat} (h:Rd w F 1 A n xs) (c:k<n):∃b o u,A=some ⟨b,o,none⟩/\F b/\xs[k]? =some u/\w.cell? ⟨b,o+k,none⟩=some u:=by
 obtain⟨b,o,e,a,hc⟩:=h.2 (by omega);have hl:k<xs.length:=by have:=h.1;omega
 exact⟨b,o,xs[k],e,a,mP hl,hc k _ (mP hl)⟩
theorem Rd.at2 {k:Nat} (h:Rd w F 2 A n xs) (c:k<n):∃b o u v,A=some ⟨b,o,none⟩/\F b/\xs[2*k]? =some u/\xs[2*k+1]? =some v/\w.cell? ⟨b,o+2*k,none⟩=some u/\w.cell? ⟨b,o+(2*k+1),none⟩=some v:=by
 obtain⟨b,o,e,a,hc⟩:=h.2 (by omega);have hl:2*k+1<xs.length:=by have:=h.1;omega
 exact⟨b,o,xs[2*k],xs[2*k+1],e,a,mP (by omega),mP hl,hc _ _ (mP (by omega)),hc _ _ (mP hl)⟩
theorem Rd.weak (h:Rd w F size A n xs) (K:∀b,F b->G b):Rd w G size A n xs:=
 ⟨h.1,fun hn=>let⟨b,o,e,a,hc⟩:=h.2 hn;⟨b,o,e,K b a,hc⟩⟩
theorem Rd.chg (h:Rd w F size A n xs) (hc:ag S w w') (Q:∀b,F b->¬S b):Rd w' F size A n xs:=
 ⟨h.1,fun hn=>let⟨b,o,e,a,d⟩:=h.2 hn;⟨b,o,e,a,fun j u c=>hc.cell (Q b a) (d j u c)⟩⟩
theorem Rd.below (h:Rd w F size A n xs) (hc:Below w w w'):Rd w' F size A n xs:=h.chg (ag.of_below (S:=Nil) hc) (fun _ _ a=>a)
theorem Rd.drew (h:Rd w F size A n xs):Rd w.drew F size A n xs:=h
theorem Rd.drewN (h:Rd w F size A n xs) (k:Nat):Rd (w.drewN k) F size A n xs:=h
theorem Rd.alloc (h:Rd w F size A n xs) (o:Obj):Rd (w.alloc o) F size A n xs:=h.below gV
theorem Rd.lt (h:Rd w F size A n xs) (S:0<size):Rd w (fun b=>F b/\b<w) size A n xs:=
 ⟨h.1,fun hn=>by
  obtain⟨b,o,e,d,a⟩:=h.2 hn;have c:0<xs.length:=by rw [h.1];exact Nat.mul_pos hn S
  exact⟨b,o,e,⟨d,eU (a 0 _ (mP c))⟩,a⟩⟩
theorem Rd.cut (h:Rd w F size A n xs) {k cap:Nat} (e:k<=n) (hc:n<=cap):
  Rd w F size (if cap=k then A else A.map (·.add (k*size))) (n-k) (xs.drop (k*size)):=by
 refine⟨by rw [List.length_drop,h.1,Nat.sub_mul],fun hn=> ?_⟩;obtain⟨b,o,rfl,c,a⟩:=h.2 (by omega);rw [if_neg (by omega)]
 refine⟨b,o+k*size,?_,c,fun j u d=> ?_⟩
 ·simp only [Option.map_some,Addr.add]
  split
  ·simp_all
  ·rfl
 ·rw [Nat.add_assoc];exact a _ u (by rw [<-d,List.getElem?_drop])
theorem Rd.take (h:Rd w F size A n xs) {k:Nat} (e:k<=n):Rd w F size A k (xs.take (k*size)):=by
 refine⟨by rw [List.length_take,h.1];exact Nat.min_eq_left (Nat.mul_le_mul_right _ e),fun hn=> ?_⟩;obtain⟨b,o,rfl,d,a⟩:=h.2 (by omega)
 exact⟨b,o,rfl,d,fun j u c=>a j u (by
  rw [List.getElem?_take] at c
  split at c
  ·exact c
  ·cases c)⟩
theorem jr (b o k:Nat):(Addr.mk b o none).add k=⟨b,o+k,none⟩:=by
 unfold Addr.add;split
 ·simp_all
 ·rfl
theorem Rd.of_own {base:Nat} {e:TypeId} {c:Nat} (h:w.ownsRow base e size (.slice A n c) n xs):Rd w (From base) size A n xs:=by
 refine⟨h.1,fun hn=> ?_⟩;obtain⟨g,cap,hv,a,b⟩:=h.form hn;have hA:A=some ⟨g,0,none⟩:=by injection hv
 subst hA;exact⟨g,0,rfl,a,fun j u d=>by have:=h.cells (g:=g) rfl j u d;rw [jr] at this;exact this⟩
end
def bv (c:UInt8):Value:= .int .u8 c.toNat
def aI (bs:List UInt8):List Value:=bs.map bv
theorem dO (bs:List UInt8):(aI bs).length=bs.length:=by simp [aI]
theorem bJ (bs:List UInt8):∀u∈aI bs,u.oneCell'=true:=by
 intro u a;simp only [aI,List.mem_map] at a;obtain⟨c,_,rfl⟩:=a;rfl
theorem eO {bs:List UInt8} {k:Nat} {u:Value} (h:(aI bs)[k]? =some u):∃c,bs[k]? =some c/\u=bv c:=by
 simp only [aI,List.getElem?_map,Option.map_eq_some_iff] at h;obtain⟨c,a,b⟩:=h;exact⟨c,a,b.symm⟩
theorem GU (bs:List UInt8) (k:Nat):(aI bs).take k=aI (bs.take k):=by simp [aI,List.map_take]
theorem zg (bs:List UInt8) (k:Nat):(aI bs).drop k=aI (bs.drop k):=by simp [aI,List.map_drop]
theorem Rd.take1 {w:World} {F:Nat->Prop} {A:Option Addr} {n k:Nat} {bs:List UInt8} (h:Rd w F 1 A n (aI bs)) (a:k<=n):Rd w F 1 A k (aI (bs.take k)):=by
 have:=h.take a;rwa [Nat.mul_one,GU] at this
theorem take_len {α:Type} {l:List α} {k:Nat} (h:k<=l.length):k=(l.take k).length:=by simp;omega
def SB (w:World) (F:Nat->Prop) (v:Value) (bs:List UInt8):Prop:=∃A n c,v= .slice A n c/\n<=c/\c<=maxLen/\n=bs.length/\Rd w F 1 A n (aI bs)
section
variable {S F G:Nat->Prop} {w w':World} {v:Value} {bs:List UInt8}
theorem SB.nil (w:World) (F:Nat->Prop):SB w F () []:=⟨none,0,0,rfl,jO,by simp [maxLen],rfl,Rd.none_ _ _ _ _⟩
theorem SB.weak (h:SB w F v bs) (K:∀b,F b->G b):SB w G v bs:=let⟨A,n,c,a,d,e,f,g⟩:=h;⟨A,n,c,a,d,e,f,g.weak K⟩
theorem SB.chg (h:SB w F v bs) (hc:ag S w w') (Q:∀b,F b->¬S b):SB w' F v bs:=let⟨A,n,c,a,d,e,f,g⟩:=h;⟨A,n,c,a,d,e,f,g.chg hc Q⟩
theorem SB.below (h:SB w F v bs) (hc:Below w w w'):SB w' F v bs:=let⟨A,n,c,a,b,d,e,f⟩:=h;⟨A,n,c,a,b,d,e,f.below hc⟩
end
theorem SB.lt {w:World} {F:Nat->Prop} {v:Value} {bs:List UInt8} (h:SB w F v bs):SB w (fun b=>F b/\b<w) v bs:=
 let⟨A,n,c,a,d,e,f,g⟩:=h;⟨A,n,c,a,d,e,f,g.lt Nat.zero_lt_one⟩
theorem Rd.and {w:World} {F G:Nat->Prop} {size n:Nat} {A:Option Addr} {xs:List Value} (h:Rd w F size A n xs) (S:0<size) (c:∀b,b<w.heap.size->F b->G b):Rd w G size A n xs:=(h.lt S).weak (fun b a=>c b a.2 a.1)
theorem Rd.one (w:World) (u:Value) (t:TypeId):Rd (w.alloc (.cells #[u] t)) (From w) 1 (some ⟨w,0,none⟩) 1 [u]:=
 ⟨rfl,fun _=>⟨w,0,rfl,jO,fun j x a=>by
  rw [(ak.new w t #[u]).cell]
  match j,a with
  |0,a=>simpa using a⟩⟩
def fe (w:World) (b:Nat):Prop:=∀o,w.frozen? ⟨b,o,none⟩=false
def fG (F:Nat->Prop) (w:World):Nat->Prop:=fun b=>F b/\fe w b
section
variable {S F G:Nat->Prop} {w w':World}
theorem fe.chg {b:Nat} (h:fe w b) (hc:ag S w w') (c:b<w) (d:¬S b):fe w' b:=
 fun o=>(World.frozen?_of_block (w:=w) (a:=⟨b,o,none⟩) (hc.block b c d)).trans (h o)
theorem ak.soft {g:Nat} {t:TypeId} {cs:Array Value} (h:ak w g t cs):fe w g:=h.frozen
theorem Rd.soft_of_own {base:Nat} {e:TypeId} {size n c:Nat} {A:Option Addr} {xs:List Value} (h:w.ownsRow base e size (.slice A n c) n xs):Rd w (fG (From base) w) size A n xs:=by
 refine⟨h.1,fun hn=> ?_⟩;obtain⟨g,cap,hv,b,k⟩:=h.form hn;have hA:A=some ⟨g,0,none⟩:=by injection hv
 subst hA;refine⟨g,0,rfl,⟨b,?_⟩,fun j u l=>by have:=h.cells (g:=g) rfl j u l;rw [jr] at this;exact this⟩
 rcases h.2 with⟨e,_⟩|⟨o,d,cur,e,_,i,_⟩
 ·cases e
 ·injection e with a f m
  injection a with a
  injection a with a f
  subst a;exact(show ak w g _ cur from i).frozen
theorem Rd.soft_chg {size n:Nat} {A:Option Addr} {xs:List Value} (h:Rd w (fG F w) size A n xs) (hsz:0<size) (hc:ag S w w') (Q:∀b,F b->¬S b):Rd w' (fG F w') size A n xs:=
 ((h.lt hsz).chg hc (fun b a=>Q b a.1.1)).weak (fun b a=>⟨a.1.1,a.1.2.chg hc a.2 (Q b a.1.1)⟩)
theorem SB.soft_chg {v:Value} {bs:List UInt8} (h:SB w (fG F w) v bs) (hc:ag S w w') (Q:∀b,F b->¬S b):SB w' (fG F w') v bs:=
 let⟨A,n,c,a,d,e,f,g⟩:=h;⟨A,n,c,a,d,e,f,g.soft_chg Nat.zero_lt_one hc Q⟩
theorem fG.weak (K:∀b,F b->G b):∀b,fG F w b->fG G w b:=fun b a=>⟨K b a.1,a.2⟩
end
end
theorem run_loadBytes {P:Program} (w:World) (b:Nat):∀(bs:List UInt8) (o:Nat) (a:ByteArray),(∀j u,(aI bs)[j]? =some u->w.cell? ⟨b,o+j,none⟩=some u)->
  (Extern.Bytes.loadBytes ⟨b,o,none⟩ bs.length a).run P w= .ok ⟨a.data++bs.toArray⟩ w
 | [],o,a,_=>by
  obtain⟨d⟩:=a
  simp [Extern.Bytes.loadBytes]
 |c::bs,o,a,h=>by
  have g:w.cell? ⟨b,o,none⟩=some (.int .u8 c.toNat):=by simpa [aI,bv] using h 0 (bv c) (by simp [aI])
  have k:=run_loadBytes (P:=P) w b bs (o+1) (a.push c) (fun j u i=>by
   have:=h (j+1) u (by simpa [aI] using i);rw [Nat.add_assoc,Nat.add_comm 1 j];exact this)
  simp only [List.length_cons,Extern.Bytes.loadBytes,Sem.run_bind];simp only [run_load,g,Result.andThen];have e:(Addr.mk b o none).add 1=⟨b,o+1,none⟩:=by simp [Addr.add]
  have f:((c.toNat:Int)).toNat.toUInt8=c:=by simp
  rw [e,f,k];congr 1;obtain⟨d⟩:=a;simp [ByteArray.push]
theorem wT (h:Rd w F 1 A n (aI bs)) (hn:n=bs.length):
  (Extern.Bytes.bytesOf (.slice A n c)).run P w= .ok ⟨bs.toArray⟩ w:=by
 cases A with
 |none=>
  have a:n=0:=by
   rcases Nat.eq_zero_or_pos n with a|a
   ·exact a
   ·obtain⟨_,_,e,_⟩:=h.2 a;cases e
  subst a;have:bs= []:=List.eq_nil_of_length_eq_zero hn.symm;subst this;simp [Extern.Bytes.bytesOf]
  rfl
 |some d=>
  rcases Nat.eq_zero_or_pos n with a|a
  ·subst a;have:bs= []:=List.eq_nil_of_length_eq_zero hn.symm;subst this;simp [Extern.Bytes.bytesOf,Extern.Bytes.loadBytes]
   rfl
  ·obtain⟨b,o,e,_,hc⟩:=h.2 a;injection e with e;subst e;subst hn;simp only [Extern.Bytes.bytesOf];rw [run_loadBytes w b bs o .empty hc]
   have e:ByteArray.empty.data++bs.toArray=bs.toArray:=by
    show #[]++bs.toArray=bs.toArray;simp
   rw [e]
theorem tK {d:Nat} (h:Rd w F 1 A n (aI xs)) (hn:n=xs.length) (k:Rd w G 1 B m (aI ys)) (b:m=ys.length):
  (Extern.BytealgCompare.compare #[.slice A n c,.slice B m d]).run P w= .ok (.int .i64 (Lib.compareBytes xs ys)) w:=by
 change Sem.run P (do pure (goInt (Extern.BytealgCompare.cmp (<-Extern.Bytes.bytesOf (.slice A n c)) (<-Extern.Bytes.bytesOf (.slice B m d))))) w=_
 simp only [Sem.run_bind,Sem.run_pure,wT h hn,wT k b,Result.andThen];rw [Lib.cmp_eq];rfl
theorem lV (h:w.cell? ⟨b,o,none⟩=some (.int .u64 x)):
  Calls prog 121 #[.pointer (some ⟨b,o,none⟩)] w fun e w'=>e= .returned (.int .u64 x)/\w=w':=by
 have hl:=run_call_load (P:=prog) func156 (by kernel_rfl) (by kernel_rfl) (by kernel_rfl) .u64 (by kernel_rfl) h;go_enter func121,ntmps121;go_wp2;go_ret
 exact⟨rfl,rfl⟩
theorem Fy (h:w.cell? ⟨b,o,none⟩=some (.int .i64 x)):
  Calls prog 86 #[.pointer (some ⟨b,o,none⟩)] w fun e w'=>e= .returned x/\w=w':=by
 have hl:=run_call_load (P:=prog) func130 (by kernel_rfl) (by kernel_rfl) (by kernel_rfl) .i64 (by kernel_rfl) h;go_enter func86,ntmps86;go_wp2;go_ret
 exact⟨rfl,rfl⟩
theorem Di (y:Int) (h:w.cell? ⟨b,o,none⟩=some u) (a:w.frozen? ⟨b,o,none⟩=false):
  Calls prog 197 #[.pointer (some ⟨b,o,none⟩),.int .u64 y] w fun e w'=>e= .returned (.tuple #[])/\w.setCell ⟨b,o,none⟩ (.int .u64 y)=w':=by
 have hl:=run_call_store (P:=prog) func208 (by kernel_rfl) (by kernel_rfl) (by kernel_rfl) (by kernel_rfl) (k:= .u64) (y:=y) h a;go_enter func197,ntmps197;go_wp2;go_end0
 exact⟨rfl,rfl⟩
theorem Dj (y:Int) (h:w.cell? ⟨b,o,none⟩=some u) (a:w.frozen? ⟨b,o,none⟩=false):
  Calls prog 142 #[.pointer (some ⟨b,o,none⟩),y] w fun e w'=>e= .returned (.tuple #[])/\w.setCell ⟨b,o,none⟩ y=w':=by
 have hl:=run_call_store (P:=prog) func176 (by kernel_rfl) (by kernel_rfl) (by kernel_rfl) (by kernel_rfl) (k:= .i64) (y:=y) h a;go_enter func142,ntmps142;go_wp2;go_end0
 exact⟨rfl,rfl⟩
theorem I6 (y:Int) (h:w.cell? ⟨b,o,none⟩=some (.int .u64 x)) (c:w.frozen? ⟨b,o,none⟩=false):
  Calls prog 199 #[.pointer (some ⟨b,o,none⟩),.int .u64 y] w fun e w'=>e= .returned (.int .u64 (IntKind.u64.wrap (x+y)))/\w.setCell ⟨b,o,none⟩ (.int .u64 (IntKind.u64.wrap (x+y)))=w':=by
 obtain⟨s,a⟩:=gF (IntKind.u64.wrap (x+y));rw [<-a];have hl:=run_call_add (P:=prog) func209 (by kernel_rfl) (by kernel_rfl) (by kernel_rfl) .u64 (by kernel_rfl) (x:=x) (y:=y) (s:=s) h c (by rw [a];rfl);clear a;go_enter func199,ntmps199;go_wp2;go_ret
 exact⟨rfl,rfl⟩
theorem I5 (z:Int) (h:w.cell? ⟨b,o,none⟩=some (.int .u64 x)) (a:w.frozen? ⟨b,o,none⟩=false):
  Calls prog 196 #[.pointer (some ⟨b,o,none⟩),.int .u64 x,.int .u64 z] w fun e w'=>e= .returned true/\w.setCell ⟨b,o,none⟩ (.int .u64 z)=w':=by
 have hl:=run_call_cas_hit (P:=prog) func207 (by kernel_rfl) (by kernel_rfl) (by kernel_rfl) .u64 (by kernel_rfl) (y:=z) h a;go_enter func196,ntmps196;go_wp2;go_ret
 exact⟨rfl,rfl⟩
theorem I7 (z:Int) (h:w.cell? ⟨b,o,none⟩=some (.int .i64 x)) (a:w.frozen? ⟨b,o,none⟩=false):
  Calls prog 147 #[.pointer (some ⟨b,o,none⟩),x,z] w fun e w'=>e= .returned true/\w.setCell ⟨b,o,none⟩ z=w':=by
 have hl:=run_call_cas_hit (P:=prog) func183 (by kernel_rfl) (by kernel_rfl) (by kernel_rfl) .i64 (by kernel_rfl) (y:=z) h a;go_enter func147,ntmps147;go_wp2;go_ret
 exact⟨rfl,rfl⟩
theorem eu (c d:Nat) (h:Rd w F 1 A n (aI xs)) (hn:n=xs.length) (k:Rd w G 1 B m (aI ys)) (b:m=ys.length):
  Calls prog 56 #[.slice A n c,.slice B m d] w fun e w'=>e= .returned (.int .i64 (Lib.compareBytes xs ys))/\w=w':=by
 have hl:(callFunc 99 #[.slice A n c,.slice B m d]).run prog w= .ok (.value (.int .i64 (Lib.compareBytes xs ys))) w:=by
  rw [run_callFunc_extern func99 (by kernel_rfl) (by kernel_rfl) (by kernel_rfl) (e:=Extern.BytealgCompare.compare) (by kernel_rfl),tK h hn k b];rfl
 clear h k hn b;go_enter func56,ntmps56;go_wp2;go_ret
 exact⟨rfl,rfl⟩
abbrev aR:=List UInt8×List UInt8
def pz (k:List UInt8):Int:=if 1<=k.length/\k.length<=64 then 0 else 3
def xJ (v:List UInt8):Int:=if v.length<=256 then 0 else 3
def jf (e:aR):Int:=if 1<=e.1.length/\e.1.length<=64/\e.2.length<=256 then 0 else 3
theorem zw (k:List UInt8):pz k=0\/pz k=3:=by unfold pz;split<;>simp
theorem zy (k:List UInt8):xJ k=0\/xJ k=3:=by unfold xJ;split<;>simp
theorem nY (e:aR):jf e=0\/jf e=3:=by unfold jf;split<;>simp
theorem zz (e:aR):max (pz e.1) (xJ e.2)=jf e:=by
 unfold pz xJ jf
 by_cases a:1<=e.1.length/\e.1.length<=64<;>by_cases b:e.2.length<=256
 ·rw [if_pos a,if_pos b,if_pos ⟨a.1,a.2,b⟩];rfl
 ·rw [if_pos a,if_neg b,if_neg (fun h=>b h.2.2)];rfl
 ·rw [if_neg a,if_pos b,if_neg (fun h=>a ⟨h.1,h.2.1⟩)];rfl
 ·rw [if_neg a,if_neg b,if_neg (fun h=>b h.2.2)];rfl
theorem SE {e:aR} (h:pz e.1≠0):jf e=pz e.1:=by
 have:=zz e
 rcases zw e.1 with a|a
 ·exact absurd a h
 ·rcases zy e.2 with hv|hv<;>rw [a,hv] at this<;>rw [a,<-this]<;>rfl
theorem SF {e:aR} (h:pz e.1=0):jf e=xJ e.2:=by
 have:=zz e;rw [h] at this;rcases zy e.2 with hv|hv<;>rw [hv] at this<;>rw [hv,<-this]<;>rfl
def comm:List UInt8->List UInt8->Nat
 |x::xs,y::ys=>if x=y then comm xs ys+1 else 0
 |_,_=>0
theorem jG:∀(a b:List UInt8),comm a b<=a.length/\comm a b<=b.length
 | [],_=>by simp [comm]
 |_::_,[]=>by simp [comm]
 |x::xs,y::ys=>by
  have:=jG xs ys;unfold comm;split<;>simp<;>omega
theorem wI:∀(a b:List UInt8) (k:Nat),k<comm a b->a[k]? =b[k]?
 | [],_,k,h=>by simp [comm] at h
 |_::_,[],k,h=>by simp [comm] at h
 |x::xs,y::ys,k,h=>by
  unfold comm at h
  split at h
  ·rename_i e;subst e
   cases k with
   |zero=>rfl
   |succ k=>simpa using wI xs ys k (by omega)
  ·omega
theorem oK:∀(a b:List UInt8),comm a b<a.length->comm a b<b.length->a[comm a b]?≠b[comm a b]?
 | [],_,h,_=>by simp [comm] at h
 |_::_,[],_,h=>by simp [comm] at h
 |x::xs,y::ys,c,d=>by
  unfold comm at c d|-
  by_cases e:x=y
  ·simp only [e,if_true,List.length_cons] at c d|-
   simpa using oK xs ys (by omega) (by omega)
  ·simp [e]
theorem jF (a b:List UInt8) (n:Nat) (h:∀k,k<n->a[k]? =b[k]?) (d:n<=a.length) (e:n<=b.length) (hn:n=a.length\/n=b.length\/a[n]?≠b[n]?):n=comm a b:=by
 rcases Nat.lt_trichotomy n (comm a b) with c|c|c
 ·have hl:=jG a b
  rcases hn with hn|hn|hn
  ·omega
  ·omega
  ·exact absurd (wI a b n c) hn
 ·exact c
 ·exact absurd (h _ c) (oK a b (by omega) (by omega))
theorem l9:∀(a b:List UInt8),compareBytes a b= -1\/compareBytes a b=0\/compareBytes a b=1
 | [],[]=>by simp [compareBytes]
 | [],_::_=>by simp [compareBytes]
 |_::_,[]=>by simp [compareBytes]
 |x::xs,y::ys=>by
  unfold compareBytes
  split
  ·simp
  ·split
   ·simp
   ·exact l9 xs ys
def D4 (a b:List UInt8):Int:=
 if comm a b=a.length/\comm a b=b.length then 0
 else if comm a b=a.length then-1
 else if comm a b=b.length then 1
 else if a.getD (comm a b) 0<b.getD (comm a b) 0 then-1 else 1
theorem D3:∀(a b:List UInt8),compareBytes a b=D4 a b
 | [],[]=>by simp [compareBytes,D4,comm]
 | [],_::_=>by simp [compareBytes,D4,comm]
 |_::_,[]=>by simp [compareBytes,D4,comm]
 |x::xs,y::ys=>by
  have d:=D3 xs ys;unfold compareBytes
  by_cases e:x=y
  ·subst e;have c:¬x<x:=UInt8.lt_irrefl x;rw [if_neg c,if_neg c,d];unfold D4
   simp only [comm,if_true,List.length_cons,Nat.add_right_cancel_iff,List.getD_cons_succ]
  ·have hc:comm (x::xs) (y::ys)=0:=by simp [comm,e]
   have hv:D4 (x::xs) (y::ys)=if x<y then-1 else 1:=by
    unfold D4;rw [hc];simp
   rw [hv]
   by_cases c:x<y
   ·rw [if_pos c,if_pos c]
   ·have:y<x:=UInt8.lt_of_le_of_ne (UInt8.not_lt.1 c) (Ne.symm e);rw [if_neg c,if_neg c,if_pos this]
theorem gT (a b:List UInt8):compareBytes a b<0↔(comm a b<b.length/\(comm a b=a.length\/a.getD (comm a b) 0<b.getD (comm a b) 0)):=by
 have hl:=jG a b;rw [D3];unfold D4
 by_cases c:comm a b=a.length
 ·by_cases d:comm a b=b.length
  ·rw [if_pos ⟨c,d⟩];simp;omega
  ·rw [if_neg (fun h=>d h.2),if_pos c];simp [c];omega
 ·rw [if_neg (fun h=>c h.1),if_neg c]
  by_cases d:comm a b=b.length
  ·rw [if_pos d];simp;omega
  ·rw [if_neg d]
   by_cases e:a.getD (comm a b) 0<b.getD (comm a b) 0
   ·rw [if_pos e];simp only [show(-1:Int)<0 by omega,true_iff];exact⟨by omega,.inr e⟩
   ·rw [if_neg e];simp only [show¬(1:Int)<0 by omega,false_iff];rintro⟨_,h|h⟩<;>contradiction
theorem getD_take (l:List UInt8) (n k:Nat) (h:k<n):(l.take n).getD k 0=l.getD k 0:=by
 simp [List.getD,h]
theorem Oq (a b:List UInt8) (n:Nat) (hn:n<=b.length):comm a (b.take n)=min n (comm a b):=by
 have hl:=jG a b
 symm
 refine jF a (b.take n) _ (fun k d=> ?_) (by omega) (by simp;omega) ?_
 ·rw [List.getElem?_take,if_pos (by omega)]
  exact wI a b k (by omega)
 ·rcases Nat.lt_or_ge (comm a b) n with h|h
  ·rw [Nat.min_eq_right (by omega)]
   by_cases c:comm a b=a.length
   ·exact .inl c
   ·refine .inr (.inr ?_);rw [List.getElem?_take,if_pos h]
    exact oK a b (by omega) (by omega)
  ·rw [Nat.min_eq_left h];exact .inr (.inl (by simp;omega))
theorem qU {b:List UInt8} (hn:n<=b.length):compareBytes a (b.take n)<0↔(compareBytes a b<0/\comm a b<n):=by
 have hl:=jG a b;have hc:=Oq a b n hn;rw [gT,gT,hc,List.length_take]
 rcases Nat.lt_or_ge (comm a b) n with h|h
 ·have e:min n (comm a b)=comm a b:=by omega
  rw [e,getD_take _ _ _ h]
  constructor
  ·rintro⟨c,d⟩;exact⟨⟨by omega,d⟩,h⟩
  ·rintro⟨⟨c,d⟩,_⟩;exact⟨by omega,d⟩
 ·constructor
  ·rintro⟨c,_⟩;omega
  ·rintro⟨_,c⟩;omega
def l8 (a b:List UInt8):List UInt8×Int:=if compareBytes a b<0 then(b.take (comm a b+1),0) else([],51)
def fO (l:List aR) (i:Nat):Int:=
 if jf (l.getD i ([],[]))≠0 then jf (l.getD i ([],[]))
 else if 0<i/\0<=compareBytes (l.getD (i-1) ([],[])).1 (l.getD i ([],[])).1 then 51 else 0
def bB (l:List aR):Int×Int:=
 match (List.range l.length).find? (fun i=>fO l i !=0) with
 |some i=>((i:Int),fO l i)
 |none=>(0,0)
theorem xK (hi:i<n) (h:∀j,j<i->p j=false) (b:p i=true):(List.range n).find? p=some i:=by
 rw [List.find?_range_eq_some];exact⟨b,by simpa using hi,fun j a=>by simp [h j a]⟩
theorem xL (h:∀j,j<n->p j=false):(List.range n).find? p=none:=by
 rw [List.find?_eq_none];intro j a;simp [h j (by simpa using a)]
theorem sorted_at {l:List aR} (hi:i<l.length) (h:∀j,j<i->fO l j=0) (a:fO l i≠0):bB l=((i:Int),fO l i):=by
 unfold bB;rw [xK (i:=i) hi (fun j b=>by simp [h j b]) (by simpa using a)]
theorem ww {l:List aR} (h:∀j,j<l.length->fO l j=0):bB l=(0,0):=by
 unfold bB;rw [xL (fun j a=>by simp [h j a])]
def bY (l:List aR):Prop:=∀j,j<l.length->fO l j=0
theorem rE (l:List aR):(bB l).2=0↔bY l:=by
 constructor
 ·intro h j a;unfold bB at h
  cases hf:(List.range l.length).find? (fun i=>fO l i !=0) with
  |none=>
   have:=(List.find?_eq_none.1 hf) j (by simpa using a)
   simpa using this
  |some i=>
   rw [hf] at h;have:=List.find?_some hf;simp only at h
   simp [h] at this
 ·intro h;rw [ww h]
theorem Ot {l:List aR} {e:aR} (b:l[i]? =some e) (h:jf e≠0):fO l i=jf e:=by
 have a:l.getD i ([],[])=e:=by simp [List.getD,b]
 unfold fO;rw [a,if_pos h]
theorem Hd {l:List aR} {d e:aR} (f:l[i]? =some e) (c:l[i-1]? =some d) (h:jf e=0) (hi:0<i) (hc:0<=compareBytes d.1 e.1):fO l i=51:=by
 have a:l.getD i ([],[])=e:=by simp [List.getD,f]
 have b:l.getD (i-1) ([],[])=d:=by simp [List.getD,c]
 unfold fO;rw [a,b,if_neg (by simpa using h),if_pos ⟨hi,hc⟩]
theorem xc {l:List aR} {e:aR} (b:l[0]? =some e) (h:jf e=0):fO l 0=0:=by
 have a:l.getD 0 ([],[])=e:=by simp [List.getD,b]
 unfold fO;rw [a,if_neg (by simpa using h),if_neg (fun h=>by omega)]
theorem zA {l:List aR} {d e:aR} (f:l[i]? =some e) (c:l[i-1]? =some d) (h:jf e=0) (hc:compareBytes d.1 e.1<0):fO l i=0:=by
 have a:l.getD i ([],[])=e:=by simp [List.getD,f]
 have b:l.getD (i-1) ([],[])=d:=by simp [List.getD,c]
 unfold fO;rw [a,b,if_neg (by simpa using h),if_neg (fun h=>by omega)]
section
theorem dX {P:Program} {f:FuncId} {args:Array Value} {w:World} {n:Nat} {v:Value}
  (h:Calls P f args (w.drewN n) fun e w'=>e= .returned v/\w.drewN n=w'):Calls P f args (w.drewN n) fun e a=>e= .returned v/\∃m,a=w.drewN m:=
 h.mono fun _ _ ⟨b,c⟩=>⟨b,n,c.symm⟩
theorem mg {P:Program} (t e:TypeId) (i:TypeInfo) (z:Value) (l:P.underlying t=some (.slice e)) (hi:P.info? e=some i) (d:i.zero=some z)
  (f kc:IntKind) (n c:Nat) (j:n<=c) (a:i.bytes*c<=281474976710656) (g:c<=9223372036854775807) (w:World):
  (Instr.makeSlice t (.int f (n:Int)) (.int kc (c:Int))).run P w= .ok (.slice (some ⟨w,0,none⟩) n c) (w.alloc (.cells (madeCells z.cells (c*i.size)) e)):=by
 have k:(i.bytes:Int)*(c:Int)<=281474976710656:=by
  have h:((i.bytes*c:Nat):Int)<=281474976710656:=by omega
  rwa [Int.natCast_mul] at h
 have b:=run_make (P:=P) w t e i z l hi d f kc n c (by omega) (by omega) k (by omega);simp only [Int.toNat_natCast] at b;exact b
section
variable {H:Type} {enc:TypeId×Value->H} {P:Program}
end
end
theorem bR {k:IntKind} {a b:Int} (h:a=b):Ending.returned (.int k a)= .returned (.int k b):=by rw [h]
theorem LY (A:Option Addr) (n c:Nat) (k:List UInt8) (hn:n=k.length) (w:World):
  Calls prog 97 #[.slice A n c] w fun e w'=>e= .returned (.int .i64 (pz k))/\w=w':=by
 have b:=aa hn;clear hn
 by_cases a:n=0
 ·have f:((n:Int)==0)=true:=by simpa using a
  have d:=aa a;clear a;go_enter func97,ntmps97;go_wp2;go_ret
  exact⟨bR (by have:=b.out;have:=d.out;unfold pz;rw [if_neg (by omega)]),rfl⟩
 ·have f:((n:Int)==0)=false:=by simpa using a
  have h:1<=n:=by omega
  by_cases g:n<=64
  ·go_enter func97,ntmps97
   go_wp2;go_ret
   exact⟨bR (by have:=b.out;unfold pz;rw [if_pos (by omega)]),rfl⟩
  ·go_enter func97,ntmps97
   go_wp2;go_ret
   exact⟨bR (by have:=b.out;unfold pz;rw [if_neg (by omega)]),rfl⟩
theorem Oo (A:Option Addr) (n c:Nat) (k:List UInt8) (hn:n=k.length) (w:World):
  Calls prog 98 #[.slice A n c] w fun e w'=>e= .returned (.int .i64 (xJ k))/\w=w':=by
 have a:=aa hn;clear hn
 by_cases b:n<=256
 ·go_enter func98,ntmps98
  go_wp2;go_ret
  exact⟨bR (by have:=a.out;unfold xJ;rw [if_pos (by omega)]),rfl⟩
 ·go_enter func98,ntmps98
  go_wp2;go_ret
  exact⟨bR (by have:=a.out;unfold xJ;rw [if_neg (by omega)]),rfl⟩
theorem zu (A:Option Addr) (n c:Nat) (k:List UInt8) (hn:n=k.length) (w:World):
  Calls prog 118 #[.slice A n c] w fun e w'=>e= .returned (.int .i64 (pz k))/\w=w':=by
 have a:=aa hn;clear hn
 by_cases b:n<1
 ·go_enter func118,ntmps118
  go_wp2;go_ret
  exact⟨bR (by have:=a.out;unfold pz;rw [if_neg (by omega)]),rfl⟩
 ·by_cases d:n<=64
  ·go_enter func118,ntmps118
   go_wp2;go_ret
   exact⟨bR (by have:=a.out;unfold pz;rw [if_pos (by omega)]),rfl⟩
  ·go_enter func118,ntmps118
   go_wp2;go_ret
   exact⟨bR (by have:=a.out;unfold pz;rw [if_neg (by omega)]),rfl⟩
theorem Kj (A:Option Addr) (n c:Nat) (k:List UInt8) (hn:n=k.length) (w:World):
  Calls prog 119 #[.slice A n c] w fun e w'=>e= .returned (.int .i64 (xJ k))/\w=w':=by
 have a:=aa hn;clear hn
 by_cases b:n<=256
 ·go_enter func119,ntmps119
  go_wp2;go_ret
  exact⟨bR (by have:=a.out;unfold xJ;rw [if_pos (by omega)]),rfl⟩
 ·go_enter func119,ntmps119
  go_wp2;go_ret
  exact⟨bR (by have:=a.out;unfold xJ;rw [if_neg (by omega)]),rfl⟩
theorem gX (c d:Nat) (h:Rd w F 1 A n (aI xs)) (hn:n=xs.length) (k:Rd w G 1 B m (aI ys)) (b:m=ys.length) (P:n<=1152921504606846976):
  Calls prog 112 #[.slice A n c,.slice B m d] w fun e w'=>e= .returned (.int .i64 (comm xs ys))/\∃q,w'=w.drewN q:=by
 have p:=aa hn;have o:=aa b;have H:=aa h;have I:=aa k;clear hn b h k;go_enter func112,ntmps112;go_wp2
 go_loopg [5] n (fun g i wr=>∃k:Nat,g=n-k/\k<=n/\k<=m/\i= (k:Int)/\(∀j,j<k->xs[j]? =ys[j]?)/\∃q,wr=w.drewN q)
 case atStart=>exact⟨0,by omega,by omega,by omega,rfl,by omega,0,rfl⟩
 case round=>
  obtain⟨i,z,N,O,rfl,C,q,rfl⟩:=hrel;have r:=aa C;have J:=aa z;clear C z
  by_cases K:i<n
  ·by_cases L:i<m
   ·obtain⟨R,U,u1,rfl,_,D,s⟩:=H.out.at_ K;obtain⟨S,V,u2,rfl,_,E,t⟩:=I.out.at_ L;obtain⟨x,f,rfl⟩:=eO D;obtain⟨y,l,rfl⟩:=eO E;have u:=aa f;have v:=aa l;clear D E f l;simp only [bv] at s t
    by_cases e:x=y
    ·subst e;go_wp2_with fail;go_quiet (fail);go_wp2
     go_roundg (n-(i+1))
     case measure=>have:=J.out;omega
     case rel=>
      exact⟨i+1,rfl,by omega,by omega,by go_num,fun j T=>by
       rcases Nat.lt_or_ge j i with h|h
       ·exact r j h
       ·obtain rfl:j=i:=by omega
        rw [u.out,v.out],_,rfl⟩
    ·have Q:((x.toNat:Int)==(y.toNat:Int))=false:=by
      rw [mi];intro h;exact e (UInt8.toNat.inj (by omega))
     have a:=aa (jF xs ys i r (by have:=p.out;omega) (by have:=o.out;omega) (.inr (.inr (by rw [u.out,v.out];simpa using e))));clear e;go_wp2_with fail;go_quiet (fail);go_wp2;go_ret
     exact⟨bR (by rw [a.out]),_,World.drewN_drewN ..⟩
   ·have M:decide ((i:Int)<(m:Int))=false:=by simp;omega
    have a:=aa (jF xs ys i r (by have:=p.out;omega) (by have:=o.out;omega) (.inr (.inl (by have:=o.out;omega))));go_wp2_with fail;go_quiet (fail);go_wp2;go_ret
    exact⟨bR (by rw [a.out]),_,World.drewN_drewN ..⟩
  ·have M:decide ((i:Int)<(n:Int))=false:=by simp;omega
   have a:=aa (jF xs ys i r (by have:=p.out;omega) (by have:=o.out;omega) (.inl (by have:=p.out;omega)));go_wp2_with fail;go_quiet (fail);go_wp2;go_ret;exact⟨bR (by rw [a.out]),_,World.drewN_drewN ..⟩
theorem dC (c d:Nat) (h:Rd w F 1 A n (aI xs)) (hn:n=xs.length) (k:Rd w G 1 B m (aI ys)) (b:m=ys.length) (f:n<=1152921504606846976):
  Calls prog 68 #[.slice A n c,.slice B m d] w fun e w'=>e= .returned (.int .i64 (compareBytes xs ys))/\∃q,w'=w.drewN q:=by
 have hl:=jG xs ys;have j:=D3 xs ys;have O:=aa (oK xs ys);obtain⟨q,J⟩:=gF (comm xs ys);unfold D4 at j;rw [<-J] at j hl O;have z:=aa j;have s:=aa J;have i:=aa hn;have g:=aa b;have o:=aa h;have p:=aa k;have Q:q<=n:=by omega
 have R:q<=m:=by omega
 clear hn b h k j J hl
 by_cases L:q=n
 ·have P:((q:Int)==(n:Int))=true:=by rw [beq_iff_eq];omega
  have K:=aa L;clear L
  by_cases E:q=m
  ·have D:((q:Int)==(m:Int))=true:=by rw [beq_iff_eq];omega
   have l:Hid (compareBytes xs ys=0):=aa (by have:=i.out;have:=g.out;have:=K.out;rw [z.out,if_pos (by omega)]);clear E;go_enter func68,ntmps68;go_wp2_with (go_at_call 112;refine(gX _ _ o i p g f).mono ?_;rintro e w' ⟨rfl,r,rfl⟩;rw [<-s.out])
   go_ret
   exact⟨bR (by rw [l.out]),_,rfl⟩
  ·have D:((q:Int)==(m:Int))=false:=by rw [mi];omega
   have l:Hid (compareBytes xs ys= -1):=aa (by have:=i.out;have:=g.out;have:=K.out;rw [z.out,if_neg (by omega),if_pos (by omega)]);go_enter func68,ntmps68;go_wp2_with (go_at_call 112;refine(gX _ _ o i p g f).mono ?_;rintro e w' ⟨rfl,r,rfl⟩;rw [<-s.out])
   go_ret
   exact⟨bR (by rw [l.out]),_,rfl⟩
 ·have P:((q:Int)==(n:Int))=false:=by rw [mi];omega
  by_cases E:q=m
  ·have D:((q:Int)==(m:Int))=true:=by rw [beq_iff_eq];omega
   have l:Hid (compareBytes xs ys=1):=aa (by have:=i.out;have:=g.out;rw [z.out,if_neg (by omega),if_neg (by omega),if_pos (by omega)]);clear E;go_enter func68,ntmps68;go_wp2_with (go_at_call 112;refine(gX _ _ o i p g f).mono ?_;rintro e w' ⟨rfl,r,rfl⟩;rw [<-s.out])
   go_ret
   exact⟨bR (by rw [l.out]),_,rfl⟩
  ·have D:((q:Int)==(m:Int))=false:=by rw [mi];omega
   have S:q<n:=by omega
   have T:q<m:=by omega
   obtain⟨U,W,Y,rfl,_,M,H⟩:=o.out.at_ S;obtain⟨V,X,Z,rfl,_,N,I⟩:=p.out.at_ T;obtain⟨x,u,rfl⟩:=eO M;obtain⟨y,v,rfl⟩:=eO N
   have l:Hid (compareBytes xs ys=if x<y then-1 else 1):=aa (by
    have:=i.out;have:=g.out;rw [z.out,if_neg (by omega),if_neg (by omega),if_neg (by omega)];simp only [List.getD,u,v,Option.getD_some])
   simp only [bv] at H I;clear M N u v
   by_cases a:x<y
   ·have t:(x.toNat:Int)<(y.toNat:Int):=by have:=UInt8.lt_iff_toNat_lt.1 a;omega
    have C:=aa a;clear a;go_enter func68,ntmps68;go_wp2_with (go_at_call 112;refine(gX _ _ o i p g f).mono ?_;rintro e w' ⟨rfl,r,rfl⟩;rw [<-s.out])
    go_quiet (fail);go_wp2;go_ret
    exact⟨bR (by rw [l.out,if_pos C.out]),_,World.drewN_drewN ..⟩
   ·have t:¬(x.toNat:Int)<(y.toNat:Int):=fun h=>a (UInt8.lt_iff_toNat_lt.2 (by omega));have C:=aa a;clear a;go_enter func68,ntmps68;go_wp2_with (go_at_call 112;refine(gX _ _ o i p g f).mono ?_;rintro e w' ⟨rfl,r,rfl⟩;rw [<-s.out])
    go_quiet (fail);go_wp2;go_ret;exact⟨bR (by rw [l.out,if_neg C.out]),_,World.drewN_drewN ..⟩
end Go.Proofs.YtepgcjbhabnciaaGreat
