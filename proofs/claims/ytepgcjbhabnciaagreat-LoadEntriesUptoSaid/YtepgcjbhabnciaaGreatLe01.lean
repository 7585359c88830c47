/- Part 1. -/
import Derived.Below
import Derived.Calls
import Derived.RowKit
import Derived.KernelRfl
import Derived.Laws.OwnMore
import Derived.Deep.AppendLies
import Derived.Deep.Draws
import Derived.WalkSmall
import Derived.OwnWalk
import Derived.Lib.Bytealg
import Derived.WalkKit
import Derived.WalkLawsBesides
import Derived.WalkSpells
import Derived.OrdersHeld
import Derived.Deep.RegionHeld
import Derived.Tactics
import Derived.Test.YtepgcjbhabnciaaGreatChecked
import Derived.Lib.Hide
import Derived.Outline
namespace Go.Proofs.YtepgcjbhabnciaaGreat
set_option maxRecDepth 100000
set_option maxHeartbeats 8000000
open Go.RowKit Go.Proofs.Tryz
open Go.Lib (compareBytes)
variable {n c i m:Nat} {b bs xs a:List UInt8} {F G:Nat->Prop} {A B:Option Addr} {p:Nat->Bool} {P:Program} {w:World}
theorem aa {p : Prop} (h : p) : Hid p := h
theorem letter {f : FuncId} {args : Array Value} {Q : Ending -> World -> Prop} (h : ∀ R, Hid (R = Q) -> Calls P f args w R) : Calls P f args w Q := h Q rfl
section
structure ag (S:Nat->Prop) (w w':World):Prop where
 os:w'.os=w.os
 tape:w'.tape=w.tape
 output:w'.output=w.output
 size:w.heap.size<=w'.heap.size
 block:∀k,k<w.heap.size->¬S k->w'.heap[k]? =w.heap[k]?
def Nil:Nat->Prop:=fun _=>False
def From (b:Nat):Nat->Prop:=fun k=>b<=k
def mZ (b:Nat):Nat->Prop:=fun k=>k=b
section
variable {S T F G:Nat->Prop} {a w w' w1:World}
theorem ag.refl (S:Nat->Prop) (w:World):ag S w w:=⟨rfl,rfl,rfl,Nat.le_refl _,fun _ _ _=>rfl⟩
theorem ag.trans (h:ag S a w) (k:ag T w w') (d:∀b,b<a.heap.size->T b->S b):ag S a w':=
 ⟨k.os.trans h.os,k.tape.trans h.tape,k.output.trans h.output,Nat.le_trans h.size k.size,fun i hi c=>
  (k.block i (Nat.lt_of_lt_of_le hi h.size) (fun e=>c (d i hi e))).trans (h.block i hi c)⟩
theorem ag.mono (h:ag S w w') (a:∀b,b<w.heap.size->S b->T b):ag T w w':=
 ⟨h.os,h.tape,h.output,h.size,fun i hi c=>h.block i hi (fun d=>c (a i hi d))⟩
theorem ag.of_below (h:Below w.heap.size w w'):ag S w w':=⟨h.os,h.tape,h.output,h.size,fun k a _=>h.block k a⟩
theorem ag.below_of {B:Nat} (h:ag S w w') (c:B<=w.heap.size) (d:∀b,b<B->¬S b):Below B w w':=
 ⟨h.os,h.tape,h.output,h.size,fun k a=>h.block k (Nat.lt_of_lt_of_le a c) (d k a)⟩
theorem ag.of_below_ {B:Nat} (h:Below B w w') (c:∀b,b<w.heap.size->B<=b->S b):ag S w w':=
 ⟨h.os,h.tape,h.output,h.size,fun k d e=>h.block k (by rcases Nat.lt_or_ge k B with a|a;exact a;exact absurd (c k d a) e)⟩
theorem ag.then (h:ag S a w) (k:Below w.heap.size w w'):ag S a w':=h.trans (ag.of_below (S:=Nil) k) (fun _ _ b=>b.elim)
theorem ag.drew (h:ag S a w):ag S a w.drew:=⟨h.os,h.tape,h.output,h.size,h.block⟩
theorem ag.drewN (h:ag S a w) (n:Nat):ag S a (w.drewN n):=⟨h.os,h.tape,h.output,h.size,h.block⟩
theorem ag.alloc (h:ag S a w) (o:Obj):ag S a (w.alloc o):=h.then ((Below.refl _ _).alloc (Nat.le_refl _) _)
theorem ag.setCell (h:ag S a w) {p:Addr} (f:p.block<a.heap.size->S p.block) (u:Value):ag S a (w.setCell p u):=
 h.trans (T:=mZ p.block) ⟨rfl,rfl,rfl,by simp [World.setCell],fun k _ d=>Below.heap_setCell _ _ _ _ (fun e=>d e)⟩ (fun b c e=>by have e:b=p.block:=e;subst e;exact f c)
theorem ag.set1 (w:World) (b o:Nat) (u:Value):ag (mZ b) w (w.setCell ⟨b,o,none⟩ u):=(ag.refl (mZ b) w).setCell (p:=⟨b,o,none⟩) (fun _=>rfl) u
theorem ag.grown {row:Option Nat} (h:ag S a w) (c:w.grownBy w' row) (g:∀k,row=some k->k<a.heap.size->S k):ag S a w':=
 h.trans (T:=fun k=>row=some k) ⟨c.os,c.tape,c.output,c.size,fun k f i=>c.block k f (fun e=>i e.symm)⟩ (fun b d e=>g b e d)
theorem nS {o:Nat} {b:Nat} {v:Value} (h:w.cell? ⟨b,o,none⟩=some v):b<w.heap.size:=by
 by_cases a:b<w.heap.size
 ·exact a
 ·simp [World.cell?,Array.getElem?_eq_none (show w.heap.size<=b by omega)] at h
theorem ag.cell (h:ag S w w') {b o:Nat} {v:Value} (c:¬S b) (hv:w.cell? ⟨b,o,none⟩=some v):w'.cell? ⟨b,o,none⟩=some v:=
 (World.cell?_of_block (w:=w) (a:=⟨b,o,none⟩) (h.block b (nS hv) c)).trans hv
theorem tH {B:Nat} (a:Below B w w1) {b o:Nat} (h:b<B) {v:Value} (hv:w.cell? ⟨b,o,none⟩=some v):w1.cell? ⟨b,o,none⟩=some v:=
 (a.cell (p:=⟨b,o,none⟩) h).trans hv
theorem ak (a:Below w.heap.size w w1) {b o:Nat} {v:Value} (hv:w.cell? ⟨b,o,none⟩=some v):w1.cell? ⟨b,o,none⟩=some v:=
 tH a (nS hv) hv
end
def aj (w:World) (g:Nat) (t:TypeId) (cs:Array Value):Prop:=w.heap[g]? =some (.cells cs t (0,0))
section
variable {S:Nat->Prop} {w w':World} {g:Nat} {t:TypeId} {cs:Array Value}
theorem aj.lt (h:aj w g t cs):g<w.heap.size:=by
 rcases Nat.lt_or_ge g w.heap.size with b|a
 ·exact b
 ·unfold aj at h;rw [Array.getElem?_eq_none a] at h;cases h
theorem aj.cell (h:aj w g t cs) (i:Nat):w.cell? ⟨g,i,none⟩=cs[i]? :=cell_of_row w g i cs t (0,0) h
theorem aj.frozen (h:aj w g t cs) (i:Nat):w.frozen? ⟨g,i,none⟩=false:=by
 unfold aj at h;simp [World.frozen?,h]
theorem aj.new (w:World) (t:TypeId) (cs:Array Value):aj (w.alloc (.cells cs t)) w.heap.size t cs:=heap_alloc_new w _
theorem aj.drew (h:aj w g t cs):aj w.drew g t cs:=h
theorem aj.drewN (h:aj w g t cs) (n:Nat):aj (w.drewN n) g t cs:=h
theorem aj.alloc (h:aj w g t cs) (o:Obj):aj (w.alloc o) g t cs:=(Below.heap_alloc w o g h.lt).trans h
theorem aj.set_ (h:aj w g t cs) (i:Nat) (u:Value):aj (w.setCell ⟨g,i,none⟩ u) g t (cs.setIfInBounds i u):=by
 unfold aj at h|-;simp [World.setCell,Array.getElem?_modify,h]
theorem aj.far (h:aj w g t cs) {p:Addr} (a:g≠p.block) (u:Value):aj (w.setCell p u) g t cs:=(Below.heap_setCell w p u g a).trans h
theorem aj.below (h:aj w g t cs) (a:Below w.heap.size w w'):aj w' g t cs:=(a.block g h.lt).trans h
theorem aj.chg (h:aj w g t cs) (a:ag S w w') (b:¬S g):aj w' g t cs:=(a.block g h.lt b).trans h
end
def Rd (w:World) (F:Nat->Prop) (size:Nat) (A:Option Addr) (n:Nat) (xs:List Value):Prop:=
 xs.length=n*size/\(0<n->∃b o,A=some ⟨b,o,none⟩/\F b/\∀j u,xs[j]? =some u->w.cell? ⟨b,o+j,none⟩=some u)
section
variable {S F G:Nat->Prop} {w w':World} {size n:Nat} {A:Option Addr} {xs:List Value}
theorem Rd.none_ (w:World) (F:Nat->Prop) (size:Nat) (A:Option Addr):Rd w F size A 0 []:=⟨by simp,fun h=>absurd h (by omega)⟩
theorem Rd.empty (h:Rd w F size A 0 xs):xs= []:=List.eq_nil_of_length_eq_zero (by simpa using h.1)
theorem Rd.at_ {k:Nat} (h:Rd w F 1 A n xs) (d:k<n):∃b o u,A=some ⟨b,o,none⟩/\F b/\xs[k]? =some u/\w.cell? ⟨b,o+k,none⟩=some u:=by
 obtain⟨b,o,e,a,c⟩:=h.2 (by omega);have hl:k<xs.length:=by have:=h.1;omega
 exact⟨b,o,xs[k],e,a,List.getElem?_eq_getElem hl,c k _ (List.getElem?_eq_getElem hl)⟩
theorem Rd.at2 {k:Nat} (h:Rd w F 2 A n xs) (d:k<n):∃b o u v,A=some ⟨b,o,none⟩/\F b/\xs[2*k]? =some u/\xs[2*k+1]? =some v/\w.cell? ⟨b,o+2*k,none⟩=some u/\w.cell? ⟨b,o+(2*k+1),none⟩=some v:=by
 obtain⟨b,o,e,c,a⟩:=h.2 (by omega);have hl:2*k+1<xs.length:=by have:=h.1;omega
 exact⟨b,o,xs[2*k],xs[2*k+1],e,c,List.getElem?_eq_getElem (by omega),List.getElem?_eq_getElem hl,a _ _ (List.getElem?_eq_getElem (by omega)),a _ _ (List.getElem?_eq_getElem hl)⟩
theorem Rd.weak (h:Rd w F size A n xs) (k:∀b,F b->G b):Rd w G size A n xs:=
 ⟨h.1,fun d=>let⟨b,o,e,a,c⟩:=h.2 d;⟨b,o,e,k b a,c⟩⟩
theorem Rd.chg (h:Rd w F size A n xs) (y:ag S w w') (K:∀b,F b->¬S b):Rd w' F size A n xs:=
 ⟨h.1,fun c=>let⟨b,o,e,a,f⟩:=h.2 c;⟨b,o,e,a,fun j u d=>y.cell (K b a) (f j u d)⟩⟩
theorem Rd.below (h:Rd w F size A n xs) (a:Below w.heap.size w w'):Rd w' F size A n xs:=h.chg (ag.of_below (S:=Nil) a) (fun _ _ b=>b)
theorem Rd.drew (h:Rd w F size A n xs):Rd w.drew F size A n xs:=h
theorem Rd.drewN (h:Rd w F size A n xs) (k:Nat):Rd (w.drewN k) F size A n xs:=h
theorem Rd.alloc (h:Rd w F size A n xs) (o:Obj):Rd (w.alloc o) F size A n xs:=h.below ((Below.refl _ _).alloc (Nat.le_refl _) _)
theorem Rd.lt (h:Rd w F size A n xs) (q:0<size):Rd w (fun b=>F b/\b<w.heap.size) size A n xs:=
 ⟨h.1,fun a=>by
  obtain⟨b,o,e,f,c⟩:=h.2 a;have d:0<xs.length:=by rw [h.1];exact Nat.mul_pos a q
  exact⟨b,o,e,⟨f,nS (c 0 _ (List.getElem?_eq_getElem d))⟩,c⟩⟩
theorem Rd.cut (h:Rd w F size A n xs) {k cap:Nat} (f:k<=n) (e:n<=cap):
  Rd w F size (if cap=k then A else A.map (·.add (k*size))) (n-k) (xs.drop (k*size)):=by
 refine⟨by rw [List.length_drop,h.1,Nat.sub_mul],fun g=> ?_⟩;obtain⟨b,o,rfl,c,a⟩:=h.2 (by omega);rw [if_neg (by omega)]
 refine⟨b,o+k*size,?_,c,fun j u d=> ?_⟩
 ·simp only [Option.map_some,Addr.add]
  split
  ·simp_all
  ·rfl
 ·rw [Nat.add_assoc];exact a _ u (by rw [<-d,List.getElem?_drop])
theorem Rd.take (h:Rd w F size A n xs) {k:Nat} (e:k<=n):Rd w F size A k (xs.take (k*size)):=by
 refine⟨by rw [List.length_take,h.1];exact Nat.min_eq_left (Nat.mul_le_mul_right _ e),fun f=> ?_⟩;obtain⟨b,o,rfl,d,a⟩:=h.2 (by omega)
 exact⟨b,o,rfl,d,fun j u c=>a j u (by
  rw [List.getElem?_take] at c
  split at c
  ·exact c
  ·cases c)⟩
theorem iT (b o k:Nat):(Addr.mk b o none).add k=⟨b,o+k,none⟩:=by
 unfold Addr.add;split
 ·simp_all
 ·rfl
theorem Rd.of_own {base:Nat} {e:TypeId} {c:Nat} (h:w.ownsRow base e size (.slice A n c) n xs):Rd w (From base) size A n xs:=by
 refine⟨h.1,fun f=> ?_⟩;obtain⟨g,cap,hv,a,d⟩:=h.form f;have b:A=some ⟨g,0,none⟩:=by injection hv
 subst b;exact⟨g,0,rfl,a,fun j u i=>by have:=h.cells (g:=g) rfl j u i;rw [iT] at this;exact this⟩
end
def bv (c:UInt8):Value:= .int .u8 c.toNat
def aF (bs:List UInt8):List Value:=bs.map bv
theorem cO (bs:List UInt8):(aF bs).length=bs.length:=by simp [aF]
theorem bC (bs:List UInt8):∀u∈aF bs,u.oneCell'=true:=by
 intro u a;simp only [aF,List.mem_map] at a;obtain⟨c,_,rfl⟩:=a;rfl
theorem dX {bs:List UInt8} {k:Nat} {u:Value} (h:(aF bs)[k]? =some u):∃c,bs[k]? =some c/\u=bv c:=by
 simp only [aF,List.getElem?_map,Option.map_eq_some_iff] at h;obtain⟨c,a,b⟩:=h;exact⟨c,a,b.symm⟩
theorem DK (bs:List UInt8) (k:Nat):(aF bs).take k=aF (bs.take k):=by simp [aF,List.map_take]
theorem wC (bs:List UInt8) (k:Nat):(aF bs).drop k=aF (bs.drop k):=by simp [aF,List.map_drop]
theorem Rd.take1 {w:World} {F:Nat->Prop} {A:Option Addr} {n k:Nat} {bs:List UInt8} (h:Rd w F 1 A n (aF bs)) (a:k<=n):Rd w F 1 A k (aF (bs.take k)):=by
 have:=h.take a;rwa [Nat.mul_one,DK] at this
theorem take_len {α:Type} {l:List α} {k:Nat} (h:k<=l.length):k=(l.take k).length:=by simp;omega
def SB (w:World) (F:Nat->Prop) (v:Value) (bs:List UInt8):Prop:=∃A n c,v= .slice A n c/\n<=c/\c<=maxLen/\n=bs.length/\Rd w F 1 A n (aF bs)
section
variable {S F G:Nat->Prop} {w w':World} {v:Value} {bs:List UInt8}
theorem SB.nil (w:World) (F:Nat->Prop):SB w F (.slice none 0 0) []:=⟨none,0,0,rfl,Nat.le_refl _,by simp [maxLen],rfl,Rd.none_ _ _ _ _⟩
theorem SB.weak (h:SB w F v bs) (k:∀b,F b->G b):SB w G v bs:=let⟨A,n,c,a,d,e,f,g⟩:=h;⟨A,n,c,a,d,e,f,g.weak k⟩
theorem SB.chg (h:SB w F v bs) (y:ag S w w') (K:∀b,F b->¬S b):SB w' F v bs:=let⟨A,n,c,a,d,e,f,g⟩:=h;⟨A,n,c,a,d,e,f,g.chg y K⟩
theorem SB.below (h:SB w F v bs) (g:Below w.heap.size w w'):SB w' F v bs:=let⟨A,n,c,a,b,d,e,f⟩:=h;⟨A,n,c,a,b,d,e,f.below g⟩
end
theorem SB.lt {w:World} {F:Nat->Prop} {v:Value} {bs:List UInt8} (h:SB w F v bs):SB w (fun b=>F b/\b<w.heap.size) v bs:=
 let⟨A,n,c,a,d,e,f,g⟩:=h;⟨A,n,c,a,d,e,f,g.lt Nat.zero_lt_one⟩
theorem Rd.one (w:World) (u:Value) (t:TypeId):Rd (w.alloc (.cells #[u] t)) (From w.heap.size) 1 (some ⟨w.heap.size,0,none⟩) 1 [u]:=
 ⟨rfl,fun _=>⟨w.heap.size,0,rfl,Nat.le_refl _,fun j x a=>by
  rw [(aj.new w t #[u]).cell]
  match j,a with
  |0,a=>simpa using a⟩⟩
def jo (w:World) (b:Nat):Prop:=∀o,w.frozen? ⟨b,o,none⟩=false
def fG (F:Nat->Prop) (w:World):Nat->Prop:=fun b=>F b/\jo w b
section
variable {S F G:Nat->Prop} {w w':World}
theorem jo.chg {b:Nat} (h:jo w b) (y:ag S w w') (c:b<w.heap.size) (d:¬S b):jo w' b:=
 fun o=>(World.frozen?_of_block (w:=w) (a:=⟨b,o,none⟩) (y.block b c d)).trans (h o)
theorem aj.soft {g:Nat} {t:TypeId} {cs:Array Value} (h:aj w g t cs):jo w g:=h.frozen
theorem Rd.soft_of_own {base:Nat} {e:TypeId} {size n c:Nat} {A:Option Addr} {xs:List Value} (h:w.ownsRow base e size (.slice A n c) n xs):Rd w (fG (From base) w) size A n xs:=by
 refine⟨h.1,fun m=> ?_⟩;obtain⟨g,cap,hv,b,l⟩:=h.form m;have i:A=some ⟨g,0,none⟩:=by injection hv
 subst i;refine⟨g,0,rfl,⟨b,?_⟩,fun j u o=>by have:=h.cells (g:=g) rfl j u o;rw [iT] at this;exact this⟩
 rcases h.2 with⟨e,_⟩|⟨q,d,cur,e,_,k,_⟩
 ·cases e
 ·injection e with a f p
  injection a with a
  injection a with a f
  subst a;exact(show aj w g _ cur from k).frozen
theorem Rd.soft_chg {size n:Nat} {A:Option Addr} {xs:List Value} (h:Rd w (fG F w) size A n xs) (q:0<size) (y:ag S w w') (K:∀b,F b->¬S b):Rd w' (fG F w') size A n xs:=
 ((h.lt q).chg y (fun b a=>K b a.1.1)).weak (fun b a=>⟨a.1.1,a.1.2.chg y a.2 (K b a.1.1)⟩)
theorem SB.soft_chg {v:Value} {bs:List UInt8} (h:SB w (fG F w) v bs) (y:ag S w w') (K:∀b,F b->¬S b):SB w' (fG F w') v bs:=
 let⟨A,n,c,a,d,e,f,g⟩:=h;⟨A,n,c,a,d,e,f,g.soft_chg Nat.zero_lt_one y K⟩
theorem fG.weak (k:∀b,F b->G b):∀b,fG F w b->fG G w b:=fun b a=>⟨k b a.1,a.2⟩
end
end
theorem run_loadBytes {P:Program} (w:World) (b:Nat):∀(bs:List UInt8) (o:Nat) (a:ByteArray),(∀j u,(aF bs)[j]? =some u->w.cell? ⟨b,o+j,none⟩=some u)->
  (Extern.Bytes.loadBytes ⟨b,o,none⟩ bs.length a).run P w= .ok ⟨a.data++bs.toArray⟩ w
 | [],o,a,_=>by
  obtain⟨d⟩:=a
  simp [Extern.Bytes.loadBytes]
 |c::bs,o,a,h=>by
  have g:w.cell? ⟨b,o,none⟩=some (.int .u8 c.toNat):=by simpa [aF,bv] using h 0 (bv c) (by simp [aF])
  have k:=run_loadBytes (P:=P) w b bs (o+1) (a.push c) (fun j u i=>by
   have:=h (j+1) u (by simpa [aF] using i);rw [Nat.add_assoc,Nat.add_comm 1 j];exact this)
  simp only [List.length_cons,Extern.Bytes.loadBytes,Sem.run_bind];simp only [run_load,g,Result.andThen];have e:(Addr.mk b o none).add 1=⟨b,o+1,none⟩:=by simp [Addr.add]
  have f:((c.toNat:Int)).toNat.toUInt8=c:=by simp
  rw [e,f,k];congr 1
  obtain⟨d⟩:=a;simp [ByteArray.push]
theorem sZ (h:Rd w F 1 A n (aF bs)) (p:n=bs.length):
  (Extern.Bytes.bytesOf (.slice A n c)).run P w= .ok ⟨bs.toArray⟩ w:=by
 cases A with
 |none=>
  have a:n=0:=by
   rcases Nat.eq_zero_or_pos n with a|a
   ·exact a
   ·obtain⟨_,_,e,_⟩:=h.2 a;cases e
  subst a;have:bs= []:=List.eq_nil_of_length_eq_zero p.symm;subst this;simp [Extern.Bytes.bytesOf]
  rfl
 |some f=>
  rcases Nat.eq_zero_or_pos n with a|a
  ·subst a;have:bs= []:=List.eq_nil_of_length_eq_zero p.symm;subst this;simp [Extern.Bytes.bytesOf,Extern.Bytes.loadBytes]
   rfl
  ·obtain⟨b,o,e,_,d⟩:=h.2 a;injection e with e
   subst e;subst p;simp only [Extern.Bytes.bytesOf];rw [run_loadBytes w b bs o .empty d]
   have e:ByteArray.empty.data++bs.toArray=bs.toArray:=by
    show #[]++bs.toArray=bs.toArray;simp
   rw [e]
theorem qg {d:Nat} (h:Rd w F 1 A n (aF xs)) (t:n=xs.length) (k:Rd w G 1 B m (aF b)) (p:m=b.length):
  (Extern.BytealgCompare.compare #[.slice A n c,.slice B m d]).run P w= .ok (.int .i64 (Lib.compareBytes xs b)) w:=by
 change Sem.run P (do pure (goInt (Extern.BytealgCompare.cmp (<-Extern.Bytes.bytesOf (.slice A n c)) (<-Extern.Bytes.bytesOf (.slice B m d))))) w=_
 simp only [Sem.run_bind,Sem.run_pure,sZ h t,sZ k p,Result.andThen];rw [Lib.cmp_eq];rfl
section
section
variable {P:Program} {ops:Array Oper} {Q:Exit->Act->World->Prop} {md:Region.Mode} {S:World->Prop} {b:Nat}
def BU (P:Program) (md:Region.Mode) (ops:Array Oper) (Q:Exit->Act->World->Prop) (S:World->Prop) (b:Nat):Nat->Array Bool->Act->World->Prop
 |0,c,a,w=>Region.ready md ops c= []/\Q .normal a w
 |f+1,c,a,w=>
  (Region.ready md ops c= []->Q .normal a w)/\
  ∀i∈Region.ready md ops c,wpOp P ops Q i (fun d w'=>((c.setIfInBounds i true).getD b true=false->S w')/\BU P md ops Q S b f (c.setIfInBounds i true) d w') a w
theorem xw:∀(f:Nat) (c:Array Bool) (a:Act) (w:World),BU P md ops Q S b f c a w->wpAny P md ops Q f c a w
 |0,_,_,_,h=>h
 |f+1,_,_,_,h=>⟨h.1,fun i hi=>wpOp_mono (fun d w' e=>xw f _ d w' e.2) (h.2 i hi)⟩
def waits (md:Region.Mode) (ops:Array Oper) (b i:Nat):Bool:=
 match ops[b]? with
 |some o=>o.after.any fun e=>Region.binds md e&&e.on==i
 |none=>false
theorem Ho {i:Nat} (h:waits md ops b i=true) {p:Array Bool} (hi:p.getD i true=false):b∉Region.ready md ops p:=by
 intro f;obtain⟨_,o,j,c⟩:=mem_ready.1 f;unfold waits at h;rw [j] at h;obtain⟨e,g,d⟩:=Array.any_eq_true'.1 h;simp only [Bool.and_eq_true,beq_iff_eq] at d;have a:=c e g d.1;rw [d.2] at a
 rcases Nat.lt_or_ge i p.size with hl|hl
 ·simp [hl] at a hi;rw [hi] at a;cases a
 ·simp [Array.getElem?_eq_none hl] at a
theorem dC {l:Array Bool} {i j:Nat} (h:i≠j):(l.setIfInBounds i true).getD j true=l.getD j true:=by
 simp only [Array.getD_eq_getD_getElem?,Array.getElem?_setIfInBounds,if_neg h]
theorem Lj {i:Nat} {oi:Oper} {v:Value} (hi:ops[i]? =some oi) (p:∀(j:Nat) (o:Oper) cs c,ops[j]? =some o->o.op≠ .select cs c)
  (V:∀c a w,Q (.panic c) (a.put oi.dst v) w->Q (.panic c) a w) (O:i≠b) (X:waits md ops b i=true):
  ∀(f:Nat) (d:Array Bool) (a:Act) (w:World),
   (∀j u,ops[j]? =some u->j≠i->d.getD j true=false->(∀e∈u.after,Region.binds md e=true->e.on≠i)->oi.apart ops u=true)->
   i∈Region.ready md ops d->d.getD b true=false->YieldsIf P ops S oi v a->S w->
   BU P md ops Q S b f (d.setIfInBounds i true) (a.put oi.dst v) w->BU P md ops Q S b (f+1) d a w:=by
 intro f
 induction f with
 |zero=>
  intro d a w _ t _ J x H;refine⟨fun h=>(by rw [h] at t;cases t),fun j A=> ?_⟩
  by_cases g:j=i
  ·subst g;exact J.wpOp hi x ⟨fun _=>x,H⟩
  ·have I:=ready_mono A g;rw [H.1] at I
   cases I
 |succ f Y=>
  intro d a w l t R J x H;refine⟨fun h=>(by rw [h] at t;cases t),fun j A=> ?_⟩
  by_cases g:j=i
  ·subst g;exact J.wpOp hi x ⟨fun _=>x,H⟩
  ·have I:=H.2 j (ready_mono A g);have r:=(mem_ready.1 t).1;have B:j≠b:=fun e=>Ho X r (e▸A);obtain⟨n,u,s,z⟩:=mem_ready.1 A
   have F:∀e∈u.after,Region.binds md e=true->e.on≠i:=by
    intro e W L N;have q:=z e W L;rw [N] at q
    rcases Nat.lt_or_ge i d.size with hl|hl
    ·simp [hl] at q r;rw [r] at q;cases q
    ·simp [Array.getElem?_eq_none hl] at q
   have q:=wpOp_putIf s (l j u s g n F) (fun cs c=>p i oi cs c hi) (fun cs c=>p j u cs c s) V J I;have M:(d.setIfInBounds j true).getD b true=false:=by rw [dC B];exact R
   have m:∀k ok,ops[k]? =some ok->k≠i->(d.setIfInBounds j true).getD k true=false->(∀e∈ok.after,Region.binds md e=true->e.on≠i)->oi.apart ops ok=true:=by
    intro k ok T D G E
    by_cases C:j=k
    ·subst C;exact l _ ok T D n E
    ·rw [dC C] at G;exact l k ok T D G E
   refine wpOp_mono (fun U w' K=> ?_) q;have y:S w':=K.2.1 (by rw [dC B,dC O];exact R);refine⟨fun _=>y,Y (d.setIfInBounds j true) U w' m (ready_mono t (Ne.symm g)) M K.1 y ?_⟩;rw [Array.setIfInBounds_comm _ _ g];exact K.2.2
theorem nI {i:Nat} {e:Oper} {v:Value} {f:Nat} {p:Array Bool} {a:Act} {w:World} (hi:ops[i]? =some e)
  (l:Region.noSelect ops=true) (j:Region.free md ops p i=true) (k:(Region.ready md ops p).contains i=true) (d:(i !=b&&waits md ops b i&& !(p.getD b true))=true)
  (g:∀c a w,Q (.panic c) (a.put e.dst v) w->Q (.panic c) a w) (hS:S w) (m:YieldsIf P ops S e v a)
  (h:BU P md ops Q S b f (p.setIfInBounds i true) (a.put e.dst v) w):BU P md ops Q S b (f+1) p a w:=by
 simp only [Bool.and_eq_true,bne_iff_ne,Bool.not_eq_true'] at d;exact Lj hi (Region.noSelect_spec l) g d.1.1 d.1.2 f p a w (Region.free_spec hi j) (by simpa using k) d.2 m hS h
theorem Hq {i:Nat} {oi:Oper} {v:Value} (hi:ops[i]? =some oi) (p:∀(j:Nat) (o:Oper) cs c,ops[j]? =some o->o.op≠ .select cs c)
  (T:∀c a w,Q (.panic c) (a.put oi.dst v) w->Q (.panic c) a w) (s:i≠b):
  ∀(f:Nat) (d:Array Bool) (a:Act) (w:World),
   (∀j x,ops[j]? =some x->j≠i->d.getD j true=false->(∀e∈x.after,Region.binds md e=true->e.on≠i)->oi.apart ops x=true)->
   i∈Region.ready md ops d->YieldsIf P ops (fun _=>True) oi v a->(d.getD b true=false->S w)->
   BU P md ops Q S b f (d.setIfInBounds i true) (a.put oi.dst v) w->BU P md ops Q S b (f+1) d a w:=by
 intro f
 induction f with
 |zero=>
  intro d a w _ u J L H;refine⟨fun h=>(by rw [h] at u;cases u),fun j I=> ?_⟩
  by_cases g:j=i
  ·subst g;exact J.wpOp hi trivial ⟨fun r=>L (by rw [dC s] at r;exact r),H⟩
  ·have G:=ready_mono I g;rw [H.1] at G
   cases G
 |succ f V=>
  intro d a w l u J L H;refine⟨fun h=>(by rw [h] at u;cases u),fun j I=> ?_⟩
  by_cases g:j=i
  ·subst g;exact J.wpOp hi trivial ⟨fun r=>L (by rw [dC s] at r;exact r),H⟩
  ·have G:=H.2 j (ready_mono I g);have A:=(mem_ready.1 u).1;obtain⟨n,x,t,z⟩:=mem_ready.1 I
   have E:∀e∈x.after,Region.binds md e=true->e.on≠i:=by
    intro e U M N;have q:=z e U M;rw [N] at q
    rcases Nat.lt_or_ge i d.size with hl|hl
    ·simp [hl] at q A;rw [A] at q;cases q
    ·simp [Array.getElem?_eq_none hl] at q
   have q:=wpOp_putIf t (l j x t g n E) (fun cs c=>p i oi cs c hi) (fun cs c=>p j x cs c t) T J G
   have m:∀k ok,ops[k]? =some ok->k≠i->(d.setIfInBounds j true).getD k true=false->(∀e∈ok.after,Region.binds md e=true->e.on≠i)->oi.apart ops ok=true:=by
    intro k ok O C F D
    by_cases B:j=k
    ·subst B;exact l _ ok O C n D
    ·rw [dC B] at F;exact l k ok O C F D
   refine wpOp_mono (fun R w' K=> ?_) q
   have y:(d.setIfInBounds j true).getD b true=false->S w':=fun r=>K.2.1 (by
    rw [Array.setIfInBounds_comm _ _ (Ne.symm g),dC s];exact r)
   refine⟨y,V (d.setIfInBounds j true) R w' m (ready_mono u (Ne.symm g)) K.1 y ?_⟩;rw [Array.setIfInBounds_comm _ _ g];exact K.2.2
theorem dh {i:Nat} {e:Oper} {v:Value} {f:Nat} {p:Array Bool} {a:Act} {w:World} (hi:ops[i]? =some e)
  (l:Region.noSelect ops=true) (j:Region.free md ops p i=true) (k:(Region.ready md ops p).contains i=true) (m:(i !=b)=true)
  (d:∀c a w,Q (.panic c) (a.put e.dst v) w->Q (.panic c) a w) (g:p.getD b true=false->S w) (n:YieldsIf P ops (fun _=>True) e v a)
  (h:BU P md ops Q S b f (p.setIfInBounds i true) (a.put e.dst v) w):BU P md ops Q S b (f+1) p a w:=
 Hq hi (Region.noSelect_spec l) d (by simpa using m) f p a w (Region.free_spec hi j) (by simpa using k) n g h
theorem aH {i:Nat} {o:Oper} {f:Nat} {p:Array Bool} {a:Act} {w:World} (g:Region.ready md ops p= [i]) (n:ops[i]? =some o)
  (h:∀c:Act->World->Prop,Hid (∀a w,((p.setIfInBounds i true).getD b true=false->S w)->BU P md ops Q S b f (p.setIfInBounds i true) a w->c a w)->
   if Region.wanted o (yielded ops a.tmps)=true then Oper.wp P o a w c Q else c (a.put o.dst undef) w):BU P md ops Q S b (f+1) p a w:=by
 refine⟨fun d=>(by rw [g] at d;cases d),fun j e=> ?_⟩;rw [g] at e;obtain rfl:j=i:=by simpa using e
 exact wpOp_step n (fun c k=>h c (fun a w l m=>k a w ⟨l,m⟩))
theorem bS {p:Array Bool} {a:Act} {w:World} (c:Region.ready md ops p= []) (h:Q .normal a w):∀f,BU P md ops Q S b f p a w
 |0=>⟨c,h⟩
 |_+1=>⟨fun _=>h,by rw [c];simp⟩
theorem aS {id:Nat} {a:Act} {w:World} (S:World->Prop) (b:Nat) (c:P.follows .mixedOrders=true)
  (h:BU P .any ops Q S b ops.size (Array.replicate ops.size false) a w.drew):(Code.region id ops true).wp P Q a w:=
 wp_region_any c (xw _ _ _ _ h)
theorem aL (l:List Value) (n:List Deferred) (d:Nat) (v:Value):Act.put ⟨l.toArray,n⟩ (some d) v=⟨(l.set d v).toArray,n⟩:=by simp [Act.put]
theorem aN (a:Act) (v:Value):a.put none v=a:=rfl
theorem aZ (x y:Value) (l:List Value):(x::l).set 0 y=y::l:=rfl
theorem aC (x y:Value) (l:List Value) (n:Nat):(x::l).set (n+1) y=x::l.set n y:=rfl
theorem uT (i:Nat) {l g:List Value} {n:List Deferred} {d:Nat} {v:Value} {e:Oper} {f:Nat} {p:Array Bool} {w:World} (hS:S w) (h:BU P md ops Q S b f (p.setIfInBounds i true) ⟨g.toArray,n⟩ w)
  (hi:ops[i]? =some e:=by rfl) (k:e.dst=some d:=by rfl) (t:∀w,S w->(execOp (Act.eval ⟨l.toArray,n⟩) e).run P w= .ok (.value v) w:=by intro w hSw;(repeat rcases hSw with⟨_,hSw⟩);go_simp;try with_reducible rfl) (hl:l.set d v=g:=by(try simp only [aZ,aC]);try rfl) (r:Region.noSelect ops=true:=by kernel_rfl) (m:Region.free md ops p i=true:=by kernel_rfl)
  (q:(Region.ready md ops p).contains i=true:=by kernel_rfl) (s:(i !=b&&waits md ops b i&& !(p.getD b true))=true:=by kernel_rfl) (o:Region.wanted e (yielded ops l.toArray)=true:=by kernel_rfl)
  (j:∀c a w,Q (.panic c) (a.put e.dst v) w->Q (.panic c) a w:=by first|exact fun _ _ _ h=>h|exact fun c a w h=>mQ c _ a w h):BU P md ops Q S b (f+1) p ⟨l.toArray,n⟩ w:=by
 refine nI hi r m q s j hS (Or.inl ⟨o,t⟩) ?_;rw [k,aL,hl];exact h
theorem uF (i:Nat) {l g:List Value} {n:List Deferred} {d:Nat} {v:Value} {e:Oper} {f:Nat} {p:Array Bool} {w:World} (k:p.getD b true=false->S w) (h:BU P md ops Q S b f (p.setIfInBounds i true) ⟨g.toArray,n⟩ w)
  (hi:ops[i]? =some e:=by rfl) (m:e.dst=some d:=by rfl) (u:∀w,True->(execOp (Act.eval ⟨l.toArray,n⟩) e).run P w= .ok (.value v) w:=by intro w hSw;(repeat rcases hSw with⟨_,hSw⟩);go_simp;try with_reducible rfl) (hl:l.set d v=g:=by(try simp only [aZ,aC]);try rfl) (s:Region.noSelect ops=true:=by kernel_rfl) (o:Region.free md ops p i=true:=by kernel_rfl)
  (r:(Region.ready md ops p).contains i=true:=by kernel_rfl) (t:(i !=b)=true:=by kernel_rfl) (q:Region.wanted e (yielded ops l.toArray)=true:=by kernel_rfl)
  (j:∀c a w,Q (.panic c) (a.put e.dst v) w->Q (.panic c) a w:=by first|exact fun _ _ _ h=>h|exact fun c a w h=>mQ c _ a w h):BU P md ops Q S b (f+1) p ⟨l.toArray,n⟩ w:=by
 refine dh hi s o r t j k (Or.inl ⟨q,u⟩) ?_;rw [m,aL,hl];exact h
end
end
theorem sO (b o:Nat) (x:Int) (w:World) (h:w.cell? ⟨b,o,none⟩=some (.int .u64 x)):
  Calls prog 121 #[.pointer (some ⟨b,o,none⟩)] w fun e w'=>e= .returned (.int .u64 x)/\w=w':=by
 have hl:=run_call_load (P:=prog) func156 (by kernel_rfl) (by kernel_rfl) (by kernel_rfl) .u64 (by kernel_rfl) h;go_enter func121,ntmps121
 go_wp2;go_ret
 exact⟨rfl,rfl⟩
theorem Cm (b o:Nat) (x:Int) (w:World) (h:w.cell? ⟨b,o,none⟩=some (.int .i64 x)):
  Calls prog 86 #[.pointer (some ⟨b,o,none⟩)] w fun e w'=>e= .returned (.int .i64 x)/\w=w':=by
 have hl:=run_call_load (P:=prog) func130 (by kernel_rfl) (by kernel_rfl) (by kernel_rfl) .i64 (by kernel_rfl) h;go_enter func86,ntmps86
 go_wp2;go_ret
 exact⟨rfl,rfl⟩
theorem zP (b o:Nat) (u:Value) (y:Int) (w:World) (h:w.cell? ⟨b,o,none⟩=some u) (a:w.frozen? ⟨b,o,none⟩=false):
  Calls prog 197 #[.pointer (some ⟨b,o,none⟩),.int .u64 y] w fun e w'=>e= .returned (.tuple #[])/\w.setCell ⟨b,o,none⟩ (.int .u64 y)=w':=by
 have hl:=run_call_store (P:=prog) func208 (by kernel_rfl) (by kernel_rfl) (by kernel_rfl) (by kernel_rfl) (k:= .u64) (y:=y) h a;go_enter func197,ntmps197
 go_wp2;go_end0
 exact⟨rfl,rfl⟩
theorem zQ (b o:Nat) (u:Value) (y:Int) (w:World) (h:w.cell? ⟨b,o,none⟩=some u) (a:w.frozen? ⟨b,o,none⟩=false):
  Calls prog 142 #[.pointer (some ⟨b,o,none⟩),.int .i64 y] w fun e w'=>e= .returned (.tuple #[])/\w.setCell ⟨b,o,none⟩ (.int .i64 y)=w':=by
 have hl:=run_call_store (P:=prog) func176 (by kernel_rfl) (by kernel_rfl) (by kernel_rfl) (by kernel_rfl) (k:= .i64) (y:=y) h a;go_enter func142,ntmps142
 go_wp2;go_end0
 exact⟨rfl,rfl⟩
theorem EM (b o:Nat) (x y:Int) (w:World) (h:w.cell? ⟨b,o,none⟩=some (.int .u64 x)) (c:w.frozen? ⟨b,o,none⟩=false):
  Calls prog 199 #[.pointer (some ⟨b,o,none⟩),.int .u64 y] w fun e w'=>e= .returned (.int .u64 (IntKind.u64.wrap (x+y)))/\w.setCell ⟨b,o,none⟩ (.int .u64 (IntKind.u64.wrap (x+y)))=w':=by
 obtain⟨s,a⟩:∃s,s=IntKind.u64.wrap (x+y):=⟨_,rfl⟩;rw [<-a];have hl:=run_call_add (P:=prog) func209 (by kernel_rfl) (by kernel_rfl) (by kernel_rfl) .u64 (by kernel_rfl) (x:=x) (y:=y) (s:=s) h c (by rw [a];rfl);clear a;go_enter func199,ntmps199
 go_wp2;go_ret
 exact⟨rfl,rfl⟩
theorem EL (b o:Nat) (x z:Int) (w:World) (h:w.cell? ⟨b,o,none⟩=some (.int .u64 x)) (a:w.frozen? ⟨b,o,none⟩=false):
  Calls prog 196 #[.pointer (some ⟨b,o,none⟩),.int .u64 x,.int .u64 z] w fun e w'=>e= .returned (.bool true)/\w.setCell ⟨b,o,none⟩ (.int .u64 z)=w':=by
 have hl:=run_call_cas_hit (P:=prog) func207 (by kernel_rfl) (by kernel_rfl) (by kernel_rfl) .u64 (by kernel_rfl) (y:=z) h a;go_enter func196,ntmps196
 go_wp2;go_ret
 exact⟨rfl,rfl⟩
theorem EN (b o:Nat) (x z:Int) (w:World) (h:w.cell? ⟨b,o,none⟩=some (.int .i64 x)) (a:w.frozen? ⟨b,o,none⟩=false):
  Calls prog 147 #[.pointer (some ⟨b,o,none⟩),.int .i64 x,.int .i64 z] w fun e w'=>e= .returned (.bool true)/\w.setCell ⟨b,o,none⟩ (.int .i64 z)=w':=by
 have hl:=run_call_cas_hit (P:=prog) func183 (by kernel_rfl) (by kernel_rfl) (by kernel_rfl) .i64 (by kernel_rfl) (y:=z) h a;go_enter func147,ntmps147
 go_wp2;go_ret
 exact⟨rfl,rfl⟩
theorem dE (A B:Option Addr) (n m c d:Nat) (F G:Nat->Prop) (xs b:List UInt8) (w:World) (h:Rd w F 1 A n (aF xs)) (t:n=xs.length) (k:Rd w G 1 B m (aF b)) (p:m=b.length):
  Calls prog 56 #[.slice A n c,.slice B m d] w fun e w'=>e= .returned (.int .i64 (Lib.compareBytes xs b))/\w=w':=by
 have hl:(callFunc 99 #[.slice A n c,.slice B m d]).run prog w= .ok (.value (.int .i64 (Lib.compareBytes xs b))) w:=by
  rw [run_callFunc_extern func99 (by kernel_rfl) (by kernel_rfl) (by kernel_rfl) (e:=Extern.BytealgCompare.compare) (by kernel_rfl),qg h t k p];rfl
 clear h k t p;go_enter func56,ntmps56
 go_wp2;go_ret
 exact⟨rfl,rfl⟩
abbrev aK:=List UInt8×List UInt8
def mD (k:List UInt8):Int:=if 1<=k.length/\k.length<=64 then 0 else 3
def ul (v:List UInt8):Int:=if v.length<=256 then 0 else 3
def ic (e:aK):Int:=if 1<=e.1.length/\e.1.length<=64/\e.2.length<=256 then 0 else 3
theorem wM (k:List UInt8):mD k=0\/mD k=3:=by unfold mD;split<;>simp
theorem wN (k:List UInt8):ul k=0\/ul k=3:=by unfold ul;split<;>simp
theorem o9 (e:aK):ic e=0\/ic e=3:=by unfold ic;split<;>simp
theorem wO (e:aK):max (mD e.1) (ul e.2)=ic e:=by
 unfold mD ul ic
 by_cases a:1<=e.1.length/\e.1.length<=64<;>by_cases b:e.2.length<=256
 ·rw [if_pos a,if_pos b,if_pos ⟨a.1,a.2,b⟩];rfl
 ·rw [if_pos a,if_neg b,if_neg (fun h=>b h.2.2)];rfl
 ·rw [if_neg a,if_pos b,if_neg (fun h=>a ⟨h.1,h.2.1⟩)];rfl
 ·rw [if_neg a,if_neg b,if_neg (fun h=>b h.2.2)];rfl
theorem On {e:aK} (h:mD e.1≠0):ic e=mD e.1:=by
 have:=wO e
 rcases wM e.1 with a|a
 ·exact absurd a h
 ·rcases wN e.2 with hv|hv<;>rw [a,hv] at this<;>rw [a,<-this]<;>rfl
theorem Oo {e:aK} (h:mD e.1=0):ic e=ul e.2:=by
 have:=wO e;rw [h] at this;rcases wN e.2 with hv|hv<;>rw [hv] at this<;>rw [hv,<-this]<;>rfl
def comm:List UInt8->List UInt8->Nat
 |x::xs,y::a=>if x=y then comm xs a+1 else 0
 |_,_=>0
theorem jf:∀(a b:List UInt8),comm a b<=a.length/\comm a b<=b.length
 | [],_=>by simp [comm]
 |_::_,[]=>by simp [comm]
 |x::xs,y::c=>by
  have:=jf xs c;unfold comm;split<;>simp<;>omega
theorem sH:∀(a b:List UInt8) (k:Nat),k<comm a b->a[k]? =b[k]?
 | [],_,k,h=>by simp [comm] at h
 |_::_,[],k,h=>by simp [comm] at h
 |x::xs,y::c,k,h=>by
  unfold comm at h
  split at h
  ·rename_i e;subst e
   cases k with
   |zero=>rfl
   |succ k=>simpa using sH xs c k (by omega)
  ·omega
theorem l5:∀(a b:List UInt8),comm a b<a.length->comm a b<b.length->a[comm a b]?≠b[comm a b]?
 | [],_,h,_=>by simp [comm] at h
 |_::_,[],_,h=>by simp [comm] at h
 |x::xs,y::f,c,d=>by
  unfold comm at c d|-
  by_cases e:x=y
  ·simp only [e,if_true,List.length_cons] at c d|-
   simpa using l5 xs f (by omega) (by omega)
  ·simp [e]
theorem iI (a b:List UInt8) (n:Nat) (h:∀k,k<n->a[k]? =b[k]?) (e:n<=a.length) (f:n<=b.length) (d:n=a.length\/n=b.length\/a[n]?≠b[n]?):n=comm a b:=by
 rcases Nat.lt_trichotomy n (comm a b) with c|c|c
 ·have hl:=jf a b
  rcases d with d|d|d
  ·omega
  ·omega
  ·exact absurd (sH a b n c) d
 ·exact c
 ·exact absurd (h _ c) (l5 a b (by omega) (by omega))
theorem oL:∀(a b:List UInt8),compareBytes a b= -1\/compareBytes a b=0\/compareBytes a b=1
 | [],[]=>by simp [compareBytes]
 | [],_::_=>by simp [compareBytes]
 |_::_,[]=>by simp [compareBytes]
 |x::xs,y::c=>by
  unfold compareBytes
  split
  ·simp
  ·split
   ·simp
   ·exact oL xs c
def Aw (a b:List UInt8):Int:=
 if comm a b=a.length/\comm a b=b.length then 0
 else if comm a b=a.length then-1
 else if comm a b=b.length then 1
 else if a.getD (comm a b) 0<b.getD (comm a b) 0 then-1 else 1
theorem Au:∀(a b:List UInt8),compareBytes a b=Aw a b
 | [],[]=>by simp [compareBytes,Aw,comm]
 | [],_::_=>by simp [compareBytes,Aw,comm]
 |_::_,[]=>by simp [compareBytes,Aw,comm]
 |x::xs,y::d=>by
  have g:=Au xs d;unfold compareBytes
  by_cases e:x=y
  ·subst e;have c:¬x<x:=UInt8.lt_irrefl x;rw [if_neg c,if_neg c,g];unfold Aw
   simp only [comm,if_true,List.length_cons,Nat.add_right_cancel_iff,List.getD_cons_succ]
  ·have f:comm (x::xs) (y::d)=0:=by simp [comm,e]
   have hv:Aw (x::xs) (y::d)=if x<y then-1 else 1:=by
    unfold Aw;rw [f];simp
   rw [hv]
   by_cases c:x<y
   ·rw [if_pos c,if_pos c]
   ·have:y<x:=UInt8.lt_of_le_of_ne (UInt8.not_lt.1 c) (Ne.symm e);rw [if_neg c,if_neg c,if_pos this]
theorem gP (a b:List UInt8):compareBytes a b<0↔(comm a b<b.length/\(comm a b=a.length\/a.getD (comm a b) 0<b.getD (comm a b) 0)):=by
 have hl:=jf a b;rw [Au];unfold Aw
 by_cases c:comm a b=a.length
 ·by_cases d:comm a b=b.length
  ·rw [if_pos ⟨c,d⟩];simp;omega
  ·rw [if_neg (fun h=>d h.2),if_pos c];simp [c];omega
 ·rw [if_neg (fun h=>c h.1),if_neg c]
  by_cases d:comm a b=b.length
  ·rw [if_pos d];simp;omega
  ·rw [if_neg d]
   by_cases e:a.getD (comm a b) 0<b.getD (comm a b) 0
   ·rw [if_pos e];simp only [show(-1:Int)<0 by omega,true_iff];exact⟨by omega,.inr e⟩
   ·rw [if_neg e];simp only [show¬(1:Int)<0 by omega,false_iff];rintro⟨_,h|h⟩<;>contradiction
theorem getD_take (l:List UInt8) (n k:Nat) (h:k<n):(l.take n).getD k 0=l.getD k 0:=by
 simp [List.getD,h]
theorem Kn (a b:List UInt8) (n:Nat) (e:n<=b.length):comm a (b.take n)=min n (comm a b):=by
 have hl:=jf a b
 symm
 refine iI a (b.take n) _ (fun k d=> ?_) (by omega) (by simp;omega) ?_
 ·rw [List.getElem?_take,if_pos (by omega)]
  exact sH a b k (by omega)
 ·rcases Nat.lt_or_ge (comm a b) n with h|h
  ·rw [Nat.min_eq_right (by omega)]
   by_cases c:comm a b=a.length
   ·exact .inl c
   ·refine .inr (.inr ?_);rw [List.getElem?_take,if_pos h]
    exact l5 a b (by omega) (by omega)
  ·rw [Nat.min_eq_left h];exact .inr (.inl (by simp;omega))
theorem xL (g:n<=b.length):compareBytes a (b.take n)<0↔(compareBytes a b<0/\comm a b<n):=by
 have hl:=jf a b;have f:=Kn a b n g;rw [gP,gP,f,List.length_take]
 rcases Nat.lt_or_ge (comm a b) n with h|h
 ·have e:min n (comm a b)=comm a b:=by omega
  rw [e,getD_take _ _ _ h]
  constructor
  ·rintro⟨c,d⟩;exact⟨⟨by omega,d⟩,h⟩
  ·rintro⟨⟨c,d⟩,_⟩;exact⟨by omega,d⟩
 ·constructor
  ·rintro⟨c,_⟩;omega
  ·rintro⟨_,c⟩;omega
def oz (a b:List UInt8):List UInt8×Int:=if compareBytes a b<0 then(b.take (comm a b+1),0) else([],51)
def eP (l:List aK) (i:Nat):Int:=
 if ic (l.getD i ([],[]))≠0 then ic (l.getD i ([],[]))
 else if 0<i/\0<=compareBytes (l.getD (i-1) ([],[])).1 (l.getD i ([],[])).1 then 51 else 0
def dS (l:List aK):Int×Int:=
 match (List.range l.length).find? (fun i=>eP l i !=0) with
 |some i=>((i:Int),eP l i)
 |none=>(0,0)
theorem um (hi:i<n) (h:∀j,j<i->p j=false) (b:p i=true):(List.range n).find? p=some i:=by
 rw [List.find?_range_eq_some];exact⟨b,by simpa using hi,fun j a=>by simp [h j a]⟩
theorem uo (h:∀j,j<n->p j=false):(List.range n).find? p=none:=by
 rw [List.find?_eq_none];intro j a;simp [h j (by simpa using a)]
theorem sorted_at {l:List aK} (hi:i<l.length) (h:∀j,j<i->eP l j=0) (a:eP l i≠0):dS l=((i:Int),eP l i):=by
 unfold dS;rw [um (i:=i) hi (fun j b=>by simp [h j b]) (by simpa using a)]
theorem zu {l:List aK} (h:∀j,j<l.length->eP l j=0):dS l=(0,0):=by
 unfold dS;rw [uo (fun j a=>by simp [h j a])]
def bH (l:List aK):Prop:=∀j,j<l.length->eP l j=0
theorem uM (l:List aK):(dS l).2=0↔bH l:=by
 constructor
 ·intro h j a;unfold dS at h
  cases hf:(List.range l.length).find? (fun i=>eP l i !=0) with
  |none=>
   have:=(List.find?_eq_none.1 hf) j (by simpa using a)
   simpa using this
  |some i=>
   rw [hf] at h;have:=List.find?_some hf;simp only at h
   simp [h] at this
 ·intro h;rw [zu h]
theorem Ko {l:List aK} {e:aK} (b:l[i]? =some e) (h:ic e≠0):eP l i=ic e:=by
 have a:l.getD i ([],[])=e:=by simp [List.getD,b]
 unfold eP;rw [a,if_pos h]
theorem DT {l:List aK} {d e:aK} (g:l[i]? =some e) (f:l[i-1]? =some d) (h:ic e=0) (hi:0<i) (c:0<=compareBytes d.1 e.1):eP l i=51:=by
 have a:l.getD i ([],[])=e:=by simp [List.getD,g]
 have b:l.getD (i-1) ([],[])=d:=by simp [List.getD,f]
 unfold eP;rw [a,b,if_neg (by simpa using h),if_pos ⟨hi,c⟩]
theorem tJ {l:List aK} {e:aK} (b:l[0]? =some e) (h:ic e=0):eP l 0=0:=by
 have a:l.getD 0 ([],[])=e:=by simp [List.getD,b]
 unfold eP;rw [a,if_neg (by simpa using h),if_neg (fun h=>by omega)]
theorem wP {l:List aK} {d e:aK} (f:l[i]? =some e) (c:l[i-1]? =some d) (h:ic e=0) (g:compareBytes d.1 e.1<0):eP l i=0:=by
 have a:l.getD i ([],[])=e:=by simp [List.getD,f]
 have b:l.getD (i-1) ([],[])=d:=by simp [List.getD,c]
 unfold eP;rw [a,b,if_neg (by simpa using h),if_neg (fun h=>by omega)]
end Go.Proofs.YtepgcjbhabnciaaGreat
