/- Part 44. -/
import Derived.Test.YtepgcjbhabnciaaGreatLe04
import Derived.Test.YtepgcjbhabnciaaGreatLe38
namespace Go.Proofs.YtepgcjbhabnciaaGreat
set_option maxRecDepth 100000
set_option maxHeartbeats 8000000
open Go.RowKit Go.Proofs.Tryz
open Go.Lib (compareBytes)
open Go.RowKit Go.Maps
variable {b k inn L q n j:Nat} {root nd lf:Int} {d N:Nat->Nat} {w:World} {sl:List bR} {X:Nat->Nat->Nd}
section
section
variable (fill inn:Nat) (l:List aK)
def nL:Nat->Nat
 |0=>pn l.length fill
 |k+1=>pn (nL k) inn
def dL:Nat->Nat
 |0=>0
 |k+1=>dL k+nL fill inn l k
def hL:Nat->Nat->List UInt8
 |0=>iX fill l
 |k+1=>Es inn (uk (dL fill inn l k) (nL fill inn l k) (hL k))
def sL:Nat->Nat->bR
 |0=>kT fill l (nL fill inn l 0)
 |k+1=>iU inn ((k:Int)+1) (uk (dL fill inn l k) (nL fill inn l k) (hL fill inn l k)) (dL fill inn l (k+1)) (nL fill inn l (k+1))
def flat:Nat->List bR
 |0=> []
 |k+1=>flat k++(List.range (nL fill inn l k)).map (sL fill inn l k)
end
section
variable {fill inn:Nat} {l:List aK}
theorem nH (k:Nat):(flat fill inn l k).length=dL fill inn l k:=by
 induction k with
 |zero=>rfl
 |succ k a=>rw [flat,List.length_append,a,List.length_map,List.length_range,dL]
theorem jy (w:1<=fill) (hi:1<=inn) (k:Nat):1<=nL fill inn l k:=by
 cases k with
 |zero=>exact pJ _ _ w
 |succ k=>exact pJ _ _ hi
theorem ID {j k:Nat} (h:j<=k):dL fill inn l j<=dL fill inn l k:=by
 induction k with
 |zero=>
  have:j=0:=by omega
  subst this;exact Nat.le_refl _
 |succ k b=>
  rcases Nat.lt_or_ge k j with a|a
  ·have:j=k+1:=by omega
   subst this;exact Nat.le_refl _
  ·exact Nat.le_trans (b a) (by rw [dL];omega)
theorem QM (k:Nat):∀j i,j<k->i<nL fill inn l j->(flat fill inn l k)[dL fill inn l j+i]? =some (sL fill inn l j i):=by
 induction k with
 |zero=>intro j i h;omega
 |succ k b=>
  intro j i c hi;rw [flat]
  rcases Nat.lt_or_ge j k with h|h
  ·have a:dL fill inn l (j+1)<=dL fill inn l k:=ID h;rw [dL] at a;rw [List.getElem?_append_left (by rw [nH];omega)]
   exact b j i h hi
  ·have:j=k:=by omega
   subst this;rw [List.getElem?_append_right (by rw [nH];omega),nH,show dL fill inn l j+i-dL fill inn l j=i by omega,List.getElem?_map,List.getElem?_range hi];rfl
theorem NI {nd:Int} (w:1<=fill) (hi:1<=inn):∀(f k:Nat),(lv nd inn f (nL fill inn l k) (dL fill inn l k)).2=0->
  ∃L,k<=L/\L<k+f/\nL fill inn l L=1/\(∀j,k<=j->j<L->1<nL fill inn l j)/\EC inn f ((k:Int)+1) (flat fill inn l (k+1)) (uk (dL fill inn l k) (nL fill inn l k) (hL fill inn l k))=(flat fill inn l (L+1),uk (dL fill inn l L) (nL fill inn l L) (hL fill inn l L))/\
   (lv nd inn f (nL fill inn l k) (dL fill inn l k)).1=(dL fill inn l (L+1):Int)/\(dL fill inn l (L+1):Int)<=nd:=by
 intro f
 induction f with
 |zero=>intro k h;simp [lv] at h
 |succ f r=>
  intro k h
  have g:¬nd-(dL fill inn l k:Int)<(nL fill inn l k:Int):=by
   intro q;rw [ko q] at h;simp at h
  have s:=jy (l:=l) w hi k
  by_cases o:nL fill inn l k=1
  ·refine⟨k,Nat.le_refl _,by omega,o,fun j p m=>by omega,qo (by rw [qp];omega),?_,?_⟩
   ·rw [EQ g (by omega),dL]
    simp only [Int.natCast_add]
   ·rw [dL];omega
  ·have i:1<nL fill inn l k:=by omega
   rw [qw g (by omega),<-gU _ inn hi] at h|-;have e:(dL fill inn l k:Int)+(nL fill inn l k:Int)=(dL fill inn l (k+1):Int):=by rw [dL];simp only [Int.natCast_add]
   rw [e] at h|-;obtain⟨L,a,b,c,d,u,v,x⟩:=r (k+1) h
   refine⟨L,by omega,by omega,c,fun j p m=> ?_,?_,v,x⟩
   ·rcases Nat.lt_or_ge k j with n|n
    ·exact d j n m
    ·have:j=k:=by omega
     subst this;exact i
   ·rw [<-u,EC,if_pos (by rw [qp];exact i)];simp only [qp,nH];rfl
theorem tC {n m i:Nat} (b:1<=m) (c:1<=n):i<pn n m↔i*m<n:=by
 obtain⟨d,e⟩:=jl n m b c
 constructor
 ·intro h;have:(i+1)*m<=pn n m*m:=Nat.mul_le_mul_right m h;rw [Nat.add_mul] at this
  omega
 ·intro h
  rcases Nat.lt_or_ge i (pn n m) with a|a
  ·exact a
  ·have:pn n m*m<=i*m:=Nat.mul_le_mul_right m a;omega
theorem IE (m:Nat):pn 0 m=1:=by simp [pn,parts]
theorem vW (d M n s:Nat) (h:Nat->List UInt8):((uk d M h).drop s).take n=(List.range (min n (M-s))).map fun(j:Nat)=>((d:Int)+((s+j:Nat):Int)+1,h (s+j)):=by
 apply List.ext_getElem?;intro j;rw [List.getElem?_take,List.getElem?_map]
 by_cases a:j<n
 ·rw [if_pos a,List.getElem?_drop,uk,List.getElem?_map]
  by_cases b:s+j<M
  ·rw [List.getElem?_range b,List.getElem?_range (by omega)];rfl
  ·rw [List.getElem?_eq_none (by simpa using b),List.getElem?_eq_none (by simp;omega)];rfl
 ·rw [if_neg a,List.getElem?_eq_none (by simp;omega)];rfl
theorem FN {α:Type} (f:Nat->α) (m:Nat) (d:α) (a:1<=m):((List.range m).map f).getLastD d=f (m-1):=by
 obtain⟨m,rfl⟩:∃k,m=k+1:=⟨m-1,by omega⟩;rw [List.range_succ,List.map_append,List.map_singleton];simp
theorem FO {α:Type} (f:Nat->α) (m:Nat):((List.range m).map f).dropLast=(List.range (m-1)).map f:=by
 cases m with
 |zero=>rfl
 |succ m=>rw [List.range_succ,List.map_append,List.map_singleton,List.dropLast_concat];rfl
def mK (inn M i:Nat):Nat:=min inn (M-i*inn)
theorem FP {M i:Nat} (hi:1<=inn) (a:1<=M) (h:i<pn M inn):1<=mK inn M i:=by
 have:=(tC hi a).1 h;unfold mK;omega
theorem og {k i:Nat} (w:1<=fill) (hi:1<=inn) (h:i<nL fill inn l (k+1)):hL fill inn l (k+1) i=hL fill inn l k (i*inn+(mK inn (nL fill inn l k) i-1)):=by
 have a:=FP hi (jy (l:=l) w hi k) h;show Es inn (uk _ _ _) i=_;unfold Es ig;rw [vW];exact congrArg Prod.snd (FN _ _ _ a)
theorem kU (k i:Nat):(sL fill inn l (k+1) i).2.keys=(List.range (mK inn (nL fill inn l k) i-1)).map fun j=>hL fill inn l k (i*inn+j):=by
 show(ig inn (uk _ _ _) i).dropLast.map Prod.snd=_;unfold ig;rw [vW,FO,List.map_map];rfl
theorem oh (k i:Nat):(sL fill inn l (k+1) i).2.kids=(List.range (mK inn (nL fill inn l k) i)).map fun(j:Nat)=>(dL fill inn l k:Int)+((i*inn+j:Nat):Int)+1:=by
 show(ig inn (uk _ _ _) i).map Prod.fst=_;unfold ig;rw [vW,List.map_map];rfl
theorem qy (k i:Nat):(sL fill inn l k i).2.high=hL fill inn l k i:=by cases k<;>rfl
theorem vX (k i:Nat):(sL fill inn l k i).2.lev=(k:Int):=by cases k<;>rfl
theorem right_eq (k i:Nat):(sL fill inn l k i).2.right=if i+1<nL fill inn l k then(dL fill inn l k:Int)+(i:Int)+1+1 else 0:=by
 cases k with
 |zero=>show(if i+1<nL fill inn l 0 then(i:Int)+1+1 else 0)=_;simp only [dL];split<;>omega
 |succ k=>rfl
structure QN (fill inn:Nat) (l:List aK) (k:Nat):Prop where
 some_:∀i,i+1<nL fill inn l k->1<=(hL fill inn l k i).length/\(hL fill inn l k i).length<=64
 none_:∀i,i+1=nL fill inn l k->hL fill inn l k i= []
 up:∀i j,i<j->j+1<nL fill inn l k->zb (hL fill inn l k i) (hL fill inn l k j)
theorem rY {M i:Nat} (hi:1<=inn) (a:1<=M) (h:i<pn M inn):i*inn+(mK inn M i-1)+1=min ((i+1)*inn) M:=by
 have:=(tC hi a).1 h;rw [Nat.add_mul];unfold mK;omega
theorem QN.step {k:Nat} (w:1<=fill) (hi:1<=inn) (h:QN fill inn l k):QN fill inn l (k+1):=by
 have a:=jy (l:=l) w hi k;have e:nL fill inn l (k+1)=pn (nL fill inn l k) inn:=rfl;have q:∀i,i+1<nL fill inn l (k+1)->(i+1)*inn<nL fill inn l k:=fun i h=>(tC hi a).1 (by rw [<-e];exact h)
 refine⟨fun i b=> ?_,fun i b=> ?_,fun i j f g=> ?_⟩
 ·rw [og w hi (by omega)];have c:=rY (inn:=inn) hi a (i:=i) (by rw [<-e];omega);have d:=q i b
  exact h.some_ _ (by omega)
 ·rw [og w hi (by omega)];have c:=rY (inn:=inn) hi a (i:=i) (by rw [<-e];omega);have d:¬(i+1)*inn<nL fill inn l k:=fun m=>by have:=(tC hi a).2 m;rw [<-e] at this;omega
  exact h.none_ _ (by omega)
 ·rw [og w hi (by omega),og w hi (by omega)];have c:=rY (inn:=inn) hi a (i:=i) (by rw [<-e];omega);have d:=rY (inn:=inn) hi a (i:=j) (by rw [<-e];omega);have n:=q i (by omega);have o:=q j g;have p:(i+2)*inn<=(j+1)*inn:=Nat.mul_le_mul_right inn (by omega);have r:(i+2)*inn=(i+1)*inn+inn:=by rw [show i+2=(i+1)+1 by omega,Nat.add_mul (i+1),Nat.one_mul]
  refine h.up _ _ (by omega) (by omega)
theorem ol (h:bH l):∀(d i:Nat),i+d+1<l.length->zb (l.getD i ([],[])).1 (l.getD (i+d+1) ([],[])).1:=by
 have one:∀i,i+1<l.length->zb (l.getD i ([],[])).1 (l.getD (i+1) ([],[])).1:=by
  intro i hi;have:=h (i+1) hi;unfold eP at this
  split at this
  ·contradiction
  ·split at this
   ·simp at this
   ·rename_i a;simp only [Nat.succ_pos,true_and,Nat.add_sub_cancel,Int.not_le] at a;exact a
 intro d
 induction d with
 |zero=>intro i hi;exact one i hi
 |succ d b=>intro i hi;exact(b i (by omega)).trans (one (i+d+1) (by omega))
theorem pK (h:bH l) {i:Nat} (hi:i<l.length):1<=(l.getD i ([],[])).1.length/\(l.getD i ([],[])).1.length<=64/\(l.getD i ([],[])).2.length<=256:=by
 have:=h i hi;unfold eP at this
 split at this
 ·contradiction
 ·rename_i a;have a:ic (l.getD i ([],[]))=0:=by simpa using a
  unfold ic at a
  split at a
  ·assumption
  ·cases a
theorem vY (h:bH l) (w:1<=fill) {i:Nat} (hi:(i+1)*fill<l.length):
  zb (l.getD ((i+1)*fill-1) ([],[])).1 (iX fill l i)/\vZ (iX fill l i) (l.getD ((i+1)*fill) ([],[])).1/\1<=(iX fill l i).length/\(iX fill l i).length<=64:=by
 have b:1<=(i+1)*fill:=Nat.mul_pos (by omega) w;have:=ol h 0 ((i+1)*fill-1) (by omega);rw [show(i+1)*fill-1+0+1=(i+1)*fill by omega] at this;have a:=QO this (pK h hi).2.1;have e:iX fill l i=(oz (l.getD ((i+1)*fill-1) ([],[])).1 (l.getD ((i+1)*fill) ([],[])).1).1:=by unfold iX;rw [if_pos hi]
 rw [e];exact a
theorem lY (w:1<=fill) {i:Nat} (h:i+1<pn l.length fill):(i+1)*fill<l.length:=by
 rcases Nat.eq_zero_or_pos l.length with a|a
 ·rw [a,IE] at h;omega
 ·exact(tC w a).1 h
theorem QP (w:1<=fill) {i:Nat} (h:¬i+1<pn l.length fill):¬(i+1)*fill<l.length:=by
 intro b
 rcases Nat.eq_zero_or_pos l.length with a|a
 ·omega
 ·exact h ((tC w a).2 b)
theorem QN.zero (h:bH l) (w:1<=fill):QN fill inn l 0:=by
 refine⟨fun i hi=> ?_,fun i hi=> ?_,fun i j e a=> ?_⟩
 ·exact(vY h w (lY w hi)).2.2
 ·show iX fill l i= [];unfold iX
  rw [if_neg (QP w (by show¬i+1<nL fill inn l 0;omega))]
 ·have b:=vY h w (lY w (i:=i) (by show i+1<nL fill inn l 0;omega));have c:=vY h w (lY w a);have f:(i+2)*fill<=(j+1)*fill:=Nat.mul_le_mul_right fill (by omega);have g:(i+2)*fill=(i+1)*fill+fill:=by rw [show i+2=(i+1)+1 by omega,Nat.add_mul (i+1),Nat.one_mul]
  have k:=lY w a;show zb (iX fill l i) (iX fill l j);refine vZ.trans_lt b.2.1 ?_;refine vZ.trans_lt ?_ c.1
  rcases Nat.lt_or_ge ((i+1)*fill) ((j+1)*fill-1) with d|d
  ·have:=ol h ((j+1)*fill-1-(i+1)*fill-1) ((i+1)*fill) (by omega);rw [show(i+1)*fill+((j+1)*fill-1-(i+1)*fill-1)+1=(j+1)*fill-1 by omega] at this
   exact this.le
  ·rw [show(j+1)*fill-1=(i+1)*fill by omega];exact vZ.refl _
theorem hok (h:bH l) (w:1<=fill) (hi:1<=inn) (k:Nat):QN fill inn l k:=by
 induction k with
 |zero=>exact QN.zero h w
 |succ k a=>exact a.step w hi
end
end
structure zk (w:World) (F:Nat->Prop) (x:Nd) (hA kA vA dA:Option Addr) (hn hc kn kc vn vc dn dc:Nat):Prop where
 h:Bt w F hA hn hc x.high
 k:Tx w F kA kn kc x.keys
 v:Tx w F vA vn vc x.vals
 d:It w F dA dn dc x.kids
theorem zk.below {w w':World} {F:Nat->Prop} {x:Nd} {hA Q b c:Option Addr} {o i n j vn vc a t:Nat} (h:zk w F x hA Q b c o i n j vn vc a t) (e:Below w.heap.size w w'):zk w' F x hA Q b c o i n j vn vc a t:=
 ⟨h.h.below e,h.k.below e,h.v.below e,h.d.below e⟩
theorem zk.chg {S F:Nat->Prop} {w w':World} {x:Nd} {hA Q vA c:Option Addr} {o i n j vn vc a t:Nat} (h:zk w F x hA Q vA c o i n j vn vc a t) (e:ag S w w') (K:∀b,F b->¬S b):zk w' F x hA Q vA c o i n j vn vc a t:=
 ⟨h.h.chg e K,h.k.chg e K,h.v.chg e K,h.d.chg e K⟩
theorem zk.weak {F G:Nat->Prop} {w:World} {x:Nd} {hA Q vA c:Option Addr} {o i n j vn vc a t:Nat} (h:zk w F x hA Q vA c o i n j vn vc a t) (e:∀b,F b->G b):zk w G x hA Q vA c o i n j vn vc a t:=
 ⟨h.h.weak e,h.k.weak e,h.v.weak e,h.d.weak e⟩
theorem Ap {t:TypeId} {a b c d e f:Value} (h:aj w q t #[a,b,c,d,e,f]):w.cell? ⟨q,0,none⟩=some a/\w.cell? ⟨q,1,none⟩=some b/\w.cell? ⟨q,2,none⟩=some c/\w.cell? ⟨q,3,none⟩=some d/\w.cell? ⟨q,4,none⟩=some e/\w.cell? ⟨q,5,none⟩=some f:=
 ⟨h.cell 0,h.cell 1,h.cell 2,h.cell 3,h.cell 4,h.cell 5⟩
def IW (w:World) (x:Nd) (e:Ending) (w':World):Prop:=
 ∃d g f h j i k m l a c b,e= .returned (.tuple #[.agg #[.int .i64 x.lev,.slice d g f,.int .i64 x.right,.slice h j i,.slice k m l,.slice a c b],.bool true])/\zk w' (From w.heap.size) x d h k a g f j i m l c b/\Below w.heap.size w w'
theorem Zz (Y S J L H v:Value):ag (mZ b) w ((((((w.setCell ⟨b,0,none⟩ Y).setCell ⟨b,1,none⟩ S).setCell ⟨b,2,none⟩ J).setCell ⟨b,3,none⟩ L).setCell ⟨b,4,none⟩ H).setCell ⟨b,5,none⟩ v):=
 (((((ag.set1 w b 0 Y).setCell (p:=⟨b,1,none⟩) (fun _=>rfl) S).setCell (p:=⟨b,2,none⟩) (fun _=>rfl) J).setCell (p:=⟨b,3,none⟩) (fun _=>rfl) L).setCell (p:=⟨b,4,none⟩) (fun _=>rfl) H).setCell (p:=⟨b,5,none⟩) (fun _=>rfl) v
theorem SS (F:Nat->Prop) (p:Nat) (nodes root:Int) (sl:List bR) (id:Int) (s:bR) (w:World) (h:gM w F p nodes sl root) (i:1<=id) (u:id<=sl.length) (q:sl.length<=65536) (Z:sl[id.toNat-1]? =some s) (B:Small s.2):
  Calls prog 49 #[.pointer (some ⟨p,0,none⟩),.int .i64 id] w (IW w s.2):=by
 have U:=aa h;have T:=aa Z;have pR:=aa B;have S:=aa q;have X:Below w.heap.size w (w.alloc (.cells #[.int .i64 0,.slice none 0 0,.int .i64 0,.slice none 0 0,.slice none 0 0,.slice none 0 0] 132)):=(Below.refl _ _).alloc (Nat.le_refl _) _;have R:=aa X;clear h Z B q X;go_enter func49,ntmps49
 go_wp2_with (first|(go_at_call 87;go_loud (refine(PM F p nodes root sl id s _ (U.below R.out) i u S T pR.1).mono ?_);rintro e w1 ⟨g,j,c1,rfl,r1,l⟩;have K:=aa r1;have t:=aa (R.out.trans (l.mono (by simp)));have V:=aa ((aj.new w 132 #[.int .i64 0,.slice none 0 0,.int .i64 0,.slice none 0 0,.slice none 0 0,.slice none 0 0]).below l);have W:Hid (Below w.heap.size w (w1.alloc (.cells #[.int .i64 s.2.lev,.slice g j c1,.int .i64 s.2.right] 127))):=aa (t.alloc t.size _);clear l r1)|(go_at_call 88;go_loud (refine(PN F p nodes root sl id s _ (U.below W.out) i u S T pR).mono ?_);rintro e w2 ⟨m,D,y,n,E,z,r,G,A,rfl,_,r2,r3,r4,c⟩;have L:=aa r2;have M:=aa r3;have N:=aa r4;have k:=aa c;have a:Below w2.heap.size w2 (w2.alloc (.cells #[.slice m D y,.slice n E z,.slice r G A] 130)):=(Below.refl _ _).alloc (Nat.le_refl _) _;have J:=aa a;have O:=aa (((V.out.alloc (.cells #[.int .i64 s.2.lev,.slice g j c1,.int .i64 s.2.right] 127)).below c).below a);obtain⟨z0,z1,z2,z3,z4,z5⟩:=Ap O.out;have zf:=O.out.frozen;have y0:=ak a (ak (b:=w1.heap.size) (o:=0) (v:= .int .i64 s.2.lev) c (by simp));have y1:=ak a (ak (b:=w1.heap.size) (o:=1) (v:= .slice g j c1) c (by simp));have y2:=ak a (ak (b:=w1.heap.size) (o:=2) (v:= .int .i64 s.2.right) c (by simp));have Q:=V.out.lt;have ab:=O.out.lt;clear c a r2 r3 r4))
 refine bodyPost_ret (v:= .tuple #[.agg #[.int .i64 s.2.lev,.slice g j c1,.int .i64 s.2.right,.slice m D y,.slice n E z,.slice r G A],.bool true]) (by simp [results,results49,go_sem, *]) rfl ?_;obtain⟨H,C⟩:∃x,x=w2.alloc (.cells #[.slice m D y,.slice n E z,.slice r G A] 130):=⟨_,rfl⟩;rw [<-C];have a:Below w2.heap.size w2 H:=by rw [C];exact J
 have d:=Zz (b:=w.heap.size) (w:=H) (.int .i64 s.2.lev) (.slice g j c1) (.int .i64 s.2.right) (.slice m D y) (.slice n E z) (.slice r G A);have no:∀b,From (w.heap.size+1) b->¬mZ w.heap.size b:=fun b f e=>by simp only [From,mZ] at f e;omega
 have I:∀b,From (w.heap.size+1) b->From w.heap.size b:=fun b f=>by simp only [From] at f|-;omega
 have s1:w.heap.size+1<=w1.heap.size:=Q;have s2:w1.heap.size+1<=w2.heap.size:=by have:=k.out.size;simpa using this
 have P:∀b,From (w1.alloc (.cells #[.int .i64 s.2.lev,.slice g j c1,.int .i64 s.2.right] 127)).heap.size b->From (w.heap.size+1) b:=fun b f=>by
  have e:(w1.alloc (.cells #[.int .i64 s.2.lev,.slice g j c1,.int .i64 s.2.right] 127)).heap.size=w1.heap.size+1:=by simp
  simp only [From] at f|-;omega
 have q1:Bt H (From (w.heap.size+1)) g j c1 s.2.high:=(((K.weak (fun b f=>by have f:=f.1;simpa [From] using f)).below ((Below.refl _ _).alloc (Nat.le_refl _) _)).below k).below a;have q2:=((L.weak P).below a).chg d no;have q3:=((M.weak P).below a).chg d no;have q4:=((N.weak P).below a).chg d no;have Y:Below w.heap.size w H:=(W.out.trans (k.mono (by simp;omega))).trans (a.mono (by omega));exact⟨g,j,c1,m,D,y,n,E,z,r,G,A,rfl,⟨(q1.chg d no).weak I,q2.weak I,q3.weak I,q4.weak I⟩,Y.trans (d.below_of Y.size (fun b f e=>by simp only [mZ] at e;omega))⟩
section
structure Fine (nd lf:Int) (inn:Nat) (x:Nd):Prop where
 at0:0<=x.lev
 at1:x.lev<=32
 ao2:0<=x.right
 ao3:x.right<=nd
 last:x.high= []↔x.right=0
 high:x.high.length<=64
 up:∀j a b,x.keys[j]? =some a->x.keys[j+1]? =some b->zb a b
 key:∀a∈x.keys,1<=a.length/\a.length<=64/\(x.high= []\/zb a x.high)
 leaf:x.lev=0->x.vals.length=x.keys.length/\(x.keys.length:Int)<=lf/\x.kids= []/\∀v∈x.vals,v.length<=256
 inner:x.lev≠0->x.vals= []/\x.kids.length=x.keys.length+1/\x.kids.length<=inn/\x.kids.Nodup/\∀k∈x.kids,1<=k/\k<=nd
def gW (h:Nat->List UInt8) (i:Nat):List UInt8:=if i=0 then [] else h (i-1)
def TS (low:List UInt8) (x:Nd):Prop:=low≠ []->(∀a,x.keys[0]? =some a->vZ low a)/\(x.high= []\/zb low x.high)
def jB (fill:Nat) (l:List aK) (i:Nat):List aK:=(l.drop (i*fill)).take fill
section
variable {fill inn:Nat} {l:List aK}
theorem jm (i:Nat):(sL fill inn l 0 i).2.keys=(jB fill l i).map Prod.fst:=rfl
theorem si (i:Nat):(sL fill inn l 0 i).2.vals=(jB fill l i).map Prod.snd:=rfl
theorem K9 (i:Nat):(jB fill l i).length=min fill (l.length-i*fill):=by simp [jB]
theorem rE (i j:Nat):(jB fill l i)[j]? =if j<fill then l[i*fill+j]? else none:=by
 unfold jB;rw [List.getElem?_take];split
 ·rw [List.getElem?_drop]
 ·rfl
theorem getD_some {i:Nat} {e:aK} (h:l[i]? =some e):l.getD i ([],[])=e/\i<l.length:=⟨by simp [List.getD,h],(List.getElem?_eq_some_iff.1 h).1⟩
theorem N7 (m:Nat):(List.range m).flatMap (jB fill l)=l.take (m*fill):=by
 induction m with
 |zero=>simp
 |succ m a=>
  rw [List.range_succ,List.flatMap_append,a,List.flatMap_singleton,jB,Nat.add_mul,Nat.one_mul,List.take_add]
theorem Xe (w:1<=fill):l.length<=nL fill inn l 0*fill:=by
 rcases Nat.eq_zero_or_pos l.length with h|h
 ·omega
 ·exact(jl l.length fill w h).1
theorem Ao (w:1<=fill):(List.range (nL fill inn l 0)).flatMap (jB fill l)=l:=by
 rw [N7,List.take_of_length_le (Xe w)]
theorem rF {k:Nat} (h:QN fill inn l k) {i:Nat} (hi:i<nL fill inn l k):hL fill inn l k i= []↔¬i+1<nL fill inn l k:=by
 constructor
 ·intro e a;have:=h.some_ i a;rw [e] at this
  simp at this
 ·intro a;exact h.none_ i (by omega)
theorem Xf {k:Nat} (h:QN fill inn l k) {i:Nat} (hi:i<nL fill inn l k):(hL fill inn l k i).length<=64:=by
 by_cases a:i+1<nL fill inn l k
 ·exact(h.some_ i a).2
 ·rw [(rF h hi).2 a];simp
theorem xu (w:1<=fill) (hi:1<=inn) {k i:Nat} (h:i<nL fill inn l (k+1)):gW (hL fill inn l (k+1)) i=gW (hL fill inn l k) (i*inn):=by
 unfold gW
 rcases Nat.eq_zero_or_pos i with a|a
 ·subst a;simp
 ·have e:1<=i*inn:=Nat.mul_pos a hi;rw [if_neg (by omega),if_neg (by omega),og w hi (by omega)];have b:=jy (l:=l) w hi k;have c:=rY (inn:=inn) hi b (i:=i-1) (by show i-1<nL fill inn l (k+1);omega);have d:=(tC hi b).1 (show i<pn (nL fill inn l k) inn from h);rw [show i-1+1=i by omega] at c;congr 1
  omega
theorem NZ (w:1<=fill) (hi:1<=inn) {k i j:Nat} (h:i<nL fill inn l (k+1)) (b:j<mK inn (nL fill inn l k) i):
  (sL fill inn l (k+1) i).2.kids[j]? =some ((dL fill inn l k:Int)+((i*inn+j:Nat):Int)+1)/\i*inn+j<nL fill inn l k/\(j≠0->(sL fill inn l (k+1) i).2.keys[j-1]? =some (gW (hL fill inn l k) (i*inn+j)))/\(j=0->gW (hL fill inn l (k+1)) i=gW (hL fill inn l k) (i*inn+j)):=by
 refine⟨?_,by unfold mK at b;omega,fun a=> ?_,fun a=> ?_⟩
 ·rw [oh,List.getElem?_map,List.getElem?_range b];rfl
 ·rw [kU,List.getElem?_map,List.getElem?_range (by omega)];unfold gW;rw [if_neg (by omega),show i*inn+j-1=i*inn+(j-1) by omega]
  rfl
 ·subst a;exact xu w hi h
theorem qE (k i:Nat):(sL fill inn l (k+1) i).2.kids.length=mK inn (nL fill inn l k) i:=by rw [oh];simp
theorem UT (Q:bH l) (w:1<=fill) (hi:1<=inn) {k i:Nat} (h:i<nL fill inn l k):TS (gW (hL fill inn l k) i) (sL fill inn l k i).2:=by
 intro g;have H:=hok (inn:=inn) Q w hi k;have o:i≠0:=fun e=>g (by simp [gW,e]);have m:gW (hL fill inn l k) i=hL fill inn l k (i-1):=by simp [gW,o]
 refine⟨fun a d=> ?_,?_⟩
 ·cases k with
  |zero=>
   rw [m];have n:=(vY Q w (lY w (i:=i-1) (by show i-1+1<nL fill inn l 0;omega))).2.1;rw [show i-1+1=i by omega] at n;rw [jm,List.getElem?_map,rE,if_pos (by omega),Nat.add_zero] at d;obtain⟨e,p,rfl⟩:=Option.map_eq_some_iff.1 d;rw [<-(getD_some p).1]
   exact n
  |succ k=>
   rw [xu w hi h];have q:=(kU (fill:=fill) (inn:=inn) (l:=l) k i);rw [q,List.getElem?_map] at d;obtain⟨j,c,rfl⟩:=Option.map_eq_some_iff.1 d
   have f:j=0/\0<mK inn (nL fill inn l k) i-1:=by
    have b:=(List.getElem?_eq_some_iff.1 c).1;rw [List.length_range] at b;rw [List.getElem?_range b] at c;injection c with c
    exact⟨c.symm,b⟩
   obtain⟨rfl,r⟩:=f;have s:1<=i*inn:=Nat.mul_pos (by omega) hi;unfold gW;rw [if_neg (by omega)];refine((hok (inn:=inn) Q w hi k).up _ _ (by omega) ?_).le;unfold mK at r
   omega
 ·rw [qy,m]
  by_cases hl:i+1<nL fill inn l k
  ·exact .inr (H.up _ _ (by omega) hl)
  ·exact .inl ((rF H h).2 hl)
theorem BB (k:Nat):dL fill inn l (k+1)=dL fill inn l k+nL fill inn l k:=rfl
theorem QW (Q:bH l) (w:1<=fill) (hi:1<=inn) {nd lf:Int} (L:(fill:Int)<=lf) {k i:Nat} (V:k<=32) (U:(dL fill inn l (k+1):Int)<=nd) (h:i<nL fill inn l k):Fine nd lf inn (sL fill inn l k i).2:=by
 have H:=hok (inn:=inn) Q w hi k;have J:=BB (fill:=fill) (inn:=inn) (l:=l) k
 refine⟨by rw [vX];omega,by rw [vX];omega,by rw [right_eq];split<;>omega,by rw [right_eq];split<;>omega,?_,by rw [qy];exact Xf H h,?_,?_,?_,?_⟩
 ·rw [qy,rF H h,right_eq]
  split
  ·rename_i r;simp only [r,not_true,false_iff];omega
  ·rename_i r;simp [r]
 ·intro j a b n y
  cases k with
  |zero=>
   rw [jm,List.getElem?_map,rE] at n y;obtain⟨e,o,rfl⟩:=Option.map_eq_some_iff.1 n;obtain⟨O,p,rfl⟩:=Option.map_eq_some_iff.1 y
   split at o
   ·split at p
    ·have N:=getD_some o;have F:=getD_some p;rw [<-N.1,<-F.1]
     exact ol Q 0 _ F.2
    ·cases p
   ·cases o
  |succ k=>
   rw [kU,List.getElem?_map] at n y;obtain⟨c,t,rfl⟩:=Option.map_eq_some_iff.1 n;obtain⟨d,g,rfl⟩:=Option.map_eq_some_iff.1 y;have E:=(List.getElem?_eq_some_iff.1 t).1;have C:=(List.getElem?_eq_some_iff.1 g).1;rw [List.length_range] at E C;rw [List.getElem?_range E] at t;rw [List.getElem?_range C] at g;injection t with t
   injection g with g
   subst t g;refine(hok (inn:=inn) Q w hi k).up _ _ (by omega) ?_;unfold mK at C
   omega
 ·intro a n;rw [qy]
  cases k with
  |zero=>
   rw [jm] at n;obtain⟨e,o,rfl⟩:=List.mem_map.1 n;obtain⟨j,m,rfl⟩:=List.mem_iff_getElem.1 o;have f:(jB fill l i)[j]? =some ((jB fill l i)[j]):=List.getElem?_eq_getElem m;rw [rE] at f
   split at f
   ·have q:=getD_some f;have s:=pK Q q.2;rw [q.1] at s;refine⟨s.1,s.2.1,?_⟩
    by_cases hl:i+1<nL fill inn l 0
    ·refine .inr ?_;have u:=(vY Q w (lY w hl)).1;have M:=lY w hl;rw [<-q.1];have P:(i+1)*fill=i*fill+fill:=by rw [Nat.add_mul,Nat.one_mul]
     rcases Nat.lt_or_ge (i*fill+j) ((i+1)*fill-1) with G|G
     ·have:=ol Q ((i+1)*fill-1-(i*fill+j)-1) (i*fill+j) (by omega);rw [show i*fill+j+((i+1)*fill-1-(i*fill+j)-1)+1=(i+1)*fill-1 by omega] at this
      exact this.trans u
     ·rw [show i*fill+j=(i+1)*fill-1 by omega]
      exact u
    ·exact .inl ((rF H h).2 hl)
   ·cases f
  |succ k=>
   have D:=hok (inn:=inn) Q w hi k;rw [kU] at n;obtain⟨j,m,rfl⟩:=List.mem_map.1 n;have m:j<mK inn (nL fill inn l k) i-1:=by simpa using m
   have B:i*inn+j+1<nL fill inn l k:=by unfold mK at m;omega
   have u:=D.some_ _ B;refine⟨u.1,u.2,?_⟩
   by_cases hl:i+1<nL fill inn l (k+1)
   ·refine .inr ?_;rw [og w hi h];have S:=rY (inn:=inn) hi (jy (l:=l) w hi k) h;have T:=(tC hi (jy (l:=l) w hi k)).1 (show i+1<pn (nL fill inn l k) inn from hl)
    exact D.up _ _ (by omega) (by omega)
   ·exact .inl ((rF H h).2 hl)
 ·intro z;have A:k=0:=by rw [vX] at z;omega
  subst A
  refine⟨by rw [jm,si,List.length_map,List.length_map],?_,rfl,fun v hv=> ?_⟩
  ·rw [jm,List.length_map,K9];omega
  ·rw [si] at hv;obtain⟨e,o,rfl⟩:=List.mem_map.1 hv;obtain⟨j,m,rfl⟩:=List.mem_iff_getElem.1 o;have f:(jB fill l i)[j]? =some ((jB fill l i)[j]):=List.getElem?_eq_getElem m;rw [rE] at f
   split at f
   ·have q:=getD_some f;have s:=pK Q q.2;rw [q.1] at s
    exact s.2.2
   ·cases f
 ·intro z
  cases k with
  |zero=>exact absurd (vX 0 i) z
  |succ k=>
   have W:=FP (inn:=inn) hi (jy (l:=l) w hi k) h
   refine⟨rfl,by rw [qE,kU,List.length_map,List.length_range];omega,by rw [qE];unfold mK;omega,?_,?_⟩
   ·rw [oh]
    refine List.Pairwise.map _ (R:=(·≠·)) (fun a b I=>by omega) List.nodup_range
   ·intro x r;rw [oh] at r;obtain⟨j,m,rfl⟩:=List.mem_map.1 r;have m:j<mK inn (nL fill inn l k) i:=by simpa using m
    have K:=BB (fill:=fill) (inn:=inn) (l:=l) k;unfold mK at m;omega
theorem F3 {nd lf bl:Int} (p:dx nd lf inn fill bl) (f:(bT nd lf inn fill bl l.length).2=0):
  ∃L,L<=31/\nL fill inn l L=1/\(∀j,j<L->1<nL fill inn l j)/\(bD fill inn l).2=(dL fill inn l L:Int)+1/\(bD fill inn l).1.length=dL fill inn l (L+1)/\(bT nd lf inn fill bl l.length).1=(dL fill inn l (L+1):Int)/\(dL fill inn l (L+1):Int)<=nd/\
   ∀k i,k<=L->i<nL fill inn l k->∃s,(bD fill inn l).1[dL fill inn l k+i]? =some s/\s.2=(sL fill inn l k i).2:=by
 rw [iA p (by omega)] at f|-;obtain⟨c1,B,C,D,E,F,G,H,I,q⟩:=p;have o:1<=fill:=by omega
 have y:1<=inn:=by omega
 rw [<-gU _ _ o] at f|-;have r:((pn l.length fill:Nat):Int)=(nL fill inn l 0:Int):=rfl;have t:(0:Int)=(dL fill inn l 0:Int):=rfl;rw [r,t] at f|-;obtain⟨L,a,b,c,d,u,v,x⟩:=NI (nd:=nd) o y 32 0 f;refine⟨L,by omega,c,fun j z=>d j (by omega) z,?_⟩
 by_cases hl:l= []
 ·subst hl;have e:nL fill inn ([]:List aK) 0=1:=IE fill
  have g:L=0:=by
   rcases Nat.eq_zero_or_pos L with h|h
   ·exact h
   ·have:=d 0 (by omega) h;omega
  subst g;rw [uS]
  refine⟨rfl,?_,v,x,fun k i A hi=> ?_⟩
  ·rw [BB,e];rfl
  ·have n:k=0:=by omega
   subst n;rw [e] at hi;have m:i=0:=by omega
   subst m;refine⟨_,rfl,?_⟩;show Nd.zero=(kT fill [] (nL fill inn [] 0) 0).2;rw [e]
   simp [kT,iX,Nd.zero]
 ·have w:EC inn 32 1 (jH fill l) (lu fill l)=(flat fill inn l (L+1),uk (dL fill inn l L) (nL fill inn l L) (hL fill inn l L)):=u;rw [nK hl,w];refine⟨?_,nH _,v,x,fun k i A hi=>⟨_,QM (L+1) k i (by omega) hi,rfl⟩⟩;show((uk (dL fill inn l L) (nL fill inn l L) (hL fill inn l L)).headD (0,[])).1=_;rw [c,uk];simp
end
end
abbrev Lk:=Int×List UInt8×Nd
def lb (us:List Value) (j:Nat):List Value:=(us.drop (j*8)).take 8
theorem zk.lt {w:World} {F:Nat->Prop} {x:Nd} {hA Q vA c:Option Addr} {o i n j vn vc a t:Nat} (h:zk w F x hA Q vA c o i n j vn vc a t):zk w (fun b=>F b/\b<w.heap.size) x hA Q vA c o i n j vn vc a t:=
 ⟨h.h.lt,h.k.lt,h.v.lt,h.d.lt⟩
theorem I1 (F:Nat->Prop) (p:Nat) (nodes root:Int) (sl:List bR) (id:Int) (x:Nd) (w:World) (h:gM w F p nodes sl root) (i:1<=id) (q:sl.length<=65536) (a:∃s,sl[id.toNat-1]? =some s/\s.2=x/\Small s.2):
  Calls prog 49 #[.pointer (some ⟨p,0,none⟩),.int .i64 id] w (IW w x):=by
 obtain⟨s,a,rfl,b⟩:=a;exact SS F p nodes root sl id s w h i (by have:=(List.getElem?_eq_some_iff.1 a).1;omega) q a b
theorem sM {f:Int->Int} {k:Int} (h:il w b n f) (c: -9223372036854775808<=k) (d:k<=9223372036854775807) (a:f k=0):(Instr.lookup 125 (.map (some b)) (.int .i64 k) false).run prog w= .ok (.int .i64 0) w:=by
 have:=h.look c d;rw [a] at this;exact this
structure Hd (sl:List bR) (nd lf:Int) (inn:Nat) (lev d M:Nat) (X:Nat->Nd):Prop where
 at_:∀j,j<M->∃s,sl[d+j]? =some s/\s.2=X j/\Small s.2
 fine:∀j,j<M->Fine nd lf inn (X j)
 lev:∀j,j<M->(X j).lev=(lev:Int)
 right:∀j,j<M->(X j).right=if j+1<M then(d:Int)+(j:Int)+1+1 else 0
 low:∀j,j<M->TS (gW (fun i=>(X i).high) j) (X j)
def JN (m d:Nat) (b:Nat->Nd) (a:List UInt8) (x:Nd):Prop:=∀(c:Nat) (kid:Int),x.kids[c]? =some kid->∃j,j<m/\kid=(d:Int)+(j:Int)+1/\(c=0->a=gW (fun t=>(b t).high) j)/\(c≠0->x.keys[c-1]? =some (gW (fun t=>(b t).high) j))
def XI (c b e:Nat) (a d:Nat->Nd):Prop:=∀i,i<c->JN b e d (gW (fun t=>(a t).high) i) (a i)
structure pM (sl:List bR) (root nd lf:Int) (inn L:Nat) (N d:Nat->Nat) (X:Nat->Nat->Nd):Prop where
 root:root=(d L:Int)+1
 top:N L=1
 deep:L<=31
 pos:∀k,1<=N k
 base:d 0=0
 step:∀k,d (k+1)=d k+N k
 lv:∀k,k<=L->Hd sl nd lf inn k (d k) (N k) (X k)
 kids:∀k,k<L->XI (N (k+1)) (N k) (d k) (X (k+1)) (X k)
 kid0:∀k,k<L->(X (k+1) 0).kids[0]? =some ((d k:Int)+1)
 at7:∀k i,k<=L->i<N k->(X k i).kids.length<=1000
 even:∀s∈sl,0<=s.1/\s.1<=4611686018427387904/\s.1%2=0
theorem pM.mono (h:pM sl root nd lf inn L N d X) (b:j<=k):d j<=d k:=by
 induction k with
 |zero=>
  have:j=0:=by omega
  subst this;exact Nat.le_refl _
 |succ k c=>
  rcases Nat.lt_or_ge k j with a|a
  ·have:j=k+1:=by omega
   subst this;exact Nat.le_refl _
  ·exact Nat.le_trans (c a) (by rw [h.step];omega)
theorem pM.fit (h:pM sl root nd lf inn L N d X) (a:k<=L):d k+N k<=sl.length:=by
 have c:=h.pos k;obtain⟨s,b,_⟩:=(h.lv k a).at_ (N k-1) (by omega);have:=(List.getElem?_eq_some_iff.1 b).1;omega
end Go.Proofs.YtepgcjbhabnciaaGreat
