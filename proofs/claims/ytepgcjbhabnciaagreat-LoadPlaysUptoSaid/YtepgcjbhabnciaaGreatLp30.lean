/- Part 30. -/
import Derived.Test.YtepgcjbhabnciaaGreatLp29
import Derived.Test.YtepgcjbhabnciaaGreatLp26
namespace Go.Proofs.YtepgcjbhabnciaaGreat
set_option maxRecDepth 100000
set_option maxHeartbeats 8000000
open Go.Proofs.Tryz Go.RowKit
variable {F p f M v A l j X z G D y B J s u7 r L E O W Z U C I P V d T x u33 u34 u35 u37 u38 N u40 R kv u8 u27 u31 u36 u42 u44 u45 u46 u48 u49 H u51 u53 u55 S dZ u58 u59 u60 fw fJ u63 u64 gm u66 u68 u69 u70 u72 u73 iN u75 iV jY jZ j6 kg kG kP kQ kR ko kU ng mI pF pu u16 u25 u26 u28 u30 h u32 gH iM u24 u29 mJ vv:Value} {c b o i m g Y base ch mm n:Nat} {w q wr:World} {fE nU:List Value} {k:Option Addr} {Q:Exit->Act->World->Prop}
theorem dh.lt {w:World} {F:Nat->Prop} {A:Option Addr} {n:Nat} {l:List aR} (h:dh w F A n l):dh w (fun b=>F b/\b<w) A n l:=
 let⟨f,vs,g,j⟩:=h;⟨f,vs,g.lt (by omega),fun i e k=>let⟨u,v,a,b,c,d⟩:=j i e k;⟨u,v,a,b,c.lt,d.lt⟩⟩
def xR (w:World) (nodes:Int) (t:List aX×Int) (e:Ending) (w':World):Prop:=
 ∃p,e= .returned (.pointer (some ⟨p,0,none⟩))/\gL w' (From w.heap.size) p nodes t.1 t.2/\Below w.heap.size w w'
theorem QH (nd lf bl:Int) (inn fill:Nat) (A:Option Addr) (c:Nat) (w:World) (g:1<=nd) (h:nd<=65536):
  Calls prog 54 #[.agg #[nd,lf,(inn:Int),(fill:Int),bl],.slice A 0 c] w (xR w nd ([(0,Nd.zero)],1)):=by
 go_enter func54,ntmps54
 go_wp2_with (go_at_call 93;refine(LH nd g h _).mono ?_;rintro e w1 ⟨p,rfl,a,d⟩;have f:=aa a;have j:=aa d;clear a d)
 go_ret
 exact⟨p,rfl,f.weak (fun b i=>by simp only [From,World.size_alloc] at i|-;omega),gV.trans (j.mono (by simp))⟩
def TV (w wr:World) (p mm:Nat) (nd:Int) (done:List aX) (top:Value) (ks:List Kd):Prop:=
 ∃F base,fo wr F p mm nd 1 done/\dJ wr (Off F mm) base top ks/\(∀b,F b->w<b)/\Below w w wr
theorem Lv.top {F c:Nat->Prop} {p:Nat} {nd:Int} {done:List aX} {f:Nat->aX} {hi:Nat->List UInt8} {M:Nat} (h:Lv q wr F c p mm nd 1 done f hi M v) (d:∀b,F b->w<b) (i:w<=mm) (hl:w.heap.size<q) (e:Below w w q):
  TV w wr p mm nd (done++(List.range M).map f) v (xG done.length M hi):=
 ⟨c,q,h.st,h.row,fun b a=>(h.sub b a).elim (d b) (fun h=>by omega),e.trans (h.chg.below_of e.size (fun b a g=>g.elim (fun h=>by have:=d b h;omega) (fun h=>by omega)))⟩
theorem Nj (nd lf bl:Int) (inn fill:Nat) {A:Option Addr} (c:Nat) {q:Nat->Prop} {l:List aR} (h1:1<=nd) (h2:nd<=65536) (a9:3<=inn) (ba:inn<=64) (D:1<=fill) (a8:fill<=64) (z:dh w q A n l) (j:n<=c) (t:c<=maxLen) (hn:n<=1152921504606) (H:0<n)
  (am:∀e∈l,e.1.length<=1152921504606/\e.2.length<=1152921504606) (d:(lv nd inn 32 (parts n fill) 0).2=0):
  Calls prog 54 #[.agg #[nd,lf,(inn:Int),(fill:Int),bl],.slice A n c] w (xR w nd (aY fill inn l)):=by
 have T:=aa z.len;have al:l≠ []:=fun e=>by have:=T.out;rw [e] at this;simp at this;omega
 have iq:=aa al;have HE:=aa z.lt;have HS:=aa am;have X:=iU l.length fill D (by have:=T.out;omega);have R:=ik l.length fill D
 have Y:((pn l.length fill:Nat):Int)<=nd:=by
  rw [R,<-T.out]
  by_cases hf:nd-0<parts n fill
  ·rw [ja hf] at d;simp at d
  ·omega
 have aw:Hid (BK nd inn 32 (lz fill l) (nP fill l)):=aa (.inr (by
  have S:(lz fill l).length=pn l.length fill:=by simp [lz]
  have e2:(nP fill l).length=pn l.length fill:=tZ _ _ _;rw [S,e2,R,<-T.out,Int.sub_self];exact d))
 have HM:=aa X;have U:=aa Y;clear al z am X R Y d;have bk:((n:Int)==0)=false:=by rw [mi];omega
 go_enter func54,ntmps54
 go_wp2_with (first|(go_at_call 93;refine(LH nd h1 h2 _).mono ?_;rintro e w1 ⟨p,rfl,q1,q2⟩;have NT:=aa q1;have rJ:=aa q2;have J:Hid (Below w w w1):=aa (gV.trans (q2.mono (by simp)));have kV:=aa ((ak.new w 23 #[nd,lf,(inn:Int),(fill:Int),bl]).below q2);have a6:w1.cell? ⟨w,3,none⟩=some (.int .i64 fill):=(kV.out.cell 3).trans rfl;have cl:w.heap.size<w1:=kV.out.lt;clear q1 q2)|(go_at_call 94;have hM:fo (w1.alloc (.cells #[p,true] 193)) (fun b=>w+1<=b/\b<w1) p w1 nd 1 []:=⟨fun h=>by have:=h.2;omega,fun b s=>by have:=s.2;simp;omega,by simp,.inl ⟨rfl,(NT.lt.weak (fun b s=>⟨by have:=s.1;simpa [From] using this,s.2⟩)).below gV,ak.new _ _ _⟩⟩;go_loud (refine(JS 1 c fill (pn l.length fill) hM (((HE.below J).below gV).weak (fun b s=>⟨fun h=>by have:=h.1;have:=s.2;omega,by have:=s.2;omega⟩)) j t D (by omega) hn H HS (by have:=HM.out;have:=T.out;omega) U h2).mono ?_);rintro e w3 ⟨F',v,rfl,d⟩;have L:Hid (TV w w3 p w1 nd (lz fill l) v (nP fill l)):=aa (by have:=d.top (w:=w) (fun b s=>by have:=s.1;omega) (by omega) (by simp;omega) (J.alloc J.size _);simpa [lz,nP] using this);have fu:=aa ((kV.alloc (.cells #[p,true] 193)).chg d.chg (fun h=>h.elim (fun h=>by have:=h.1;omega) (fun h=>by omega)));clear d hM))
 go_loopg [8,28] 32 (fun g' top i wr=>∃(k:Nat) (o:Value) (done:List aX) (ks:List Kd),g'=32-k/\k<=32/\i= (k:Int)/\o=top/\TV w wr p w1 nd done o ks/\BK nd inn (32-k) done ks/\wK done ks/\IL inn (32-k) ((k:Int)+1) done ks=IL inn 32 1 (lz fill l) (nP fill l)/\ak wr w 23 #[nd,lf,(inn:Int),.int .i64 fill,.int .i64 bl]/\(done.length:Int)<=nd)
 case atStart=>exact⟨0,_,_,_,rfl,by omega,rfl,rfl,L,aw,by have:=MQ (done:= []) (M:=pn l.length fill) (f:=nu fill l (pn l.length fill)) (hi:=iX fill l) (oF _ _ D) (zG (fun e he=>(HS e he).1));simpa [lz,nP] using this,rfl,fu,by have:=U.out;simpa [lz] using this⟩
 case round=>
  obtain⟨k,o,done,ks,hg,hk,rfl,rfl,ht,hu,ho,he,hc,C⟩:=hrel;have CP:=aa C;have HG:=aa hg;have HT:=aa ht;have HU:=aa hu;have E:=aa ho;have L8:=aa he;have HC:=aa hc
  rename World=>wq
  clear hg ht hu ho he hc C;obtain⟨F,base,st,⟨us,r,y,MU⟩,W,Z⟩:=HT.out;obtain⟨A2,c2,rfl,a4,a7⟩:=ax r;obtain⟨I,N⟩:∃I,I=ks.length:=⟨_,rfl⟩;have B:=aa N;rw [<-N] at r a4 y MU|-;have AB:Hid (dJ wq (Off F p) base (.slice A2 I c2) ks\/True):=aa (.inr trivial);have K:=aa st;have O:=aa r;have P:=aa y;have Q:=aa MU;have xD:=aa W;have dW:=aa Z;clear N st r y MU W Z HT AB;have a1:wq.cell? ⟨w.heap.size,2,none⟩=some (.int .i64 inn):=(HC.out.cell 2).trans rfl
  by_cases bj:k<32
  ·have be:((k:Int)<32):=by omega
   have a5:=IntWalk.i64_in ((k:Int)+1) (by omega)
   by_cases bh:1<I
   ·have aA:(1:Int)<(I:Int):=by omega
    have m:=BK.step (k:=31-k) (f:=kr inn ((k:Int)+1) ks done.length (pn ks.length inn)) (g:=ID inn ks) (by omega) (show BK nd inn (31-k+1) done ks from by have:=HU.out;rwa [show 32-k=31-k+1 by omega] at this) (by have:=B.out;omega);have wU:=oF ks.length inn (by omega);have a0:=aa m;have ae:=E.out.1;have ac:(done.length:Int)+((pn ks.length inn:Nat):Int)<=nd:=m.1.elim id (fun h=>by omega);have LP:=aa (iU ks.length inn (by omega) (by have:=B.out;omega));have lm:=aa ac;have aE:I<=65536:=by have:=B.out;omega
    clear m wU ae ac;go_wp2_with (first|(go_at_call 95;go_loud (refine(MS 1 inn (pn ks.length inn) ((k:Int)+1) K ⟨us,(by have:=O.out;have e:=B.out;rwa [e] at this|-),P,Q⟩ (aa B) (by omega) (by omega) aE (by omega) (fun k hk=>(E.2.2 k hk).2.2) (by have:=LP.out;have:=B.out;omega) lm h2).mono ?_);go_loud (rintro e w3 ⟨F',v,rfl,d⟩);go_loud (have L:=aa (d.top (w:=w) xD (Nat.le_of_lt cl) (eU a1) dW));go_loud (have fu:=aa (HC.chg d.chg (fun h=>h.elim (fun h=>by have:=xD.out _ h;omega) (fun h=>by omega))));clear d))
    go_roundg (32-(k+1))
    case measure=>have:=HG.out;omega
    case rel=>
     refine⟨k+1,_,_,_,rfl,by omega,by go_num,rfl,L,by have:=a0.out.2;rwa [show 31-k=32-(k+1) by omega] at this,MQ (oF _ _ (by omega)) (Pz (fun k hk=>(E.2.2 k hk).2.2)),?_,fu,by have:=lm.out;simp;omega⟩;have e:=L8.out;rw [show 32-k=31-k+1 by omega,IL,if_pos (by have:=B.out;omega)] at e
     rw [<-e,show 32-(k+1)=31-k by omega,show((k+1:Nat):Int)+1=(k:Int)+1+1 by omega]
   ·have aA:¬(1:Int)<(I:Int):=by omega
    go_wp2
    go_roundg (32-(k+1))
    case measure=>have:=HG.out;omega
    case rel=>
     have ad:¬1<ks.length:=by have:=B.out;omega
     refine⟨k+1,_,done,ks,rfl,by omega,by go_num,rfl,⟨F,base,K,⟨us,(by have:=O.out;have e:=B.out;rwa [e] at this|-),P,Q⟩,xD,dW⟩,.inl (by have:=E.out.2.1;omega),E,?_,HC,CP⟩
     rw [<-L8.out,tY ad,tY ad]
  ·obtain rfl:k=32:=by omega
   have G:ks.length=1:=(show BK nd inn 0 done ks from HU).one;obtain⟨x,hx⟩:∃x,ks= [x]:=List.length_eq_one_iff.1 G;have an:=Q.out 0 x (by rw [hx];rfl);have a3:I=1:=by have:=B.out;omega
   subst a3;obtain⟨b,o1,u,v,a2,hD,S,e2,cc,_⟩:=(fB O P).at2 (k:=0) (by omega);subst a2;rw [an.1] at S;injection S with S
   subst S;have ap:=E.out.2.2 x (by rw [hx];simp)
   have au:Hid (aY fill inn l=(done,x.1)):=aa (by
    rw [p8 iq.out,<-L8.out,tY (by omega),hx];rfl)
   have HX:=aa ap;clear G hx hD an e2 ap;have C:done.length<=65536:=by have:=CP.out;omega
   obtain⟨_,_,_,aq⟩:=K.out;have V:gL wq F p nd done 1:=by rcases aq with⟨e,_⟩|⟨_,a,_⟩;exact absurd E.1 (by have:=E.out.2.1;rw [e];show¬ks.length<=0;omega);exact a
   have ar:=aa V;clear aq V;simp only [Nat.mul_zero,Nat.add_zero] at cc;go_wp2_with (first|(go_at_call 96;go_loud (refine(Qm 1 x.1 ar HX.1 HX.2.1 C (by omega)).mono ?_);rintro e w4 ⟨rfl,ao,ab⟩;have Vn:=aa ao;have gK:=aa ab;clear ao ab));go_ret
   exact⟨p,rfl,by rw [au.out];exact Vn.weak (fun b s=>by have:=xD.out b s;simp only [From];omega),dW.out.trans (gK.below_of dW.size (fun b s h=>by have:=xD.out b h;omega))⟩
section
def nb (us:List Value) (j:Nat):List Value:=(us.drop (j*6)).take 6
theorem l6 {us:List Value} {k c:Nat} (u:Value) (hc:c<6):nb (us.set (k*6+c) u) k=(nb us k).set c u:=by
 unfold nb;rw [List.drop_set,if_neg (by omega),show k*6+c-k*6=c by omega,List.take_set]
theorem qJ {us:List Value} {k c j:Nat} (u:Value) (hc:c<6) (h:j≠k):nb (us.set (k*6+c) u) j=nb us j:=by
 unfold nb;rw [List.drop_set]
 split
 ·rfl
 ·rename_i a;rw [List.take_set];apply List.set_eq_of_length_le;rw [List.length_take];have:j*6+6<=k*6\/k*6+6<=j*6:=by omega
  omega
theorem Pj {us xs:List Value} {n j:Nat} (hl:us.length=n*6) (a:j<n):nb (us++xs) j=nb us j:=by
 unfold nb;rw [List.drop_append_of_le_length (by omega),List.take_append_of_le_length (by rw [List.length_drop];omega)]
theorem Pk {us xs:List Value} {n:Nat} (hl:us.length=n*6) (a:xs.length=6):nb (us++xs) n=xs:=by
 unfold nb;rw [List.drop_append,List.drop_of_length_le (by omega),hl,Nat.sub_self,List.nil_append,List.drop_zero,List.take_of_length_le (by omega)]
theorem Mw {us:List Value} {k c:Nat} {u:Value} (hc:c<6) (h:(nb us k)[c]? =some u):us[k*6+c]? =some u:=by
 unfold nb at h;rwa [List.getElem?_take,if_pos hc,List.getElem?_drop] at h
def l5 (w:World) (F:Nat->Prop) (vs:List Value) (s:Nd):Prop:=
 ∃hA hn hc kA kn kc vA vn vc dA dn dc,vs= [.int .i64 s.lev,.slice hA hn hc,.int .i64 s.right,.slice kA kn kc,.slice vA vn vc,.slice dA dn dc]/\
  Bt w F hA hn hc s.high/\Tx w F kA kn kc s.keys/\Tx w F vA vn vc s.vals/\It w F dA dn dc s.kids
section
variable {S F G D D':Nat->Prop} {w w':World} {vs:List Value} {s:Nd}
theorem l5.weak (h:l5 w F vs s) (K:∀b,F b->G b):l5 w G vs s:=by
 obtain⟨hA,hn,hc,kA,kn,kc,vA,vn,vc,dA,dn,dc,a,c,d,e,f⟩:=h;exact⟨hA,hn,hc,kA,kn,kc,vA,vn,vc,dA,dn,dc,a,c.weak K,d.weak K,e.weak K,f.weak K⟩
theorem l5.next (h:l5 w D vs s) (hc:ag S w w') (d:∀b,b<w.heap.size->D b->¬S b) (c:∀b,b<w.heap.size->D b->D' b):l5 w' D' vs s:=by
 obtain⟨hA,hn,e,kA,kn,kc,vA,vn,vc,dA,dn,dc,f,g,i,j,k⟩:=h;exact⟨hA,hn,e,kA,kn,kc,vA,vn,vc,dA,dn,dc,f,(g.lt.chg hc (fun b a=>d b a.2 a.1)).weak (fun b a=>c b a.2 a.1),(i.lt.chg hc (fun b a=>d b a.2 a.1)).weak (fun b a=>c b a.2 a.1),(j.lt.chg hc (fun b a=>d b a.2 a.1)).weak (fun b a=>c b a.2 a.1),(k.lt.chg hc (fun b a=>d b a.2 a.1)).weak (fun b a=>c b a.2 a.1)⟩
end
def Level (w:World) (D:Nat->Prop) (base:Nat) (v:Value) (a:List Nd):Prop:=
 ∃us,w.ownsRow base 132 6 v a.length us/\(∀g,v.ownBlock=some g->D g)/\∀(i:Nat) (s:Nd),a[i]? =some s->l5 w D (nb us i) s
structure Mk (w:World) (base:Nat) (E:Nat->Prop) (out:Value) (k:Nat) (f:Nat->Nd) (lev:Int) (h kv vv dv:Value) (us:List Value):Prop where
 own:w.ownsRow base 132 6 out (k+1) us
 last:nb us k= [.int .i64 lev,h,.int .i64 0,kv,vv,dv]
 d1:∀g,out.ownBlock=some g->kv.ownBlock≠some g/\vv.ownBlock≠some g/\dv.ownBlock≠some g
 full:∀j,j<k->l5 w (fun b=>(E b\/base<=b)/\¬(out.ownBlock=some b\/kv.ownBlock=some b\/vv.ownBlock=some b\/dv.ownBlock=some b)) (nb us j) (f j)
section
variable {S E:Nat->Prop} {w w':World} {base k:Nat} {out:Value} {f:Nat->Nd} {lev:Int} {h kv vv dv:Value} {us:List Value}
theorem Mk.below (m:Mk w base E out k f lev h kv vv dv us) (a:Below w.heap.size w w'):Mk w' base E out k f lev h kv vv dv us:=
 ⟨own_below m.own a,m.last,m.d1,fun j b=>(m.full j b).next (ag.of_below (S:=Nil) a) (fun _ _ _ h=>h) (fun _ _ h=>h)⟩
theorem Mk.form (m:Mk w base E out k f lev h kv vv dv us):∃g c,out= .slice (some ⟨g,0,none⟩) (k+1) c/\k+1<=c/\c<=maxLen/\base<=g/\g<w.heap.size/\(∀o,w.frozen? ⟨g,o,none⟩=false)/\w.cell? ⟨g,k*6,none⟩=some (.int .i64 lev)/\w.cell? ⟨g,k*6+1,none⟩=some h/\w.cell? ⟨g,k*6+2,none⟩=some (.int .i64 0)/\w.cell? ⟨g,k*6+3,none⟩=some kv/\w.cell? ⟨g,k*6+4,none⟩=some vv/\w.cell? ⟨g,k*6+5,none⟩=some dv:=by
 obtain⟨g,c,hv,d,hl⟩:=m.own.form (by omega);have a:=m.own;rw [hv] at a
 have hc:∀(j:Nat) (u:Value),j<6->(nb us k)[j]? =some u->w.cell? ⟨g,k*6+j,none⟩=some u:=fun j u i l=>by
  rw [a.cellAt (k*6+j) (by omega)];exact Mw i l
 rw [m.last] at hc;obtain⟨_,_,e,n,p⟩:=ax a;injection e with _ _ e
 subst e;have b:=(ah a g rfl).2;exact⟨g,_,hv,n,p,d,b,a.frozenAt,hc 0 _ (by omega) rfl,hc 1 _ (by omega) rfl,hc 2 _ (by omega) rfl,hc 3 _ (by omega) rfl,hc 4 _ (by omega) rfl,hc 5 _ (by omega) rfl⟩
theorem Mk.setHigh {g c:Nat} (m:Mk w base E (.slice (some ⟨g,0,none⟩) (k+1) c) k f lev h kv vv dv us) (u:Value):Mk (w.setCell ⟨g,k*6+1,none⟩ u) base E (.slice (some ⟨g,0,none⟩) (k+1) c) k f lev u kv vv dv (us.set (k*6+1) u):=
 ⟨(m.own.stored _ u).1,by rw [l6 u (by omega),m.last];rfl,m.d1,fun j d=>by rw [qJ u (by omega) (by omega)];exact(m.full j d).next (ag.set1 w g _ u) (fun b _ a e=>a.2 (.inl (by rw [show b=g from e];rfl))) (fun _ _ h=>h)⟩
theorem Mk.setKeys {g c:Nat} {wa w2:World} {v2:Value} (m:Mk w base E (.slice (some ⟨g,0,none⟩) (k+1) c) k f lev h kv vv dv us) (d:Below w.heap.size w wa) (t:wa.grownBy w2 kv.ownBlock) (p:v2.ownBlock=kv.ownBlock\/v2.ownBlock=some wa.heap.size):
  Mk (w2.setCell ⟨g,k*6+3,none⟩ v2) base E (.slice (some ⟨g,0,none⟩) (k+1) c) k f lev h v2 vv dv (us.set (k*6+3) v2):=by
 have q:=(ah m.own g rfl).2;have l:ag (fun b=>kv.ownBlock=some b) wa w2:=ag.of_grown t;have r:=aB (own_below m.own d) l (fun n a e=>(m.d1 n a).1 e);have v:=d.size;have i:∀b,b<w.heap.size->v2.ownBlock=some b->kv.ownBlock=some b:=fun b s e=>p.elim (fun o=>o▸e) (fun o=>by rw [o] at e;injection e with e;omega)
 refine⟨(r.stored _ v2).1,by rw [l6 v2 (by omega),m.last];rfl,fun n a=>⟨fun e=> ?_,(m.d1 n a).2⟩,fun j u=> ?_⟩
 ·have a:some g=some n:=a;injection a with a
  subst a
  exact(m.d1 g rfl).1 (i g q e)
 ·rw [qJ v2 (by omega) (by omega)];have x:=(m.full j u).next (ag.of_below (S:=Nil) d) (fun _ _ _ h=>h) (D':=fun b=>((E b\/base<=b)/\¬((Value.slice (some ⟨g,0,none⟩) (k+1) c).ownBlock=some b\/kv.ownBlock=some b\/vv.ownBlock=some b\/dv.ownBlock=some b))/\b<w.heap.size) (fun b d h=>⟨h,d⟩);have y:=x.next l (fun b _ d e=>d.1.2 (.inr (.inl e))) (fun b _ h=>h);exact y.next (ag.set1 w2 g _ v2) (fun b _ d e=>d.1.2 (.inl (by rw [show b=g from e];rfl))) (fun b _ d=>⟨d.1.1,fun h=>d.1.2 (h.imp id (fun h=>h.imp (i b d.2) id))⟩)
theorem Mk.setVals {g c:Nat} {wa w2:World} {v2:Value} (m:Mk w base E (.slice (some ⟨g,0,none⟩) (k+1) c) k f lev h kv vv dv us) (d:Below w.heap.size w wa) (t:wa.grownBy w2 vv.ownBlock) (p:v2.ownBlock=vv.ownBlock\/v2.ownBlock=some wa.heap.size):
  Mk (w2.setCell ⟨g,k*6+4,none⟩ v2) base E (.slice (some ⟨g,0,none⟩) (k+1) c) k f lev h kv v2 dv (us.set (k*6+4) v2):=by
 have q:=(ah m.own g rfl).2;have n:ag (fun b=>vv.ownBlock=some b) wa w2:=ag.of_grown t;have r:=aB (own_below m.own d) n (fun l a e=>(m.d1 l a).2.1 e);have v:=d.size;have i:∀b,b<w.heap.size->v2.ownBlock=some b->vv.ownBlock=some b:=fun b s e=>p.elim (fun o=>o▸e) (fun o=>by rw [o] at e;injection e with e;omega)
 refine⟨(r.stored _ v2).1,by rw [l6 v2 (by omega),m.last];rfl,fun l a=>⟨(m.d1 l a).1,fun e=> ?_,(m.d1 l a).2.2⟩,fun j u=> ?_⟩
 ·have a:some g=some l:=a;injection a with a
  subst a
  exact(m.d1 g rfl).2.1 (i g q e)
 ·rw [qJ v2 (by omega) (by omega)];have x:=(m.full j u).next (ag.of_below (S:=Nil) d) (fun _ _ _ h=>h) (D':=fun b=>((E b\/base<=b)/\¬((Value.slice (some ⟨g,0,none⟩) (k+1) c).ownBlock=some b\/kv.ownBlock=some b\/vv.ownBlock=some b\/dv.ownBlock=some b))/\b<w.heap.size) (fun b d h=>⟨h,d⟩);have y:=x.next n (fun b _ d e=>d.1.2 (.inr (.inr (.inl e)))) (fun b _ h=>h);exact y.next (ag.set1 w2 g _ v2) (fun b _ d e=>d.1.2 (.inl (by rw [show b=g from e];rfl))) (fun b _ d=>⟨d.1.1,fun h=>d.1.2 (h.imp id (fun h=>h.imp id (fun h=>h.imp (i b d.2) id)))⟩)
theorem Mk.setKids {g c:Nat} {wa w2:World} {v2:Value} (m:Mk w base E (.slice (some ⟨g,0,none⟩) (k+1) c) k f lev h kv vv dv us) (d:Below w.heap.size w wa) (t:wa.grownBy w2 dv.ownBlock) (p:v2.ownBlock=dv.ownBlock\/v2.ownBlock=some wa.heap.size):
  Mk (w2.setCell ⟨g,k*6+5,none⟩ v2) base E (.slice (some ⟨g,0,none⟩) (k+1) c) k f lev h kv vv v2 (us.set (k*6+5) v2):=by
 have q:=(ah m.own g rfl).2;have n:ag (fun b=>dv.ownBlock=some b) wa w2:=ag.of_grown t;have r:=aB (own_below m.own d) n (fun l a e=>(m.d1 l a).2.2 e);have v:=d.size;have i:∀b,b<w.heap.size->v2.ownBlock=some b->dv.ownBlock=some b:=fun b s e=>p.elim (fun o=>o▸e) (fun o=>by rw [o] at e;injection e with e;omega)
 refine⟨(r.stored _ v2).1,by rw [l6 v2 (by omega),m.last];rfl,fun l a=>⟨(m.d1 l a).1,(m.d1 l a).2.1,fun e=> ?_⟩,fun j u=> ?_⟩
 ·have a:some g=some l:=a;injection a with a
  subst a
  exact(m.d1 g rfl).2.2 (i g q e)
 ·rw [qJ v2 (by omega) (by omega)];have x:=(m.full j u).next (ag.of_below (S:=Nil) d) (fun _ _ _ h=>h) (D':=fun b=>((E b\/base<=b)/\¬((Value.slice (some ⟨g,0,none⟩) (k+1) c).ownBlock=some b\/kv.ownBlock=some b\/vv.ownBlock=some b\/dv.ownBlock=some b))/\b<w.heap.size) (fun b d h=>⟨h,d⟩);have y:=x.next n (fun b _ d e=>d.1.2 (.inr (.inr (.inr e)))) (fun b _ h=>h);exact y.next (ag.set1 w2 g _ v2) (fun b _ d e=>d.1.2 (.inl (by rw [show b=g from e];rfl))) (fun b _ d=>⟨d.1.1,fun h=>d.1.2 (h.imp id (fun h=>h.imp id (fun h=>h.imp id (i b d.2))))⟩)
theorem Mk.more {wa w2:World} {v2:Value} {lev2:Int} (m:Mk w base E out k f lev h kv vv dv us) (c:Below w.heap.size w wa) (p:wa.grownBy w2 out.ownBlock) (l:v2.ownBlock=out.ownBlock\/v2.ownBlock=some wa.heap.size)
  (r:w2.ownsRow base 132 6 v2 (k+1+1) (us++ [.int .i64 lev2,.slice none 0 0,.int .i64 0,.slice none 0 0,.slice none 0 0,.slice none 0 0]))
  (hn:l5 w (fun b=>(E b\/base<=b)/\out.ownBlock≠some b) [.int .i64 lev,h,.int .i64 0,kv,vv,dv] (f k)):Mk w2 base E v2 (k+1) f lev2 (.slice none 0 0) (.slice none 0 0) (.slice none 0 0) (.slice none 0 0) (us++ [.int .i64 lev2,.slice none 0 0,.int .i64 0,.slice none 0 0,.slice none 0 0,.slice none 0 0]):=by
 have hl:=m.own.1;have s:=c.size;have a:∀b,(Value.slice none 0 0).ownBlock≠some b:=fun b e=>by simp [Value.ownBlock] at e
 have d:∀b,b<w.heap.size->v2.ownBlock=some b->out.ownBlock=some b:=fun b o e=>l.elim (fun i=>i▸e) (fun i=>by rw [i] at e;injection e with e;omega);refine⟨r,Pk hl rfl,fun g _=>⟨a g,a g,a g⟩,fun j q=> ?_⟩;rw [Pj hl q]
 have key:l5 w (fun b=>(E b\/base<=b)/\out.ownBlock≠some b) (nb us j) (f j):=by
  rcases Nat.lt_or_ge j k with n|n
  ·exact(m.full j n).weak (fun b c=>⟨c.1,fun e=>c.2 (.inl e)⟩)
  ·obtain rfl:j=k:=by omega
   rw [m.last];exact hn
 have t:=key.next (ag.of_below (S:=Nil) c) (fun _ _ _ h=>h) (D':=fun b=>((E b\/base<=b)/\out.ownBlock≠some b)/\b<w.heap.size) (fun b c h=>⟨h,c⟩);exact t.next (ag.of_grown p) (fun b _ c e=>c.1.2 e) (fun b _ c=>⟨c.1.1,fun h=>h.elim (fun h=>c.1.2 (d b c.2 h)) (fun h=>h.elim (a b) (fun h=>h.elim (a b) (a b)))⟩)
theorem Mk.level (m:Mk w base E out k f lev h kv vv dv us) (hn:l5 w (fun b=>(E b\/base<=b)/\out.ownBlock≠some b) [.int .i64 lev,h,.int .i64 0,kv,vv,dv] (f k)):Level w (fun b=>E b\/base<=b) base out ((List.range (k+1)).map f):=by
 refine⟨us,by simpa using m.own,fun g j=> .inr (ah m.own g j).1,fun i s c=> ?_⟩;have hi:i<k+1:=by have:=(List.getElem?_eq_some_iff.1 c).1;simpa using this
 have d:s=f i:=by rw [List.getElem?_map,List.getElem?_range hi] at c;simpa using c.symm
 subst d
 rcases Nat.lt_or_ge i k with e|e
 ·exact(m.full i e).weak (fun b a=>a.1)
 ·obtain rfl:i=k:=by omega
  rw [m.last];exact hn.weak (fun b a=>a.1)
end
end
noncomputable def Wi:Code:=aQ (f115.body.bind (aF 6))
theorem Wh (n:Nat) {j X:Option Addr} {z A G F:Nat} {D:Nat->Prop} {xs ys:List UInt8} {k m g:Value} {Y:List Value} (kF:Hid (∀c t (a:Act) w,Q (.panic c) ⟨t,a.defers⟩ w->Q (.panic c) a w))
  (hi:1<=i) (a3:i<n) (hn:n<=1152921504606)
  (c1:w.cell? ⟨b,o+(i-1)*2,none⟩=some (.slice j z G)) (c2:w.cell? ⟨b,o+i*2,none⟩=some (.slice X A F))
  (vo:Hid (Bt w D j z G xs)) (Gh:Hid (Bt w D X A F ys)) (lx:xs.length<=1152921504606) (ly:ys.length<=1152921504606)
  (au:∀(ad ae al am an ao ap aq ar aw aA aE a0 a1 a2:Value) (K5:Option Addr) (n5 c5:Nat) (e5:Int) (v:World),Bt v (From w) K5 n5 c5 (l8 xs ys).1->Below w w v->Q .normal ⟨(p:: .slice (some ⟨b,o,none⟩) n c::y::B::J::s:: .int .i64 i:: .slice K5 n5 c5:: .int .i64 e5::r::L::E::O::W::Z::U::u16::f::C::I::M::P::V::d::l::u25::u26::ad::ae::al::am::an::ao::ap::aq::ar::aw::aA::aE::a0::a1::a2::Y).toArray,[]⟩ v):
  Code.wp prog Wi Q ⟨(p:: .slice (some ⟨b,o,none⟩) n c::y::B::J::s:: .int .i64 i::u7::k::r::L::E::O::W::Z::U::u16::f::C::I::M::P::V::d::l::u25::u26::m::u28::T::u30::g::x::u33::u34::u35::h::u37::u38::N::u40::R::Y).toArray,[]⟩ w:=by
 have dz:=aa au;have w1:=IntWalk.i64_in ((i:Int)-1) (by omega);have w2:(0:Int)<=(i:Int)-1:=by omega
 have w3:((i:Int)-1)<n:=by omega
 have w4:((i:Int)-1).toNat=i-1:=by omega
 have w8:(1:Int)<=(i:Int):=by omega
 have ab:z<=1152921504606:=by have:=vo.out.len;omega
 have ac:A<=1152921504606:=by have:=Gh.out.len;omega
 clear au lx ly;conv=>arg 2;whnf
 refine aO (S:=(fun w'=>w'.cell? ⟨b,o+(i-1)*2,none⟩=some (.slice j z G)/\w'.cell? ⟨b,o+i*2,none⟩=some (.slice X A F))) (by kernel_rfl) ?_;have q:w.drew.cell? ⟨b,o+(i-1)*2,none⟩=some (.slice j z G)/\w.drew.cell? ⟨b,o+i*2,none⟩=some (.slice X A F):=⟨c1,c2⟩;refine vT 0 q ?_;refine vT 1 q ?_;refine vT 2 q ?_;refine vT 3 q ?_;refine vT 4 q ?_;refine vT 6 q ?_;refine vT 7 q ?_;refine vT 8 q ?_;refine vT 9 q ?_;refine vT 5 q ?_;refine vT 10 q ?_;refine nZ 11 fun K hK=> ?_;go_simp;refine(Dv G F vo.2.2.2.drew vo.2.2.1 Gh.2.2.2.drew Gh.2.2.1 Gh.1 ab ac Gh.2.1).mono ?_;rintro e v ⟨K5,n5,c5,rfl,p1,p2,p3,p4,u⟩;have H:v.cell? ⟨b,o+(i-1)*2,none⟩=some (.slice j z G)/\v.cell? ⟨b,o+i*2,none⟩=some (.slice X A F):=⟨aj u q.1,aj u q.2⟩;refine hK.out _ _ H ?_;clear hK K;try simp only [aL,aN,aZ,aC]
 refine vT 12 H ?_;refine vT 13 H ?_;refine vT 14 H ?_;refine vT 15 H ?_;refine vT 16 H ?_;refine bf (by kernel_rfl) ?_ _;exact dz _ _ _ _ _ _ _ _ _ _ _ _ _ _ _ K5 n5 c5 _ v ⟨p1,p2,p3,p4.weak (fun b hb=>hb.1)⟩ (mh.drew.trans u)
noncomputable def Wj:Code:=aQ (f115.body.bind (aF 10))
theorem KC (n:Nat) (q:Nat) (kF:Hid (∀c t (a:Act) w,Q (.panic c) ⟨t,a.defers⟩ w->Q (.panic c) a w))
  (bh:i<n) (_hn:n<=1152921504606) (hm:m<=1152921504606) (hbase:base<=w) (ba:b<base)
  (c1:w.cell? ⟨b,o+i*2,none⟩=some (.slice k Y ch)) (c2:w.cell? ⟨g,q+3,none⟩=some kv) (cf:∀o,w.frozen? ⟨g,o,none⟩=false) (ad:w.ownsRow base 24 1 kv m fE) (I4:kv.ownBlock≠some g)
  (au:∀(ap aq ar aw aA aE a0 a1 a2 a3 a4 a5 a6 a7 a8 a9:Value) (v2:Value) (wa w2:World),Below w w wa->w2.ownsRow base 24 1 v2 (m+1) (fE++ [.slice k Y ch])->wa.grownBy w2 kv.ownBlock->(v2.ownBlock=kv.ownBlock\/v2.ownBlock=some wa)->Q .normal ⟨(p:: .slice (some ⟨b,o,none⟩) n c::y::B::J::s:: .int .i64 i::u7::u8:: .pointer (some ⟨g,q,none⟩)::L::E::O::W::Z::U::G::f::C::I::M::P::V::d::l::z::D::u27::r::T::j::u31::u32::u33::u34::u35::u36::u37::u38::N::u40::R::u42::X::u44::u45::u46::v::u48::u49::H::u51::A::u53::F::u55::S::dZ::u58::ap::aq::ar::aw::aA::aE::a0::a1::a2::a3::a4::a5::a6::a7::a8::a9::u75::iV::jY::jZ::j6::kg::kG::kP::kQ::kR::ko::kU::ng::mI::x::pF::pu:: []).toArray,[]⟩ (w2.setCell ⟨g,q+3,none⟩ v2)):
  Code.wp prog Wj Q ⟨(p:: .slice (some ⟨b,o,none⟩) n c::y::B::J::s:: .int .i64 i::u7::u8:: .pointer (some ⟨g,q,none⟩)::L::E::O::W::Z::U::G::f::C::I::M::P::V::d::l::z::D::u27::r::T::j::u31::u32::u33::u34::u35::u36::u37::u38::N::u40::R::u42::X::u44::u45::u46::v::u48::u49::H::u51::A::u53::F::u55::S::dZ::u58::u59::u60::fw::fJ::u63::u64::gm::u66::gH::u68::u69::u70::iM::u72::u73::iN::u75::iV::jY::jZ::j6::kg::kG::kP::kQ::kR::ko::kU::ng::mI::x::pF::pu:: []).toArray,[]⟩ w:=by
 obtain⟨i0,an,iC,iD,iE⟩:=info_parts gM;have dz:=aa au;have HO:=aa ad;have HC:=aa cf;have am:g<w:=eU c2;clear au ad cf;conv=>arg 2;whnf
 refine aM (fun w'=>w'.cell? ⟨b,o+i*2,none⟩=some (.slice k Y ch)/\w'.cell? ⟨g,q+3,none⟩=some kv) 16 (by kernel_rfl) ?_;have S0:w.drew.cell? ⟨b,o+i*2,none⟩=some (.slice k Y ch)/\w.drew.cell? ⟨g,q+3,none⟩=some kv:=⟨c1,c2⟩;refine uF 0 (fun _=>S0) ?_;refine uF 1 (fun _=>S0) ?_;refine uF 2 (fun _=>S0) ?_;refine uF 3 (fun _=>S0) ?_;refine uF 4 (fun _=>S0) ?_;refine uF 6 (fun _=>S0) ?_;refine uF 7 (fun _=>S0) ?_;refine uF 8 (fun _=>S0) ?_;refine uF 9 (fun _=>S0) ?_;refine uT 5 S0 ?_;refine uT 10 S0 ?_;refine mR 11 fun K hK=> ?_;go_simp;have ae:Below w.drew.heap.size w.drew (w.drew.alloc (.cells #[.slice k Y ch] 24)):=gV;have S2:(w.drew.alloc (.cells #[.slice k Y ch] 24)).cell? ⟨b,o+i*2,none⟩=some (.slice k Y ch)/\(w.drew.alloc (.cells #[.slice k Y ch] 24)).cell? ⟨g,q+3,none⟩=some kv:=⟨aj ae S0.1,aj ae S0.2⟩;refine hK.out _ _ (fun _=>S2) ?_;clear hK K;try simp only [aL,aN,aZ,aC]
 refine mR 12 fun K hK=> ?_;refine aG _ rfl (.tmp 64) (.tmp 70) _ rfl base 24 i0 _ 1 24 underlying128 an iC iD iE rfl (by omega) kv m fE rfl (own_below HO (mh.drew.alloc jO _)) (From w) (some ⟨w,0,none⟩) 1 1 [.slice k Y ch] rfl (Rd.one w.drew _ _) (by intro u hu;simp at hu;subst hu;rfl) (by simp only [maxLen];omega) (by omega) (by simp;omega) ?_;intro v2 w2 ab ac bU;obtain⟨K2,Ap,ao,_,_⟩:=ax ab;subst ao;have iG:=aa ab;have rC:=aa ac;have al:=aa bU;have xO:w2.cell? ⟨g,q+3,none⟩=some kv:=(ag.of_grown ac).cell I4 S2.2;have be:∀o,w2.frozen? ⟨g,o,none⟩=false:=fe.chg (w:=w) HC (((ag.refl (fun b=>kv.ownBlock=some b) w).then (mh.drew.alloc jO _)).trans (ag.of_grown ac) (fun _ _ h=>h)) am I4;have S3:w2.cell? ⟨b,o+i*2,none⟩=some (.slice k Y ch)/\w2.cell? ⟨g,q+3,none⟩=some kv:=⟨(ag.of_grown ac).cell (fun e=>by have:=(ah HO _ e).1;omega) S2.1,xO⟩;clear ab ac bU;refine rR hK (fun _=>S3) ?_;clear hK K;refine uF 13 (fun _=>S3) ?_;refine uF 14 (fun _=>S3) ?_;refine uF 15 (fun _=>S3) ?_;refine mR 16 fun K hK=> ?_;go_simp;refine hK.out _ _ (fun h=>absurd h (by decide)) ?_;clear hK K;try simp only [aL,aN,aZ,aC]
 refine bH (by kernel_rfl) ?_ _;exact dz _ _ _ _ _ _ _ _ _ _ _ _ _ _ _ _ _ _ w2 (mh.drew.alloc jO _) iG rC al
noncomputable def Wk:Code:=aQ (f115.body.bind (aF 11))
theorem KD (n:Nat) (q:Nat) (kF:Hid (∀c t (a:Act) w,Q (.panic c) ⟨t,a.defers⟩ w->Q (.panic c) a w))
  (ba:i<n) (_hn:n<=1152921504606) (hm:m<=1152921504606) (hbase:base<=w) (a8:b<base)
  (c1:w.cell? ⟨b,o+i*2+1,none⟩=some (.slice k Y ch)) (c2:w.cell? ⟨g,q+4,none⟩=some kv) (cf:∀o,w.frozen? ⟨g,o,none⟩=false) (ad:w.ownsRow base 24 1 kv m fE) (I4:kv.ownBlock≠some g)
  (au:∀(ap aq ar aw aA aE a0 a1 a2 a3 a4 a5 a6 sU a7 sV:Value) (v2:Value) (wa w2:World),Below w w wa->w2.ownsRow base 24 1 v2 (m+1) (fE++ [.slice k Y ch])->wa.grownBy w2 kv.ownBlock->(v2.ownBlock=kv.ownBlock\/v2.ownBlock=some wa)->Q .normal ⟨(p:: .slice (some ⟨b,o,none⟩) n c::y::B::J::s:: .int .i64 i::u7::u8:: .pointer (some ⟨g,q,none⟩)::L::E::O::W::Z::U::G::f::C::I::M::P::V::d::u24::z::D::u27::r::u29::j::u31::x::u33::u34::u35::u36::u37::u38::N::u40::R::u42::X::u44::u45::u46::v::u48::u49::H::u51::A::u53::F::u55::S::dZ::u58::u59::u60::fw::fJ::u63::u64::gm::u66::l::u68::u69::u70::T::u72::u73::iN::ap::aq::ar::aw::aA::aE::a0::a1::a2::a3::a4::a5::a6::sU::a7::sV::pu:: []).toArray,[]⟩ (w2.setCell ⟨g,q+4,none⟩ v2)):
  Code.wp prog Wk Q ⟨(p:: .slice (some ⟨b,o,none⟩) n c::y::B::J::s:: .int .i64 i::u7::u8:: .pointer (some ⟨g,q,none⟩)::L::E::O::W::Z::U::G::f::C::I::M::P::V::d::u24::z::D::u27::r::u29::j::u31::x::u33::u34::u35::u36::u37::u38::N::u40::R::u42::X::u44::u45::u46::v::u48::u49::H::u51::A::u53::F::u55::S::dZ::u58::u59::u60::fw::fJ::u63::u64::gm::u66::l::u68::u69::u70::T::u72::u73::iN::u75::iV::jY::jZ::j6::kg::kG::kP::kQ::kR::ko::kU::ng::mI::mJ::pF::pu:: []).toArray,[]⟩ w:=by
 obtain⟨i0,an,iC,iD,iE⟩:=info_parts gM;have dz:=aa au;have HO:=aa ad;have HC:=aa cf;have am:g<w:=eU c2;clear au ad cf;conv=>arg 2;whnf
 refine aM (fun w'=>w'.cell? ⟨b,o+i*2+1,none⟩=some (.slice k Y ch)/\w'.cell? ⟨g,q+4,none⟩=some kv) 16 (by kernel_rfl) ?_;have S0:w.drew.cell? ⟨b,o+i*2+1,none⟩=some (.slice k Y ch)/\w.drew.cell? ⟨g,q+4,none⟩=some kv:=⟨c1,c2⟩;refine uF 0 (fun _=>S0) ?_;refine uF 1 (fun _=>S0) ?_;refine uF 2 (fun _=>S0) ?_;refine uF 3 (fun _=>S0) ?_;refine uF 4 (fun _=>S0) ?_;refine uF 6 (fun _=>S0) ?_;refine uF 7 (fun _=>S0) ?_;refine uF 8 (fun _=>S0) ?_;refine uF 9 (fun _=>S0) ?_;refine uT 5 S0 ?_;refine uT 10 S0 ?_;refine mR 11 fun K hK=> ?_;go_simp;have ae:Below w.drew.heap.size w.drew (w.drew.alloc (.cells #[.slice k Y ch] 24)):=gV;have S2:(w.drew.alloc (.cells #[.slice k Y ch] 24)).cell? ⟨b,o+i*2+1,none⟩=some (.slice k Y ch)/\(w.drew.alloc (.cells #[.slice k Y ch] 24)).cell? ⟨g,q+4,none⟩=some kv:=⟨aj ae S0.1,aj ae S0.2⟩;refine hK.out _ _ (fun _=>S2) ?_;clear hK K;try simp only [aL,aN,aZ,aC]
 refine mR 12 fun K hK=> ?_;refine aG _ rfl (.tmp 80) (.tmp 86) _ rfl base 24 i0 _ 1 24 underlying128 an iC iD iE rfl (by omega) kv m fE rfl (own_below HO (mh.drew.alloc jO _)) (From w) (some ⟨w,0,none⟩) 1 1 [.slice k Y ch] rfl (Rd.one w.drew _ _) (by intro u hu;simp at hu;subst hu;rfl) (by simp only [maxLen];omega) (by omega) (by simp;omega) ?_;intro v2 w2 ab ac bU;obtain⟨K2,Ap,ao,_,_⟩:=ax ab;subst ao;have iG:=aa ab;have rC:=aa ac;have al:=aa bU;have xO:w2.cell? ⟨g,q+4,none⟩=some kv:=(ag.of_grown ac).cell I4 S2.2;have a9:∀o,w2.frozen? ⟨g,o,none⟩=false:=fe.chg (w:=w) HC (((ag.refl (fun b=>kv.ownBlock=some b) w).then (mh.drew.alloc jO _)).trans (ag.of_grown ac) (fun _ _ h=>h)) am I4;have S3:w2.cell? ⟨b,o+i*2+1,none⟩=some (.slice k Y ch)/\w2.cell? ⟨g,q+4,none⟩=some kv:=⟨(ag.of_grown ac).cell (fun e=>by have:=(ah HO _ e).1;omega) S2.1,xO⟩;clear ab ac bU;refine rR hK (fun _=>S3) ?_;clear hK K;refine uF 13 (fun _=>S3) ?_;refine uF 14 (fun _=>S3) ?_;refine uF 15 (fun _=>S3) ?_;refine mR 16 fun K hK=> ?_;go_simp;refine hK.out _ _ (fun h=>absurd h (by decide)) ?_;clear hK K;try simp only [aL,aN,aZ,aC]
 refine bH (by kernel_rfl) ?_ _;exact dz _ _ _ _ _ _ _ _ _ _ _ _ _ _ _ _ _ _ w2 (mh.drew.alloc jO _) iG rC al
theorem d9.off {j:Nat} {F:List Value} (h:d9 w base nU j i kv vv fE F) (o:Nat) (u:Value) (c:kv.ownBlock≠some b) (hv:vv.ownBlock≠some b):d9 (w.setCell ⟨b,o,none⟩ u) base nU j i kv vv fE F:=
 ⟨aB h.k (ag.set1 w b o u) (fun g a e=>c (by rw [a,show g=b from e])),aB h.v (ag.set1 w b o u) (fun g a e=>hv (by rw [a,show g=b from e])),h.dis,h.ku,h.vu⟩
end Go.Proofs.YtepgcjbhabnciaaGreat
