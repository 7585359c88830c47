/- Part 31. -/
import Derived.Test.YtepgcjbhabnciaaGreatLp30
namespace Go.Proofs.YtepgcjbhabnciaaGreat
set_option maxRecDepth 100000
set_option maxHeartbeats 8000000
open Go.Proofs.Tryz Go.RowKit
variable {B x kv vv dv j p y J u6 u7 L E O W Z U f C I M P V d z u27 r T u31 u33 u35 u36 u37 N R X u45 u46 v u48 u49 H u51 u53 u55 S dZ u58 u59 fw u34 u38 u40 u42 u44 u60 e t K fJ u63 u64 gm u66 gH u68 u69 u70 iM u72 u73 iN u75:Value} {n i base s k m hn hc a b g fill inn o c Y ch:Nat} {vs fE F us oN nU Tu:List Value} {D G q:Nat->Prop} {w w':World} {hA A:Option Addr} {first lev:Int} {l:List aR}
def xh (fill:Nat) (l:List aR) (j:Nat):Nd:=⟨0,iX fill l j,0,((l.drop (j*fill)).take fill).map Prod.fst,((l.drop (j*fill)).take fill).map Prod.snd,[]⟩
def bW (fill:Nat) (l:List aR):List Nd:=(List.range (pn l.length fill)).map (xh fill l)
theorem CK:(prog.info? 132).map (fun i=>(i.zero,i.size,i.bytes))=some (some (.agg #[.int .i64 0,(),.int .i64 0,(),(),()]),6,112):=by kernel_rfl
theorem Rd.lit (w:World) (cs:Array Value) (t:TypeId) (n:Nat) (hn:cs.size=n):Rd (w.alloc (.cells cs t)) (From w) n (some ⟨w,0,none⟩) 1 cs.toList:=
 ⟨by simp [hn],fun _=>⟨w,0,rfl,jO,fun j x a=>by
  rw [(ak.new w t cs).cell,Nat.zero_add];simpa using a⟩⟩
theorem Tj {B:Option Addr} (x:Rd w D 2 B n vs) (h:Am w D vs l) (E:n<=l.length) (t:i<n):
  ∃b o a g d c j f,B=some ⟨b,o,none⟩/\D b/\vs[2*i]? =some (.slice a g d)/\vs[2*i+1]? =some (.slice c j f)/\w.cell? ⟨b,o+i*2,none⟩=some (.slice a g d)/\w.cell? ⟨b,o+i*2+1,none⟩=some (.slice c j f)/\∃e:aR,l[i]? =some e/\SB w D (.slice a g d) e.1/\SB w D (.slice c j f) e.2:=by
 obtain⟨b,o,u,v,e,s,k,m,c1,p⟩:=x.at2 t;have hl:i<l.length:=by omega
 obtain⟨F,G,q,r,y,z⟩:=h i _ (mP hl);rw [q] at k;rw [r] at m;injection k with k;injection m with m
 subst k;subst m;obtain⟨a,g,d,rfl,A⟩:=y;obtain⟨c,j,f,rfl,C⟩:=z;rw [Nat.mul_comm 2 i] at c1 p;rw [<-Nat.add_assoc] at p;exact⟨b,o,a,g,d,c,j,f,e,s,q,r,c1,p,_,mP hl,⟨_,_,_,rfl,A⟩,⟨_,_,_,rfl,C⟩⟩
theorem OK {x:Nat} (h:d9 w base (vs.drop (s*2)) x x kv vv fE F) (ht:Am w D vs l) (B:s+x<=l.length)
  (A:∀b,kv.ownBlock=some b->G b) (hv:∀b,vv.ownBlock=some b->G b) (K:∀b,D b->G b):∃kA kc vA vc,kv= .slice kA x kc/\vv= .slice vA x vc/\Tx w G kA x kc (((l.drop s).take x).map Prod.fst)/\Tx w G vA x vc (((l.drop s).take x).map Prod.snd):=by
 obtain⟨kA,kc,rfl,q,r⟩:=ax h.k;obtain⟨vA,vc,rfl,y,z⟩:=ax h.v;have hl:((l.drop s).take x).length=x:=by rw [List.length_take,List.length_drop];omega
 have key:∀(i:Nat),i<x->∃e:aR,((l.drop s).take x)[i]? =some e/\l[s+i]? =some e:=by
  intro i hi;have:s+i<l.length:=by omega
  exact⟨l[s+i],by rw [List.getElem?_take,if_pos hi,List.getElem?_drop];exact mP this,mP this⟩
 have c:∀(i j:Nat),(vs.drop (s*2))[2*i+j]? =vs[2*(s+i)+j]? :=by
  intro i j;rw [List.getElem?_drop,show s*2+(2*i+j)=2*(s+i)+j by omega]
 refine⟨kA,kc,vA,vc,rfl,rfl,⟨q,r,aa (by rw [List.length_map,hl]),fE,fB h.k A,fun i t a=> ?_⟩,⟨y,z,aa (by rw [List.length_map,hl]),F,fB h.v hv,fun i t a=> ?_⟩⟩
 ·have hi:i<x:=by have:=(nE.1 a).1;rw [List.length_map,hl] at this;exact this
  obtain⟨e,d,f⟩:=key i hi;rw [List.getElem?_map,d] at a;injection a with a;subst a;obtain⟨u,v,m,n,o,p⟩:=ht _ e f;have g:=c i 0;rw [Nat.add_zero,Nat.add_zero] at g
  exact⟨u,by rw [h.ku i hi,g];exact m,o.weak K⟩
 ·have hi:i<x:=by have:=(nE.1 a).1;rw [List.length_map,hl] at this;exact this
  obtain⟨e,d,f⟩:=key i hi;rw [List.getElem?_map,d] at a;injection a with a;subst a;obtain⟨u,v,m,n,o,p⟩:=ht _ e f;exact⟨v,by rw [h.vu i hi,c i 1];exact n,p.weak K⟩
theorem MB (h:d9 w base (vs.drop (k*fill*2)) m m kv vv fE F) (ht:Am w D vs l) (g:k*fill+m<=l.length)
  (d:∀b,kv.ownBlock=some b->G b) (hv:∀b,vv.ownBlock=some b->G b) (K:∀b,D b->G b) (a:(l.drop (k*fill)).take fill=(l.drop (k*fill)).take m) (c:Bt w G hA hn hc (iX fill l k)):
  l5 w G [.int .i64 0,.slice hA hn hc,.int .i64 0,kv,vv,()] (xh fill l k):=by
 obtain⟨kA,kc,vA,vc,rfl,rfl,e,f⟩:=OK h ht g d hv K
 refine⟨hA,hn,hc,kA,m,kc,vA,m,vc,none,0,0,rfl,c,?_,?_,It.nil _ _⟩
 ·show Tx w G kA m kc (((l.drop (k*fill)).take fill).map Prod.fst);rw [a];exact e
 ·show Tx w G vA m vc (((l.drop (k*fill)).take fill).map Prod.snd);rw [a];exact f
theorem Hq (nd lf bl inn:Int) (fill:Nat) (c:Nat) (a8:1<=fill) (cG:fill<=64) (z:dh w q A n l) (hnc:n<=c) (_t:c<=maxLen) (hn:n<=1152921504606) (H:0<n)
  (bk:∀e∈l,e.1.length<=1152921504606/\e.2.length<=1152921504606):
  Calls prog 115 #[.agg #[nd,lf,inn,(fill:Int),bl],.slice A n c] w fun e w'=>∃v,e= .returned v/\Level w' (fun b=>(q b/\b<w)\/w<=b) w v (bW fill l)/\Below w w w':=by
 obtain⟨i0,ac,iC,iD,iE⟩:=info_parts CK;have HL:=aa z.len;obtain⟨_,vs,ap,bm⟩:=z.lt;have HR:=aa ap;have HT:=aa (show Am w (fun b=>q b/\b<w) vs l from bm);have HS:=aa bk;obtain⟨b,o,_,_,_,_,_,_,_,_,rfl,_⟩:=z.at_ H;have cF:b<w:=by obtain⟨b',o',_,_,e,hd,_⟩:=ap.at2 H;injection e with e;injection e with e;exact e▸hd.2
 clear z bk ap bm;go_enter func115,ntmps115;go_wp2;obtain⟨d,ab⟩:=gF (w.alloc (.cells #[.int .i64 nd,.int .i64 lf,.int .i64 inn,.int .i64 fill,.int .i64 bl] 23))
 rw [<-ab];have Z:d.heap.size=w.heap.size+1:=by rw [ab];simp
 have cy:=aa Z;rw [<-Z];have dW:Hid (Below w w d):=aa (by rw [ab];exact gV);have Cn:Hid (d.cell? ⟨w,3,none⟩=some (.int .i64 fill)):=aa (by rw [ab];exact((ak.new w 23 _).cell 3).trans rfl);have F:b<d:=by omega
 have ZT:w.heap.size<d:=by omega
 clear ab Z
 go_loopg [5,6] n (fun g' out iv wr=>∃(i k m:Nat) (us:List Value) (kv vv:Value) (fE oD:List Value),g'=n-i/\i<=n/\iv= (i:Int)/\Hid (i=k*fill+m/\m<=fill/\(0<i->0<m))/\Mk wr d (fun b=>q b/\b<w) out k (xh fill l) 0 () kv vv () us/\d9 wr d (vs.drop (k*fill*2)) m m kv vv fE oD/\Below d d wr)
 case atStart=>
  refine⟨0,0,0,[.int .i64 0,(),.int .i64 0,(),(),()],(),(),[],[],by omega,by omega,rfl,aa ⟨by omega,by omega,fun h=>h⟩,⟨?_,rfl,fun g _=>⟨by simp [Value.ownBlock],by simp [Value.ownBlock],by simp [Value.ownBlock]⟩,fun j hj=>absurd hj (by omega)⟩,d9.nil _ _ _,gV⟩;have:=ak.new d 132 #[.int .i64 0,(),.int .i64 0,(),(),()]
  exact⟨rfl,.inr ⟨d.heap.size,1,_,rfl,Nat.le_refl _,this,by omega,by simp [maxLen],rfl,rfl⟩⟩
 case round=>
  obtain⟨i,k,m,us,kv,vv,fE,oD,hg,cJ,rfl,ba,bh,bj,a6⟩:=hrel;have HG:=aa hg;have Ao:=ba;have T:=aa bh;have B:=aa bj;have je:=aa a6
  rename World=>wr
  clear hg ba bh bj a6;obtain⟨g,gc,rfl,cH,f,r,cI,a9,q0,q1,q2,q3,q4,q5⟩:=T.out.form;have NT:=aa q1;have cC:=aa a9;clear q0 q1 q2 q3 q4 q5 a9;have cD:wr.cell? ⟨w,3,none⟩=some (.int .i64 fill):=iL je ZT Cn;have cA:(i:Int)<=1152921504606:=by omega
  have cN:=IntWalk.i64_in ((i:Int)+1) (by omega);have C:d.heap.size<=wr.heap.size:=je.out.size;have jm:Hid (Below w.heap.size w wr):=aa (dW.out.trans (je.mono (by omega)));have cK:k<=1152921504606:=by have:=Ao.out.1;have:k*1<=k*fill:=Nat.mul_le_mul_left _ a8;omega
  have cL:m<=1152921504606:=by have:=Ao.out.1;omega
  by_cases L:i<n
  ·have cw:(i:Int)<(n:Int):=by omega
   obtain⟨b',o',Ak,nk,ck,Av,nv,cv,hB,_,f1,f2,aA,aE,eb,ZA,sb,_⟩:=Tj HR.out HT (by have:=HL.out;omega) L;injection hB with hB;injection hB with am an
   subst am;subst an;have C1:=aa (aj jm aA);have C2:=aa (aj jm aE);have Ul:=aa f1;have JP:=aa f2;have aq:=aa ZA;have cn:=aa (sb.below jm).bt;clear f1 f2 aA aE ZA sb
   by_cases hm:0<i/\m=fill
   ·have Ou:(0:Int)<(i:Int):=by omega
    have ZU:((i:Int)%(fill:Int)==0)=true:=by
     rw [beq_iff_eq];have:=Ao.out.1;rw [this,hm.2,show k*fill+fill=(k+1)*fill by rw [Nat.add_mul];omega,Int.natCast_mul];exact Int.mul_emod_left _ _
    obtain⟨b',o',cx,cO,cE,_,_,_,hB,_,_,_,a0,_,ea,Zz,sa,_⟩:=Tj HR.out HT (by have:=HL.out;omega) (show i-1<n by omega);injection hB with hB;injection hB with am an
    subst am;subst an;have C3:=aa (aj jm a0);have cl:=aa (sa.below jm).bt;have ad:i=(k+1)*fill:=by have:=Ao.out.1;rw [this,hm.2,Nat.add_mul];omega
    have cq:Hid (iX fill l k=(l8 ea.1 eb.1).1):=aa (by
     have q1:l.getD ((k+1)*fill-1) ([],[])=ea:=by rw [<-ad,List.getD_eq_getElem?_getD,Zz];rfl
     have q2:l.getD ((k+1)*fill) ([],[])=eb:=by rw [<-ad,List.getD_eq_getElem?_getD,aq.out];rfl
     unfold iX;rw [if_pos (by have:=HL.out;omega),q1,q2])
    have la:ea.1.length<=1152921504606:=(HS.out _ (nT Zz)).1;have lb:eb.1.length<=1152921504606:=(HS.out _ (nT aq)).1;have Gy:=aa hm;have ar:=aa ad;have w1:=IntWalk.i64_in ((k:Int)+1-1) (by omega);have w2:(0:Int)<=(k:Int)+1-1:=by omega
    have w3:((k:Int)+1-1)<(k:Int)+1:=by omega
    have w4:((k:Int)+1-1).toNat=k:=by omega
    have SI:1<=i:=by omega
    clear a0 Zz sa hm ad;go_wp2;refine Wh n (aa (fun _ _ _ _ h=>h)) SI L hn C3.out C1.out cl cn la lb ?_;intro cP cQ cR cS cT cU cV cW cX cY c2 c3 c4 c6 c7 K5 n5 c5 e5 w5 be Y;have F5:=aa be;have eF:=aa Y;have q1:=aj Y NT;have al:=T.out.below Y;have qf:∀o,w5.frozen? ⟨g,o,none⟩=false:=(al.own).frozenAt;have OL:=aa (al.setHigh (.slice K5 n5 c5));have lX:=aa OL.own;have Tk:d.heap.size<=w5:=ma C Y.size;clear be Y al;go_wp2_with (first|(at_builtin;go_loud (refine af _ rfl (.tmp 50) (.tmp 52) _ rfl d 132 i0 _ 6 112 underlying225 ac iC iD iE rfl (by omega) (.slice (some ⟨g,0,none⟩) (k+1) gc) (k+1) (us.set (k*6+1) (.slice K5 n5 c5)) rfl (lX.alloc _) (From w5) (some ⟨w5,0,none⟩) 1 1 [.int .i64 0,(),.int .i64 0,(),(),()] rfl (by have:=Rd.lit (w5.setCell ⟨g,k*6+1,none⟩ (.slice K5 n5 c5)) #[.int .i64 0,(),.int .i64 0,(),.slice none 0 0,.slice none 0 0] 132 6 rfl;simpa using this) (by simp [Value.oneCell']) (by simp only [maxLen];omega) (by omega) (by simp;omega) ?_);intro v6 w6 R eX dF;obtain⟨Q,co,ct,_,_⟩:=R.form (by omega);subst ct;have nW:=aa R;have Yg:=aa eX;have cj:=aa dF;clear R eX dF))
    have au:Mk w6 d.heap.size (fun b=>q b/\b<w.heap.size) (.slice (some ⟨Q,0,none⟩) (k+1+1) co) (k+1) (xh fill l) 0 (.slice none 0 0) (.slice none 0 0) (.slice none 0 0) (.slice none 0 0) (us.set (k*6+1) (.slice K5 n5 c5)++ [.int .i64 0,.slice none 0 0,.int .i64 0,.slice none 0 0,.slice none 0 0,.slice none 0 0]):=by
     refine OL.more ((Below.refl _ _).alloc (Nat.le_refl _) _) Yg cj nW ?_;have ae:∀x,(kv.ownBlock=some x\/vv.ownBlock=some x)->(Value.slice (some ⟨g,0,none⟩) (k+1) gc).ownBlock≠some x:=fun x a e=>a.elim (OL.d1 x e).1 (OL.d1 x e).2.1;have a7:ag (jX g) w5 (w5.setCell ⟨g,k*6+1,none⟩ (.slice K5 n5 c5)):=ag.set1 _ _ _ _;have aw:=(B.out.below eF).off (k*6+1) (.slice K5 n5 c5) (b:=g) (OL.d1 g rfl).1 (OL.d1 g rfl).2.1;have e1:=Gy.out.2;rw [e1] at aw;refine MB (m:=fill) aw ((HT.below jm).next (ag.of_below (S:=jX g) eF|>.trans a7 (fun _ _ h=>h)) (fun x a e=>by have e:x=g:=e;have:=a.2;omega) (fun _ _ h=>h)) (by have e3:=ar.out;have:=HL.out;rw [Nat.add_mul] at e3;omega) (fun x a=>⟨.inr (ah B.k x a).1,ae x (.inl a)⟩) (fun x a=>⟨.inr (ah B.v x a).1,ae x (.inr a)⟩) (fun x a=>⟨.inl a,fun e=>by have:g=x:=(by simpa [Value.ownBlock] using e);have:=a.2;omega⟩) rfl ?_;rw [cq.out];exact((F5.weak (G:=fun x=>wr<=x) (fun x a=>a)).chg a7 (fun x a e=>by have e:x=g:=e;omega)).weak (fun x a=>⟨.inr (by omega),fun e=>by have:g=x:=(by simpa [Value.ownBlock] using e);omega⟩)
    have xM:=aa au;have iF:Hid (Below d d w6):=aa (((((je.out.trans (eF.mono C)).setCell (p:=⟨g,k*6+1,none⟩) r (.slice K5 n5 c5)).alloc (by simp;omega) (.cells #[.int .i64 0,(),.int .i64 0,(),(),()] 132))).grown Yg (by simp;omega) (fun x a=>by have:g=x:=(by simpa [Value.ownBlock] using a);omega));have xA:d.heap.size<=w6:=iF.out.size;have fK:Hid (Below d wr w6):=aa (((((eF.mono C).setCell (p:=⟨g,k*6+1,none⟩) r (.slice K5 n5 c5)).alloc (by simp;omega) (.cells #[.int .i64 0,(),.int .i64 0,(),(),()] 132))).grown Yg (by simp;omega) (fun x a=>by have:g=x:=(by simpa [Value.ownBlock] using a);omega));have ch:Hid (w6.cell? ⟨b,o+i*2,none⟩=some (.slice Ak nk ck)):=aa (iL fK F C1.out);have ci:Hid (w6.cell? ⟨b,o+i*2+1,none⟩=some (.slice Av nv cv)):=aa (iL fK F C2.out);have xN:Hid (d9 w6 d (vs.drop ((k+1)*fill*2)) 0 0 () () [] []):=aa (d9.nil _ _ _);clear au w1 w2 w3 w4;have w1:=IntWalk.i64_in ((k:Int)+1+1-1) (by omega);have w2:(0:Int)<=(k:Int)+1+1-1:=by omega
    have w3:((k:Int)+1+1-1)<(k:Int)+1+1:=by omega
    have w4:((k:Int)+1+1-1).toNat=k+1:=by omega
    have lT:Hid (i=(k+1)*fill+0):=aa (by have:=ar.out;omega);have Mf:Hid (∀x,(Value.slice none 0 0).ownBlock=some x->d<=x):=aa (fun x a=>(ah xN.k x a).1);have W:Hid (∀x,(Value.slice none 0 0).ownBlock=some x->d<=x):=aa (fun x a=>(ah xN.v x a).1);have D1:=aa (xM.d1 Q rfl);obtain⟨gx,gy,D,_,_,_,_,K,_,_,_,O,_,_⟩:=xM.out.form;injection D with D _ D5
    injection D with D
    injection D with D
    subst D;subst D5;have qW:=aa K;have Tm:=aa O;clear K O
    skip
    refine KC n ((k+1)*6) (m:=0) (aa (fun _ _ _ _ h=>h)) L hn (by omega) xA F ch.out Tm qW xN.k D1.out.1 ?_;intro bo bp bx bz bE bF bG bI bL bN bP bQ bT bX b0 b1 v2 wa w2 E M f X;have y:Hid (Below d d (w2.setCell ⟨Q,(k+1)*6+3,none⟩ v2)):=aa (((iF.out.trans (E.mono xA)).grown f (ma xA E.size) (fun x a=>Mf x a)).setCell (p:=⟨Q,(k+1)*6+3,none⟩) (by show d<=Q;omega) v2);have sI:Hid (Below d w6 (w2.setCell ⟨Q,(k+1)*6+3,none⟩ v2)):=aa (((E.mono xA).grown f (ma xA E.size) (fun x a=>Mf x a)).setCell (p:=⟨Q,(k+1)*6+3,none⟩) (by show d<=Q;omega) v2);have P:=aa (xM.setKeys E f X);have Hw:v2.ownBlock≠some Q:=P.out.d1 Q rfl|>.1;have kZ:=aa ((d9.key (xN.below E) M f X (by rw [List.getElem?_drop,show(k+1)*fill*2+2*0=2*i by have:=lT.out;omega];exact Ul)).off ((k+1)*6+3) v2 Hw D1.out.2.1);have Hy:=aa (iL sI F ci.out);clear M f X E Hw sI;obtain⟨W2,I⟩:=gF (w2.setCell ⟨Q,(k+1)*6+3,none⟩ v2);rw [<-I] at y P kZ Hy|-;clear I;obtain⟨g',a5,e,_,_,_,_,J,_,_,_,_,q4,_⟩:=P.out.form;injection e with e _ e'
    injection e with e
    injection e with e
    subst e;subst e';have Tn:=aa q4;have V:=aa J;have D2:=aa (P.d1 Q rfl);clear q4 J;go_wp2_with fail;refine KD n ((k+1)*6) (m:=0) (aa (fun _ _ _ _ h=>h)) L hn (by omega) y.size F Hy Tn V kZ.v D2.out.2.1 ?_;intro b2 b3 b4 b5 b6 b7 b8 b9 ca cb cd ce cf sU cg sV v3 wb w3 u N r ic;have hz:d.heap.size<=W2:=y.out.size;have U:=aa (((y.out.trans (u.mono hz)).grown r (ma hz u.size) (fun x a=>W x a)).setCell (p:=⟨Q,(k+1)*6+4,none⟩) (by show d<=Q;omega) v3);have zI:=aa (P.setVals u r ic);have Tp:=aa ((d9.val (kZ.below u) N r ic (by rw [List.getElem?_drop,show(k+1)*fill*2+(2*0+1)=2*i+1 by have:=lT.out;omega];exact JP)).off ((k+1)*6+4) v3 (zI.d1 Q rfl).1 (zI.d1 Q rfl).2.1);clear N r ic u;go_wp2
    go_roundg (n-(i+1))
    case measure=>have:=HG.out;omega
    case rel=>exact⟨i+1,(k+1),0+1,_,_,_,_,_,rfl,by omega,by go_num,aa ⟨by have:=lT.out;omega,by omega,fun _=>by omega⟩,zI,Tp,U⟩
   ·have ao:¬(0:Int)<(i:Int)\/(0:Int)<(i:Int)/\((i:Int)%(fill:Int)==0)=false:=by
     by_cases ac:0<i
     ·refine .inr ⟨by omega,?_⟩;rw [mi];have e1:=Ao.out;have X0:m<fill:=by have:m≠fill:=fun e=>hm ⟨ac,e⟩;omega
      rw [e1.1,Int.natCast_add,Int.natCast_mul,Int.add_comm,Int.add_mul_emod_self_right,Int.emod_eq_of_lt (by omega) (by omega)];have:=e1.2.2 ac
      omega
     ·left;omega
    have X0:m<fill:=by
     have e1:=Ao.out
     rcases Nat.lt_or_ge m fill with h|h
     ·exact h
     ·have:m=fill:=by omega
      exact absurd ⟨by have:=e1.1;omega,this⟩ hm
    have lT:Hid (i=k*fill+m):=aa Ao.1
    rcases ao with ao|⟨cu,ao⟩
    ·skip
     have Mf:Hid (∀x,kv.ownBlock=some x->d<=x):=aa (fun x a=>(ah B.k x a).1);have W:Hid (∀x,vv.ownBlock=some x->d<=x):=aa (fun x a=>(ah B.v x a).1);have D1:=aa (T.d1 g rfl);obtain⟨gx,gy,D,_,_,_,_,K,_,_,_,O,_,_⟩:=T.out.form;injection D with D _ D5
     injection D with D
     injection D with D
     subst D;subst D5;have qW:=aa K;have Tm:=aa O;clear K O;go_wp2_with fail;refine KC n (k*6) (aa (fun _ _ _ _ h=>h)) L hn (by omega) C F C1.out Tm qW B.k D1.out.1 ?_;intro bo bp bx bz bE bF bG bI bL bN bP bQ bT bX b0 b1 v2 wa w2 E M f X;have y:Hid (Below d d (w2.setCell ⟨g,k*6+3,none⟩ v2)):=aa (((je.out.trans (E.mono C)).grown f (ma C E.size) (fun x a=>Mf x a)).setCell (p:=⟨g,k*6+3,none⟩) (by show d<=g;omega) v2);have sI:Hid (Below d wr (w2.setCell ⟨g,k*6+3,none⟩ v2)):=aa (((E.mono C).grown f (ma C E.size) (fun x a=>Mf x a)).setCell (p:=⟨g,k*6+3,none⟩) (by show d<=g;omega) v2);have P:=aa (T.setKeys E f X);have Hw:v2.ownBlock≠some g:=P.out.d1 g rfl|>.1;have kZ:=aa ((d9.key (B.below E) M f X (by rw [List.getElem?_drop,show k*fill*2+2*m=2*i by have:=lT.out;omega];exact Ul)).off (k*6+3) v2 Hw D1.out.2.1);have Hy:=aa (iL sI F C2.out);clear M f X E Hw sI;obtain⟨W2,I⟩:=gF (w2.setCell ⟨g,k*6+3,none⟩ v2);rw [<-I] at y P kZ Hy|-;clear I;obtain⟨g',a5,e,_,_,_,_,J,_,_,_,_,q4,_⟩:=P.out.form;injection e with e _ e'
     injection e with e
     injection e with e
     subst e;subst e';have Tn:=aa q4;have V:=aa J;have D2:=aa (P.d1 g rfl);clear q4 J;go_wp2_with fail;refine KD n (k*6) (aa (fun _ _ _ _ h=>h)) L hn (by omega) y.size F Hy Tn V kZ.v D2.out.2.1 ?_;intro b2 b3 b4 b5 b6 b7 b8 b9 ca cb cd ce cf sU cg sV v3 wb w3 u N r ic;have hz:d.heap.size<=W2:=y.out.size;have U:=aa (((y.out.trans (u.mono hz)).grown r (ma hz u.size) (fun x a=>W x a)).setCell (p:=⟨g,k*6+4,none⟩) (by show d<=g;omega) v3);have zI:=aa (P.setVals u r ic);have Tp:=aa ((d9.val (kZ.below u) N r ic (by rw [List.getElem?_drop,show k*fill*2+(2*m+1)=2*i+1 by have:=lT.out;omega];exact JP)).off (k*6+4) v3 (zI.d1 g rfl).1 (zI.d1 g rfl).2.1);clear N r ic u;go_wp2
     go_roundg (n-(i+1))
     case measure=>have:=HG.out;omega
     case rel=>exact⟨i+1,k,m+1,_,_,_,_,_,rfl,by omega,by go_num,aa ⟨by have:=lT.out;omega,by omega,fun _=>by omega⟩,zI,Tp,U⟩
    ·skip
     have Mf:Hid (∀x,kv.ownBlock=some x->d<=x):=aa (fun x a=>(ah B.k x a).1);have W:Hid (∀x,vv.ownBlock=some x->d<=x):=aa (fun x a=>(ah B.v x a).1);have D1:=aa (T.d1 g rfl);obtain⟨gx,gy,D,_,_,_,_,K,_,_,_,O,_,_⟩:=T.out.form;injection D with D _ D5
     injection D with D
     injection D with D
     subst D;subst D5;have qW:=aa K;have Tm:=aa O;clear K O;go_wp2_with fail;refine KC n (k*6) (aa (fun _ _ _ _ h=>h)) L hn (by omega) C F C1.out Tm qW B.k D1.out.1 ?_;intro bo bp bx bz bE bF bG bI bL bN bP bQ bT bX b0 b1 v2 wa w2 E M f X;have y:Hid (Below d d (w2.setCell ⟨g,k*6+3,none⟩ v2)):=aa (((je.out.trans (E.mono C)).grown f (ma C E.size) (fun x a=>Mf x a)).setCell (p:=⟨g,k*6+3,none⟩) (by show d<=g;omega) v2);have sI:Hid (Below d wr (w2.setCell ⟨g,k*6+3,none⟩ v2)):=aa (((E.mono C).grown f (ma C E.size) (fun x a=>Mf x a)).setCell (p:=⟨g,k*6+3,none⟩) (by show d<=g;omega) v2);have P:=aa (T.setKeys E f X);have Hw:v2.ownBlock≠some g:=P.out.d1 g rfl|>.1;have kZ:=aa ((d9.key (B.below E) M f X (by rw [List.getElem?_drop,show k*fill*2+2*m=2*i by have:=lT.out;omega];exact Ul)).off (k*6+3) v2 Hw D1.out.2.1);have Hy:=aa (iL sI F C2.out);clear M f X E Hw sI;obtain⟨W2,I⟩:=gF (w2.setCell ⟨g,k*6+3,none⟩ v2);rw [<-I] at y P kZ Hy|-;clear I;obtain⟨g',a5,e,_,_,_,_,J,_,_,_,_,q4,_⟩:=P.out.form;injection e with e _ e'
     injection e with e
     injection e with e
     subst e;subst e';have Tn:=aa q4;have V:=aa J;have D2:=aa (P.d1 g rfl);clear q4 J;go_wp2_with fail;refine KD n (k*6) (aa (fun _ _ _ _ h=>h)) L hn (by omega) y.size F Hy Tn V kZ.v D2.out.2.1 ?_;intro b2 b3 b4 b5 b6 b7 b8 b9 ca cb cd ce cf sU cg sV v3 wb w3 u N r ic;have hz:d.heap.size<=W2:=y.out.size;have U:=aa (((y.out.trans (u.mono hz)).grown r (ma hz u.size) (fun x a=>W x a)).setCell (p:=⟨g,k*6+4,none⟩) (by show d<=g;omega) v3);have zI:=aa (P.setVals u r ic);have Tp:=aa ((d9.val (kZ.below u) N r ic (by rw [List.getElem?_drop,show k*fill*2+(2*m+1)=2*i+1 by have:=lT.out;omega];exact JP)).off (k*6+4) v3 (zI.d1 g rfl).1 (zI.d1 g rfl).2.1);clear N r ic u;go_wp2
     go_roundg (n-(i+1))
     case measure=>have:=HG.out;omega
     case rel=>exact⟨i+1,k,m+1,_,_,_,_,_,rfl,by omega,by go_num,aa ⟨by have:=lT.out;omega,by omega,fun _=>by omega⟩,zI,Tp,U⟩
  ·have cr:i=n:=by omega
   subst cr;go_wp2;go_ret;have e1:=Ao.out;have e2:=HL.out;have cM:=iU l.length fill a8 (by omega)
   have hM:pn l.length fill=k+1:=by
    have a1:k*fill<pn l.length fill*fill:=by omega
    have a2:pn l.length fill*fill<(k+2)*fill:=by rw [Nat.add_mul];omega
    have a3:=Nat.lt_of_mul_lt_mul_right a1;have a4:=Nat.lt_of_mul_lt_mul_right a2;omega
   have I4:∀x,d.heap.size<=x->kv.ownBlock=some x->(Value.slice (some ⟨g,0,none⟩) (k+1) gc).ownBlock≠some x:=fun x _ a e=>(T.d1 x e).1 a;have hV:=MB (G:=fun x=>((q x/\x<w.heap.size)\/d<=x)/\(Value.slice (some ⟨g,0,none⟩) (k+1) gc).ownBlock≠some x) B (HT.below jm) (by omega) (fun x a=>⟨.inr (ah B.k x a).1,fun e=>(T.d1 x e).1 a⟩) (fun x a=>⟨.inr (ah B.v x a).1,fun e=>(T.d1 x e).2.1 a⟩) (fun x a=>⟨.inl a,fun e=>by have:g=x:=(by simpa [Value.ownBlock] using e);have:=a.2;omega⟩) (by rw [List.take_of_length_le (by rw [List.length_drop];omega),List.take_of_length_le (by rw [List.length_drop];omega)]) (by rw [show iX fill l k= [] by unfold iX;rw [if_neg (by rw [Nat.add_mul];omega)]];exact Bt.nil _ _);have cp:=T.out.level hV;obtain⟨ZX,l1,l2,l3⟩:=cp
   refine⟨_,rfl,⟨ZX,?_,fun x a=> .inr (by have:=(ah l1 x a).1;omega),fun j s hs=> ?_⟩,jm⟩
   ·unfold bW;rw [hM];exact kX l1 (by omega)
   ·unfold bW at hs;rw [hM] at hs;exact(l3 j s hs).weak (fun x a=>a.imp id (fun h=>by omega))
def uO (us:List Value) (first:Int) (n s:Nat):List Value:=(List.range (2*n)).map fun t=>if t%2=0 then .int .i64 (first+((s+t/2:Nat):Int)) else us.getD ((s+t/2)*6+1) undef
theorem qF (h:a<n):(uO us first n s)[2*a]? =some (.int .i64 (first+((s+a:Nat):Int))):=by
 unfold uO;rw [List.getElem?_map,List.getElem?_range (by omega),Option.map_some,if_pos (by omega),show 2*a/2=a by omega]
theorem CJ (h:a<n):(uO us first n s)[2*a+1]? =some (us.getD ((s+a)*6+1) undef):=by
 unfold uO;rw [List.getElem?_map,List.getElem?_range (by omega),Option.map_some,if_neg (by omega),show(2*a+1)/2=a by omega]
def He (w:World) (D:Nat->Prop) (us:List Value) (low:List Nd):Prop:=∀(i:Nat) (s:Nd),low[i]? =some s->l5 w D (nb us i) s
theorem He.next {w w':World} {S D D':Nat->Prop} {us:List Value} {low:List Nd} (h:He w D us low) (hc:ag S w w') (c:∀b,b<w.heap.size->D b->¬S b) (a:∀b,b<w.heap.size->D b->D' b):He w' D' us low:=fun i s hi=>(h i s hi).next hc c a
theorem He.below {low:List Nd} (h:He w D us low) (o:Below w w w'):He w' D us low:=h.next (ag.of_below (S:=Nil) o) (fun _ _ _ h=>h) (fun _ _ h=>h)
theorem qG {low:List Nd} (h:Rd w D 6 A n us) (Q:He w D us low) (k:n<=low.length) (hi:i<n):
  ∃b o hA hn hc s,A=some ⟨b,o,none⟩/\D b/\low[i]? =some s/\w.cell? ⟨b,o+i*6,none⟩=some (.int .i64 s.lev)/\w.cell? ⟨b,o+i*6+1,none⟩=some (.slice hA hn hc)/\us.getD (i*6+1) undef= .slice hA hn hc/\Bt w D hA hn hc s.high:=by
 have hl:i<low.length:=by omega
 obtain⟨b,o,c,g,a⟩:=h.2 (by omega);obtain⟨hA,hn,hc,kA,kn,kc,vA,vn,vc,dA,dn,dc,e,j,_⟩:=Q i low[i] (mP hl);have f:us[i*6+0]? =some (.int .i64 low[i].lev):=Mw (by omega) (by rw [e];rfl);have d:us[i*6+1]? =some (.slice hA hn hc):=Mw (by omega) (by rw [e];rfl);exact⟨b,o,hA,hn,hc,low[i],c,g,mP hl,by have:=a _ _ f;simpa using this,by have:=a _ _ d;rwa [<-Nat.add_assoc] at this,by rw [List.getD_eq_getElem?_getD,d];rfl,j⟩
def cZ (inn:Nat) (low:List Nd) (i:Nat):List Nd:=(low.drop (i*inn)).take inn
def iA (inn:Nat) (lev:Int) (low:List Nd) (first:Int) (i:Nat):Nd:=
 ⟨lev,((cZ inn low i).getLastD Nd.zero).high,0,(cZ inn low i).dropLast.map Nd.high,[],(List.range (cZ inn low i).length).map fun j=>first+((i*inn+j:Nat):Int)⟩
theorem Hf {low:List Nd} (h:dQ w base (uO us first n (k*inn)) (m-1) m kv dv fE oN) (F:Rd w D 6 A n us) (Q:He w D us low) (B:low.length=n) (L:k*inn+m<=n) (E:0<m)
  (z:∀b,kv.ownBlock=some b->G b) (hv:∀b,dv.ownBlock=some b->G b) (K:∀b,D b->G b) (C:(low.drop (k*inn)).take inn=(low.drop (k*inn)).take m) (y:Bt w G hA hn hc ((low.getD (k*inn+m-1) Nd.zero).high)):
  l5 w G [lev,.slice hA hn hc,.int .i64 0,kv,(),dv] (iA inn lev low first k):=by
 obtain⟨kA,kc,rfl,l,p⟩:=ax h.k;obtain⟨dA,dc,rfl,q,r⟩:=ax h.v;have hl:((low.drop (k*inn)).take m).length=m:=by rw [List.length_take,List.length_drop];omega
 have e:cZ inn low k=(low.drop (k*inn)).take m:=C
 have c:(cZ inn low k).getLastD Nd.zero=low.getD (k*inn+m-1) Nd.zero:=by
  rw [e,List.getLastD_eq_getLast?,List.getLast?_eq_getElem?,hl,List.getElem?_take,if_pos (by omega),List.getElem?_drop,List.getD_eq_getElem?_getD,show k*inn+(m-1)=k*inn+m-1 by omega]
 refine⟨hA,hn,hc,kA,m-1,kc,none,0,0,dA,m,dc,rfl,?_,⟨l,p,aa ?_,fE,fB h.k z,fun i t a=> ?_⟩,Tx.nil _ _,⟨q,r,aa ?_,?_⟩⟩
 ·show Bt w G hA hn hc ((cZ inn low k).getLastD Nd.zero).high;rw [c];exact y
 ·show m-1=((cZ inn low k).dropLast.map Nd.high).length;rw [List.length_map,List.length_dropLast,e,hl]
 ·have a:((cZ inn low k).dropLast.map Nd.high)[i]? =some t:=a;have hi:i<m-1:=by have:=(nE.1 a).1;rw [List.length_map,List.length_dropLast,e,hl] at this;exact this
  rw [List.getElem?_map,List.getElem?_dropLast,if_pos (by rw [e,hl];exact hi),e,List.getElem?_take,if_pos (by omega),List.getElem?_drop] at a;obtain⟨b,o,d,g,f,s,_,_,H,_,_,I,u⟩:=qG F Q (by omega) (show k*inn+i<n by omega);rw [H] at a;injection a with a
  subst a
  exact⟨.slice d g f,by rw [h.ku i hi,CJ (by omega),I],(u.weak K).sb⟩
 ·show m=((List.range (cZ inn low k).length).map fun j=>first+((k*inn+j:Nat):Int)).length;rw [List.length_map,List.length_range,e,hl]
 ·have x:oN=((iA inn lev low first k).kids).map (Value.int .i64):=by
   show oN=((List.range (cZ inn low k).length).map fun j=>first+((k*inn+j:Nat):Int)).map (Value.int .i64);rw [e,hl];apply List.ext_getElem?;intro i
   rcases Nat.lt_or_ge i m with hi|hi
   ·rw [h.vu i hi,qF (by omega),List.getElem?_map,List.getElem?_map,List.getElem?_range hi];rfl
   ·have J:oN.length=m*1:=h.v.1;rw [List.getElem?_eq_none (by omega),List.getElem?_eq_none (by simpa using hi)]
  rw [<-x];exact fB h.v hv
theorem dQ.off {j:Nat} (h:dQ w base nU j i kv vv fE F) (o:Nat) (u:Value) (c:kv.ownBlock≠some b) (hv:vv.ownBlock≠some b):dQ (w.setCell ⟨b,o,none⟩ u) base nU j i kv vv fE F:=
 ⟨aB h.k (ag.set1 w b o u) (fun g a e=>c (by rw [a,show g=b from e])),aB h.v (ag.set1 w b o u) (fun g a e=>hv (by rw [a,show g=b from e])),h.dis,h.ku,h.vu⟩
noncomputable def ZR:Code:=aQ (f117.body.bind (aF 9))
theorem ZS (n:Nat) (q:Nat) (m:Nat) {k:Option Addr} {s G l D A F:Value} {Q:Exit->Act->World->Prop} (kF:Hid (∀c t (a:Act) w,Q (.panic c) ⟨t,a.defers⟩ w->Q (.panic c) a w))
  (bk:1<=i) (bm:i<n) (hn:n<=1152921504606) (hm:m<=1152921504606) (hbase:base<=w) (bh:b<base)
  (c1:w.cell? ⟨b,o+(i-1)*6+1,none⟩=some (.slice k Y ch)) (c2:w.cell? ⟨g,q+3,none⟩=some kv) (cf:∀o,w.frozen? ⟨g,o,none⟩=false) (ad:w.ownsRow base 24 1 kv m fE) (I4:kv.ownBlock≠some g)
  (au:∀(ap aq ar aw aA aE a0 a1 a2 a3 a4 a5 a6 a7 a8 a9 ba be:Value) (v2:Value) (wa w2:World),Below w w wa->w2.ownsRow base 24 1 v2 (m+1) (fE++ [.slice k Y ch])->wa.grownBy w2 kv.ownBlock->(v2.ownBlock=kv.ownBlock\/v2.ownBlock=some wa)->Q .normal ⟨(p:: .slice (some ⟨b,o,none⟩) n c::y::B::J::s::u6::u7:: .int .i64 i:: .pointer (some ⟨g,q,none⟩)::L::E::O::W::Z::U::G::f::C::I::M::P::V::d::l::z::D::u27::r::T::j::u31::x::u33::u34::u35::u36::u37::u38::N::u40::R::u42::X::ap::aq::ar::aw::aA::aE::a0::a1::a2::a3::a4::a5::a6::a7::a8::a9::ba::be::Tu).toArray,[]⟩ (w2.setCell ⟨g,q+3,none⟩ v2)):
  Code.wp prog ZR Q ⟨(p:: .slice (some ⟨b,o,none⟩) n c::y::B::J::s::u6::u7:: .int .i64 i:: .pointer (some ⟨g,q,none⟩)::L::E::O::W::Z::U::G::f::C::I::M::P::V::d::l::z::D::u27::r::T::j::u31::x::u33::u34::u35::u36::u37::u38::N::u40::R::u42::X::u44::u45::u46::v::u48::u49::H::u51::A::u53::F::u55::S::dZ::u58::u59::u60::fw::Tu).toArray,[]⟩ w:=by
 obtain⟨i0,an,iC,iD,iE⟩:=info_parts gM;have dz:=aa au;have HO:=aa ad;have HC:=aa cf;have am:g<w:=eU c2;have w1:=IntWalk.i64_in ((i:Int)-1) (by omega);have w2:(0:Int)<=(i:Int)-1:=by omega
 have w3:((i:Int)-1)<n:=by omega
 have w4:((i:Int)-1).toNat=i-1:=by omega
 have w8:(1:Int)<=(i:Int):=by omega
 clear au ad cf;conv=>arg 2;whnf
 refine aM (fun w'=>w'.cell? ⟨b,o+(i-1)*6+1,none⟩=some (.slice k Y ch)/\w'.cell? ⟨g,q+3,none⟩=some kv) 18 (by kernel_rfl) ?_;have S0:w.drew.cell? ⟨b,o+(i-1)*6+1,none⟩=some (.slice k Y ch)/\w.drew.cell? ⟨g,q+3,none⟩=some kv:=⟨c1,c2⟩;refine uF 0 (fun _=>S0) ?_;refine uF 1 (fun _=>S0) ?_;refine uF 2 (fun _=>S0) ?_;refine uF 3 (fun _=>S0) ?_;refine uF 4 (fun _=>S0) ?_;refine uF 6 (fun _=>S0) ?_;refine uF 7 (fun _=>S0) ?_;refine uF 8 (fun _=>S0) ?_;refine uF 9 (fun _=>S0) ?_;refine uF 10 (fun _=>S0) ?_;refine uF 11 (fun _=>S0) ?_;refine uT 5 S0 ?_;refine uT 12 S0 ?_;refine mR 13 fun K hK=> ?_;go_simp;have ae:Below w.drew.heap.size w.drew (w.drew.alloc (.cells #[.slice k Y ch] 24)):=gV;have S2:(w.drew.alloc (.cells #[.slice k Y ch] 24)).cell? ⟨b,o+(i-1)*6+1,none⟩=some (.slice k Y ch)/\(w.drew.alloc (.cells #[.slice k Y ch] 24)).cell? ⟨g,q+3,none⟩=some kv:=⟨aj ae S0.1,aj ae S0.2⟩;refine hK.out _ _ (fun _=>S2) ?_;clear hK K;try simp only [aL,aN,aZ,aC]
 refine mR 14 fun K hK=> ?_;refine aG _ rfl (.tmp 49) (.tmp 57) _ rfl base 24 i0 _ 1 24 underlying128 an iC iD iE rfl (by omega) kv m fE rfl (own_below HO (mh.drew.alloc jO _)) (From w) (some ⟨w,0,none⟩) 1 1 [.slice k Y ch] rfl (Rd.one w.drew _ _) (by intro u hu;simp at hu;subst hu;rfl) (by simp only [maxLen];omega) (by omega) (by simp;omega) ?_;intro v2 w2 ab ac bU;obtain⟨K2,Ap,ao,_,_⟩:=ax ab;subst ao;have iG:=aa ab;have rC:=aa ac;have al:=aa bU;have xO:w2.cell? ⟨g,q+3,none⟩=some kv:=(ag.of_grown ac).cell I4 S2.2;have bj:∀o,w2.frozen? ⟨g,o,none⟩=false:=fe.chg (w:=w) HC (((ag.refl (fun b=>kv.ownBlock=some b) w).then (mh.drew.alloc jO _)).trans (ag.of_grown ac) (fun _ _ h=>h)) am I4;have S3:w2.cell? ⟨b,o+(i-1)*6+1,none⟩=some (.slice k Y ch)/\w2.cell? ⟨g,q+3,none⟩=some kv:=⟨(ag.of_grown ac).cell (fun e=>by have:=(ah HO _ e).1;omega) S2.1,xO⟩;clear ab ac bU;refine rR hK (fun _=>S3) ?_;clear hK K;refine uF 15 (fun _=>S3) ?_;refine uF 16 (fun _=>S3) ?_;refine uF 17 (fun _=>S3) ?_;refine mR 18 fun K hK=> ?_;go_simp;refine hK.out _ _ (fun h=>absurd h (by decide)) ?_;clear hK K;try simp only [aL,aN,aZ,aC]
 refine bH (by kernel_rfl) ?_ _;exact dz _ _ _ _ _ _ _ _ _ _ _ _ _ _ _ _ _ _ _ _ w2 (mh.drew.alloc jO _) iG rC al
noncomputable def ZQ:Code:=aQ (f117.body.bind (aF 10))
theorem Kk (first:Int) (i:Nat) (q:Nat) (m:Nat) {a s G l D n c A F:Value} {Y:List Value} (Q:Exit->Act->World->Prop)
  (hm:m<=1152921504606) (hbase:base<=w) (hf:0<=first/\first+(i:Int)<=9223372036854775807) (q5:w.cell? ⟨g,q+5,none⟩=some dv) (cf:∀o,w.frozen? ⟨g,o,none⟩=false) (ac:w.ownsRow base 3 1 dv m oN) (I4:dv.ownBlock≠some g)
  (au:∀(an ao ap aq ar aw aA aE a0 a1 a2 a3 a4 a5:Value) (v2:Value) (wa w2:World),wa=w.alloc (.cells #[.int .i64 (first+(i:Int))] 3)->w2.ownsRow base 3 1 v2 (m+1) (oN++ [.int .i64 (first+(i:Int))])->wa.grownBy w2 dv.ownBlock->(v2.ownBlock=dv.ownBlock\/v2.ownBlock=some wa)->Q .normal ⟨(p::a:: .int .i64 first::B::J::s::u6::u7:: .int .i64 i:: .pointer (some ⟨g,q,none⟩)::L::E::O::W::Z::U::G::f::C::I::M::P::V::d::l::z::D::u27::r::T::j::u31::x::u33::n::u35::u36::u37::e::N::c::R::t::X::K::u45::u46::v::u48::u49::H::u51::A::u53::F::u55::S::dZ::u58::u59::y::fw::an::ao::ap::aq::ar::aw::aA::aE::a0::a1::a2::a3::a4::a5::Y).toArray,[]⟩ (w2.setCell ⟨g,q+5,none⟩ v2)):
  Code.wp prog ZQ Q ⟨(p::a:: .int .i64 first::B::J::s::u6::u7:: .int .i64 i:: .pointer (some ⟨g,q,none⟩)::L::E::O::W::Z::U::G::f::C::I::M::P::V::d::l::z::D::u27::r::T::j::u31::x::u33::n::u35::u36::u37::e::N::c::R::t::X::K::u45::u46::v::u48::u49::H::u51::A::u53::F::u55::S::dZ::u58::u59::y::fw::fJ::u63::u64::gm::u66::gH::u68::u69::u70::iM::u72::u73::iN::u75::Y).toArray,[]⟩ w:=by
 obtain⟨i0,al,iC,iD,iE⟩:=info_parts jL;have dz:=aa au;have HO:=aa ac;have HC:=aa cf;have ae:g<w:=eU q5;have hw:=IntWalk.i64_in (first+(i:Int)) (by omega);clear au ac cf;conv=>arg 2;whnf
 go_wp2_with (first|(at_builtin;go_loud (refine af _ rfl (.tmp 67) (.tmp 71) _ rfl base 3 i0 _ 1 8 underlying25 al iC iD iE rfl (by omega) dv m oN rfl (own_below HO gV) (From w) (some ⟨w,0,none⟩) 1 1 [.int .i64 (first+(i:Int))] rfl (Rd.one w _ _) (by intro u hu;simp at hu;subst hu;rfl) (by simp only [maxLen];omega) (by omega) (by simp;omega) ?_);intro v2 w2 k ab bU;obtain⟨K2,Ap,am,_,_⟩:=ax k;subst am;have iG:=aa k;have rC:=aa ab;have ad:=aa bU;have a7:w2.cell? ⟨g,q+5,none⟩=some dv:=(ag.of_grown ab).cell I4 (aj (mh.alloc jO (.cells #[.int .i64 (first+(i:Int))] 3)) q5);have a6:∀o,w2.frozen? ⟨g,o,none⟩=false:=fe.chg (w:=w) HC (((ag.refl (fun b=>dv.ownBlock=some b) w).then gV).trans (ag.of_grown ab) (fun _ _ h=>h)) ae I4;clear k ab bU))
 exact dz _ _ _ _ _ _ _ _ _ _ _ _ _ _ _ _ w2 rfl iG rC ad
end Go.Proofs.YtepgcjbhabnciaaGreat
