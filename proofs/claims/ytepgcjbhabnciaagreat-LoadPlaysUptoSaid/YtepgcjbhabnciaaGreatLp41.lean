/- Part 41. -/
import Derived.Test.YtepgcjbhabnciaaGreatLp40
import Derived.Lib.SlBytesConst
import Derived.Test.YtepgcjbhabnciaaGreatRows
import Derived.Deep.Slices
import Derived.Deep.Fields
import Derived.ChangeSlices
import Derived.Lib.SmallJoins
import Derived.WideShapes
namespace Go.Proofs.YtepgcjbhabnciaaGreat
set_option maxRecDepth 100000
set_option maxHeartbeats 8000000
open Go.Proofs.Tryz Go.RowKit
open Go.ChangeShapes Go.WideShapes Go.Deep Go.RowKit
open Go.Joins Go.ChangeShapes Go.WideShapes Go.RowKit Go.Deep
variable {bn bc gn gc t mp z q p n:Nat} {bA gA:Option Addr} {bs:List UInt8} {gs:List Int} {w:World}
section
theorem Cu:∀(l:List aR),(l.map Prod.fst).zip (l.map Prod.snd)=l
 | []=>rfl
 |e::l=>by simp [Cu l]
section
variable {fill inn:Nat} {l:List aR}
theorem Oe (i:Nat):kC (sL fill inn l 0 i).2=lu fill l i:=by
 unfold kC;rw [kS,vX];exact Cu _
theorem Og {nd lf bl:Int} (hc:bq nd lf inn fill bl) (u:bY l) (r:(aT nd lf inn fill bl l.length).2=0) (q:∀e∈l,e.1.length<=1152921504606/\e.2.length<=1152921504606):
  ∃L,sD (aY fill inn l).1 (aY fill inn l).2 nd lf inn L (nL fill inn l) (dL fill inn l) (fun k i=>(sL fill inn l k i).2):=by
 obtain⟨L,w,x,H,y,I,J,K,z⟩:=J8 hc r;obtain⟨V,F,G⟩:=DI hc q r;obtain⟨c1,M,N,O,P,Q,R,S,T,A⟩:=hc;have f:1<=fill:=by omega
 have b:1<=inn:=by omega
 have d:∀k,(fun i=>(sL fill inn l k i).2.high)=hL fill inn l k:=fun k=>by funext i;exact uf k i
 have p:∀k i,(sL fill inn l k i).2.kids.length<=1000:=fun k i=>by
  cases k with
  |zero=>show([]:List Int).length<=1000;simp
  |succ k=>rw [uh];unfold mK;omega
 refine⟨L,⟨y,x,w,fun k=>lq f b k,rfl,fun k=>rfl,fun k o=>⟨fun j h=> ?_,fun j h=>VN u f b (by omega) (by omega) ?_ h,fun j _=>yY k j,fun j _=>right_eq k j,fun j h=> ?_⟩,fun k o i hi c kid a=> ?_,fun k o=> ?_,fun k i _ _=>p k i,G⟩⟩
 ·obtain⟨s,v,e⟩:=z k j o h
  exact⟨s,v,e,F s (nT v)⟩
 ·have:=Mq (fill:=fill) (inn:=inn) (l:=l) (j:=k+1) (k:=L+1) (by omega)
  omega
 ·rw [d];exact ZD u f b h
 ·have n:c<mK inn (nL fill inn l k) i:=by
   have:=(nE.1 a).1;rw [uh] at this;exact this
  obtain⟨B,C,D,E⟩:=Sm f b hi n;have m:kid=(dL fill inn l k:Int)+((i*inn+c:Nat):Int)+1:=by rw [B] at a;injection a with a;exact a.symm
  refine⟨i*inn+c,C,m,fun g=> ?_,fun g=> ?_⟩
  ·show jb (fun t=>(sL fill inn l (k+1) t).2.high) i=jb (fun t=>(sL fill inn l k t).2.high) _
   rw [d,d];exact E g
  ·show _=some (jb (fun t=>(sL fill inn l k t).2.high) _)
   rw [d];exact D g
 ·have U:=JW (inn:=inn) b (lq (l:=l) f b k) (i:=0) (by have:=lq (l:=l) f b (k+1);exact this);have:=(Sm (fill:=fill) (inn:=inn) (l:=l) f b (k:=k) (i:=0) (j:=0) (by have:=lq (l:=l) f b (k+1);omega) (by omega)).1;rw [this];simp
theorem Sk (F:Nat->Prop) {p:Nat} (nodes nd lf bl:Int) (hc:bq nd lf inn fill bl) (u:bY l) (g:(aT nd lf inn fill bl l.length).2=0) {w:World} (r:gL w F p nodes (aY fill inn l).1 (aY fill inn l).2) (a:∀b,F b->b<w) (hl:l.length<=4194304):
  Calls prog 22 #[p] w fun e w'=>∃A n c,e= .returned (.slice A n c)/\dh w' (From w) A n l/\Below w w w':=by
 have f:∀e∈l,e.1.length<=1152921504606/\e.2.length<=1152921504606:=fun e o=>by have:=dB u o;omega
 obtain⟨L,q⟩:=Og hc u g f;obtain⟨s,E,G⟩:=DI hc f g;obtain⟨c1,t,v,x,y,z,B,C,D,m⟩:=hc;have e:(fun i=>kC (sL fill inn l 0 i).2)=lu fill l:=by funext i;exact Oe i
 have d:((List.range (nL fill inn l 0)).flatMap fun i=>kC (sL fill inn l 0 i).2)=l:=by rw [e];exact DN (by omega)
 have h:=VO (aY fill inn l).2 (aY fill inn l).1 (fun k i=>(sL fill inn l k i).2) r s a q (by omega) (fun j _=>by
  rw [e,Sn,List.length_take];omega)
 rw [d] at h;exact h
end
end
theorem Si (w:World):Calls prog 20 #[] w fun e w'=>e= .returned (.agg #[.int .i64 9,.int .i64 4,.int .i64 3,.int .i64 2,.int .i64 1])/\Below w w w':=by
 refine letter fun R c=> ?_;go_enter func20,ntmps20;go_wp2;obtain⟨w1,a⟩:=gF (w.alloc (.cells #[.int .i64 9,.int .i64 4,.int .i64 3,.int .i64 2,.int .i64 1] 23))
 rw [<-a];have b:ak w1 w 23 #[.int .i64 9,.int .i64 4,.int .i64 3,.int .i64 2,.int .i64 1]:=by rw [a];exact ak.new _ _ _
 have d:w1.cell? w=some (.int .i64 9):=b.cell 0;have f:w1.cell? ⟨w,1,none⟩=some (.int .i64 4):=b.cell 1;have g:w1.cell? ⟨w,2,none⟩=some (.int .i64 3):=b.cell 2;have h:w1.cell? ⟨w,3,none⟩=some (.int .i64 2):=b.cell 3;have i:w1.cell? ⟨w,4,none⟩=some (.int .i64 1):=b.cell 4;refine bodyPost_ret (v:= .agg #[.int .i64 9,.int .i64 4,.int .i64 3,.int .i64 2,.int .i64 1]) (by simp [results,results20,go_sem,d,f,g,h,i]) rfl ?_;rw [c.out];exact⟨rfl,by rw [a];exact gV⟩
theorem J4 (w:World):∃w2,w2=(w.alloc (.cells #[.int .u8 107] 5 (1,2))).alloc (.cells #[.slice (some ⟨w,0,none⟩) 1 1,()] 69)/\E1 w2 (jX w) (w+1) (some ⟨w,0,none⟩) 1/\Below w w w2:=by
 obtain⟨w1,a⟩:=gF (w.alloc (.cells #[.int .u8 107] 5 (1,2)));have e:Below w w w1:=by rw [a];exact gV
 have h:w1.heap.size=w.heap.size+1:=by rw [a];simp
 have f:w1.cell? w=some (.int .u8 107):=by rw [a];exact cell_of_row _ _ _ _ _ _ (heap_alloc_new w _)
 rw [<-a];refine⟨_,rfl,?_,e.alloc e.size _⟩;have c:ak (w1.alloc (.cells #[.slice (some ⟨w,0,none⟩) 1 1,()] 69)) (w+1) 69 #[.slice (some ⟨w,0,none⟩) 1 1,()]:=by rw [<-h];exact ak.new _ _ _
 have i:Below w1 w1 (w1.alloc (.cells #[.slice (some ⟨w,0,none⟩) 1 1,()] 69)):=gV
 refine⟨c.cell 0,c.cell 1,SB.mk jO (by simp [maxLen]) rfl ⟨rfl,fun _=>⟨_,0,rfl,rfl,fun k u g=> ?_⟩⟩,fun b d=> ?_⟩
 ·match k with
  |0=>simp [aI] at g;subst g;exact aj i f
  |k+1=>simp [aI] at g
 ·have j:=c.lt
  rcases d with d|d
  ·omega
  ·have d:b=w.heap.size:=d;omega
theorem oJ:bq 9 4 3 2 1/\bY [([107],[])]/\(aT 9 4 3 2 1 (([([107],[])]:List aR).length:Nat)).2=0:=gP.1 (by decide)
theorem GD (w:World):Calls prog 5 #[] w fun e w'=>e= .returned true/\Below w w w':=by
 refine letter fun R X=> ?_;have kc:=fun(w:World) (C:Array Value) (n c:Nat)=>Lib.run_convert_bytes_const (P:=prog) w 24 5 C n c underlying24 underlying5;go_enter func5,ntmps5;go_upto_region 2 with(go_at_call 21;go_loud (obtain⟨w2,u,t,h⟩:=J4 w;rw [<-u];clear u;refine(J3 1 1 t).mono ?_;rintro e U ⟨A3,Y,rfl,E⟩;have qN:=aa E;have j:Hid (Below w w U):=aa (h.trans (E.bel.mono h.size));clear E h t))
 go_upto_region 3 with(first|(go_at_call 20;go_loud (refine(Si U).mono ?_;rintro e w4 ⟨rfl,i⟩;have G:=aa i;have jM:=aa (qN.after i);clear i))|(go_at_call 6;go_loud (refine(jI (bn:=46) Y (gn:=0) 0 (gA:=none) (gs:=[]) 0 false jM.sb.parts.2.2.2 rfl (by omega) (Rd.none_ w4 _ 1 none) (by omega)).mono ?_;rintro e V ⟨p,rfl,M,N,O,m⟩;have z:=aa (And.intro M N);have A:=aa O;have H:=aa m;clear M N O m))|(go_at_call 15;go_loud (refine(Mm (nd:=9) (lf:=4) (inn:=3) (fl:=2) (bl:=1) (s:=⟨lY,[],0,false,0⟩) oJ.1 A ⟨by decide,by decide,rfl⟩ z.2 (fun b g=>⟨by have:=z.out.2;have:=g.2;omega,by have:=g.2;omega⟩)).mono ?_;rintro e W ⟨mf,tv,ev,Q,rfl,f,d,-,r⟩;obtain⟨ab,J,K,L⟩:=Sj;obtain rfl:=Q.unique J;rw [K] at d;rw [L] at f;obtain rfl:ev= .nilIface:=(by rcases d with d|d;exact d.2;exact absurd rfl d.1);obtain⟨ap,D,q⟩:∃a,tv= .pointer (some ⟨a,0,none⟩)/\gL W (From V.heap.size) a 9 (aY 2 3 [([107],[])]).1 (aY 2 3 [([107],[])]).2:=(by rcases f with f|⟨y,a,f,e1,e2⟩;exact absurd f.1 (by simp);injection f with f;subst f;exact⟨a,e1,e2⟩);subst D;have v:=aa q;have I:=aa r;clear Q J K L d f q r)))
 have x:=aa (Sk (fill:=2) (inn:=3) (l:= [([107],[])]) (fun b=>From V b/\b<W.heap.size) 9 9 4 1 oJ.1 oJ.2.1 oJ.2.2 v.lt (fun b g=>g.2) (by simp));go_upto_region 6 with(go_at_call 22;go_loud (refine x.mono ?_;rintro e w7 ⟨A7,n7,c7,rfl,d,g⟩;obtain rfl:n7=1:=d.len;obtain⟨b,o,Ak,nk,Z,Av,nv,cv,key,val,rfl,-,F,k0,-,-,-,S,T,-,-,-,-⟩:=d.at_ (k:=0) (by omega);simp at F;obtain⟨rfl,rfl⟩:=F;have iF:=aa g;have CV:=bC Z (bs:=[107]) T S.out;rw [Nat.zero_mul,Nat.add_zero] at k0;clear d g S T))
 go_wp2;rw [X.out]
 have m:=j.out.size;have h5:=G.out.size;have h6:=H.out.size;refine⟨?_,((j.out.trans (G.mono m)).trans (H.mono (Nat.le_trans m h5))).trans ((I.below_of (B:=w.heap.size) (by omega) (fun b g e=>by have e:b=p:=e;have:=z.out.1;omega)).trans (iF.mono (by have:=I.out.size;omega)))⟩;rw [ze];rfl
def iJ (bA gA:Option Addr) (bn bc gn gc:Nat) (f:Int) (g:Bool):Array Value:= #[.slice bA bn bc,.slice gA gn gc,f,g,.int .i64 0,.int .i64 0,false,(),(),.int .u8 0,.int .u8 0,()]
theorem yV {F:Nat->Prop} {f:Int} {g:Bool} (c:ak w t 34 (iJ bA gA bn bc gn gc f g)) (a:SB w F (.slice bA bn bc) bs) (b:Rd w F 1 gA gn (kw gs)) (hn:bn<=1048576):eP w F t ⟨bs,gs,f,g,0⟩:=
 ⟨bA,gA,bn,bc,gn,gc,0,bs,_,_,_,_,_,c,b,a,by simp,Nat.zero_le _,by omega⟩
structure Two (w:World) (B:Nat) (Fx Dx Bx:Nat->Prop) (mx zx qx p pbx Cm hv:Nat) (Ax:Option Addr) (nx cx:Nat) (ux:List Value) (Fr Dr Br:Nat->Prop) (mr zr qr t pbr GA:Nat) (Ar:Option Addr) (nr cr:Nat) (ur:List Value) (nd lf inn fl bl:Int) (m:bM):Prop where
 x:LX w Fx Dx Bx mx zx qx p pbx Cm hv Ax nx cx ux nd lf inn fl bl 17825808 m
 r:LR w Fr Dr Br mr zr qr t pbr GA Ar nr cr ur nd lf inn fl bl 17825808 m
 dis:∀b,XS mx zx qx p Dx Bx b->¬XS mr zr qr t Dr Br b
 xB:∀b,XS mx zx qx p Dx Bx b->B<=b
 rB:∀b,XS mr zr qr t Dr Br b->B<=b
 fr:∀b,Fr b->b<B
 fx:∀b,Fx b->¬XS mr zr qr t Dr Br b
theorem XS.grow {Dr Fb c d:Nat->Prop} (e:∀b,c b->Dr b\/n<=b) (f:∀b,d b->Fb b\/n<=b):∀b,XS mp z q p c d b->XS mp z q p Dr Fb b\/n<=b:=by
 intro b a
 rcases a with a|a|a|a|a|a
 ·exact .inl (.inl a)
 ·exact .inl (.inr (.inl a))
 ·exact .inl (.inr (.inr (.inl a)))
 ·exact .inl (.inr (.inr (.inr (.inl a))))
 ·exact(e b a).imp (fun h=> .inr (.inr (.inr (.inr (.inl h))))) id
 ·exact(f b a).imp (fun h=> .inr (.inr (.inr (.inr (.inr h))))) id
theorem NW (nd lf inn fl bl:Int) (gc:Nat) (f:Int) (g:Bool) (a6:SB w (fun b=>b<w) (.slice bA bn bc) bs) (W:Rd w (fun b=>b<w) 1 gA gn (kw gs)) (aE:bs.length<=1048576) (bp:gs.length<=1048576):
  Calls prog 3 #[.agg #[nd,lf,inn,fl,bl],.agg #[.slice bA bn bc,.slice gA gn gc,f,g]] w fun e w'=>e= .returned true/\Below w w w':=by
 refine letter fun R HR=> ?_;obtain⟨src,ac⟩:=gF ((⟨bs,gs,f,g,0⟩:Src));have Vt:=aa ac;have X:Hid (Cj src):=aa (by rw [ac];exact⟨aE,bp,rfl⟩);have c5:bn<=1048576:=by rw [a6.parts.2.2.1];exact aE
 have c6:gn<=1048576:=by have:=W.1;simp [kw] at this;omega
 obtain⟨s,T⟩:=gF ((w.alloc (.cells #[.int .i64 nd,.int .i64 lf,.int .i64 inn,.int .i64 fl,.int .i64 bl] 23)).alloc (.cells #[.slice bA bn bc,.slice gA gn gc,.int .i64 f,.bool g] 27));have al:Below w w s:=by rw [T];exact gV.alloc (by simp) _
 have bF:s.heap.size=w.heap.size+2:=by rw [T];simp
 have jo:Hid (ak s w 23 #[nd,lf,inn,fl,bl]):=aa (by rw [T];exact(ak.new _ _ _).below gV)
 have JO:Hid (ak s (w+1) 27 #[.slice bA bn bc,.slice gA gn gc,f,g]):=aa (by
  rw [T];have:=ak.new (w.alloc (.cells #[nd,lf,inn,fl,bl] 23)) 27 #[.slice bA bn bc,.slice gA gn gc,f,g];rwa [World.size_alloc] at this)
 have a8:=aa al;have xu:=aa bF;have Gh:=aa (a6.below al);have HG:=aa (W.below al);have my:=aa (GD s);have cY:bn<=1152921504606:=by omega
 clear ac a6 W aE bp al bF;go_enter func3,ntmps3;go_upto_region 1 with fail
 rw [<-T];clear T;go_upto_region 2 with(go_at_call 5;go_loud (refine my.mono ?_);rintro e w1 ⟨rfl,c⟩;have O:=aa c;clear c)
 have Ul:=aa (JO.below O);have kV:=aa (jo.below O);have YD:=aa (Gh.below O);have Ai:=aa (HG.below O);have cL:s.heap.size<=w1:=O.out.size;have f0:w1.cell? ⟨w+1,0,none⟩=some (.slice bA bn bc):=Ul.out.cell 0;have f1:w1.cell? ⟨w+1,1,none⟩=some (.slice gA gn gc):=Ul.out.cell 1;have f2:w1.cell? ⟨w+1,2,none⟩=some (.int .i64 f):=Ul.out.cell 2;have f3:w1.cell? ⟨w+1,3,none⟩=some (.bool g):=Ul.out.cell 3;have Aj:=aa (jI bc gc f g YD.parts.2.2.2 YD.parts.2.2.1 (by omega) Ai (by omega));rw [<-Vt.out] at Aj;go_upto_region 3 with(go_at_call 6;go_loud (refine Aj.mono ?_);rintro e w2 ⟨p,rfl,d,i,v,h4⟩;have Vu:=aa d;have PR:=aa i;have DJ:=aa v;have D:=aa h4;clear d i v h4)
 have JP:=aa (Ul.below D);have bz:=aa (kV.below D);have cn:=aa (YD.below D);have rC:=aa (Ai.below D);have c8:w1.heap.size<=w2:=D.out.size;clear f0 f1 f2 f3;have f0:w2.cell? ⟨w+1,0,none⟩=some (.slice bA bn bc):=JP.out.cell 0;have f1:w2.cell? ⟨w+1,1,none⟩=some (.slice gA gn gc):=JP.out.cell 1;have f2:w2.cell? ⟨w+1,2,none⟩=some (.int .i64 f):=JP.out.cell 2;have f3:w2.cell? ⟨w+1,3,none⟩=some (.bool g):=JP.out.cell 3;go_upto_region 4 with fail
 obtain⟨w3,am⟩:=gF (w2.alloc (.cells (iJ bA gA bn bc gn gc f g) 34));have Zq:=am;unfold iJ at Zq;rw [<-Zq];have Q:Below w2 w2 w3:=by rw [am];exact gV
 have jN:Hid (ak w3 w2 34 (iJ bA gA bn bc gn gc f g)):=aa (by rw [am];exact ak.new _ _ _);have cu:Hid (ig w3 (fun b=>w1<=b/\b<p) p src):=aa (DJ.below Q);have bj:Hid (eP w3 (fun b=>b<w) w2 src):=aa (by rw [Vt.out];exact yV jN (cn.below Q) (rC.below Q) (by omega));have fu:=aa (bz.below Q);have a9:Hid (Below s s w3):=aa ((O.out.trans (D.mono cL)).trans (Q.mono (by omega)));have cM:w2.heap.size<w3:=jN.out.lt;have c7:w1<=p:=Vu.out;have cK:p<w2:=PR.out;obtain⟨t,ht⟩:=gF w2.heap.size;have HT:=aa ht;rw [<-ht] at bj cM cK|-;have c4:=xu.out;clear f0 f1 f2 f3 am Zq Q ht;obtain⟨K,k1,k2,L,M⟩:=gB fu
 by_cases hc:bq nd lf inn fl bl
 ·have Cn:=aa hc;have xw:=aa (Ml hc cu X (by omega) (fun b c=>⟨by omega,by omega⟩));go_upto_region 5 with(go_at_call 7;go_loud (refine xw.mono ?_);rintro e w4 ⟨Bx,mx,zx,qx,bQ,Cm,bG,rfl,d,i,v⟩;have LD:=aa d;have qh:=aa i;have Zr:=aa v;clear d i v)
  have cN:w3.heap.size<=w4:=qh.out.size;have gK:=aa (fu.below qh);have ar:=aa (Gx hc (bj.below qh) X (by omega) (fun b c=>⟨by omega,by omega⟩));clear K k1 k2 L M;obtain⟨K,k1,k2,L,M⟩:=gB gK;go_upto_region 6 with(go_at_call 8;go_loud (refine ar.mono ?_);rintro e w5 ⟨Br,U,zr,qr,bP,GA,rfl,d,i,v⟩;have cj:=aa d;have P:=aa i;have au:=aa v;clear d i v)
  have cO:w4.heap.size<=w5:=P.out.size;have eF:Hid (Below s s w5):=aa ((a9.out.trans (qh.mono (by omega))).trans (P.mono (by omega)))
  have ct:Hid (Two w5 s (fun b=>w1<=b/\b<p) Nil Bx mx zx qx p bQ Cm bG none 0 0 [] (fun b=>b<w) Nil Br U zr qr t bP GA none 0 0 [] nd lf inn fl bl (eZ src)):=aa ⟨LD.below P,cj,
   fun b c l=>by have d:=LD.out.lt b c;rcases Zr.out b c with e|e<;>rcases au.out b l with e'|e'<;>omega,
   fun b c=>by rcases Zr.out b c with e|e<;>omega,fun b c=>by rcases au.out b c with e|e<;>omega,fun b c=>by omega,fun b c l=>by rcases au.out b l with e'|e'<;>omega⟩
  have Zt:=aa (pV X hc);clear K k1 k2 L M;go_upto_region 8 with fail
  go_wp2
  go_loopg [11] 1152921504610 (fun g' iv wz=>∃(k:Nat) (m:bM) (j:Nat),m=iT nd lf inn fl bl k (eZ src)/\iv= (j:Int)/\Hid (Below s s wz)/\
   ((j=0/\g'=1152921504610-m.rdr.cur.at_/\∃(Dx Bx:Nat->Prop) (hv:Nat) (Ax:Option Addr) (nx cx:Nat) (ux:List Value) (Dr Br:Nat->Prop) (Ar:Option Addr) (nr cr:Nat) (ur:List Value),Two wz s (fun b=>w1<=b/\b<p) Dx Bx mx zx qx p bQ Cm hv Ax nx cx ux (fun b=>b<w) Dr Br U zr qr t bP GA Ar nr cr ur nd lf inn fl bl m)\/
    (1<=j/\j<=2/\g'=2-j/\∃sx sr,DX wz (fun b=>w1<=b/\b<p) mx p sx nd m/\DR wz (fun b=>b<w) U t sr nd m)))
  case atStart=>exact⟨0,_,0,rfl,rfl,eF,.inl ⟨rfl,by simp [iT,eZ],Nil,Bx,bG,none,0,0,[],Nil,Br,none,0,0,[],ct⟩⟩
  case round=>
   obtain⟨k,m,j,hm,rfl,je,⟨hj,W,Dx,Bx,hv,Ax,nx,cx,ux,Dr,Br,Ar,nr,cr,ur,a7⟩|⟨cG,cH,W,sx,sr,Vv,y⟩⟩:=hrel
   ·subst hj;have C:=aa a7;have Ug:=aa W;have NY:Hid (m.Ok nd lf inn fl bl 17825808):=aa (by rw [hm];exact qz Zt k);obtain⟨I,ab⟩:=gF (m.step nd lf inn fl bl);have Gy:=aa ab;have bk:Hid (I=iT nd lf inn fl bl (k+1) (eZ src)):=aa (by rw [ab,hm];rfl);have Vw:Hid (I.Ok nd lf inn fl bl 17825808):=aa (by rw [ab];exact bM.step_ok NY);have Vx:=aa (Ch 17825808 a7.x (by omega));rw [<-ab] at Vx;have AF:s.heap.size<=wr:=je.out.size;clear hm ab W a7;go_upto_region 11 with(go_at_call 9;go_loud (refine Vx.mono ?_);intro e w6 hs;obtain⟨rfl,d,i⟩:=hs;have eY:=aa d;have lX:=aa i;clear d i)
    have ck:=aa (C.r.chg eY (fun b c l=>C.dis b l c) (fun b c l=>by have d:=C.out.fr b c;have i:=C.out.xB b l;omega));have Vy:=aa (Ci 17825808 ck (by omega));rw [<-Gy.out] at Vy;have c9:wr.heap.size<=w6:=eY.out.size;go_upto_region 12 with(go_at_call 10;go_loud (refine Vy.mono ?_);intro e F hs;obtain⟨rfl,d,i⟩:=hs;have fK:=aa d;have nW:=aa i;clear d i)
    have da:w6.heap.size<=F:=fK.out.size;have iF:Hid (Below s s F):=aa ((je.out.trans (eY.below_of AF (fun b c e=>by have:=C.out.xB b e;omega))).trans (fK.below_of (by omega) (fun b c e=>by have:=C.out.rB b e;omega)));obtain⟨dn,a0⟩:=gF I.done;have lm:=aa a0;rw [<-a0];clear a0
    cases dn with
    |false=>
     obtain⟨_,ch,cg,cT,ce,cV,cC,cX,hx,bI,bL⟩:=lX.out.resolve_right (fun h=>by have:=h.done;rw [<-lm.out] at this;cases this);obtain⟨_,Mc,cf,cd,cU,cA,cW,hr,bx,bE⟩:=nW.out.resolve_right (fun h=>by have:=h.done;rw [<-lm.out] at this;cases this);have a5:=XS.grow (mp:=mx) (z:=zx) (q:=qx) (p:=p) bI bL;have bo:=XS.grow (mp:=U) (z:=zr) (q:=qr) (p:=t) bx bE;have bh:=aa C.r.lt;have Uf:=aa hx.lt;have aA:=aa (hx.chg fK (fun b c l=>(a5 b c).elim (fun h=>C.dis b h l) (fun h=>by have:=bh.out b l;omega)) C.fx);have cl:=aa hr;have be:=aa a5;have Vq:=aa bo;have Rz:=aa (Gz 17825808 0 aA);have RE:=aa (hr.ok.go hr.go);have RF:Hid (q8 F 0 (.pointer none) nd I.tree):=aa (.inl ⟨RE.2.2.2.2,rfl⟩);have RG:Hid (F.cell? ⟨U,3,none⟩=some (.pointer none)):=aa (hr.mblk.cell 3);have GG:Hid (F.cell? ⟨U,4,none⟩=some (.int .i64 I.err)):=aa (by rw [RE.out.2.2.1];exact hr.mblk.cell 4);have GH:Hid (F.cell? ⟨U,5,none⟩=some (.int .i64 I.bad)):=aa (by rw [RE.out.2.2.2.1];exact hr.mblk.cell 5);have RH:=aa aA.iny.src;have RI:=aa hr.iny.src;clear hx hr a5 bo bI bL bx bE;obtain⟨er,H⟩:=gF I.err;obtain⟨ba,J⟩:=gF I.bad;rw [<-H,<-J] at Rz;rw [<-H] at GG;rw [<-J] at GH;clear H J;go_upto_region 13 with(go_at_call 11;go_loud (refine Rz.mono ?_);rintro e cb ⟨tv,ev,kk,rfl,rfl,d,i⟩;have RJ:=aa d;have RL:=aa i;clear d i);obtain⟨w8,A⟩:=gF (F.drewN kk);have n:Hid (ag Nil F w8):=aa (by rw [A];exact(ag.refl Nil F).drewN kk);have Y:=aa (RJ.chg n (fun _ _ h=>h));have PS:=aa (RL.chg n (fun _ _ h=>h));have RN:=aa (RF.chg n (fun _ _ h=>h));have RO:=aa (RH.nil n);have RP:=aa (RI.nil n);rw [<-A];clear A
     refine yU (aa (fun _ _ _ _ h=>h)) (n.cell (fun h=>h) RG) (n.cell (fun h=>h) GG) (n.cell (fun h=>h) GH)
      (aa (fun w' c=>oC Cn Vw (Y.chg (S:=Nil) (ag.of_below c) (fun _ _ h=>h)) (RN.chg (S:=Nil) (ag.of_below c) (fun _ _ h=>h))))
      (aa (fun w' c=>lg (PS.chg (S:=Nil) (ag.of_below c) (fun _ _ h=>h))))
      (aa (fun w' c=>mZ (RO.below c) (RP.below c))) ?_
     intro bT bU bX b0 b1 b2 b3 b4 b5 b6 b7 sU b8 sV b9 xF ca Mg Mh Mi Mj Zn Zo w9 Z;have bm:=aa Z;have vO:Hid (Below F F w9):=aa ((n.then Z).below);clear Z;go_wp2
     go_roundg (1152921504610-I.rdr.cur.at_)
     case measure=>
      have d:=bM.step_at NY.out C.x.go (by rw [<-Gy.out];exact lm.out.symm);rw [<-Gy.out] at d;have i:=Ug.out
      omega
     case rel=>
      refine⟨k+1,I,0,bk,rfl,aa (iF.out.trans (vO.mono (by omega))),.inl ⟨rfl,rfl,ch,cg,cT,ce,cV,cC,cX,Mc,cf,cd,cU,cA,cW,aA.below vO,cl.below vO,fun b c l=> ?_,fun b c=> ?_,fun b c=> ?_,C.fr,fun b c l=> ?_⟩⟩
      ·rcases be.out b c with h|h
       ·rcases Vq.out b l with h'|h'
        ·exact C.dis b h h'
        ·have:=Uf.out b c;omega
       ·rcases Vq.out b l with h'|h'
        ·have:=bh.out b h';omega
        ·have:=Uf.out b c;omega
      ·rcases be.out b c with h|h
       ·exact C.xB b h
       ·omega
      ·rcases Vq.out b c with h'|h'
       ·exact C.rB b h'
       ·omega
      ·rcases Vq.out b l with h'|h'
       ·exact C.fx b c h'
       ·have c:w1<=b/\b<p:=c;have:=C.out.x.lt p (.inr (.inr (.inr (.inl rfl))))
        omega
    |true=>
     have Vv:=lX.out.resolve_left (fun h=>by rw [<-lm.out] at h;exact absurd h.1 (by decide));have y:=nW.out.resolve_left (fun h=>by rw [<-lm.out] at h;exact absurd h.1 (by decide));have bN:=C.out.r.lt;have RS:=aa (Vv.chg fK (fun b c e=>by have:=bN b e;omega) (C.dis mx (.inl rfl)) (C.dis p (.inr (.inr (.inr (.inl rfl))))) C.fx);have Zu:=aa y;have Rz:=aa (rY RS);obtain⟨v0,v1,tr,E,ad⟩:=y.mblk;have RF:=aa ad;have RG:Hid (F.cell? ⟨U,3,none⟩=some tr):=aa (E.cell 3);have GG:Hid (F.cell? ⟨U,4,none⟩=some (.int .i64 I.err)):=aa (E.cell 4);have GH:Hid (F.cell? ⟨U,5,none⟩=some (.int .i64 I.bad)):=aa (E.cell 5);have RH:=aa RS.src;have RI:=aa y.src;clear Vv y bN E ad;obtain⟨er,H⟩:=gF I.err;obtain⟨ba,J⟩:=gF I.bad;rw [<-H,<-J] at Rz;rw [<-H] at GG;rw [<-J] at GH;clear H J;go_upto_region 13 with(go_at_call 11;go_loud (refine Rz.mono ?_);rintro e cb ⟨tv,ev,kk,rfl,rfl,d,i⟩;have RJ:=aa d;have RL:=aa i;clear d i)
     obtain⟨w8,A⟩:=gF (F.drewN kk);have n:Hid (ag Nil F w8):=aa (by rw [A];exact(ag.refl Nil F).drewN kk);have Y:=aa (RJ.chg n (fun _ _ h=>h));have PS:=aa (RL.chg n (fun _ _ h=>h));have RN:=aa (RF.chg n (fun _ _ h=>h));have RO:=aa (RH.nil n);have RP:=aa (RI.nil n);rw [<-A];clear A
     refine yU (aa (fun _ _ _ _ h=>h)) (n.cell (fun h=>h) RG) (n.cell (fun h=>h) GG) (n.cell (fun h=>h) GH)
      (aa (fun w' c=>oC Cn Vw (Y.chg (S:=Nil) (ag.of_below c) (fun _ _ h=>h)) (RN.chg (S:=Nil) (ag.of_below c) (fun _ _ h=>h))))
      (aa (fun w' c=>lg (PS.chg (S:=Nil) (ag.of_below c) (fun _ _ h=>h))))
      (aa (fun w' c=>mZ (RO.below c) (RP.below c))) ?_
     intro bT bU bX b0 b1 b2 b3 b4 b5 b6 b7 sU b8 sV b9 xF ca Mg Mh Mi Mj Zn Zo w9 Z;have bm:=aa Z;have vO:Hid (Below F F w9):=aa ((n.then Z).below);clear Z;go_wp2
     go_roundg 1
     case measure=>
      have i:=Ug.out;have v:=(NY.out.rdr.cur (NY.go C.x.go).1).sum
      omega
     case rel=>exact⟨k+1,I,1,bk,rfl,aa (iF.out.trans (vO.mono (by omega))),.inr ⟨by omega,by omega,rfl,_,_,RS.below vO,Zu.below vO⟩⟩
   ·by_cases hj:j=2
    ·subst hj;clear W hm Vv y;have V:Hid (Below s s wr):=je;have RU:=aa (JO.below V);have ao:=aa (jo.below V);have Zv:Hid (SB wr (fun b=>b<w) (.slice bA bn bc) bs):=aa (Gh.below V);have Y6:Hid (Rd wr (fun b=>b<w) 1 gA gn (kw gs)):=aa (HG.below V);have cP:s.heap.size<=wr:=V.out.size;have f0:wr.cell? ⟨w+1,0,none⟩=some (.slice bA bn bc):=RU.out.cell 0;have f1:wr.cell? ⟨w+1,1,none⟩=some (.slice gA gn gc):=RU.out.cell 1;have f2:wr.cell? ⟨w+1,2,none⟩=some (.int .i64 f):=RU.out.cell 2;have f3:wr.cell? ⟨w+1,3,none⟩=some (.bool g):=RU.out.cell 3;have Aj:=aa (jI bc gc f g Zv.parts.2.2.2 Zv.parts.2.2.1 (by omega) Y6 (by omega));go_upto_region 19 with(go_at_call 6;go_loud (refine Aj.mono ?_);rintro e u ⟨p2,rfl,d,i,v,h4⟩;have Vu:=aa d;have PR:=aa i;have DJ:=aa v;have D:=aa h4;clear d i v h4)
     have Me:=aa (RU.below D);have PK:=aa (ao.below D);have vo:=aa (Zv.below D);have aq:=aa (Y6.below D);have cQ:wr.heap.size<=u:=D.out.size;clear f0 f1 f2 f3;have f0:u.cell? ⟨w+1,0,none⟩=some (.slice bA bn bc):=Me.out.cell 0;have f1:u.cell? ⟨w+1,1,none⟩=some (.slice gA gn gc):=Me.out.cell 1;have f2:u.cell? ⟨w+1,2,none⟩=some (.int .i64 f):=Me.out.cell 2;have f3:u.cell? ⟨w+1,3,none⟩=some (.bool g):=Me.out.cell 3;go_upto_region 20 with fail
     obtain⟨wB,Vz⟩:=gF (u.alloc (.cells (iJ bA gA bn bc gn gc f g) 34));have JQ:=Vz;unfold iJ at JQ;rw [<-JQ];have N:Below u u wB:=by rw [Vz];exact gV
     have Qs:Hid (ak wB u 34 (iJ bA gA bn bc gn gc f g)):=aa (by rw [Vz];exact ak.new _ _ _);have jm:=aa N;have RV:=aa (DJ.below N);have JR:=aa (yV Qs (vo.below N) (aq.below N) (by omega));have Zw:=aa (PK.below N);have cR:u.heap.size<wB:=Qs.out.lt;obtain⟨tB,Zx⟩:=gF u.heap.size;have AC:=aa Zx;rw [<-Zx] at JR|-;clear f0 f1 f2 f3 Vz JQ N Zx;obtain⟨K,k1,k2,L,M⟩:=gB Zw;rw [<-Vt.out] at RV JR;have cE:wr<=p2:=Vu.out;have cF:p2<u:=PR.out;have c2:u<=tB:=Nat.le_of_eq AC.out.symm;have c3:tB<wB:=by have:=AC.out;omega
     have cD:=xu.out;have Al:=aa (Mm Cn RV X (by omega) (fun b c=>⟨by omega,by omega⟩));go_upto_region 21 with(go_at_call 15;go_loud (refine Al.mono ?_);rintro e wC ⟨mf,tv,ev,G,rfl,d,i,v,h4⟩;have Co:=aa G;have co:=aa d;have wO:=aa i;have cv:=aa v;have tJ:=aa h4;clear G d i v h4)
     have cS:wB.heap.size<=wC:=tJ.out.size;have Zy:=aa (Zw.chg tJ (fun e=>by have e:w.heap.size=p2:=e;omega));have cw:=aa (JR.chg tJ (fun e=>by have e:tB=p2:=e;omega) (fun b c e=>by have e:b=p2:=e;omega));clear K k1 k2 L M;obtain⟨K,k1,k2,L,M⟩:=gB Zy;have ap:=aa (Vs Cn cw X (by omega) (fun b c=>⟨by omega,by omega⟩));go_upto_region 22 with(go_at_call 16;go_loud (refine ap.mono ?_);rintro e o ⟨ae,tr,G,rfl,d,i,v⟩;obtain rfl:ae=mf:=JN.unique G Co;have cp:=aa d;have cy:=aa i;have VA:=aa v;clear G d i v)
     have ci:Hid (ae.Ok nd lf inn fl bl 17825808):=aa (by obtain⟨kf,cJ,_⟩:=Co.out;rw [cJ];exact qz Zt kf);have cq:=aa (co.chg VA (fun b c e=>by have e:b=tB:=e;omega));have FF:=aa (wO.chg VA (fun b c e=>by have e:b=tB:=e;omega));have aw:=aa (cv.chg VA (fun e=>by have e:p2=tB:=e;omega) (fun b c e=>by have e:b=tB:=e;omega));have yT:=aa (fun w' (c:Below o o w')=>oC Cn ci (cq.chg (S:=Nil) (ag.of_below c) (fun _ _ h=>h)) (cp.chg (S:=Nil) (ag.of_below c) (fun _ _ h=>h)));have VB:=aa (fun w' (c:Below o o w')=>lg (a:=(ae.bad:Nat)) (FF.chg (S:=Nil) (ag.of_below c) (fun _ _ h=>h)));have RD:=aa (fun w' (c:Below o o w')=>mZ (aw.below c) (cy.below c))
     have RX:Hid (Below w w o):=aa (by
      have a1:=a8.out.trans (V.mono (by omega));have a2:=a1.trans (D.mono (by omega));have a3:=a2.trans (jm.mono (by omega));have a4:=a3.trans (tJ.below_of (B:=w.heap.size) (by omega) (fun b c e=>by have e:b=p2:=e;omega));exact a4.trans (VA.below_of (B:=w.heap.size) (by omega) (fun b c e=>by have e:b=tB:=e;omega)))
     obtain⟨er,H⟩:=gF ae.err;obtain⟨ba,J⟩:=gF ae.bad;rw [<-H,<-J] at VB;rw [<-H,<-J];clear H J K k1 k2 L M;go_wp2_with (first|(go_at_call 12;go_loud (refine(yT o mh).mono ?_);rintro e wE ⟨rfl,c⟩;have rF:Hid (Below o o wE):=aa c;clear c)|(go_at_call 13;go_loud (refine(VB wE rF).mono ?_);rintro e wF ⟨rfl,c⟩;have Ay:Hid (Below o o wF):=aa (rF.out.trans (c.mono rF.size));clear c)|(go_at_call 14;go_loud (refine(RD wF Ay).mono ?_);rintro e wG ⟨rfl,c⟩;have an:Hid (Below o o wG):=aa (Ay.out.trans (c.mono Ay.size));clear c));rw [HR.out]
     exact⟨rfl,RX.out.trans (an.mono RX.size)⟩
    ·have cI:j=1:=by omega
     subst cI;have pP:=aa hm;have Ug:=aa W;have Vw:Hid (m.Ok nd lf inn fl bl 17825808):=aa (by rw [hm];exact qz Zt k);have RS:=aa Vv;have Zu:=aa y;have Rz:=aa (rY Vv);have Vx:=aa (JL Vv);have Vy:=aa (JM y);obtain⟨v0,v1,tr,E,ad⟩:=y.mblk;have RF:=aa ad;have RG:Hid (wr.cell? ⟨U,3,none⟩=some tr):=aa (E.cell 3);have GG:Hid (wr.cell? ⟨U,4,none⟩=some (.int .i64 m.err)):=aa (E.cell 4);have GH:Hid (wr.cell? ⟨U,5,none⟩=some (.int .i64 m.bad)):=aa (E.cell 5);have RH:=aa Vv.src;have RI:=aa y.src;have AF:s.heap.size<=wr:=je.out.size;clear Vv y E ad hm W hj cG cH;go_upto_region 11 with(go_at_call 9;go_loud (refine Vx.mono ?_);rintro e w6 ⟨rfl,rfl⟩)
     go_upto_region 12 with(go_at_call 10;go_loud (refine Vy.mono ?_);rintro e w6 ⟨rfl,rfl⟩)
     obtain⟨er,H⟩:=gF m.err;obtain⟨ba,J⟩:=gF m.bad;rw [<-H,<-J] at Rz;rw [<-H] at GG;rw [<-J] at GH;clear H J;go_upto_region 13 with(go_at_call 11;go_loud (refine Rz.mono ?_);rintro e cb ⟨tv,ev,kk,rfl,rfl,d,i⟩;have RJ:=aa d;have RL:=aa i;clear d i);obtain⟨w8,A⟩:=gF (wr.drewN kk);have n:Hid (ag Nil wr w8):=aa (by rw [A];exact(ag.refl Nil wr).drewN kk);have Y:=aa (RJ.chg n (fun _ _ h=>h));have PS:=aa (RL.chg n (fun _ _ h=>h));have RN:=aa (RF.chg n (fun _ _ h=>h));have RO:=aa (RH.nil n);have RP:=aa (RI.nil n);rw [<-A];clear A
     refine yU (aa (fun _ _ _ _ h=>h)) (n.cell (fun h=>h) RG) (n.cell (fun h=>h) GG) (n.cell (fun h=>h) GH)
      (aa (fun w' c=>oC Cn Vw (Y.chg (S:=Nil) (ag.of_below c) (fun _ _ h=>h)) (RN.chg (S:=Nil) (ag.of_below c) (fun _ _ h=>h))))
      (aa (fun w' c=>lg (PS.chg (S:=Nil) (ag.of_below c) (fun _ _ h=>h))))
      (aa (fun w' c=>mZ (RO.below c) (RP.below c))) ?_
     intro bT bU bX b0 b1 b2 b3 b4 b5 b6 b7 sU b8 sV b9 xF ca Mg Mh Mi Mj Zn Zo w9 Z;have bm:=aa Z;have vO:Hid (Below wr wr w9):=aa ((n.then Z).below);clear Z;go_wp2
     go_roundg 0
     case measure=>have:=Ug.out;omega
     case rel=>exact⟨k,m,2,pP,rfl,aa (je.out.trans (vO.mono (by omega))),.inr ⟨by omega,by omega,rfl,_,_,RS.below vO,Zu.below vO⟩⟩
 ·have xw:=aa (Gw p nd lf inn fl bl w3 hc);have Cn:Hid (¬bq nd lf inn fl bl):=aa hc;go_upto_region 5 with(go_at_call 7;go_loud (refine xw.mono ?_);rintro e w4 ⟨rfl,d⟩;have qh:=aa d;clear d)
  have cN:w3.heap.size<=w4:=qh.out.size;have gK:=aa (fu.below qh);have ar:=aa (Ck t nd lf inn fl bl w4 hc);clear K k1 k2 L M;obtain⟨K,k1,k2,L,M⟩:=gB gK;go_upto_region 6 with(go_at_call 8;go_loud (refine ar.mono ?_);rintro e w5 ⟨rfl,d⟩;have P:=aa d;clear d)
  have cO:w4.heap.size<=w5:=P.out.size;have eF:Hid (Below s s w5):=aa ((a9.out.trans (qh.mono (by omega))).trans (P.mono (by omega)));clear K k1 k2 L M hc;go_upto_region 8 with fail
  go_wp2
  go_loopg [11] 0 (fun g' iv wz=>g'=0/\iv= .int .i64 0/\Hid (Below s s wz))
  case atStart=>exact⟨rfl,rfl,eF⟩
  case round=>
   obtain⟨W,rfl,je⟩:=hrel;clear W;have V:Hid (Below s s wr):=je;have RU:=aa (JO.below V);have ao:=aa (jo.below V);have Zv:Hid (SB wr (fun b=>b<w) (.slice bA bn bc) bs):=aa (Gh.below V);have Y6:Hid (Rd wr (fun b=>b<w) 1 gA gn (kw gs)):=aa (HG.below V);have cP:s.heap.size<=wr:=V.out.size;have f0:wr.cell? ⟨w+1,0,none⟩=some (.slice bA bn bc):=RU.out.cell 0;have f1:wr.cell? ⟨w+1,1,none⟩=some (.slice gA gn gc):=RU.out.cell 1;have f2:wr.cell? ⟨w+1,2,none⟩=some (.int .i64 f):=RU.out.cell 2;have f3:wr.cell? ⟨w+1,3,none⟩=some (.bool g):=RU.out.cell 3;have Aj:=aa (jI bc gc f g Zv.parts.2.2.2 Zv.parts.2.2.1 (by omega) Y6 (by omega));go_upto_region 19 with(go_at_call 6;go_loud (refine Aj.mono ?_);rintro e u ⟨p2,rfl,d,i,v,h4⟩;have Vu:=aa d;have PR:=aa i;have DJ:=aa v;have D:=aa h4;clear d i v h4);have Me:=aa (RU.below D);have PK:=aa (ao.below D);have vo:=aa (Zv.below D);have aq:=aa (Y6.below D);have cQ:wr.heap.size<=u:=D.out.size;clear f0 f1 f2 f3;have f0:u.cell? ⟨w+1,0,none⟩=some (.slice bA bn bc):=Me.out.cell 0;have f1:u.cell? ⟨w+1,1,none⟩=some (.slice gA gn gc):=Me.out.cell 1;have f2:u.cell? ⟨w+1,2,none⟩=some (.int .i64 f):=Me.out.cell 2;have f3:u.cell? ⟨w+1,3,none⟩=some (.bool g):=Me.out.cell 3;go_upto_region 20 with fail
   obtain⟨wB,Vz⟩:=gF (u.alloc (.cells (iJ bA gA bn bc gn gc f g) 34));have JQ:=Vz;unfold iJ at JQ;rw [<-JQ];have N:Below u u wB:=by rw [Vz];exact gV
   have Qs:Hid (ak wB u 34 (iJ bA gA bn bc gn gc f g)):=aa (by rw [Vz];exact ak.new _ _ _);have jm:=aa N;have RV:=aa (DJ.below N);have JR:=aa (yV Qs (vo.below N) (aq.below N) (by omega));have Zw:=aa (PK.below N);have cR:u.heap.size<wB:=Qs.out.lt;obtain⟨tB,Zx⟩:=gF u.heap.size;have AC:=aa Zx;rw [<-Zx] at JR|-;clear f0 f1 f2 f3 Vz JQ N Zx;obtain⟨K,k1,k2,L,M⟩:=gB Zw;rw [<-Vt.out] at RV JR;have cE:wr<=p2:=Vu.out;have cF:p2<u:=PR.out;have cD:=xu.out;have Al:=aa (RA p2 nd lf inn fl bl wB Cn);go_upto_region 21 with(go_at_call 15;go_loud (refine Al.mono ?_);rintro e wC ⟨ev,rfl,d,i⟩;have wO:=aa d;have tJ:=aa i;clear d i)
   have cS:wB.heap.size<=wC:=tJ.out.size;have Zy:=aa (Zw.below tJ);clear K k1 k2 L M;obtain⟨K,k1,k2,L,M⟩:=gB Zy;have ap:=aa (RB tB nd lf inn fl bl wC Cn);go_upto_region 22 with(go_at_call 16;go_loud (refine ap.mono ?_);rintro e o ⟨rfl,v⟩;have VA:=aa v;clear v)
   have FF:=aa (wO.chg (S:=Nil) (ag.of_below VA) (fun _ _ h=>h));have aw:=aa ((RV.below tJ).below VA);have tL:=aa ((JR.below tJ).below VA);have yT:=aa (fun w' (c:Below o o w')=>Cc w');have VB:=aa (fun w' (c:Below o o w')=>lg (e:=1) (a:=0) (FF.chg (S:=Nil) (ag.of_below c) (fun _ _ h=>h)));have RD:=aa (fun w' (c:Below o o w')=>mZ (aw.below c) (tL.below c))
   have RX:Hid (Below w w o):=aa (by
    have a1:=a8.out.trans (V.mono (by omega));have a2:=a1.trans (D.mono (by omega));have a3:=a2.trans (jm.mono (by omega));exact(a3.trans (tJ.mono (by omega))).trans (VA.mono (by omega)))
   clear K k1 k2 L M;go_wp2_with (first|(go_at_call 12;go_loud (refine(yT o mh).mono ?_);rintro e wE ⟨rfl,c⟩;have rF:Hid (Below o o wE):=aa c;clear c)|(go_at_call 13;go_loud (refine(VB wE rF).mono ?_);rintro e wF ⟨rfl,c⟩;have Ay:Hid (Below o o wF):=aa (rF.out.trans (c.mono rF.size));clear c)|(go_at_call 14;go_loud (refine(RD wF Ay).mono ?_);rintro e wG ⟨rfl,c⟩;have an:Hid (Below o o wG):=aa (Ay.out.trans (c.mono Ay.size));clear c));rw [HR.out];exact⟨rfl,RX.out.trans (an.mono RX.size)⟩
section
theorem Sv {H:Type} (d:DataW H):1<=Rows.uptoBulk d:=by
 cases d with
 |lit l=>cases l<;>simp [Rows.uptoBulk]
 |_=>simp [Rows.uptoBulk]
theorem Cq {H:Type} {d:DataW H} {l:List (DataW H)} (h:d∈l):Rows.uptoBulk d<=Rows.uptoBulkAll l:=by
 induction l with
 |nil=>cases h
 |cons x r a=>
  simp only [Rows.uptoBulkAll]
  cases List.mem_cons.1 h with
  |inl e=>subst e;omega
  |inr e=>have:=a e;omega
theorem GL {H:Type} (l:List (DataW H)):l.length<=Rows.uptoBulkAll l:=by
 induction l with
 |nil=>simp [Rows.uptoBulkAll]
 |cons x r a=>have:=Sv x;simp only [Rows.uptoBulkAll,List.length_cons];omega
theorem y9 {H:Type} (a spare:List (DataW H)):Rows.uptoBulkAll a+1<=Rows.uptoBulk (.slice a spare):=by
 simp only [Rows.uptoBulk];omega
def jy (w:World):Value->List UInt8
 | .slice (some a) n _=>(List.range n).map fun j=>match w.cell? (a.add j) with|some (.int _ z)=>UInt8.ofNat z.toNat|_=>0
 |_=> []
section
variable {H:Type} {enc:TypeId×Value->H} {w:World} {base:Nat} {spare:Nat->Bool} {held:Bool}
theorem Ms {a:Addr} {v:Value} (h:w.cell? (a.add 0)=some v):a=⟨a.block,a.off,none⟩:=by
 obtain⟨b,d,s⟩:=a;have c:s=none:=by simpa [Addr.add] using World.cell?_spot h
 subst c;rfl
theorem JY {e:Nat} {v:Value} {y:DataW H×List MemPlace} (h:DataW.trod enc prog w base spare held e 24 [v]=some y):SB w (fun _=>True) v (jy w v)/\(jy w v).length+1<=Rows.uptoBulk y.1:=by
 rcases open_ints underlying24 underlying5 (by kernel_rfl) h with⟨d,rfl⟩|⟨a,len,cap,zs,d,_,hl,m,n,rfl,b,i⟩
 ·have hv:v= ():=by simpa using d
  subst hv
  exact⟨SB.nil _ _,by simp [jy,Rows.uptoBulk]⟩
 ·have hv:v= .slice (some a) len cap:=by simpa using d
  subst hv;have p:len<=zs.length:=by rw [n];split<;>omega
  have c:(jy w (.slice (some a) len cap)).length=len:=by simp [jy]
  refine⟨⟨some a,len,cap,rfl,hl,m,c.symm,by rw [dO,c,Nat.mul_one],fun hn=> ?_⟩,?_⟩
  ·have l:=Ms (b 0 (by omega));refine⟨a.block,a.off,by rw [<-l],trivial,fun j u f=> ?_⟩;have g:j<len:=by have:=(nE.1 f).1;rw [dO,c] at this;exact this
   have hc:=b j (by omega);have k:=i (zs.getD j 0) (by rw [List.getD_eq_getElem?_getD,mP (by omega)];exact List.getElem_mem (by omega));have o:0<=zs.getD j 0/\zs.getD j 0<=255:=by simpa [Lit.wf,IntKind.min,IntKind.max,IntKind.signed,IntKind.bits] using k
   simp only [aI,jy,List.map_map,List.getElem?_map,List.getElem?_range g,Option.map_some,Function.comp,hc] at f;injection f with f
   subst f;rw [l,jr] at hc;rw [hc];unfold bv;congr 2;rw [UInt8.toNat_ofNat']
   omega
  ·rw [c];have q:=y9 (lits (H:=H) IntKind.u8 (zs.take len)) (lits IntKind.u8 (zs.drop len));have r:=GL (lits (H:=H) IntKind.u8 (zs.take len));have s:(lits (H:=H) IntKind.u8 (zs.take len)).length=len:=by simp [lits];omega
   show len+1<=Rows.uptoBulk (.slice (lits IntKind.u8 (zs.take len)) (lits IntKind.u8 (zs.drop len)));omega
end
end
section
section
variable {H:Type} {enc:TypeId×Value->H} {P:Program} {w:World} {base:Nat} {spare:Nat->Bool} {held:Bool}
theorem MV {r:Reach} {D:Nat} {t:TypeId} {b c e f g:Field} {v:Value} {d:DataW H} {p:List MemPlace} (z:P.underlying t=some (.struct #[b,c,e,f,g])) (a:oneCellFields P #[b,c,e,f,g]=true) (I:P.cellsOf t=5)
  (hv:Value.okWide P w r D t v) (h:DataW.Trod enc P w base spare held t v d p):
  ∃(A v1 v2 B C:Value) (k m o q s:DataW H×List MemPlace) (n:Nat),v= .agg #[A,v1,v2,B,C]/\d= .agg [k.1,m.1,o.1,q.1,s.1]/\p=k.2++(m.2++(o.2++(q.2++s.2)))/\
   DataW.trod enc P w base spare held n b.type [A]=some k/\DataW.trod enc P w base spare held n c.type [v1]=some m/\DataW.trod enc P w base spare held n e.type [v2]=some o/\DataW.trod enc P w base spare held n f.type [B]=some q/\DataW.trod enc P w base spare held n g.type [C]=some s:=by
 obtain⟨cs,rfl,u⟩:=okWide_struct z hv;obtain⟨l⟩:=cs
 match l,u.trans I with
 | [c0,c1,E,F,G],_=>
  obtain⟨y,J⟩:=h;obtain⟨xs,n,_,x,_,j,i⟩:=DataW.trod_struct z J;obtain⟨N,K⟩:=hone_of a 0 b rfl;obtain⟨O,k1⟩:=hone_of a 1 c rfl;obtain⟨Q,k2⟩:=hone_of a 2 e rfl;obtain⟨R,L⟩:=hone_of a 3 f rfl;obtain⟨S,M⟩:=hone_of a 4 g rfl
  match xs,j with
  | [k,m,o,q,s],_=>
   simp only [Prod.mk.injEq] at x;exact⟨c0,c1,E,F,G,k,m,o,q,s,n,rfl,by simpa using x.1,by simpa using x.2,by simpa [Value.cells,N,K] using i 0 b rfl,by simpa [Value.cells,O,k1] using i 1 c rfl,by simpa [Value.cells,Q,k2] using i 2 e rfl,by simpa [Value.cells,R,L] using i 3 f rfl,by simpa [Value.cells,S,M] using i 4 g rfl⟩
end
end
end Go.Proofs.YtepgcjbhabnciaaGreat
