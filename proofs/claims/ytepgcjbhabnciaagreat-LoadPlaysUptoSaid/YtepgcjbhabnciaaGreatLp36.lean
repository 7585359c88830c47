/- Part 36. -/
import Derived.Test.YtepgcjbhabnciaaGreatLp35
namespace Go.Proofs.YtepgcjbhabnciaaGreat
set_option maxRecDepth 100000
set_option maxHeartbeats 8000000
open Go.Proofs.Tryz Go.RowKit
variable {mp z q p pb base hv n cc K i gr j:Nat} {nd lf inn fl bl:Int} {F Dr Fb In:Nat->Prop} {w w2 wr d:World} {a l b c:List aR} {m:bM} {A:Option Addr} {us:List Value} {T:TypeId}
structure Rp (F Dr Fb:Nat->Prop) (mp z q p pb base:Nat) (nd lf inn fl bl:Int) (K:Nat) (m':bM) (w:World) (e:Ending) (w':World):Prop where
 ret:e= .returned m'.done
 chg:ag (XS mp z q p Dr Fb) w w'
 out:(m'.done=false/\∃(Mc PP:Nat->Prop) (hv':Nat) (A':Option Addr) (n' kz:Nat) (jJ:List Value),LX w' F Mc PP mp z q p pb base hv' A' n' kz jJ nd lf inn fl bl K m'/\(∀b,Mc b->Dr b\/w<=b)/\(∀b,PP b->Fb b\/w<=b))\/DX w' F mp p w nd m'
theorem rU (h:m.done=false) (hn:m.rdr.next.1=none):m.step nd lf inn fl bl=m.ends inn fl m.rdr.next.2:=by
 unfold bM.step;rw [if_neg (by simp [h]),hn]
theorem rV (h:m.done=false) (hn:m.rdr.next.1=some l):m.step nd lf inn fl bl=m.took nd lf inn fl bl l m.rdr.next.2:=by
 unfold bM.step;rw [if_neg (by simp [h]),hn]
theorem Ce (f:Nat) (a:f=52\/f=92):∀args w',(callFunc f args).run prog w'= .ok (.enter f args) w':=by
 rcases a with rfl|rfl
 ·intro args w';kernel_rfl
 ·intro args w';kernel_rfl
theorem Gs (h:LX w F Dr Fb mp z q p pb base hv A n cc us nd lf inn fl bl K m) (d:K<=1152921504606846976):
  Calls prog 29 #[z] w (rW F z q p base Dr (yQ z 1) () A n cc us m.rdr.next.1 m.rdr.next.2 w):=by
 have i:=h.ok.rdr.st;have g:=(h.ok.go h.go).1;have a:=h.rblk
 by_cases b:m.rdr.st=0
 ·have e:yQ z m.rdr.st= .func (.func 52) #[z] #[]:=by unfold yQ;rw [if_pos b]
  rw [e] at a
  exact yR a (Ce _ (.inl rfl)) (Rq h.sit h.zs h.nFz h.bw a h.rows h.iny h.ok.rdr b d)
 ·have c:m.rdr.st=1:=by omega
  have e:yQ z m.rdr.st= .func (.func 92) #[z] #[]:=by unfold yQ;rw [if_neg b]
  have f:m.rdr.next=m.rdr.frame:=by unfold dM.next;rw [if_neg (by omega),if_pos c]
  rw [e] at a;rw [f];exact yR a (Ce _ (.inr rfl)) (Cg h.sit h.zs h.nFz h.bw a h.rows h.iny h.ok.rdr c d)
theorem JF (h:LX w F Dr Fb mp z q p pb base hv A n cc us nd lf inn fl bl K m) (hK:K<=1152921504606846976) (hn:m.rdr.next.1=none):
  Calls prog 9 #[mp] w (Rp F Dr Fb mp z q p pb base nd lf inn fl bl K (m.step nd lf inn fl bl) w):=by
 refine letter fun R HR=> ?_;have d:=aa h;have iW:=aa (Gs h hK);have x:=aa (rU (nd:=nd) (lf:=lf) (inn:=inn) (fl:=fl) (bl:=bl) h.go hn);obtain⟨r,C⟩:=gF m.rdr.next.2;rw [hn,<-C] at iW;rw [<-C] at x;have y2:w.cell? ⟨mp,2,none⟩=some (.bool false):=h.mblk.cell 2;have y0:w.cell? mp=some (z:Value):=h.mblk.cell 0;have xD:Hid (∀b,Fb b->b<w):=aa (fun b f=>h.lt b (.inr (.inr (.inr (.inr (.inr f))))));clear h hn C;go_enter func9,ntmps9;go_upto_region 4 with(go_at_call 29;go_loud (refine iW.mono ?_);intro e w2 hf;have J:=aa hf;obtain⟨rfl,_,_,_⟩:=hf.no rfl;clear hf)
 have bz:Hid (ag (XS mp z q p Dr Fb) w w2):=aa (d.fs J.chg)
 have Uh:Hid (¬Fs z q p w (.slice A n cc) mp):=aa (fun e=>by
  have g:=d.out.mpn;have B:=d.out.mpb;have N:=d.out.bw
  rcases e with e|e|e|e|e
  ·exact g.1 e
  ·exact g.2.1 e
  ·exact g.2.2.1 e
  ·have:=(ah d.rows.own mp e).1;omega
  ·omega)
 have i:=aa (d.mblk.chg J.chg Uh);have Y:=aa (J.no rfl).2.2.1;have X:=aa (J.no rfl).2.2.2
 have DF:=aa (d.bd.chg J.chg (fun b f e=>by
  have g:=d.out.fb b f;have B:=xD.out b f
  rcases e with e|e|e|e|e
  ·exact g.1 e
  ·exact g.2.1 e
  ·exact g.2.2.1 e
  ·exact g.2.2.2.2 (d.rows.dom b e)
  ·omega) (fun _ h=>h.elim))
 have ao:w.heap.size<=w2:=bz.out.size;have Zg:=i.out.frozen 2;have L:=i.out.frozen 3;have M:=i.out.frozen 4;have x2:w2.cell? ⟨mp,2,none⟩=some (.bool false):=i.out.cell 2;have S:w2.cell? mp=some (z:Value):=i.out.cell 0;clear y2 y0;go_upto_region 6 with fail
 obtain⟨l,s⟩:=gF (w2.setCell ⟨mp,2,none⟩ (.bool true));rw [<-s];have c:ag (fun b=>b=mp) w2 l:=by rw [s];exact(ag.refl (fun b=>b=mp) w2).setCell (p:=⟨mp,2,none⟩) (fun _=>rfl) _
 have II:=aa c;have o:Hid (ak l mp 85 #[z,pb,true,.pointer none,.nilIface]):=aa (by rw [s];exact i.set_ 2 _);have G:=aa (Y.chg c (fun e=>d.mpn.1 e.symm));have PQ:=aa (X.chg c (fun e=>d.mpn.2.2.1 e.symm) (fun b f e=>d.mpn.2.2.2.1 ((show b=mp from e)▸f)));have ab:=aa (DF.chg c (fun b f e=>d.mpn.2.2.2.2 ((show b=mp from e)▸f)) (fun _ h=>h.elim));have fu:Hid (ag (XS mp z q p Dr Fb) w l):=aa (bz.out.trans c (fun b _ e=> .inl e));obtain⟨er,dN⟩:=gF r.err;have H:=aa dN;rw [<-dN] at G;have Me:=aa (NU (r.bad:Nat) G);clear s c Zg L M x2 S dN;have S:l.cell? mp=some (z:Value):=o.out.cell 0;have T:l.cell? ⟨mp,4,none⟩=some .nilIface:=o.out.cell 4;have M:=o.out.frozen 4;have Q:Hid (mp<w):=aa (mU d.mpb d.bw)
 by_cases I:er=0
 ·subst I;go_upto_region 7 with(first|(go_at_call 31;go_loud (refine Me.mono ?_);rintro e t ⟨rfl,k,rfl⟩)|(go_at_call 30;go_loud (refine(Gn (r.bad:Nat) _).mono ?_);rintro e j ⟨rfl,rfl⟩))
  obtain⟨j,P⟩:=gF ((l.drewN k).setCell ⟨mp,4,none⟩ .nilIface);rw [<-P];have c:ag (fun b=>b=mp) l j:=by rw [P];exact((ag.refl (fun b=>b=mp) l).drewN k).setCell (p:=⟨mp,4,none⟩) (fun _=>rfl) _
  have y:Hid (ak j mp 85 #[z,pb,true,.pointer none,.nilIface]):=aa (by rw [P];exact(o.drewN k).set_ 4 _);have PN:=aa (PQ.chg c (fun e=>d.mpn.2.2.1 e.symm) (fun b f e=>d.mpn.2.2.2.1 ((show b=mp from e)▸f)));have Zh:=aa (ab.chg c (fun b f e=>d.mpn.2.2.2.2 ((show b=mp from e)▸f)) (fun _ h=>h.elim));have ed:Hid (ag (XS mp z q p Dr Fb) w j):=aa (fu.out.trans c (fun b _ e=> .inl e));have lm:=aa (QQ Zh d.ok.bld (by have:=tV d.ok.bld;omega) (fun e I=>by have:=lh d.ok.bld e I;omega));have ae:w.heap.size<=j:=ed.out.size;clear P c M T S;have T:j.cell? ⟨mp,4,none⟩=some .nilIface:=y.out.cell 4;have x1:j.cell? ⟨mp,1,none⟩=some (pb:Value):=y.out.cell 1;go_wp2_with (go_at_call 32;go_loud (refine lm.mono ?_);rintro e u ⟨a,rfl,g,B,N⟩;have U:=aa g;have H3:=aa N;have E:=aa (y.chg N d.mpn.2.2.2.2);have y3:u.cell? ⟨mp,3,none⟩=some (.pointer none):=E.out.cell 3;have L:=E.out.frozen 3;clear g B N);rw [HR.out,x.out];have c:=(ag.refl (fun b=>b=mp) u).setCell (p:=⟨mp,3,none⟩) (fun _=>rfl) a;have an:m.rdr.next.2=m.rdr.next.2:=rfl
  refine⟨rfl,(ed.out.trans H3 (fun b _ e=> .inr (.inr (.inr (.inr (.inr e)))))).trans c (fun b _ e=> .inl e),.inr ⟨⟨_,_,_,_,E.set_ 3 _,.inl ⟨H.out.symm,rfl⟩,.inr ⟨aY fl.toNat inn.toNat m.ents,a,?_,rfl,?_⟩⟩,?_,Q,rfl⟩⟩
  ·show(if r.err=0 then some (aY fl.toNat inn.toNat m.ents) else none)=_
   rw [if_pos H.out.symm]
  ·exact(U.weak (fun b f=>ma ae f)).chg c (fun b f e=>by have e:b=mp:=e;have f:w<=b:=f;have:=Q.out;omega)
  ·exact(PN.chg H3 (fun e=>(d.fb p e).2.2.1 rfl) (fun b f e=>(d.fb b e).2.2.2.1 f)).chg c (fun e=>d.mpn.2.2.1 e.symm) (fun b f e=>d.mpn.2.2.2.1 ((show b=mp from e)▸f))
 ·have am:(er==0)=false:=by rw [mi];exact I
  have V:=aa I;go_upto_region 7 with(first|(go_at_call 31;go_loud (refine Me.mono ?_);rintro e ap ⟨rfl,k,rfl⟩;obtain⟨t,D⟩:=gF (l.drewN k);rw [<-D];have v:Hid (ag Nil l t):=aa (by rw [D];exact(ag.refl Nil l).drewN k);clear D)|(go_at_call 30;go_loud (refine(pQ er (r.bad:Nat) _ V).mono ?_);rintro e j ⟨rfl,g,B⟩;have U:=aa g;have H2:=aa B;have y:=aa ((o.chg v (fun h=>h)).below B);have al:j.cell? ⟨mp,4,none⟩=some .nilIface:=y.out.cell 4;have ac:=y.out.frozen 4;clear g B))
  obtain⟨u,O⟩:=gF (j.setCell ⟨mp,4,none⟩ (.iface 108 (.pointer (some ⟨t.heap.size,0,none⟩))));rw [<-O];have c:ag (fun b=>b=mp) j u:=by rw [O];exact(ag.refl (fun b=>b=mp) j).setCell (p:=⟨mp,4,none⟩) (fun _=>rfl) _
  have Z:ag Nil l j:=v.out.then H2;have E:Hid (ak u mp 85 #[z,pb,true,.pointer none,.iface 108 t]):=aa (by rw [O];exact y.set_ 4 _);have Nu:=aa ((PQ.nil Z).chg c (fun e=>d.mpn.2.2.1 e.symm) (fun b f e=>d.mpn.2.2.2.1 ((show b=mp from e)▸f)));have eY:Hid (ag (XS mp z q p Dr Fb) w u):=aa ((fu.out.trans Z (fun b _ e=>e.elim)).trans c (fun b _ e=> .inl e));have ad:w.heap.size<=t:=ma fu.size v.size;have W:Hid (ak u t 111 #[(er:Int),(r.bad:Int)]):=aa (U.chg c (fun e=>by have e:t.heap.size=mp:=e;have:=Q.out;omega));clear O c Z al ac M T S;have T:u.cell? ⟨mp,4,none⟩=some (.iface 108 t):=E.out.cell 4;go_wp2;rw [HR.out,x.out]
  refine⟨rfl,eY,.inr ⟨⟨_,_,_,_,E,.inr ⟨?_,_,rfl,?_,ad⟩,.inl ⟨?_,rfl⟩⟩,Nu,Q,rfl⟩⟩
  ·show r.err≠0
   rw [<-H.out];exact V
  ·show ak u t 111 #[(r.err:Int),(r.bad:Int)]
   rw [<-H.out];exact W
  ·show(if r.err=0 then some (aY fl.toNat inn.toNat m.ents) else none)=none;rw [if_neg (by rw [<-H.out];exact V)]
structure yS (Fb:Nat->Prop) (pb:Nat) (nd lf inn fl bl:Int) (l0 es:List aR) (i:Nat) (w2 wr:World) (T:TypeId) (In:Nat->Prop):Prop where
 eq:gU nd lf inn fl bl l0 es=gU nd lf inn fl bl (l0++es.take i) (es.drop i)
 bd:Bd wr T (Grown Fb w2 wr) In pb nd lf inn fl bl (l0++es.take i)
 chg:ag Fb w2 wr
 ok:(bV nd lf inn fl bl (l0++es.take i)).1=0
theorem yS.start (h:Bd w2 T Fb In pb nd lf inn fl bl b) (hok:(bV nd lf inn fl bl b).1=0):yS Fb pb nd lf inn fl bl b a 0 w2 w2 T In:=
 ⟨by simp,by rw [List.take_zero,List.append_nil];exact h.grow mh,ag.refl _ _,by simpa using hok⟩
theorem yS.next {e:aR} (h:yS Fb pb nd lf inn fl bl c a i w2 wr T In) (l:a[i]? =some e) (j:iH nd lf inn fl bl (c++a.take i) e=0)
  (k:Bd d T (fun b=>Fb b\/(w2<=b/\b<d)) In pb nd lf inn fl bl (vG nd lf inn fl bl (c++a.take i) e)) (hc:ag Fb w2 d):yS Fb pb nd lf inn fl bl c a (i+1) w2 d T In:=by
 have f:a.take (i+1)=a.take i++ [e]:=by rw [List.take_add_one,l];rfl
 have g:vG nd lf inn fl bl (c++a.take i) e=c++a.take (i+1):=by unfold vG;rw [if_pos j,f,List.append_assoc]
 rw [g] at k
 refine⟨?_,k,hc,?_⟩
 ·rw [h.eq,vP l,if_pos j,f,List.append_assoc]
 ·rw [<-g];exact LJ h.ok
theorem JG (a:List aR) (h:LX w F Dr Fb mp z q p pb base hv A n cc us nd lf inn fl bl K m) (hK:K<=1152921504606846976) (hn:m.rdr.next.1=some a):
  Calls prog 9 #[mp] w (Rp F Dr Fb mp z q p pb base nd lf inn fl bl K (m.step nd lf inn fl bl) w):=by
 have bh:=FJ;refine letter fun R HR=> ?_;have d:=aa h;have iW:=aa (Gs h hK);have I:=aa (rV (nd:=nd) (lf:=lf) (inn:=inn) (fl:=fl) (bl:=bl) h.go hn);have o9:=aa (bM.step_ok h.ok);have S:=aa ((dM.next_ok h.ok.rdr).2 a hn);obtain⟨H,M⟩:=gF m.rdr.next.2;rw [hn,<-M] at iW;rw [<-M] at I S;have y2:w.cell? ⟨mp,2,none⟩=some (.bool false):=h.mblk.cell 2;have y0:w.cell? mp=some (z:Value):=h.mblk.cell 0;have O:Hid (∀b,Fb b->b<w):=aa (fun b c=>h.lt b (.inr (.inr (.inr (.inr (.inr c))))));have qo:Hid (mp<w):=aa (mU h.mpb h.bw);clear h hn M;go_enter func9,ntmps9;go_upto_region 4 with(go_at_call 29;go_loud (refine iW.mono ?_);intro e w2 hf;have mG:=aa hf;obtain⟨eA,y,ec,A',v,kz,jJ,a4,rfl,g1,g2,g3,g4,g5,g6⟩:=hf.yes a rfl;have G1:=aa g1;have G2:=aa g2;have G3:=aa g3;have G:=aa g4;have G5:=aa g5;have G6:=aa g6;clear hf g1 g2 g3 g4 g5 g6)
 have bz:Hid (ag (XS mp z q p Dr Fb) w w2):=aa (d.fs mG.chg)
 have Uh:Hid (¬Fs z q p w (.slice A n cc) mp):=aa (fun e=>by
  have f:=d.out.mpn;have s:=d.out.mpb;have h3:=d.out.bw
  rcases e with e|e|e|e|e
  ·exact f.1 e
  ·exact f.2.1 e
  ·exact f.2.2.1 e
  ·have:=(ah d.rows.own mp e).1;omega
  ·omega)
 have V:=aa (d.mblk.chg mG.chg Uh)
 have DF:=aa (d.bd.chg mG.chg (fun b c e=>by
  have f:=d.out.fb b c;have s:=O.out b c
  rcases e with e|e|e|e|e
  ·exact f.1 e
  ·exact f.2.1 e
  ·exact f.2.2.1 e
  ·exact f.2.2.2.2 (d.rows.dom b e)
  ·omega) (fun _ h=>h.elim))
 have bx:w.heap.size<=w2:=bz.out.size;obtain⟨B,L⟩:=gF m.ents;have xE:=aa L;rw [<-L] at DF;have qX:Hid (y=a.length):=aa G3.out.len;have JH:Hid (∀e∈a,e.1.length<=64/\e.2.length<=256):=aa (fun e he=>(dB S.rise he).2);have am:Hid (yS Fb pb nd lf inn fl bl B a 0 w2 w2 136 Nil):=aa (yS.start DF (by rw [xE.out];exact d.ok.bld));have wV:y<=64:=by rw [qX.out];exact S.most
 clear y2 y0 L;go_wp2
 go_loopg [52] y (fun g' iv wz=>∃i:Nat,g'=y-i/\i<=y/\iv= (i:Int)/\Hid (yS Fb pb nd lf inn fl bl B a i w2 wz 136 Nil))
 case atStart=>exact⟨0,by omega,by omega,rfl,am⟩
 case round=>
  obtain⟨i,hg,hi,rfl,r⟩:=hrel;have Ug:=aa hg;clear hg;have X:=aa (V.chg r.chg d.mpn.2.2.2.2);have AF:w2.heap.size<=wr:=r.out.chg.size
  by_cases a2:i<y
  ·have a6:(i:Int)<(y:Int):=by omega
   have an:Hid (dh wr (fun b=>w<=b/\b<w2) eA y a):=aa (((dh.lt G3.out).weak (fun b c=>⟨c.1.1,c.2⟩)).chg r.chg (fun b c e=>by have f:=O.out b e;have s:=c.1;omega));obtain⟨g,o,Ak,nk,ck,Av,nv,cv,key,val,rfl,ac,ab,c0,c1,f⟩:=an.out.at_ (k:=i) a2;have Rs:=aa ab;have H1:=aa f;have bj:g<wr:=by have:=ac.2;omega
   clear ab f ac;go_upto_region 13 with fail
   obtain⟨wn,E⟩:=gF (wr.alloc (.cells #[.slice Ak nk ck,.slice Av nv cv] 69));have t:Below wr wr wn:=by rw [E];exact gV
   have W:Hid (ak wn wr 69 #[.slice Ak nk ck,.slice Av nv cv]):=aa (by rw [E];exact ak.new _ _ _);have lD:=aa t;have ap:=aa (X.below t);have aA:=aa (r.bd.below t);have bE:wr.heap.size<=wn:=t.size;rw [<-E];clear E t;have au:Hid (Bt wn (fun b=>w<=b/\b<w2) Ak nk ck key):=aa (by obtain⟨q1,q2,q3,q4,_⟩:=H1.out;exact⟨q1,q2,q3,q4.below lD⟩);have aw:Hid (Bt wn (fun b=>w<=b/\b<w2) Av nv cv val):=aa (by obtain⟨_,_,_,_,q1,q2,q3,q4⟩:=H1.out;exact⟨q1,q2,q3,q4.below lD⟩)
   refine Ro (fun b=>w<=b/\b<w2) (key,val) (aa (fun _ _ _ _ h=>h)) (ap.cell 1) (W.cell 0) (W.cell 1) aA (aa r.ok) au aw (JH _ (nT Rs)) (fun e=>by
    rcases e with e|e
    ·exact d.mpn.2.2.2.2 e
    ·have:=qo.out;omega) (fun e=>by
    rcases e with e|e
    ·have:=O.out _ e;omega
    ·omega) ?_
   intro bF bG bI bL bN bP Q PO Vp;have J:Hid (ag Fb w2 Q):=aa (((r.chg.then lD)).trans Vp (fun b c e=>e.elim id (fun e=>by omega)))
   have Zj:Hid (Bd Q 136 (fun b=>Fb b\/(w2<=b/\b<Q)) Nil pb nd lf inn fl bl (vG nd lf inn fl bl (B++a.take i) (key,val))):=aa (PO.sub (fun b c=>by
    rcases c with(c|c)|c
    ·exact .inl c
    ·exact .inr ⟨c.1,by have:=Vp.size;omega⟩
    ·exact .inr ⟨by omega,c.2⟩) (fun b c=>by
    rcases c with c|c
    ·have:=O.out b c;have:=Vp.size;omega
    ·exact c.2))
   clear PO Vp;obtain⟨P,T⟩:=gF (iH nd lf inn fl bl (B++a.take i) (key,val));rw [<-T];replace T:=aa T
   by_cases h0:P=0
   ·subst h0;go_wp2
    go_roundg (y-(i+1))
    case measure=>have:=Ug.out;omega
    case rel=>exact⟨i+1,rfl,by omega,by go_num,aa (r.next Rs T.out.symm Zj J)⟩
   ·have be:(P==0)=false:=by rw [mi];exact h0
    have H0:=aa h0;have AB:=aa o9;have u:0<v:=by rw [G.out.len,S.out.rows];omega
    obtain⟨gr,a9,N,_,_⟩:=G.out.own.form u;injection N with N _ a5;subst N;have Mf:Hid (iy H.rows):=aa S.ok.rows;have Gt:=aa (G6.out.chg J (fun e=>(d.fb z e).1 rfl))
    have aq:Hid (bu Q base _ (.slice (some ⟨gr,0,none⟩) v kz) v H.rows jJ):=aa (G.out.chgD J (fun b c hl e=>by
     rcases c with c|c
     ·exact(d.fb b e).2.2.2.2 c
     ·have:=O.out b e;omega))
    have ar:=aa (NS gr Gt aq u (by rw [G.out.len];exact Mf.many) (fun x hx=>(Mf.key x hx).2));have mH:=aa (V.chg J d.mpn.2.2.2.2);obtain⟨j,hj⟩:∃j,v=j+1:=⟨v-1,by omega⟩;obtain⟨x,hx⟩:∃x,H.rows[j]? =some x:=⟨_,mP (by have:=G.out.len;omega)⟩;have HX:=aa hx;have Rt:Hid (H.rows.getLast?.getD ⟨[],0,0,0⟩=x):=aa (by rw [List.getLast?_eq_getElem?,<-G.out.len,show v-1=j by omega,hx];rfl);have X9:v<=8388608:=by rw [G.out.len];exact Mf.many
    have bm:IntKind.i64.wrap ((v:Int)-1)=(j:Int):=by rw [IntWalk.i64_in _ (by omega)];omega
    have bo:IntKind.i64.wrap (j:Int)=(j:Int):=IntWalk.i64_in _ (by omega);have bk:(0:Int)<=(j:Int):=by omega
    have bp:j<v:=by omega
    have yD:(j:Int)<(v:Int):=by omega
    have x0:Q.cell? mp=some (z:Value):=mH.out.cell 0;have aE:Hid (w2.heap.size<=Q):=aa J.size;clear hj hx a5 u;go_upto_region 16 with(go_at_call 34;go_loud (refine ar.mono ?_);rintro e w5 ⟨gg,ba,ad,rfl,Z,Y⟩;have a0:=aa ad;have iI:=aa Z;have eF:=aa Y;clear Z Y ad)
    have yO:=aa (mH.below eF);have cx:w5.cell? ⟨gg,j*4+1,none⟩=some (.int .i64 x.at_):=iI.out j x HX;have ao:Hid (gg≠mp):=aa (fun e=>by have f:=a0.out;have s:=qo.out;have h3:=aE.out;omega);have x2:w5.cell? ⟨mp,2,none⟩=some (.bool false):=yO.out.cell 2;have Zg:=yO.out.frozen 2;clear x0;go_upto_region 17 with fail
    obtain⟨C,iO⟩:=gF (w5.setCell ⟨mp,2,none⟩ (.bool true));rw [<-iO];have l:ag (fun b=>b=mp) w5 C:=by rw [iO];exact(ag.refl (fun b=>b=mp) w5).setCell (p:=⟨mp,2,none⟩) (fun _=>rfl) _
    have EV:Hid (ak C mp 85 #[z,pb,true,.pointer none,.nilIface]):=aa (by rw [iO];exact yO.set_ 2 _);have a8:C.cell? ⟨gg,j*4+1,none⟩=some (.int .i64 x.at_):=l.cell ao cx;have II:=aa l;have Nu:Hid (ig C F p H.cur.src):=aa ((((G5.out.src.chg J (fun e=>(d.fb p e).2.2.1 rfl) (fun b c e=>(d.fb b e).2.2.2.1 c)).below eF).chg l (fun e=>d.mpn.2.2.1 e.symm) (fun b c e=>d.mpn.2.2.2.1 ((show b=mp from e)▸c))));have eY:Hid (ag (XS mp z q p Dr Fb) w C):=aa (((bz.out.trans J (fun b _ e=> .inr (.inr (.inr (.inr (.inr e)))))).then eF).trans l (fun b _ e=> .inl e));have a3:w.heap.size<=C:=eY.out.size;clear iO l cx x2 Zg;have x4:C.cell? ⟨mp,4,none⟩=some .nilIface:=EV.out.cell 4;go_wp2_with (go_at_call 30;go_loud (refine(pQ P (x.at_:Nat) C H0).mono ?_);rintro e w7 ⟨rfl,f,s⟩;have vQ:=aa f;have U:=aa s;have Ya:=aa (EV.below s);have bQ:w7.cell? ⟨mp,4,none⟩=some .nilIface:=Ya.out.cell 4;have a7:=Ya.out.frozen 4;clear f s)
    have vo:Hid (m.step nd lf inn fl bl={m with rdr:=H,ents:=B++a.take i,done:=true,err:=P,bad:=x.at_}):=aa (by
     rw [I.out];unfold bM.took;have s:gU nd lf inn fl bl (B++a.take i) (a.drop i)=(B++a.take i,P):=by rw [vP Rs.out,<-T.out,if_neg H0.out]
     have f:=r.out.eq.trans s;rw [<-xE.out,f,if_neg (show¬(B++a.take i,P).2=0 from H0.out),Rt.out])
    rw [HR.out,vo.out];have l:=(ag.refl (fun b=>b=mp) w7).setCell (p:=⟨mp,4,none⟩) (fun _=>rfl) (.iface 108 C);refine⟨rfl,(eY.then U).trans l (fun b _ e=> .inl e),.inr ⟨⟨_,_,_,_,Ya.set_ 4 _,.inr ⟨H0,_,rfl,vQ.chg l (fun e=>by have e:C.heap.size=mp:=e;have:=qo.out;omega),a3⟩,.inl ⟨(d.ok.go d.go).2.2.2.2,rfl⟩⟩,?_,qo,rfl⟩⟩
    exact(Nu.below U).chg l (fun e=>d.mpn.2.2.1 e.symm) (fun b c e=>d.mpn.2.2.2.1 ((show b=mp from e)▸c))
  ·have al:i=y:=by omega
   have vo:Hid (m.step nd lf inn fl bl={m with rdr:=H,ents:=B++a}):=aa (by
    rw [I.out];unfold bM.took;have f:=r.out.eq;rw [al,qX.out,List.take_length,List.drop_length,xE.out] at f;rw [f,show gU nd lf inn fl bl (m.ents++a) []=(m.ents++a,0) from rfl,if_pos rfl,xE.out])
   have rF:Hid (Bd wr 136 (Grown Fb w2 wr) Nil pb nd lf inn fl bl (B++a)):=aa (by
    have f:=r.out.bd;rw [al,qX.out,List.take_length] at f;exact f)
   go_wp2;rw [HR.out]
   have D:(m.step nd lf inn fl bl).done=false:=by rw [vo.out];exact d.go
   have a1:=d.out.bw;refine⟨by rw [D];rfl,bz.out.trans r.chg (fun b _ e=> .inr (.inr (.inr (.inr (.inr e))))),.inl ⟨D,(fun b=>Dr b\/(w<=b/\b<w2)),Grown Fb w2 wr,a4,A',v,kz,jJ,?_,fun b c=>c.imp id (fun h=>h.1),fun b c=>c.imp id (fun h=>by omega)⟩⟩;have hok:=o9.out;rw [vo.out] at hok D|-
   exact{
    sit:=d.out.sit
    zs:=d.out.zs
    nFz:=d.out.nFz
    bw:=by omega
    mblk:=X.out
    rblk:=by
     have f:=G6.out.chg r.chg (fun e=>(d.fb z e).1 rfl);show ak wr z _ #[_,yQ z H.st,_,_,_,_];rw [S.out.st];exact f
    rows:=G.out.chgD r.chg (fun b c hl e=>by
     rcases c with c|c
     ·exact(d.fb b e).2.2.2.2 c
     ·have:=O.out b e;omega)
    iny:=G5.out.chg r.chg (fun e=>(d.fb q e).2.1 rfl) (fun e=>(d.fb p e).2.2.1 rfl) (fun b c e=>(d.fb b e).2.2.2.1 c)
    bd:=rF.out
    mpb:=d.out.mpb
    mpn:=⟨d.mpn.1,d.mpn.2.1,d.mpn.2.2.1,d.mpn.2.2.2.1,fun e=>by
     rcases e with e|e
     ·exact d.mpn.2.2.2.2 e
     ·have:=qo.out;omega⟩
    fb:=fun b c=>by
     rcases c with c|c
     ·have f:=d.out.fb b c;have s:=O.out b c
      exact⟨f.1,f.2.1,f.2.2.1,f.2.2.2.1,fun e=>e.elim f.2.2.2.2 (fun e=>by omega)⟩
     ·have f:=d.out.zs.lt;have s:=d.out.sit.qB;have h3:=d.out.sit.pB;exact⟨by omega,by omega,by omega,fun e=>by have:=d.out.sit.lt b e;omega,fun e=>e.elim (fun e=>by have:=d.out.drl b e;omega) (fun e=>by omega)⟩
    drl:=fun b c=>by
     rcases c with c|c
     ·have:=d.out.drl b c;omega
     ·omega
    ok:=hok
    go:=D}
section
def sK (Dr:Nat->Prop) (v:Value):Nat->Prop:=fun b=>Dr b/\v.ownBlock≠some b
structure LR (w:World) (F Dr Fb:Nat->Prop) (mp z q p pb base:Nat) (A:Option Addr) (n cc:Nat) (us:List Value) (nd lf inn fl bl:Int) (K:Nat) (m:bM):Prop where
 sit:Sit F q p base
 zs:Zs z q p base
 nFz:¬F z
 bw:base<=w
 mblk:ak w mp 51 #[z,pb,false,.pointer none,.int .i64 0,.int .i64 0]
 rblk:ak w z 103 #[q,.bool (decide (m.rdr.st=1)),false,(m.rdr.err:Int),(m.rdr.bad:Int),.slice A n cc,()]
 rows:bu w base Dr (.slice A n cc) n m.rdr.rows us
 iny:fV w F q p m.rdr.cur
 bd:Bd w 89 Fb (sK Dr (.slice A n cc)) pb nd lf inn fl bl m.ents
 mpb:mp<base
 mpn:mp≠z/\mp≠q/\mp≠p/\¬F mp/\¬Fb mp
 fb:∀b,Fb b->b≠z/\b≠q/\b≠p/\¬F b/\¬Dr b
 drl:∀b,Dr b->b<w
 ok:m.Ok nd lf inn fl bl K
 go:m.done=false
def q8 (w:World) (s:Nat) (v:Value) (nd:Int) (t:Option (List aX×Int)):Prop:=(t=none/\v= .pointer none)\/∃x a,t=some x/\v= .pointer (some ⟨a,0,none⟩)/\pG w (From s) a nd x.1 x.2
structure DR (w:World) (F:Nat->Prop) (mp p s:Nat) (nd:Int) (m:bM):Prop where
 mblk:∃v0 v1 tv,ak w mp 51 #[v0,v1,true,tv,(m.err:Int),(m.bad:Int)]/\q8 w s tv nd m.tree
 src:eP w F p m.rdr.cur.src
 mps:mp<s
 done:m.done=true
section
variable {S F Dr Fb:Nat->Prop} {w w':World} {mp z q p pb base:Nat} {A:Option Addr} {n cc:Nat} {us:List Value} {nd lf inn fl bl:Int} {K s:Nat} {m:bM}
theorem q8.chg {v:Value} {t:Option (List aX×Int)} (h:q8 w s v nd t) (hc:ag S w w') (n:∀b,s<=b->¬S b):q8 w' s v nd t:=by
 rcases h with h|⟨x,a,c,d,e⟩
 ·exact .inl h
 ·exact .inr ⟨x,a,c,d,e.chg hc (fun b f=>n b f)⟩
theorem DR.chg (h:DR w F mp p s nd m) (hc:ag S w w') (n:∀b,s<=b->¬S b) (d:¬S mp) (e:¬S p) (t:∀b,F b->¬S b):DR w' F mp p s nd m:=by
 obtain⟨g,v1,f,a,c⟩:=h.mblk;exact⟨⟨g,v1,f,a.chg hc d,c.chg hc n⟩,h.src.chg hc e t,h.mps,h.done⟩
theorem DR.below (h:DR w F mp p s nd m) (o:Below w w w'):DR w' F mp p s nd m:=h.chg (S:=Nil) (ag.of_below o) (fun _ _ h=>h) (fun h=>h) (fun h=>h) (fun _ _ h=>h)
theorem LR.chg (h:LR w F Dr Fb mp z q p pb base A n cc us nd lf inn fl bl K m) (hc:ag S w w') (c:∀b,XS mp z q p Dr Fb b->¬S b) (d:∀b,F b->¬S b):LR w' F Dr Fb mp z q p pb base A n cc us nd lf inn fl bl K m:=
 ⟨h.sit,h.zs,h.nFz,ma h.bw hc.size,h.mblk.chg hc (c _ (.inl rfl)),h.rblk.chg hc (c _ (.inr (.inl rfl))),h.rows.chgD hc (fun b a _=>c b (.inr (.inr (.inr (.inr (.inl a)))))),
  h.iny.chg hc (c _ (.inr (.inr (.inl rfl)))) (c _ (.inr (.inr (.inr (.inl rfl))))) d,h.bd.chg hc (fun b a=>c b (.inr (.inr (.inr (.inr (.inr a)))))) (fun b a=>c b (.inr (.inr (.inr (.inr (.inl a.1)))))),h.mpb,h.mpn,h.fb,fun b a=>mU (h.drl b a) hc.size,h.ok,h.go⟩
theorem LR.below (h:LR w F Dr Fb mp z q p pb base A n cc us nd lf inn fl bl K m) (o:Below w w w'):LR w' F Dr Fb mp z q p pb base A n cc us nd lf inn fl bl K m:=h.chg (S:=Nil) (ag.of_below o) (fun _ _ h=>h) (fun _ _ h=>h)
theorem LR.lt (h:LR w F Dr Fb mp z q p pb base A n cc us nd lf inn fl bl K m):∀b,XS mp z q p Dr Fb b->b<w:=by
 intro b a;have d:=h.bw;have e:=h.mpb;have f:=h.zs.lt;have g:=h.sit.qB;have i:=h.sit.pB
 rcases a with rfl|rfl|rfl|rfl|a|a
 ·omega
 ·omega
 ·omega
 ·omega
 ·exact h.drl b a
 ·obtain⟨_,_,_,_,_,c,_⟩:=h.bd;exact c b a
theorem LR.fs (h:LR w F Dr Fb mp z q p pb base A n cc us nd lf inn fl bl K m) (hc:ag (Fs z q p w (.slice A n cc)) w w'):ag (XS mp z q p Dr Fb) w w':=hc.mono (fun b hl a=>by
 rcases a with a|a|a|a|a
 ·exact .inr (.inl a)
 ·exact .inr (.inr (.inl a))
 ·exact .inr (.inr (.inr (.inl a)))
 ·exact .inr (.inr (.inr (.inr (.inl (h.rows.dom b a)))))
 ·omega)
theorem Bd.toIn {In f:Nat->Prop} {T:TypeId} {l:List aR} (h:Bd w T F In p nd lf inn fl bl l) (hi:∀b,In b->b<w->f b):Bd w T F f p nd lf inn fl bl l:=by
 obtain⟨A,n,c,us,g,j,k,m,o,q,r,s⟩:=h;refine⟨A,n,c,us,g,j,k,m,o,q,r,fun i e t=> ?_⟩;obtain⟨u,v,a,b,x,y⟩:=s i e t;exact⟨u,v,a,b,x.lt.weak (fun b d=>⟨d.1.1.imp id (fun h=>hi b h d.2),d.1.2⟩),y.lt.weak (fun b d=>⟨d.1.1.imp id (fun h=>hi b h d.2),d.1.2⟩)⟩
theorem Gu {us:List Value} (h:LR w F Dr Fb mp z q p pb base A n cc us nd lf inn fl bl K m) (c:K<=1152921504606846976):
  Calls prog 35 #[z] w (qy F z q p base Dr A n cc us m.rdr.next.1 m.rdr.next.2 w):=by
 have f:=h.ok.rdr.st;have d:=(h.ok.go h.go).1;have a:=h.rblk
 by_cases b:m.rdr.st=1
 ·have e:decide (m.rdr.st=1)=true:=decide_eq_true b;rw [e] at a
  exact JI h.sit h.zs h.nFz h.bw a h.rows h.iny h.ok.rdr b c
 ·have e:decide (m.rdr.st=1)=false:=decide_eq_false b;rw [e] at a;exact Gv h.sit h.zs h.nFz h.bw a h.rows h.iny h.ok.rdr (by omega) c
end
noncomputable def FV:Code:=aQ (f10.body.bind (aF 14))
theorem Ru {Fb In:Nat->Prop} {mp g o:Nat} (en ec:Nat) {i pb:Nat} {j k:Option Addr} {z G r cv:Nat} {nd lf inn fl bl:Int} {l:List aR} (e:aR) {w:World} {u1 y J u u7 u8 u9 L E O W Z U u16 f C I M P V d u24 u25 D m u28 T u30 u31 u32 p n u35 u36 u37 u38 N u40 R u42 X u44 u45 u46 v u48 u49 H u51 A u53 F u55 dY q B u59 u60 fw fJ u63 u64 gm s gH u68 u69 u70 iM:Value} {Y:List Value} {Q:Exit->Act->World->Prop} (kF:Hid (∀c t (a:Act) w,Q (.panic c) ⟨t,a.defers⟩ w->Q (.panic c) a w))
  (ab:w.cell? ⟨mp,1,none⟩=some (pb:Value)) (ad:w.cell? ⟨g,o+i*2,none⟩=some (.slice j z G)) (ae:w.cell? ⟨g,o+i*2+1,none⟩=some (.slice k r cv)) (hi:i<en) (a3:en<=64) (HB:Hid (Bd w 89 Fb In pb nd lf inn fl bl l)) (o9:Hid ((bV nd lf inn fl bl l).1=0))
  (H1:Hid (Bt w In j z G e.1)) (H2:Hid (Bt w In k r cv e.2)) (he:e.1.length<=64/\e.2.length<=256) (am:¬Fb mp) (ac:¬Fb g) (Zd:Hid (∀b,In b->b<w/\¬Fb b))
  (au:∀(an ao ap aq ar aw aA aE a0:Value) (w':World),Bd w' 89 (Grown Fb w w') In pb nd lf inn fl bl (vG nd lf inn fl bl l e)->ag Fb w w'->Q .normal ⟨(.pointer (some ⟨mp,0,none⟩)::u1::y:: .slice (some ⟨g,o,none⟩) en ec::J:: .int .i64 (i:Nat):: .int .i64 (iH nd lf inn fl bl l e)::u7::u8::u9::L::E::O::W::Z::U::u16::f::C::I::M::P::V::d::u24::u25::D::m::u28::T::u30::u31::u32::p::n::u35::u36::u37::u38::N::u40::R::u42::X::u44::u45::u46::v::u48::u49::H::u51::A::u53::F::u55::dY::q::B::u59::u60::fw::fJ::an::ao::ap::aq::ar::aw::aA::aE::a0::Y).toArray,[]⟩ w'):
  Code.wp prog FV Q ⟨(.pointer (some ⟨mp,0,none⟩)::u1::y:: .slice (some ⟨g,o,none⟩) en ec::J:: .int .i64 (i:Nat)::u::u7::u8::u9::L::E::O::W::Z::U::u16::f::C::I::M::P::V::d::u24::u25::D::m::u28::T::u30::u31::u32::p::n::u35::u36::u37::u38::N::u40::R::u42::X::u44::u45::u46::v::u48::u49::H::u51::A::u53::F::u55::dY::q::B::u59::u60::fw::fJ::u63::u64::gm::s::gH::u68::u69::u70::iM::Y).toArray,[]⟩ w:=by
 have dz:=aa au;have HD:Hid (Below w w w.drew):=aa mh.drew;have a1:=tV o9;have oP:=aa (lh o9);have al:=aa (Rv (HB.below HD) (gP.1 o9).1 Zd (H1.below HD) (H2.below HD) (by omega) (by omega) (by omega) (fun x hx=>by have:=(oP.out x hx).1;omega));have a4:(i:Int)<(en:Int):=by omega
 have a5:(0:Int)<=(i:Int):=by omega
 have a6:IntKind.i64.wrap (i:Int)=(i:Int):=IntWalk.i64_in _ (by omega);have S0:w.drew.cell? ⟨mp,1,none⟩=some (pb:Value)/\w.drew.cell? ⟨g,o+i*2,none⟩=some (.slice j z G)/\w.drew.cell? ⟨g,o+i*2+1,none⟩=some (.slice k r cv):=⟨ab,ad,ae⟩;clear au ab ad ae;conv=>arg 2;whnf
 refine aO (S:=(fun w'=>w'.cell? ⟨mp,1,none⟩=some (pb:Value)/\w'.cell? ⟨g,o+i*2,none⟩=some (.slice j z G)/\w'.cell? ⟨g,o+i*2+1,none⟩=some (.slice k r cv))) (by kernel_rfl) ?_;refine vT 0 S0 ?_;refine vT 1 S0 ?_;refine vT 2 S0 ?_;refine vT 4 S0 ?_;refine vT 5 S0 ?_;refine vT 6 S0 ?_;refine vT 3 S0 ?_;refine vT 7 S0 ?_;refine nZ 8 fun K hK=> ?_;go_simp;go_loud (refine al.mono ?_);rintro a2 w2 ⟨rfl,q1,q2⟩;have NT:=aa q1;have rJ:=aa q2;have S5:w2.cell? ⟨mp,1,none⟩=some (pb:Value)/\w2.cell? ⟨g,o+i*2,none⟩=some (.slice j z G)/\w2.cell? ⟨g,o+i*2+1,none⟩=some (.slice k r cv):=⟨q2.cell am S0.1,q2.cell ac S0.2.1,q2.cell ac S0.2.2⟩;clear q1 q2
 refine hK.out _ _ S5 ?_;clear hK K;try simp only [aL,aN,aZ,aC]
 refine vT 9 S5 ?_;refine bf (by kernel_rfl) ?_ _;exact dz _ _ _ _ _ _ _ _ _ _ NT ((ag.of_below (S:=Fb) HD).trans rJ (fun _ _ h=>h))
end
structure Rw (F Dr Fb:Nat->Prop) (mp z q p pb base:Nat) (nd lf inn fl bl:Int) (K:Nat) (m':bM) (w:World) (e:Ending) (w':World):Prop where
 ret:e= .returned m'.done
 chg:ag (XS mp z q p Dr Fb) w w'
 out:(m'.done=false/\∃(Mc PP:Nat->Prop) (A':Option Addr) (n' kz:Nat) (jJ:List Value),LR w' F Mc PP mp z q p pb base A' n' kz jJ nd lf inn fl bl K m'/\(∀b,Mc b->Dr b\/w<=b)/\(∀b,PP b->Fb b\/w<=b))\/DR w' F mp p w nd m'
theorem JJ (h:LR w F Dr Fb mp z q p pb base A n cc us nd lf inn fl bl K m) (hK:K<=1152921504606846976) (hn:m.rdr.next.1=none):
  Calls prog 10 #[mp] w (Rw F Dr Fb mp z q p pb base nd lf inn fl bl K (m.step nd lf inn fl bl) w):=by
 refine letter fun R HR=> ?_;have f:=aa h;have iW:=aa (Gu h hK)
 have Uh:Hid (¬Fs z q p w (.slice A n cc) mp):=aa (fun e=>by
  have i:=h.mpn;have B:=h.mpb;have C:=h.bw
  rcases e with e|e|e|e|e
  ·exact i.1 e
  ·exact i.2.1 e
  ·exact i.2.2.1 e
  ·have:=(ah h.rows.own mp e).1;omega
  ·omega)
 have y2:w.cell? ⟨mp,2,none⟩=some (.bool false):=h.mblk.cell 2;have y0:w.cell? mp=some (z:Value):=h.mblk.cell 0;have xD:Hid (∀b,Fb b->b<w):=aa (fun b d=>h.lt b (.inr (.inr (.inr (.inr (.inr d))))));have Z:Hid (mp<w):=aa (mU h.mpb h.bw)
 have Zk:Hid (∀w',ag (Fs z q p w (.slice A n cc)) w w'->Bd w' 89 Fb (sK Dr (.slice A n cc)) pb nd lf inn fl bl m.ents):=aa (fun w' hc=>h.bd.chg hc (fun b d e=>by
  have i:=h.fb b d;have B:=h.lt b (.inr (.inr (.inr (.inr (.inr d)))))
  rcases e with e|e|e|e|e
  ·exact i.1 e
  ·exact i.2.1 e
  ·exact i.2.2.1 e
  ·exact i.2.2.2.2 (h.rows.dom b e)
  ·omega) (fun b d e=>by
  have i:=h.rows.lo b d.1;have B:=h.drl b d.1;have C:=h.zs.lt;have h4:=h.sit.qB;have h5:=h.sit.pB
  rcases e with e|e|e|e|e
  ·omega
  ·omega
  ·omega
  ·exact d.2 e
  ·omega))
 have t:=aa (rU (nd:=nd) (lf:=lf) (inn:=inn) (fl:=fl) (bl:=bl) h.go hn);obtain⟨N,x⟩:=gF m.rdr.next.2;rw [hn,<-x] at iW;rw [<-x] at t;clear h hn x;go_enter func10,ntmps10;go_upto_region 4 with(go_at_call 35;go_loud (refine iW.mono ?_);intro e w2 X;have G:=aa X;obtain⟨rfl,_,_,_⟩:=X.no rfl;clear X)
 have bz:Hid (ag (XS mp z q p Dr Fb) w w2):=aa (f.fs G.chg);have g:=aa (f.mblk.chg G.chg Uh);obtain⟨v1,E⟩:=(G.out.no rfl).2.2.1;have P:=aa E;have O:=aa (G.no rfl).2.2.2;have DF:=aa (Zk w2 G.chg);have Zg:=g.out.frozen 2;have Q:=g.out.frozen 4;have S:=g.out.frozen 5;have x2:w2.cell? ⟨mp,2,none⟩=some (.bool false):=g.out.cell 2;have H:w2.cell? mp=some (z:Value):=g.out.cell 0;clear y2 y0 E;go_upto_region 6 with fail
 obtain⟨r,k⟩:=gF (w2.setCell ⟨mp,2,none⟩ (.bool true));rw [<-k];have c:ag (fun b=>b=mp) w2 r:=by rw [k];exact(ag.refl (fun b=>b=mp) w2).setCell (p:=⟨mp,2,none⟩) (fun _=>rfl) _
 have j:Hid (ak r mp 51 #[z,pb,true,.pointer none,.int .i64 0,.int .i64 0]):=aa (by rw [k];exact g.set_ 2 _);have u:=aa (P.chg c (fun e=>f.mpn.1 e.symm));have fu:=aa c;obtain⟨er,U⟩:=gF N.err;obtain⟨bd,v⟩:=gF N.bad;have L:=aa U;have o:=aa v;rw [<-U,<-v] at u;clear k c Zg Q S x2 H U v;have H:r.cell? mp=some (z:Value):=j.out.cell 0;have x4:r.cell? ⟨mp,4,none⟩=some (.int .i64 0):=j.out.cell 4;have z3:r.cell? ⟨z,3,none⟩=some (.int .i64 er):=u.out.cell 3;have Q:=j.out.frozen 4;go_upto_region 7 with fail
 obtain⟨s,l⟩:=gF (r.setCell ⟨mp,4,none⟩ (.int .i64 er));rw [<-l];have c:ag (fun b=>b=mp) r s:=by rw [l];exact(ag.refl (fun b=>b=mp) r).setCell (p:=⟨mp,4,none⟩) (fun _=>rfl) _
 have I:Hid (ak s mp 51 #[z,pb,true,.pointer none,(er:Int),.int .i64 0]):=aa (by rw [l];exact j.set_ 4 _);have Gt:=aa (u.chg c (fun e=>f.mpn.1 e.symm));have gK:=aa (fu.out.trans c (fun _ _ h=>h));clear l c H x4 z3 Q;have H:s.cell? mp=some (z:Value):=I.out.cell 0;have x5:s.cell? ⟨mp,5,none⟩=some (.int .i64 0):=I.out.cell 5;have z4:s.cell? ⟨z,4,none⟩=some (.int .i64 bd):=Gt.out.cell 4;have S:=I.out.frozen 5;go_upto_region 8 with fail
 obtain⟨y,M⟩:=gF (s.setCell ⟨mp,5,none⟩ (.int .i64 (bd:Nat)));rw [<-M];have c:ag (fun b=>b=mp) s y:=by rw [M];exact(ag.refl (fun b=>b=mp) s).setCell (p:=⟨mp,5,none⟩) (fun _=>rfl) _
 have J:Hid (ak y mp 51 #[z,pb,true,.pointer none,(er:Int),(bd:Int)]):=aa (by rw [M];exact I.set_ 5 _);have T:Hid (ag (fun b=>b=mp) w2 y):=aa (gK.out.trans c (fun _ _ h=>h));have PN:=aa (O.chg T (fun e=>f.mpn.2.2.1 e.symm) (fun b d e=>f.mpn.2.2.2.1 ((show b=mp from e)▸d)));have Zh:=aa (DF.chg T (fun b d e=>f.mpn.2.2.2.2 ((show b=mp from e)▸d)) (fun b d e=>by have e:b=mp:=e;have i:=f.out.rows.lo b d.1;have B:=f.out.mpb;omega));have V:Hid (ag (XS mp z q p Dr Fb) w y):=aa (bz.out.trans T (fun b _ e=> .inl e));have Y:w.heap.size<=y:=V.out.size;clear M c H x5 z4 S;have x4:y.cell? ⟨mp,4,none⟩=some (.int .i64 er):=J.out.cell 4;have x1:y.cell? ⟨mp,1,none⟩=some (pb:Value):=J.out.cell 1
 by_cases D:er=0
 ·subst D;have lm:=aa (Nr Zh f.ok.bld (by have:=tV f.ok.bld;omega) (fun e D=>by have:=lh f.ok.bld e D;omega));go_wp2_with (go_at_call 36;go_loud (refine lm.mono ?_);rintro e w6 ⟨a,rfl,i,B,C⟩;have H1:=aa i;have H3:=aa C;have W:=aa (J.chg C f.mpn.2.2.2.2);have y3:w6.cell? ⟨mp,3,none⟩=some (.pointer none):=W.out.cell 3;have ac:=W.out.frozen 3;clear i B C);rw [HR.out,t.out];have c:=(ag.refl (fun b=>b=mp) w6).setCell (p:=⟨mp,3,none⟩) (fun _=>rfl) a
  refine⟨rfl,(V.out.trans H3 (fun b _ e=> .inr (.inr (.inr (.inr (.inr e)))))).trans c (fun b _ e=> .inl e),.inr ⟨⟨z,pb,a,?_,.inr ⟨aY fl.toNat inn.toNat m.ents,a,?_,rfl,?_⟩⟩,?_,Z,rfl⟩⟩
  ·have:=W.out.set_ 3 a;rw [L.out,o.out] at this
   exact this
  ·show(if N.err=0 then some (aY fl.toNat inn.toNat m.ents) else none)=_
   rw [if_pos L.out.symm]
  ·exact(H1.weak (fun b d=>ma Y d)).chg c (fun b d e=>by have e:b=mp:=e;have d:w<=b:=d;have:=Z.out;omega)
  ·exact(PN.chg H3 (fun e=>(f.fb p e).2.2.1 rfl) (fun b d e=>(f.fb b e).2.2.2.1 d)).chg c (fun e=>f.mpn.2.2.1 e.symm) (fun b d e=>f.mpn.2.2.2.1 ((show b=mp from e)▸d))
 ·have ab:(er==0)=false:=by rw [mi];exact D
  have HE:=aa D;go_wp2;rw [HR.out,t.out]
  refine⟨rfl,V,.inr ⟨⟨z,pb,.pointer none,?_,.inl ⟨?_,rfl⟩⟩,PN,Z,rfl⟩⟩
  ·have:=J.out;rw [L.out,o.out] at this
   exact this
  ·show(if N.err=0 then some (aY fl.toNat inn.toNat m.ents) else none)=none;rw [if_neg (by rw [<-L.out];exact HE)]
noncomputable def Ga:Code:=aQ (f10.body.bind (aF 18))
theorem Rx {at_:Nat} {v1 v2 v3 v4 v5:Value} {u1 y B J s u Y k u9 L E O W Z U G f C I M P V d u24 u25 D m r u29 u30 g x u33 u34 i u36 u37 ea N u40 R u42 X u44 u45 u46 v u48 u49 H u51 A u53 F u55 S q u58 u59 u60 fw fJ u63 u64 gm u66 l u68 u69 u70 T u72 u73 iN u75 iV jY jZ j6 kg kG kP kQ kR ko kU ng mI mJ pF pu rX u93 vw vz o vE sQ sS jg jh ji:Value} {Q:Exit->Act->World->Prop} (kF:Hid (∀c t (a:Act) w,Q (.panic c) ⟨t,a.defers⟩ w->Q (.panic c) a w))
  (HB:Hid (ak w mp 51 #[z,v1,v2,v3,v4,v5])) (hz:w.cell? ⟨z,5,none⟩=some (.slice (some ⟨gr,0,none⟩) n cc)) (hg:w.cell? ⟨gr,j*4+1,none⟩=some (.int .i64 at_)) (hj:n=j+1) (hn:n<=8388608)
  (au:∀(ae al am an ao ap aq sU ar sV aw xF aA Mg Mh Mi Mj Zn Zo ab ac ad:Value) (w':World),ag (fun b=>b=mp) w w'->ak w' mp 51 #[z,v1,v2,v3,v4,(at_:Int)]->Q .normal ⟨(.pointer (some ⟨mp,0,none⟩)::u1::y::B::J::s::u::Y::k::u9::L::E::O::W::Z::U::G::f::C::I::M::P::V::d::u24::u25::D::m::r::u29::u30::g::x::u33::u34::i::u36::u37::ea::N::u40::R::u42::X::u44::u45::u46::v::u48::u49::H::u51::A::u53::F::u55::S::q::u58::u59::u60::fw::fJ::u63::u64::gm::u66::l::u68::u69::u70::T::u72::u73::iN::u75::iV::jY::jZ::j6::kg::ae::al::am::an::ao::ap::aq::sU::ar::sV::aw::xF::aA::Mg::Mh::Mi::Mj::Zn::Zo::ab::ac::ad:: []).toArray,[]⟩ w'):
  Code.wp prog Ga Q ⟨(.pointer (some ⟨mp,0,none⟩)::u1::y::B::J::s::u::Y::k::u9::L::E::O::W::Z::U::G::f::C::I::M::P::V::d::u24::u25::D::m::r::u29::u30::g::x::u33::u34::i::u36::u37::ea::N::u40::R::u42::X::u44::u45::u46::v::u48::u49::H::u51::A::u53::F::u55::S::q::u58::u59::u60::fw::fJ::u63::u64::gm::u66::l::u68::u69::u70::T::u72::u73::iN::u75::iV::jY::jZ::j6::kg::kG::kP::kQ::kR::ko::kU::ng::mI::mJ::pF::pu::rX::u93::vw::vz::o::vE::sQ::sS::jg::jh::ji:: []).toArray,[]⟩ w:=by
 have dz:=aa au;have a1:(n:Int)-1=(j:Int):=by omega
 have a2:IntKind.i64.wrap ((n:Int)-1)=(j:Int):=by rw [IntWalk.i64_in _ (by omega)];omega
 have a3:IntKind.i64.wrap (j:Int)=(j:Int):=IntWalk.i64_in _ (by omega);have a0:(0:Int)<=(j:Int):=by omega
 have a4:j<n:=by omega
 have yD:(j:Int)<(n:Int):=by omega
 have S0:w.drew.cell? mp=some (z:Value)/\w.drew.cell? ⟨z,5,none⟩=some (.slice (some ⟨gr,0,none⟩) n cc)/\w.drew.cell? ⟨gr,j*4+1,none⟩=some (.int .i64 at_):=⟨(HB.cell 0).trans rfl,hz,hg⟩;have aE:w.drew.frozen? ⟨mp,5,none⟩=false:=HB.out.frozen 5;have lF:w.drew.cell? ⟨mp,5,none⟩=some v5:=(HB.out.cell 5).trans rfl;clear au hz hg hj;conv=>arg 2;whnf
 refine aM (fun w'=>w'.cell? mp=some (z:Value)/\w'.cell? ⟨z,5,none⟩=some (.slice (some ⟨gr,0,none⟩) n cc)/\w'.cell? ⟨gr,j*4+1,none⟩=some (.int .i64 at_)) 22 (by kernel_rfl) ?_;refine uF 0 (fun _=>S0) ?_;refine uF 1 (fun _=>S0) ?_;refine uF 2 (fun _=>S0) ?_;refine uF 3 (fun _=>S0) ?_;refine uF 8 (fun _=>S0) ?_;refine uF 9 (fun _=>S0) ?_;refine uF 10 (fun _=>S0) ?_;refine uT 4 S0 ?_;refine uF 5 (fun _=>S0) ?_;refine uF 6 (fun _=>S0) ?_;refine uT 7 S0 ?_;refine uT 11 S0 ?_;refine uF 12 (fun _=>S0) ?_;refine uF 13 (fun _=>S0) ?_;refine uT 14 S0 ?_;refine uF 15 (fun _=>S0) ?_;refine uF 16 (fun _=>S0) ?_;refine uF 17 (fun _=>S0) ?_;refine uF 18 (fun _=>S0) ?_;refine uT 19 S0 ?_;refine uF 20 (fun _=>S0) ?_;refine uF 21 (fun _=>S0) ?_;refine mR 22 fun K hK=> ?_;go_simp;refine hK.out _ _ (fun h=>absurd h (by decide)) ?_;clear hK K;try simp only [aL,aN,aZ,aC]
 refine bH (by kernel_rfl) ?_ _;refine dz _ _ _ _ _ _ _ _ _ _ _ _ _ _ _ _ _ _ _ _ _ _ _ (((ag.refl (fun b=>b=mp) w).drewN 1).setCell (p:=⟨mp,5,none⟩) (fun _=>rfl) _) ?_;exact(HB.drewN 1).set_ 5 _
end Go.Proofs.YtepgcjbhabnciaaGreat
