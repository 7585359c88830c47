/- Part 37. -/
import Derived.Test.YtepgcjbhabnciaaGreatLp36
namespace Go.Proofs.YtepgcjbhabnciaaGreat
set_option maxRecDepth 100000
set_option maxHeartbeats 8000000
open Go.Proofs.Tryz Go.RowKit
variable {v B J u Y k r L E O W Z U G f C I M:Value} {mp z q p pb base n cc s t K hv g:Nat} {nd lf inn fl bl e:Int} {F Dr Fb:Nat->Prop} {m a b:bM} {w w':World} {A:Option Addr} {us:List Value} {x:Option (List aX×Int)}
theorem JK (a:List aR) (h:LR w F Dr Fb mp z q p pb base A n cc us nd lf inn fl bl K m) (hK:K<=1152921504606846976) (hn:m.rdr.next.1=some a):
  Calls prog 10 #[mp] w (Rw F Dr Fb mp z q p pb base nd lf inn fl bl K (m.step nd lf inn fl bl) w):=by
 refine letter fun R HR=> ?_;have d:=aa h;have iW:=aa (Gu h hK)
 have Uh:Hid (¬Fs z q p w (.slice A n cc) mp):=aa (fun e=>by
  have f:=h.mpn;have s:=h.mpb;have h3:=h.bw
  rcases e with e|e|e|e|e
  ·exact f.1 e
  ·exact f.2.1 e
  ·exact f.2.2.1 e
  ·have:=(ah h.rows.own mp e).1;omega
  ·omega)
 have y2:w.cell? ⟨mp,2,none⟩=some (.bool false):=h.mblk.cell 2;have y0:w.cell? mp=some (z:Value):=h.mblk.cell 0;have S:Hid (∀b,Fb b->b<w):=aa (fun b c=>h.lt b (.inr (.inr (.inr (.inr (.inr c))))));have qo:Hid (mp<w):=aa (mU h.mpb h.bw)
 have Zk:Hid (∀w',ag (Fs z q p w (.slice A n cc)) w w'->Bd w' 89 Fb (sK Dr (.slice A n cc)) pb nd lf inn fl bl m.ents):=aa (fun w' hc=>h.bd.chg hc (fun b c e=>by
  have f:=h.fb b c;have s:=h.lt b (.inr (.inr (.inr (.inr (.inr c)))))
  rcases e with e|e|e|e|e
  ·exact f.1 e
  ·exact f.2.1 e
  ·exact f.2.2.1 e
  ·exact f.2.2.2.2 (h.rows.dom b e)
  ·omega) (fun b c e=>by
  have f:=h.rows.lo b c.1;have s:=h.drl b c.1;have h3:=h.zs.lt;have h4:=h.sit.qB;have h5:=h.sit.pB
  rcases e with e|e|e|e|e
  ·omega
  ·omega
  ·omega
  ·exact c.2 e
  ·omega))
 have L:=aa (rV (nd:=nd) (lf:=lf) (inn:=inn) (fl:=fl) (bl:=bl) h.go hn);have o9:=aa (bM.step_ok h.ok);have V:=aa ((dM.next_ok h.ok.rdr).2 a hn);obtain⟨Q,O⟩:=gF m.rdr.next.2;rw [hn,<-O] at iW;rw [<-O] at L V;clear h hn O;go_enter func10,ntmps10;go_upto_region 4 with(go_at_call 35;go_loud (refine iW.mono ?_);intro e w2 hf;have mG:=aa hf;obtain⟨eA,v,ec,W,t,U,jJ,rfl,g1,g2,g3,g4,g5,g6,g7⟩:=hf.yes a rfl;have G1:=aa g1;have G2:=aa g2;have G3:=aa g3;have J:=aa g4;have G5:=aa g5;have G6:=aa g6;have G7:Hid (∀g,(Value.slice W t U).ownBlock=some g->(Value.slice A n cc).ownBlock=some g\/w<=g):=aa g7;clear hf g1 g2 g3 g4 g5 g6 g7)
 have bz:Hid (ag (XS mp z q p Dr Fb) w w2):=aa (d.fs mG.chg);have Y:=aa (d.mblk.chg mG.chg Uh);have ba:w.heap.size<=w2:=bz.out.size;obtain⟨D,l⟩:=gF (sK (fun b=>Dr b\/(w.heap.size<=b/\b<w2.heap.size)) (.slice W t U));have aE:=aa l
 have DF:Hid (Bd w2 89 Fb D pb nd lf inn fl bl m.ents):=aa ((Zk w2 mG.chg).toIn (fun b c hl=>by
  rw [l];have f:=d.out.drl b c.1;exact⟨.inl c.1,fun e=>(G7.out b e).elim c.2 (fun h=>by omega)⟩))
 have a0:Hid (∀b,D b->b<w2/\¬Fb b/\b≠mp):=aa (fun b c=>by
  rw [l] at c;have s:=d.out.mpb;have h3:=d.out.bw
  rcases c.1 with h|h
  ·have f:=d.out.drl b h;have h4:=d.out.rows.lo b h
   exact⟨by omega,fun e=>(d.fb b e).2.2.2.2 h,by omega⟩
  ·exact⟨h.2,fun e=>by have:=S.out b e;omega,by omega⟩)
 have ab:Hid (∀b,(w.heap.size<=b/\b<w2.heap.size/\(Value.slice W t U).ownBlock≠some b)->D b):=aa (fun b c=>by
  rw [l];exact⟨.inr ⟨c.1,c.2.1⟩,c.2.2⟩)
 obtain⟨B,N⟩:=gF m.ents;have xE:=aa N;rw [<-N] at DF;have qX:Hid (v=a.length):=aa G3.out.len;have JH:Hid (∀e∈a,e.1.length<=64/\e.2.length<=256):=aa (fun e he=>(dB V.rise he).2);have ap:Hid (yS Fb pb nd lf inn fl bl B a 0 w2 w2 89 D):=aa (yS.start DF (by rw [xE.out];exact d.ok.bld));have wV:v<=64:=by rw [qX.out];exact V.most
 clear y2 y0 N l;go_wp2
 go_loopg [5] v (fun g' iv wz=>∃i:Nat,g'=v-i/\i<=v/\iv= (i:Int)/\Hid (yS Fb pb nd lf inn fl bl B a i w2 wz 89 D))
 case atStart=>exact⟨0,by omega,by omega,rfl,ap⟩
 case round=>
  obtain⟨i,hg,hi,rfl,r⟩:=hrel;have Ug:=aa hg;clear hg;have Z:=aa (Y.chg r.chg d.mpn.2.2.2.2);have AF:w2.heap.size<=wr:=r.out.chg.size
  by_cases an:i<v
  ·have a4:(i:Int)<(v:Int):=by omega
   have aq:Hid (dh wr (fun b=>w<=b/\b<w2/\(Value.slice W t U).ownBlock≠some b) eA v a):=aa (G3.out.chg r.chg (fun b c e=>by have f:=S.out b e;have s:=c.1;omega));obtain⟨g,o,Ak,nk,ck,Av,nv,cv,key,val,rfl,al,ad,c0,c1,f⟩:=aq.out.at_ (k:=i) an;have Rs:=aa ad;have H1:=aa f;have Ua:=aa al;clear ad f al;go_upto_region 14 with fail
   have au:Hid (Bt wr D Ak nk ck key):=aa (by obtain⟨q1,q2,q3,q4,_⟩:=H1.out;exact⟨q1,q2,q3,q4.weak ab⟩);have aw:Hid (Bt wr D Av nv cv val):=aa (by obtain⟨_,_,_,_,q1,q2,q3,q4⟩:=H1.out;exact⟨q1,q2,q3,q4.weak ab⟩);have Vq:Hid (∀b,Grown Fb w2 wr b->b<w2->Fb b):=aa (fun b c hl=>c.elim id (fun h=>by omega))
   refine Ru v ec (key,val) (aa (fun _ _ _ _ h=>h)) (Z.cell 1) c0 c1 an wV (aa r.bd) (aa r.ok) au aw (JH _ (nT Rs)) (fun e=>d.mpn.2.2.2.2 (Vq _ e (by have:=qo.out;omega))) (fun e=>by have s:=Vq.out _ e Ua.2.1;have:=S.out _ s;have:=Ua.out.1;omega) (aa (fun b c=>by
    have s:=a0.out b c;exact⟨by omega,fun e=>s.2.1 (Vq b e s.1)⟩)) ?_
   intro bh bj bk bm bo bp bx bE bF y PO Vp;have T:Hid (ag Fb w2 y):=aa (r.chg.trans Vp (fun b c e=>Vq b e c))
   have Zj:Hid (Bd y 89 (fun b=>Fb b\/(w2<=b/\b<y)) D pb nd lf inn fl bl (vG nd lf inn fl bl (B++a.take i) (key,val))):=aa (PO.sub (fun b c=>by
    rcases c with(c|c)|c
    ·exact .inl c
    ·exact .inr ⟨c.1,by have:=Vp.size;omega⟩
    ·exact .inr ⟨by omega,c.2⟩) (fun b c=>by
    rcases c with c|c
    ·have:=S.out b c;have:=Vp.size;omega
    ·exact c.2))
   clear PO Vp c0 c1;obtain⟨M,X⟩:=gF (iH nd lf inn fl bl (B++a.take i) (key,val));rw [<-X];replace X:=aa X
   by_cases h0:M=0
   ·subst h0;go_wp2
    go_roundg (v-(i+1))
    case measure=>have:=Ug.out;omega
    case rel=>exact⟨i+1,rfl,by omega,by go_num,aa (r.next Rs X.out.symm Zj T)⟩
   ·have a9:(M==0)=false:=by rw [mi];exact h0
    have H0:=aa h0;have I:0<t:=by rw [J.out.len,V.out.rows];omega
    obtain⟨gr,a8,P,_,_⟩:=J.out.own.form I;injection P with P _ a3;subst P;have Mf:Hid (iy Q.rows):=aa V.ok.rows;have Gt:=aa (G6.out.chg T (fun e=>(d.fb z e).1 rfl))
    have C:Hid (bu y base _ (.slice (some ⟨gr,0,none⟩) t U) t Q.rows jJ):=aa (J.out.chgD T (fun b c hl e=>by
     rcases c with c|c
     ·exact(d.fb b e).2.2.2.2 c
     ·have:=S.out b e;omega))
    have mH:=aa (Y.chg T d.mpn.2.2.2.2);obtain⟨j,hj⟩:∃j,t=j+1:=⟨t-1,by omega⟩;have HJ:=aa hj;obtain⟨x,hx⟩:∃x,Q.rows[j]? =some x:=⟨_,mP (by have:=J.out.len;omega)⟩;have HX:=aa hx;have Rt:Hid (Q.rows.getLast?.getD ⟨[],0,0,0⟩=x):=aa (by rw [List.getLast?_eq_getElem?,<-J.out.len,show t-1=j by omega,hx];rfl);have X9:t<=8388608:=by rw [J.out.len];exact Mf.many
    have Ag:Hid (y.cell? ⟨gr,j*4+1,none⟩=some (.int .i64 x.at_)):=aa (by
     obtain⟨u,_,e2,_⟩:=C.out.at_ j x hx;have be:=C.out.own.1;rw [C.out.own.cellAt (j*4+1) (by omega)];exact e2)
    have ar:Hid (gr≠mp):=aa (fun e=>by have f:=(ah C.own gr rfl).1;have s:=d.out.mpb;omega);have x2:y.cell? ⟨mp,2,none⟩=some (.bool false):=mH.out.cell 2;have x4:y.cell? ⟨mp,4,none⟩=some (.int .i64 0):=mH.out.cell 4;have Zg:=mH.out.frozen 2;have Ui:=mH.out.frozen 4;clear hj hx a3 I;go_upto_region 18 with fail
    obtain⟨w6,iO⟩:=gF ((y.setCell ⟨mp,2,none⟩ (.bool true)).setCell ⟨mp,4,none⟩ (.int .i64 M));rw [<-iO];have E:ag (fun b=>b=mp) y w6:=by rw [iO];exact((ag.refl (fun b=>b=mp) y).setCell (p:=⟨mp,2,none⟩) (fun _=>rfl) _).setCell (p:=⟨mp,4,none⟩) (fun _=>rfl) _
    have EV:Hid (ak w6 mp 51 #[z,pb,true,.pointer none,(M:Int),.int .i64 0]):=aa (by rw [iO];exact(mH.set_ 2 _).set_ 4 _);have aA:=aa (Gt.chg E (fun e=>d.mpn.1 e.symm));have a1:=aa (E.cell ar Ag);have II:=aa E;clear iO E x2 x4 Zg Ui;refine Rx (aa (fun _ _ _ _ h=>h)) EV (aA.cell 5) a1 HJ X9 ?_;intro bG bI bL bN bP bQ bT sU bU sV bX xF b0 Mg Mh Mi Mj Zn Zo a5 a6 a7 w7 NV ac;have vQ:=aa NV;have ao:=aa ac;clear NV ac;go_wp2
    have vo:Hid (m.step nd lf inn fl bl={m with rdr:=Q,ents:=B++a.take i,done:=true,err:=M,bad:=x.at_}):=aa (by
     rw [L.out];unfold bM.took;have s:gU nd lf inn fl bl (B++a.take i) (a.drop i)=(B++a.take i,M):=by rw [vP Rs.out,<-X.out,if_neg H0.out]
     have f:=r.out.eq.trans s;rw [<-xE.out,f,if_neg (show¬(B++a.take i,M).2=0 from H0.out),Rt.out])
    rw [HR.out,vo.out];have H:ag (fun b=>b=mp) y w7:=II.out.trans vQ (fun _ _ h=>h);refine⟨rfl,(bz.out.trans T (fun b _ e=> .inr (.inr (.inr (.inr (.inr e)))))).trans H (fun b _ e=> .inl e),.inr ⟨⟨_,_,_,ao,.inl ⟨(d.ok.go d.go).2.2.2.2,rfl⟩⟩,?_,qo,rfl⟩⟩
    exact(G5.out.src.chg T (fun e=>(d.fb p e).2.2.1 rfl) (fun b c e=>(d.fb b e).2.2.2.1 c)).chg H (fun e=>d.mpn.2.2.1 e.symm) (fun b c e=>d.mpn.2.2.2.1 ((show b=mp from e)▸c))
  ·have am:i=v:=by omega
   have vo:Hid (m.step nd lf inn fl bl={m with rdr:=Q,ents:=B++a}):=aa (by
    rw [L.out];unfold bM.took;have f:=r.out.eq;rw [am,qX.out,List.take_length,List.drop_length,xE.out] at f;rw [f,show gU nd lf inn fl bl (m.ents++a) []=(m.ents++a,0) from rfl,if_pos rfl,xE.out])
   have rF:Hid (Bd wr 89 (Grown Fb w2 wr) D pb nd lf inn fl bl (B++a)):=aa (by
    have f:=r.out.bd;rw [am,qX.out,List.take_length] at f;exact f)
   go_wp2;rw [HR.out]
   have G:(m.step nd lf inn fl bl).done=false:=by rw [vo.out];exact d.go
   have a2:=d.out.bw;refine⟨by rw [G];rfl,bz.out.trans r.chg (fun b _ e=> .inr (.inr (.inr (.inr (.inr e))))),.inl ⟨G,(fun b=>Dr b\/(w<=b/\b<w2)),Grown Fb w2 wr,W,t,U,jJ,?_,fun b c=>c.imp id (fun h=>h.1),fun b c=>c.imp id (fun h=>by omega)⟩⟩;have hok:=o9.out;rw [vo.out] at hok G|-
   exact{
    sit:=d.out.sit
    zs:=d.out.zs
    nFz:=d.out.nFz
    bw:=by omega
    mblk:=Z.out
    rblk:=by
     have f:=G6.out.chg r.chg (fun e=>(d.fb z e).1 rfl);show ak wr z _ #[_,.bool (decide (Q.st=1)),_,_,_,_,_];rw [V.out.st];exact f
    rows:=J.out.chgD r.chg (fun b c hl e=>by
     rcases c with c|c
     ·exact(d.fb b e).2.2.2.2 c
     ·have:=S.out b e;omega)
    iny:=G5.out.chg r.chg (fun e=>(d.fb q e).2.1 rfl) (fun e=>(d.fb p e).2.2.1 rfl) (fun b c e=>(d.fb b e).2.2.2.1 c)
    bd:=by rw [<-aE.out];exact rF
    mpb:=d.out.mpb
    mpn:=⟨d.mpn.1,d.mpn.2.1,d.mpn.2.2.1,d.mpn.2.2.2.1,fun e=>by
     rcases e with e|e
     ·exact d.mpn.2.2.2.2 e
     ·have:=qo.out;omega⟩
    fb:=fun b c=>by
     rcases c with c|c
     ·have f:=d.out.fb b c;have s:=S.out b c
      exact⟨f.1,f.2.1,f.2.2.1,f.2.2.2.1,fun e=>e.elim f.2.2.2.2 (fun e=>by omega)⟩
     ·have f:=d.out.zs.lt;have s:=d.out.sit.qB;have h3:=d.out.sit.pB;exact⟨by omega,by omega,by omega,fun e=>by have:=d.out.sit.lt b e;omega,fun e=>e.elim (fun e=>by have:=d.out.drl b e;omega) (fun e=>by omega)⟩
    drl:=fun b c=>by
     rcases c with c|c
     ·have:=d.out.drl b c;omega
     ·omega
    ok:=hok
    go:=G}
theorem Ch (K:Nat) (h:LX w F Dr Fb mp z q p pb base hv A n cc us nd lf inn fl bl K m) (a:K<=1152921504606846976):
  Calls prog 9 #[mp] w (Rp F Dr Fb mp z q p pb base nd lf inn fl bl K (m.step nd lf inn fl bl) w):=by
 cases hn:m.rdr.next.1 with
 |none=>exact JF h a hn
 |some b=>exact JG b h a hn
theorem Ci (K:Nat) (h:LR w F Dr Fb mp z q p pb base A n cc us nd lf inn fl bl K m) (a:K<=1152921504606846976):
  Calls prog 10 #[mp] w (Rw F Dr Fb mp z q p pb base nd lf inn fl bl K (m.step nd lf inn fl bl) w):=by
 cases hn:m.rdr.next.1 with
 |none=>exact JJ h a hn
 |some b=>exact JK b h a hn
theorem JL (h:DX w F mp p s nd m):Calls prog 9 #[mp] w fun e w'=>e= .returned true/\w=w':=by
 obtain⟨d,v1,c,b,a,_,_⟩:=h.mblk;have f:w.cell? ⟨mp,2,none⟩=some (.bool true):=a.cell 2;clear h a;go_enter func9,ntmps9;go_wp2;go_ret
 exact⟨rfl,rfl⟩
theorem JM (h:DR w F mp p s nd m):Calls prog 10 #[mp] w fun e w'=>e= .returned true/\w=w':=by
 obtain⟨c,v1,b,a,_⟩:=h.mblk;have d:w.cell? ⟨mp,2,none⟩=some (.bool true):=a.cell 2;clear h a;go_enter func10,ntmps10;go_wp2;go_ret
 exact⟨rfl,rfl⟩
def eZ (s:Src):bM:=⟨⟨⟨s,0,0,0,none⟩,0,[],0,0⟩,[],false,none,0,0⟩
structure Cj (s:Src):Prop where
 left:s.left.length<=1048576
 gives:s.gives.length<=1048576
 calls:s.calls=0
theorem pV {s:Src} (h:Cj s) (hc:bq nd lf inn fl bl):(eZ s).Ok nd lf inn fl bl 17825808:=by
 have a:=h.left;have b:=h.gives;have c:=h.calls;exact⟨⟨fun _=>⟨fun _=>⟨Nat.zero_le _,by unfold ay.pot;simp only [eZ];omega⟩,by simp [eZ];omega,by simp only [eZ];omega⟩,fun _=>rfl,Ry,fun _=>⟨rfl,rfl⟩,fun h=>absurd h (by simp [eZ]),Nat.zero_le _,fun _=>rfl⟩,fun _=>⟨by simp [eZ],rfl,rfl,rfl,rfl⟩,I9 hc,fun t h=>by simp [eZ] at h⟩
def Gm (F:Nat->Prop) (p:Nat) (nd lf inn fl bl:Int) (s:Src) (w:World) (e:Ending) (w':World):Prop:=
 ∃(Fb:Nat->Prop) (mp z q pb base hv:Nat),e= .returned (.tuple #[mp,.int .i64 0])/\LX w' F Nil Fb mp z q p pb base hv none 0 0 [] nd lf inn fl bl 17825808 (eZ s)/\Below w w w'/\(∀b,XS mp z q p Nil Fb b->b=p\/w<=b)
theorem Ml {s:Src} (hc:bq nd lf inn fl bl) (D:ig w F p s) (i:Cj s) (v:p<w) (c:∀b,F b->b<w/\b≠p):
  Calls prog 7 #[.agg #[nd,lf,inn,fl,bl],.iface 29 p] w (Gm F p nd lf inn fl bl s w):=by
 refine letter fun R L=> ?_;have M:=aa D;have J:=aa (pV i hc);have h:=aa c;have K:=aa v;obtain⟨o,f⟩:=gF (w.alloc (.cells #[.int .i64 nd,.int .i64 lf,.int .i64 inn,.int .i64 fl,.int .i64 bl] 23));have n:Below w w o:=by rw [f];exact gV
 have k:=aa n;have N:Hid (ak o w 23 #[nd,lf,inn,fl,bl]):=aa (by rw [f];exact ak.new _ _ _);have I:=aa (UR Nil o hc);clear D i c v hc;go_enter func7,ntmps7;go_upto_region 1 with fail
 rw [<-f];clear f n;obtain⟨U,V,W,X,Y⟩:=gB N;go_upto_region 2 with(go_at_call 25;go_loud (refine I.mono ?_);rintro e w1 ⟨pb,rfl,l,m⟩;have E:=aa l;have A:=aa m;clear l m)
 clear U V W X Y;go_wp2_with (go_at_call 26;go_loud (refine(AJ p w1).mono ?_);rintro e w2 ⟨z,rfl,l,m,t,C⟩;have G:=aa l;have H:=aa m;have B:=aa t;have r:=aa C;clear l m t C);rw [L.out];have d:Below w2 w2 (w2.alloc (.cells #[z,pb,false,.pointer none,.nilIface] 85)):=gV;have g:ak (w2.alloc (.cells #[z,pb,false,.pointer none,.nilIface] 85)) w2 85 #[z,pb,false,.pointer none,.nilIface]:=ak.new _ _ _;obtain⟨y,u⟩:=gF (w2.alloc (.cells #[.pointer (some ⟨z,0,none⟩),.pointer (some ⟨pb,0,none⟩),.bool false,.pointer none,.nilIface] 85));rw [<-u] at d g|-;have S:=k.out.size;have s1:=A.out.size;have s2:=r.out.size;have T:w2.heap.size<y:=g.lt;have hz:z<w2:=B.out.lt;have P:=K.out;have t:=G.out;have q:Below w w w2:=(k.out.trans (A.mono S)).trans (r.mono (by omega));have j:Below w w y:=q.trans (d.mono (by omega));have Z:∀b,o.heap.size<=b/\b<w1.heap.size->w.heap.size<=b:=fun b a=>by omega
 refine⟨(fun b=>o<=b/\b<w1),w2,z,w1,pb,y,0,rfl,?_,j,fun b a=> ?_⟩
 ·exact{
   sit:=⟨fun e=>(h p e).2 rfl,fun e=>by have:=(h.out _ e).1;omega,by omega,fun b a=>by have:=(h.out b a).1;omega,by omega,by omega⟩
   zs:=⟨by omega,by omega,by omega⟩
   nFz:=fun e=>by have:=(h.out z e).1;omega
   bw:=jO
   mblk:=g
   rblk:=by
    have O:=B.out.below d;exact O
   rows:=bu.nil _ _
   iny:=⟨H.below d,M.below j,fun x Q=>by cases Q⟩
   bd:=((E.below r).below d)
   mpb:=T
   mpn:=⟨by omega,by omega,by omega,fun e=>by have:=(h.out _ e).1;omega,fun e=>by omega⟩
   fb:=fun b a=>⟨by omega,by omega,by omega,fun e=>by have:=(h.out b e).1;omega,fun e=>e.elim⟩
   drl:=fun b a=>a.elim
   ok:=J.out
   go:=rfl}
 ·rcases a with a|a|a|a|a|a
  ·exact .inr (by omega)
  ·exact .inr (by omega)
  ·exact .inr (by omega)
  ·exact .inl a
  ·exact a.elim
  ·exact .inr (by omega)
theorem Gw (p:Nat) (nd lf inn fl bl:Int) (w:World) (hc:¬bq nd lf inn fl bl):
  Calls prog 7 #[.agg #[nd,lf,inn,fl,bl],.iface 29 p] w fun e w'=>e= .returned (.tuple #[.pointer none,.int .i64 1])/\Below w w w':=by
 have d:=ak.new w 23 #[nd,lf,inn,fl,bl];have c:Below w w (w.alloc (.cells #[nd,lf,inn,fl,bl] 23)):=gV;have a:=aa c;have g:=aa (QP nd lf inn fl bl (w.alloc (.cells #[nd,lf,inn,fl,bl] 23)) hc);obtain⟨h,i,j,k,l⟩:=gB d;clear d c hc;go_enter func7,ntmps7;go_wp2_with (go_at_call 25;go_loud (refine g.mono ?_);rintro e w1 ⟨rfl,b⟩;have f:=aa b;clear b)
 go_ret2
 exact⟨rfl,a.out.trans (f.mono a.size)⟩
theorem Cf.below (h:Cf w g nd lf inn fl bl) (o:Below w w w'):Cf w' g nd lf inn fl bl:=⟨aj o h.1,aj o h.2.1,aj o h.2.2.1,aj o h.2.2.2.1,aj o h.2.2.2.2⟩
structure Jb (t:Nat) (nd lf inn fl bl:Int) (w:World) (q z pb mp:Nat) (w':World):Prop where
 qb:ak w' q 142 #[t,.int .i64 4611686018427387904,.int .i64 0,.int .i64 0,(),.int .i64 0]
 zb:ak w' z 103 #[q,false,false,.int .i64 0,.int .i64 0,(),()]
 bb:ak w' pb 89 #[nd,lf,inn,fl,bl,()]
 mb:ak w' mp 51 #[z,pb,false,.pointer none,.int .i64 0,.int .i64 0]
 ge:w<=q/\w<=z/\w<=pb/\w<=mp
 ne:q≠z/\q≠pb/\z≠pb/\mp≠q/\mp≠z/\mp≠pb
 lt:q<w'/\z<w'/\pb<w'/\mp<w'
 bel:Below w w w'
noncomputable def Jl:Code:=aQ (f8.body.bind (aF 4))
theorem Vr {x:Nat} {p s:Value} {Q:Exit->Act->World->Prop} (kF:Hid (∀c t (a:Act) w,Q (.panic c) ⟨t,a.defers⟩ w->Q (.panic c) a w))
  (hx:Cf w x nd lf inn fl bl)
  (au:∀(ab ac ad ae al am:Value) (q z pb mp:Nat) (w':World),Jb t nd lf inn fl bl w q z pb mp w'->Q .normal ⟨(p:: .pointer (some ⟨t,0,none⟩):: .pointer (some ⟨x,0,none⟩)::B:: .pointer (some ⟨mp,0,none⟩)::s::u::Y::k::r::L::E::O::W::ab::ac::ad::ae::al::am:: .pointer (some ⟨mp,0,none⟩):: []).toArray,[]⟩ w'):
  Code.wp prog Jl Q ⟨(p:: .pointer (some ⟨t,0,none⟩):: .pointer (some ⟨x,0,none⟩)::B::J::s::u::Y::k::r::L::E::O::W::Z::U::G::f::C::I::M:: []).toArray,[]⟩ w:=by
 have dz:=aa au;have S0:Cf w.drew x nd lf inn fl bl:=hx;clear au;conv=>arg 2;whnf
 refine aO (S:=(fun w'=>Cf w' x nd lf inn fl bl)) (by kernel_rfl) ?_;refine vT 0 S0 ?_;refine vT 2 S0 ?_;refine vT 3 S0 ?_
 refine Do (i:=1) (j:=4) (by kernel_rfl) rfl rfl (fun K h=> ?_) (fun K h=> ?_)
 ·go_simp
  go_loud (refine(pR t _).mono ?_);rintro e w1 ⟨rfl,A,D,F⟩;obtain⟨q,v⟩:=gF w.drew.heap.size;obtain⟨z,y⟩:=gF (w.drew.heap.size+1);rw [<-y,<-v] at D;rw [<-v] at A;try rw [<-y];have R:=aa A;have T:=aa D;have HQ:=aa v;have HZ:=aa y;have o:Hid (Below w w w1):=aa (mh.drew.trans F);have N:=Cf.below S0 F;clear A D F v y
  refine h.out _ _ N ?_;clear h K;try simp only [aL,aN,aZ,aC]
  refine nZ 4 fun K h=> ?_;go_simp;obtain⟨w2,d⟩:=gF (w1.alloc (.cells #[.int .i64 nd,.int .i64 lf,.int .i64 inn,.int .i64 fl,.int .i64 bl,.slice none 0 0] 89));rw [<-d];have m:Below w1 w1 w2:=(by rw [d];exact gV);have l7:Hid (ak w2 w1 89 #[nd,lf,inn,fl,bl,()]):=aa (by rw [d];exact ak.new _ _ _);have l:=aa m;have P:=Cf.below N m;clear d m;refine h.out _ _ P ?_;clear h K;try simp only [aL,aN,aZ,aC]
  refine vT 5 P ?_;refine nZ 6 fun K h=> ?_;go_simp;obtain⟨H,g⟩:=gF (w2.alloc (.cells #[.pointer (some ⟨z,0,none⟩),.pointer (some ⟨w1.heap.size,0,none⟩),.bool false,.pointer none,.int .i64 0,.int .i64 0] 51));rw [<-g];have n:Below w2 w2 H:=(by rw [g];exact gV);have X:Hid (ak H w2 51 #[z,w1,false,.pointer none,.int .i64 0,.int .i64 0]):=aa (by rw [g];exact ak.new _ _ _);have b:=aa n;have V:=Cf.below P n;clear g n;refine h.out _ _ V ?_;clear h K;try simp only [aL,aN,aZ,aC]
  refine vT 7 V ?_;refine bf (by kernel_rfl) ?_ _;have l1:=R.out.lt;have l2:=T.out.lt;have l3:=l7.out.lt;have l4:=X.out.lt;have e1:q=w.heap.size:=HQ.out;have e2:z=w.heap.size+1:=HZ.out;have s1:=o.out.size;have s2:=l.out.size;have s3:=b.out.size
  exact dz _ _ _ _ _ _ q z w1 w2 H ⟨(R.below l).below b,(T.below l).below b,l7.below b,X,⟨by omega,by omega,by omega,by omega⟩,⟨by omega,by omega,by omega,by omega,by omega,by omega⟩,⟨by omega,by omega,by omega,by omega⟩,(o.out.trans (l.mono s1)).trans (b.mono (by omega))⟩
 ·go_simp
  obtain⟨w2,d⟩:=gF ((w.alloc (.cells #[.int .i64 nd,.int .i64 lf,.int .i64 inn,.int .i64 fl,.int .i64 bl,.slice none 0 0] 89)).drew);rw [<-d];have m:Below w w w2:=(by rw [d];exact gV.drew);have l7:Hid (ak w2 w 89 #[nd,lf,inn,fl,bl,()]):=aa (by rw [d];exact(ak.new _ _ _).drew);have l:=aa m;have P:=Cf.below hx m;clear d m;refine h.out _ _ P ?_;clear h K;try simp only [aL,aN,aZ,aC]
  refine nZ 1 fun K h=> ?_;go_simp;go_loud (refine(pR t _).mono ?_);rintro e w1 ⟨rfl,A,D,F⟩;obtain⟨q,v⟩:=gF w2.heap.size;obtain⟨z,y⟩:=gF (w2.heap.size+1);rw [<-y,<-v] at D;rw [<-v] at A;try rw [<-y];have R:=aa A;have T:=aa D;have HQ:=aa v;have HZ:=aa y;have o:=aa F;have N:=Cf.below P F;clear A D F v y
  refine h.out _ _ N ?_;clear h K;try simp only [aL,aN,aZ,aC]
  refine vT 5 N ?_;refine nZ 6 fun K h=> ?_;go_simp;obtain⟨H,g⟩:=gF (w1.alloc (.cells #[.pointer (some ⟨z,0,none⟩),.pointer (some ⟨w.heap.size,0,none⟩),.bool false,.pointer none,.int .i64 0,.int .i64 0] 51));rw [<-g];have n:Below w1 w1 H:=(by rw [g];exact gV);have X:Hid (ak H w1 51 #[z,w,.bool false,.pointer none,.int .i64 0,.int .i64 0]):=aa (by rw [g];exact ak.new _ _ _);have b:=aa n;have V:=Cf.below N n;clear g n;refine h.out _ _ V ?_;clear h K;try simp only [aL,aN,aZ,aC]
  refine vT 7 V ?_;refine bf (by kernel_rfl) ?_ _;have l1:=R.out.lt;have l2:=T.out.lt;have l3:=l7.out.lt;have l4:=X.out.lt;have e1:q=w2.heap.size:=HQ.out;have e2:z=w2.heap.size+1:=HZ.out;have s1:=o.out.size;have s2:=l.out.size;have s3:=b.out.size;exact dz _ _ _ _ _ _ q z w w1 H ⟨R.below b,T.below b,(l7.below o).below b,X,⟨by omega,by omega,by omega,by omega⟩,⟨by omega,by omega,by omega,by omega,by omega,by omega⟩,⟨by omega,by omega,by omega,by omega⟩,(l.out.trans (o.mono s2)).trans (b.mono (by omega))⟩
def JA (F:Nat->Prop) (p:Nat) (nd lf inn fl bl:Int) (s:Src) (w:World) (e:Ending) (w':World):Prop:=
 ∃(Fb:Nat->Prop) (mp z q pb base:Nat),e= .returned mp/\LR w' F Nil Fb mp z q p pb base none 0 0 [] nd lf inn fl bl 17825808 (eZ s)/\Below w w w'/\(∀b,XS mp z q p Nil Fb b->b=p\/w<=b)
theorem Gx {s:Src} (hc:bq nd lf inn fl bl) (u:eP w F p s) (i:Cj s) (v:p<w) (c:∀b,F b->b<w/\b≠p):
  Calls prog 8 #[.agg #[nd,lf,inn,fl,bl],p] w (JA F p nd lf inn fl bl s w):=by
 refine letter fun R C=> ?_;have D:=aa u;have A:=aa (pV i hc);have j:=aa c;have B:=aa v;have y:=aa (jH hc);obtain⟨o,d⟩:=gF (w.alloc (.cells #[.int .i64 nd,.int .i64 lf,.int .i64 inn,.int .i64 fl,.int .i64 bl] 23));have m:Below w w o:=by rw [d];exact gV
 have l:=aa m;have r:Hid (ak o w 23 #[nd,lf,inn,fl,bl]):=aa (by rw [d];exact ak.new _ _ _);clear u i c v hc;go_enter func8,ntmps8;go_upto_region 1 with fail
 rw [<-d];clear d m;obtain⟨O,P,Q,S,T⟩:=gB r;go_upto_region 4 with(go_at_call 27;go_loud (refine(fP nd lf inn fl bl o).mono ?_);rintro e w1 ⟨rfl,n⟩;rw [y.out];have g:=aa n;clear n)
 clear O P Q S T;refine Vr (aa (fun _ _ _ _ h=>h)) (gB (r.below g)) ?_;intro I J K L M N q z pb mp x t;have f:=aa t;clear t;go_wp2;rw [C.out];have H:=l.out.size;have s1:=g.out.size;have E:=B.out;obtain⟨U,V,W,X⟩:=f.out.ge;obtain⟨n1,n2,n3,n4,n5,n6⟩:=f.out.ne;obtain⟨Y,Z,l3,G⟩:=f.out.lt;have k:Below w w x:=(l.out.trans (g.mono H)).trans (f.bel.mono (by omega))
 refine⟨(fun b=>b=pb),mp,z,q,pb,x,rfl,?_,k,fun b a=> ?_⟩
 ·exact{
   sit:=⟨fun e=>(j p e).2 rfl,fun e=>by have:=(j.out _ e).1;omega,by omega,fun b a=>by have:=(j.out b a).1;omega,by omega,by omega⟩
   zs:=⟨by omega,by omega,by omega⟩
   nFz:=fun e=>by have:=(j.out z e).1;omega
   bw:=jO
   mblk:=f.out.mb
   rblk:=f.out.zb
   rows:=bu.nil _ _
   iny:=⟨f.qb,D.below k,rfl⟩
   bd:=QO rfl (fun b a=>by have a:b=pb:=a;omega) (by decide) f.bb
   mpb:=G
   mpn:=⟨by omega,by omega,by omega,fun e=>by have:=(j.out _ e).1;omega,fun e=>by have e:mp=pb:=e;omega⟩
   fb:=fun b a=>by
    have a:b=pb:=a;exact⟨by omega,by omega,by omega,fun e=>by have:=(j.out b e).1;omega,fun e=>e.elim⟩
   drl:=fun b a=>a.elim
   ok:=A.out
   go:=rfl}
 ·rcases a with a|a|a|a|a|a
  ·exact .inr (by omega)
  ·exact .inr (by omega)
  ·exact .inr (by omega)
  ·exact .inl a
  ·exact a.elim
  ·have a:b=pb:=a;exact .inr (by omega)
theorem Ck (p:Nat) (nd lf inn fl bl:Int) (w:World) (hc:¬bq nd lf inn fl bl):
  Calls prog 8 #[.agg #[nd,lf,inn,fl,bl],p] w fun e w'=>e= .returned (.pointer none)/\Below w w w':=by
 have f:=ak.new w 23 #[nd,lf,inn,fl,bl];have d:Below w w (w.alloc (.cells #[nd,lf,inn,fl,bl] 23)):=gV;have c:=aa d;have g:=aa (pO hc);obtain⟨h,i,j,k,l⟩:=gB f;clear f d hc;go_enter func8,ntmps8;go_wp2_with (go_at_call 27;go_loud (refine(fP nd lf inn fl bl _).mono ?_);rintro e w1 ⟨rfl,a⟩;rw [g.out];have b:=aa a;clear a)
 go_ret
 exact⟨rfl,c.out.trans (b.mono c.size)⟩
def iT (nd lf inn fl bl:Int):Nat->bM->bM
 |0,m=>m
 |k+1,m=>(iT nd lf inn fl bl k m).step nd lf inn fl bl
theorem vR {nd lf inn fl bl:Int} {m:bM} {k:Nat} (h:(iT nd lf inn fl bl k m).done=true):∀j,iT nd lf inn fl bl (k+j) m=iT nd lf inn fl bl k m
 |0=>rfl
 |j+1=>by
  show(iT nd lf inn fl bl (k+j) m).step nd lf inn fl bl=_;rw [vR h j,bM.step_done h]
def JN (nd lf inn fl bl:Int) (m a:bM):Prop:=∃k,a=iT nd lf inn fl bl k m/\a.done=true
theorem JN.unique (d:JN nd lf inn fl bl m a) (e:JN nd lf inn fl bl m b):a=b:=by
 obtain⟨k,rfl,d1⟩:=d;obtain⟨j,rfl,c⟩:=e
 rcases Nat.le_total k j with h|h
 ·obtain⟨i,rfl⟩:=Nat.exists_eq_add_of_le h
  exact(vR d1 i).symm
 ·obtain⟨i,rfl⟩:=Nat.exists_eq_add_of_le h;exact vR c i
theorem qz {nd lf inn fl bl:Int} {K:Nat} {m:bM} (h:m.Ok nd lf inn fl bl K):∀k,(iT nd lf inn fl bl k m).Ok nd lf inn fl bl K
 |0=>h
 |k+1=>bM.step_ok (qz h k)
theorem pU.low (h:pU w t v nd x) (g:s<=t):pU w s v nd x:=by
 rcases h with h|⟨x,a,c,d,e⟩
 ·exact .inl h
 ·exact .inr ⟨x,a,c,d,e.weak (fun b f=>ma g f)⟩
theorem q8.low (h:q8 w t v nd x) (g:s<=t):q8 w s v nd x:=by
 rcases h with h|⟨x,a,c,d,e⟩
 ·exact .inl h
 ·exact .inr ⟨x,a,c,d,e.weak (fun b f=>ma g f)⟩
theorem xC.low {a:Int} (h:xC w t v e a) (f:s<=t):xC w s v e a:=by
 rcases h with h|⟨h,g,b,c,d⟩
 ·exact .inl h
 ·exact .inr ⟨h,g,b,c,ma f d⟩
def JB (F:Nat->Prop) (p:Nat) (nd lf inn fl bl:Int) (s:Src) (w:World) (e:Ending) (w':World):Prop:=
 ∃a d c,JN nd lf inn fl bl (eZ s) a/\e= .returned (.tuple #[d,c])/\pU w' w d nd a.tree/\xC w' w c a.err (a.bad:Nat)/\ig w' F p a.rdr.cur.src/\ag (fun b=>b=p) w w'
theorem rY (h:DX w F mp p s nd m):
  Calls prog 11 #[mp] w fun e w'=>∃b a k,e= .returned (.tuple #[b,a])/\w'=w.drewN k/\pU w s b nd m.tree/\xC w s a m.err (m.bad:Nat):=by
 obtain⟨j,v1,b,a,c,d,f⟩:=h.mblk;have g:=aa d;have i:=aa f;have l:w.cell? ⟨mp,3,none⟩=some b:=c.cell 3;have n:w.cell? ⟨mp,4,none⟩=some a:=c.cell 4;clear h c d f;go_enter func11,ntmps11;go_upto_region 1 with fail
 go_quiet (fail);go_wp2;go_ret2;exact⟨b,a,nq,rfl,rfl,i,g⟩
theorem Mm {s:Src} (hc:bq nd lf inn fl bl) (y:ig w F p s) (i:Cj s) (v:p<w) (c:∀b,F b->b<w/\b≠p):
  Calls prog 15 #[.agg #[nd,lf,inn,fl,bl],.iface 29 p] w (JB F p nd lf inn fl bl s w):=by
 refine letter fun R HR=> ?_;obtain⟨W,l⟩:=gF (w.alloc (.cells #[.int .i64 nd,.int .i64 lf,.int .i64 inn,.int .i64 fl,.int .i64 bl] 23));have g:Below w w W:=by rw [l];exact gV
 have I:=aa g;have Yb:Hid (ak W w 23 #[nd,lf,inn,fl,bl]):=aa (by rw [l];exact ak.new _ _ _);have s0:=g.size;have HN:=aa (Ml hc (y.below g) i (by omega) (fun b a=>⟨by have:=(c b a).1;omega,(c b a).2⟩));have o9:=aa (pV i hc);have xD:=aa c;have ab:=aa v;clear y i c v hc;go_enter func15,ntmps15;go_upto_region 1 with fail
 rw [<-l];clear l g;obtain⟨z0,z1,z2,z3,z4⟩:=gB Yb;go_upto_region 2 with(go_at_call 7;go_loud (refine HN.mono ?_);rintro e w1 ⟨C,mp,z,q,pb,base,P,rfl,t,x,H⟩;have Z:=aa t;have H2:=aa x;have H3:Hid (∀b,XS mp z q p Nil C b->b=p\/w<=b):=aa (fun b a=>(H b a).imp id (fun h=>by omega));clear t x H)
 clear z0 z1 z2 z3 z4;have J:Hid (Below w w w1):=aa (I.out.trans (H2.mono s0));go_wp2
 go_loopg [] 1152921504607 (fun g' X=>∃(k:Nat) (Dr Fb:Nat->Prop) (hv:Nat) (A:Option Addr) (n cc:Nat) (us:List Value),g'=1152921504607-(iT nd lf inn fl bl k (eZ s)).rdr.cur.at_/\Hid (LX X F Dr Fb mp z q p pb base hv A n cc us nd lf inn fl bl 17825808 (iT nd lf inn fl bl k (eZ s)))/\Hid (ag (fun b=>b=p) w X)/\Hid (∀b,XS mp z q p Dr Fb b->b=p\/w<=b))
 case atStart=>exact⟨0,Nil,C,P,none,0,0,[],by simp [iT,eZ],Z,aa (ag.of_below J),H3⟩
 case round=>
  obtain⟨k,Dr,Fb,hv,A,n,cc,us,U,T,K,m⟩:=hrel;have HG:=aa U;have r:=aa (Ch 17825808 T (by omega));obtain⟨B,u⟩:=gF (iT nd lf inn fl bl (k+1) (eZ s));have D:=aa u;rw [show(iT nd lf inn fl bl k (eZ s)).step nd lf inn fl bl=B by rw [u];rfl] at r;have S:w.heap.size<=wr:=K.out.size;clear U u
  cases hd:B.done with
  |false=>
   have o:=aa hd;clear hd;go_wp2_with (go_at_call 9;go_loud (refine r.mono ?_);intro e w2 y;obtain⟨G,d,f⟩:=y;rw [o.out] at G;subst G;have L:=aa d;have iG:=aa f;clear d f)
   rcases iG.out with⟨_,Mc,PP,O,Y,n',kz,jJ,Q,M,N⟩|Q
   ·go_roundg (1152921504607-B.rdr.cur.at_)
    case measure=>
     have t:=bM.step_at (qz o9 k) T.go (by show(iT nd lf inn fl bl (k+1) (eZ s)).done=false;rw [<-D.out];exact o);have x:=HG.out;have H:(iT nd lf inn fl bl k (eZ s)).step nd lf inn fl bl=B:=by rw [D.out];rfl
     rw [H] at t
     omega
    case rel=>
     refine⟨k+1,Mc,PP,O,Y,n',kz,jJ,by rw [D.out],aa (by rw [<-D.out];exact Q),aa (K.out.trans L (fun b a e=>(m b e).elim id (fun h=>by omega))),aa (fun b a=> ?_)⟩
     rcases a with a|a|a|a|a|a
     ·exact m b (.inl a)
     ·exact m b (.inr (.inl a))
     ·exact m b (.inr (.inr (.inl a)))
     ·exact m b (.inr (.inr (.inr (.inl a))))
     ·exact(M b a).elim (fun h=>m b (.inr (.inr (.inr (.inr (.inl h)))))) (fun h=> .inr (by omega))
     ·exact(N b a).elim (fun h=>m b (.inr (.inr (.inr (.inr (.inr h)))))) (fun h=> .inr (by omega))
   ·exact absurd Q.done (by rw [o.out];decide)
  |true=>
   have o:=aa hd;clear hd;go_upto_region 5 with(go_at_call 9;go_loud (refine r.mono ?_);intro e w2 y;obtain⟨G,d,f⟩:=y;rw [o.out] at G;subst G;have L:=aa d;have E:Hid (DX w2 F mp p wr nd B):=aa (f.resolve_left (fun h=>by rw [o.out] at h;exact absurd h.1 (by decide)));clear d f)
   have Rz:=aa (rY E);go_wp2_with (go_at_call 11;go_loud (refine Rz.mono ?_);rintro e w3 ⟨tv,ev,V,rfl,rfl,t,x⟩;have HT:=aa t;have HE:=aa x;clear t x);rw [HR.out];have j:ag Nil w2 (w2.drewN V):=(ag.refl Nil w2).drewN V;exact⟨B,tv,ev,⟨k+1,D,o⟩,rfl,(HT.low S).chg j (fun _ _ h=>h),(HE.low S).chg j (fun _ _ h=>h),E.src.nil j,(K.out.trans L (fun b a e=>(m b e).elim id (fun h=>by omega))).trans j (fun _ _ h=>h.elim)⟩
theorem RA (p:Nat) (nd lf inn fl bl:Int) (w:World) (hc:¬bq nd lf inn fl bl):
  Calls prog 15 #[.agg #[nd,lf,inn,fl,bl],.iface 29 p] w fun e w'=>∃d,e= .returned (.tuple #[.pointer none,d])/\xC w' w d 1 0/\Below w w w':=by
 have h:=ak.new w 23 #[nd,lf,inn,fl,bl];have g:Below w w (w.alloc (.cells #[nd,lf,inn,fl,bl] 23)):=gV;have c:=aa g;have k:=aa (Gw p nd lf inn fl bl (w.alloc (.cells #[nd,lf,inn,fl,bl] 23)) hc);obtain⟨n,o,q,r,s⟩:=gB h;clear h g hc;go_enter func15,ntmps15;go_wp2_with (first|(go_at_call 7;go_loud (refine k.mono ?_);rintro e w1 ⟨rfl,a⟩;have b:=aa a;clear a)|(go_at_call 30;go_loud (refine(pQ 1 0 w1 (by decide)).mono ?_);rintro e w2 ⟨rfl,a,f⟩;have i:=aa a;have j:=aa f;clear a f))
 go_ret2
 have l:=c.out.size;have m:=b.out.size;exact⟨_,rfl,.inr ⟨by decide,_,rfl,i,by omega⟩,(c.out.trans (b.mono l)).trans (j.mono (by omega))⟩
def JC (F:Nat->Prop) (p:Nat) (nd lf inn fl bl:Int) (s:Src) (w:World) (e:Ending) (w':World):Prop:=
 ∃a c,JN nd lf inn fl bl (eZ s) a/\e= .returned (.tuple #[c,(a.err:Int),(a.bad:Int)])/\q8 w' w c nd a.tree/\eP w' F p a.rdr.cur.src/\ag (fun b=>b=p) w w'
theorem Vs {s:Src} (hc:bq nd lf inn fl bl) (J:eP w F p s) (i:Cj s) (v:p<w) (c:∀b,F b->b<w/\b≠p):
  Calls prog 16 #[.agg #[nd,lf,inn,fl,bl],p] w (JC F p nd lf inn fl bl s w):=by
 refine letter fun R HR=> ?_;obtain⟨w0,f⟩:=gF (w.alloc (.cells #[.int .i64 nd,.int .i64 lf,.int .i64 inn,.int .i64 fl,.int .i64 bl] 23));have d:Below w w w0:=by rw [f];exact gV
 have N:=aa d;have Yb:Hid (ak w0 w 23 #[nd,lf,inn,fl,bl]):=aa (by rw [f];exact ak.new _ _ _);have s0:=d.size;have HN:=aa (Gx hc (J.below d) i (by omega) (fun b a=>⟨by have:=(c b a).1;omega,(c b a).2⟩));have o9:=aa (pV i hc);clear J i c v hc;go_enter func16,ntmps16;go_upto_region 1 with fail
 rw [<-f];clear f d;obtain⟨z0,z1,z2,z3,z4⟩:=gB Yb;go_upto_region 2 with(go_at_call 8;go_loud (refine HN.mono ?_);rintro e w1 ⟨r,mp,z,q,pb,base,rfl,E,G,Z⟩;have H1:=aa E;have H2:=aa G;have H3:Hid (∀b,XS mp z q p Nil r b->b=p\/w<=b):=aa (fun b a=>(Z b a).imp id (fun h=>by omega));clear E G Z)
 clear z0 z1 z2 z3 z4;have O:Hid (Below w w w1):=aa (N.out.trans (H2.mono s0));go_wp2
 go_loopg [] 1152921504609 (fun Y U=>∃(k:Nat) (m:bM),m=iT nd lf inn fl bl k (eZ s)/\Hid (ag (fun b=>b=p) w U)/\
  ((Y=1152921504609-m.rdr.cur.at_/\∃(Dr Fb:Nat->Prop) (A:Option Addr) (n cc:Nat) (us:List Value),LR U F Dr Fb mp z q p pb base A n cc us nd lf inn fl bl 17825808 m/\(∀b,XS mp z q p Dr Fb b->b=p\/w<=b))\/(Y=0/\∃sl,w.heap.size<=sl/\DR U F mp p sl nd m)))
 case atStart=>exact⟨0,_,rfl,aa (ag.of_below O),.inl ⟨by simp [iT,eZ],Nil,r,none,0,0,[],H1,H3⟩⟩
 case round=>
  obtain⟨k,m,I,P,⟨H,Dr,Fb,A,n,cc,us,g,D⟩|⟨H,sl,C,x⟩⟩:=hrel
  ·have W:=aa H;have L:=aa I;have X:=aa g;have j:=aa D;have t:=aa (Ci 17825808 g (by omega));obtain⟨K,o⟩:=gF (m.step nd lf inn fl bl);have M:=aa o;rw [<-o] at t;have AF:w.heap.size<=wr:=P.out.size;have x2:wr.cell? ⟨mp,2,none⟩=some (.bool false):=g.mblk.cell 2;clear H o I g D;go_wp2_with (go_at_call 10;go_loud (refine t.mono ?_);intro e w2 J;obtain⟨rfl,u,B⟩:=J;have bz:=aa u;have iG:=aa B;clear u B);have tJ:Hid (ag (fun b=>b=p) w w2):=aa (P.out.trans bz (fun b a e=>(j b e).elim id (fun h=>by omega)));have y:K=iT nd lf inn fl bl (k+1) (eZ s):=by rw [M.out,L.out];rfl
   have Q:m.Ok nd lf inn fl bl 17825808:=by rw [L.out];exact qz o9 k
   have ab:m.rdr.cur.at_<=1152921504606:=by have:=(Q.rdr.cur (Q.go X.go).1).sum;omega
   rcases iG.out with⟨x,Mc,PP,A',n',kz,jJ,g,S,T⟩|g
   ·have E:=bM.step_at Q X.go (by rw [<-M.out];exact x);rw [<-M.out] at E
    go_roundg (1152921504609-K.rdr.cur.at_)
    case measure=>have G:=W.out;omega
    case rel=>
     refine⟨k+1,K,y,tJ,.inl ⟨rfl,Mc,PP,A',n',kz,jJ,g,fun b a=> ?_⟩⟩
     rcases a with a|a|a|a|a|a
     ·exact j b (.inl a)
     ·exact j b (.inr (.inl a))
     ·exact j b (.inr (.inr (.inl a)))
     ·exact j b (.inr (.inr (.inr (.inl a))))
     ·exact(S b a).elim (fun h=>j b (.inr (.inr (.inr (.inr (.inl h)))))) (fun h=> .inr (by omega))
     ·exact(T b a).elim (fun h=>j b (.inr (.inr (.inr (.inr (.inr h)))))) (fun h=> .inr (by omega))
   ·go_roundg 0
    case measure=>have G:=W.out;omega
    case rel=>
     exact⟨k+1,K,y,tJ,.inr ⟨rfl,_,AF,g⟩⟩
  ·obtain⟨v0,v1,tv,a,ht⟩:=x.mblk;have V:=aa x;have HT:=aa (ht.low C);have L:=aa I;have x2:wr.cell? ⟨mp,2,none⟩=some (.bool true):=a.cell 2;have x3:wr.cell? ⟨mp,3,none⟩=some tv:=a.cell 3;have x4:wr.cell? ⟨mp,4,none⟩=some (.int .i64 m.err):=a.cell 4;have x5:wr.cell? ⟨mp,5,none⟩=some (.int .i64 m.bad):=a.cell 5;clear H x a ht I C;go_upto_region 6 with fail;go_quiet (fail);go_wp2;go_ret3;rw [HR.out];have l:ag Nil wr (wr.drewN nq):=(ag.refl Nil wr).drewN nq;exact⟨m,tv,⟨k,L,V.done⟩,rfl,HT.chg l (fun _ _ h=>h),V.src.nil l,P.out.trans l (fun _ _ h=>h.elim)⟩
theorem RB (p:Nat) (nd lf inn fl bl:Int) (w:World) (hc:¬bq nd lf inn fl bl):
  Calls prog 16 #[.agg #[nd,lf,inn,fl,bl],p] w fun e w'=>e= .returned (.tuple #[.pointer none,.int .i64 1,.int .i64 0])/\Below w w w':=by
 have d:=ak.new w 23 #[nd,lf,inn,fl,bl];have c:Below w w (w.alloc (.cells #[nd,lf,inn,fl,bl] 23)):=gV;have a:=aa c;have g:=aa (Ck p nd lf inn fl bl (w.alloc (.cells #[nd,lf,inn,fl,bl] 23)) hc);obtain⟨h,i,j,k,l⟩:=gB d;clear d c hc;go_enter func16,ntmps16;go_wp2_with (go_at_call 8;go_loud (refine g.mono ?_);rintro e w1 ⟨rfl,b⟩;have f:=aa b;clear b)
 go_ret3
 exact⟨rfl,a.out.trans (f.mono a.size)⟩
end Go.Proofs.YtepgcjbhabnciaaGreat
