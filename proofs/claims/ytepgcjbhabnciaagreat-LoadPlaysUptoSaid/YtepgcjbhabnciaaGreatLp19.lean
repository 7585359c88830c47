/- Part 19. -/
import Derived.Test.YtepgcjbhabnciaaGreatLp18
namespace Go.Proofs.YtepgcjbhabnciaaGreat
set_option maxRecDepth 100000
set_option maxHeartbeats 8000000
open Go.Proofs.Tryz Go.RowKit
open Go.Lib (compareBytes)
variable {v v1 v2 x v0 c u1 y s u u7 k u9 L E O W U G C I M P V m T j g u33 u34 i u36 b u38 N u40 R u42 X u44 u45 u46 u48 u49 dI u51 dP J dR u55 dY u58 u59 u60 fw fJ u63 u64 gm u66 gH:Value} {z q p B base n hv K cc:Nat} {F Dr D:Nat->Prop} {w w':World} {us Y:List Value} {l:List Row} {A:Option Addr} {r:dM}
theorem zM (h:iy l):∀(i:Nat) (x:Row),l[i]? =some x->x.at_<=dD l:=by
 have key:∀k i (x:Row),i<k->k<=l.length->l[i]? =some x->x.at_<=dD (l.take k):=by
  intro k
  induction k with
  |zero=>intro i x hi;omega
  |succ k e=>
   intro i x hi g b;obtain⟨y,a⟩:∃y,l[k]? =some y:=⟨_,mP (by omega)⟩;rw [uQ a]
   by_cases c:i=k
   ·subst c;rw [b] at a;injection a with a
    subst a
    omega
   ·have d:=e i x (by omega) (by omega) b;have f:=h.place k y a;omega
 intro i x b;have d:=key l.length i x ((nE.mp b).1) jO b;rwa [List.take_length] at d
def Fs (z q p B:Nat) (v:Value):Nat->Prop:=fun b=>b=z\/b=q\/b=p\/v.ownBlock=some b\/B<=b
structure rW (F:Nat->Prop) (z q p base:Nat) (Dr:Nat->Prop) (v1 v2:Value) (A:Option Addr) (n cc:Nat) (us:List Value) (o:Option (List aR)) (r:dM) (w:World) (e:Ending) (w':World):Prop where
 chg:ag (Fs z q p w (.slice A n cc)) w w'
 no:o=none->e= .returned (.tuple #[(),false])/\bu w' base Dr (.slice A n cc) n r.rows us/\
  ak w' z 140 #[q,.func (.func 135) #[z] #[],v2,.slice A n cc,(r.err:Int),(r.bad:Int)]/\ig w' F p r.cur.src
 yes:∀es,o=some es->∃eA en ec A' n' kz jJ hv,e= .returned (.tuple #[.slice eA en ec,true])/\en<=ec/\ec<=maxLen/\dh w' (fun b=>w<=b/\(Value.slice A' n' kz).ownBlock≠some b) eA en es/\
  bu w' base (fun b=>Dr b\/(w<=b/\b<w')) (.slice A' n' kz) n' r.rows jJ/\oU w' F q p r.cur hv/\
  ak w' z 140 #[q,v1,v2,.slice A' n' kz,(r.err:Int),(r.bad:Int)]
theorem C4 (h:ag (Cs q p B) w w'):ag (Fs z q p B v) w w':=h.mono (fun b _ a=>by
 rcases a with a|a|a
 ·exact .inr (.inl a)
 ·exact .inr (.inr (.inl a))
 ·exact .inr (.inr (.inr (.inr a))))
theorem bu.cs (h:bu w base Dr v n l us) (a:Sit F q p base) (f:w<=B) (hc:ag (Cs q p B) w w'):bu w' base Dr v n l us:=
 h.chg hc (fun b g hl e=>by
  have c:=a.pB;have d:=a.qB
  rcases e with e|e|e
  ·omega
  ·omega
  ·omega)
theorem MG {l:List aR} (h:dh w (From base) A n l):dh w (fun b=>base<=b/\b<w) A n l:=by
 obtain⟨f,vs,g,j⟩:=h;refine⟨f,vs,g.lt (by omega),fun i e k=> ?_⟩;obtain⟨u,v,a,b,c,d⟩:=j i e k;exact⟨u,v,a,b,c.lt,d.lt⟩
theorem Lj (r:dM) (c:ay) (a:Nat):(r.footR c a).rows=r.rows:=by
 unfold dM.footR;repeat' split
 all_goals rfl
theorem Cg (s:Sit F q p base) (zs:Zs z q p base) (Q:¬F z) (hbw:base<=w)
  (c:ak w z 140 #[q,v1,v2,.slice A n cc,(r.err:Int),(r.bad:Int)]) (hm:bu w base Dr (.slice A n cc) n r.rows us)
  (h:oU w F q p r.cur hv) (u:r.Ok K) (c5:r.st=1) (hK:K<=1152921504606846976):
  Calls prog 92 #[z] w (rW F z q p base Dr v1 v2 A n cc us r.frame.1 r.frame.2 w):=by
 refine letter fun R HR=> ?_;have X:=aa s;have T:=aa zs;have HB:=aa c;have HM:=aa hm;have HI:=aa h;have Y:=aa hbw;have AQ:=aa Q;have ab:=u.cur (by omega);have bX:=u.held (by omega);have c7:w.cell? z=some (q:Value):=c.cell 0;have bQ:w.cell? q=some (.int .i64 r.cur.at_):=h.blk.cell 0;have ck:=aa (jK (r.cur.at_:Nat) bQ);have rQ:=aa (Gj (s.up hbw) h ab hK);obtain⟨L,hL⟩:=gF (r.cur.bytes 1);obtain⟨kd,a9⟩:=gF (L.1.headD 0);have v:Hid (r.frame=if L.2.1≠0 then(none,r.fail L.2.2 L.2.1 r.cur.at_) else if kd=70 then(none,r.footR L.2.2 r.cur.at_) else if kd≠66 then(none,r.fail L.2.2 82 r.cur.at_) else r.block L.2.2 r.cur.at_):=aa (by subst a9;subst hL;rfl);have Au:=aa hL;have cr:=aa a9;have zK:=aa u;have Al:Hid (L.2.2.Ok K/\L.2.2.held=none/\(L.2.1=0->L.2.2.at_=r.cur.at_+1)):=aa ⟨by rw [hL];exact ay.bytes_ok ab 1,by rw [hL];exact ay.bytes_held ab 1 bX,by rw [hL];exact ay.bytes_step ab 1⟩;have bo:Hid (r.cur.at_<=1152921504606/\r.cur.at_=dD r.rows):=aa ⟨by have:=ab.sum;omega,u.one c5⟩
 have d:Hid (∀(cu:ay) (e:Int) (a:Nat) (wk:World) (en:Ending) (w':World),ig wk F p cu.src->r.frame=(none,r.fail cu e a)->ag (Cs q p w) w wk->MO z q v2 (.slice A n cc) e a wk en w'->rW F z q p base Dr v1 v2 A n cc us r.frame.1 r.frame.2 w en w'):=aa (fun cu e a wk en w' c4 hx hc hf=>by
  rw [hx];refine⟨(C4 hc).trans hf.2.2 (fun b _ e=> .inl e),fun _=>⟨hf.1,?_,hf.2.1,c4.own hf.2.2 zs.zp Q⟩,fun es h=>by cases h⟩;exact(hm.cs s jO hc).chg hf.2.2 (fun b c _ e=>by have e:b=z:=e;have:=zs.lt;omega))
 clear s zs c hm h ab bX hL a9 u hbw;go_enter func92,ntmps92;go_upto_region 2 with(go_at_call 136;go_loud (refine ck.mono ?_);rintro e w2 ⟨rfl,rfl⟩)
 go_upto_region 3 with(go_at_call 137;go_loud (refine rQ.mono ?_);rintro e w2 ⟨dw,rfl,hI,hC⟩;rw [<-Au.out] at hI|-;rw [<-cr.out];have Z:=aa hI;have bz:=aa hC;clear hI hC)
 have aw:w.heap.size<=w2:=bz.out.size;have V:=aa (HB.chg bz (T.up Y).no);have tQ:=aa (HM.cs X jO bz);obtain⟨e1,b3⟩:=gF L.2.1;rw [<-b3] at v Al|-;clear b3 c7 bQ
 by_cases h1:e1=0
 ·subst h1
  have cY:n<=cc:=by
   obtain⟨_,_,hv,C,_⟩:=ax HM.own;injection hv with _ m aq;omega
  have be:n=r.rows.length:=HM.out.len;have Cb:=aa be;have X9:n<=8388608:=by rw [be];exact zK.rows.many
  clear be
  by_cases PY:kd=70
  ·have UM:=aa (Pn (fun b=>base<=b/\b<w2) r.cur.at_ (X.up (ma Y aw)) (T.up (ma Y aw)) AQ V tQ.sps (fun b c=>c.2) cY zK.rows
    (fun x hx=>by
     obtain⟨i,hi,c6⟩:=List.mem_iff_getElem.mp hx;have m:=zM zK.rows i x (by rw [mP hi,c6]);have aq:=bo.out;omega) Z Al.1 Al.2.1 hK (by have aq:=bo.out;omega))
   have XD:=aa PY;subst PY;go_wp2_with (go_at_call 138;go_loud (refine UM.mono ?_);rintro e w3 ⟨bF,rfl,bG,bI⟩;have ci:=aa bF;have cj:=aa bG;have bm:=aa bI;clear bF bG bI);rw [HR.out,v.out,if_neg (by simp),if_pos XD.out]
   refine⟨(C4 bz).trans bm (fun b c e=>by
    rcases e with e|e|e|e
    ·exact .inl e
    ·exact .inr (.inl e)
    ·exact .inr (.inr (.inl e))
    ·exact .inr (.inr (.inr (.inr (ma bz.size e))))),fun _=>⟨rfl,?_,cj,ci⟩,fun es h=>by cases h⟩
   show bu w3 base Dr _ n (r.footR L.2.2 r.cur.at_).rows us;rw [Lj]
   exact tQ.chg bm (fun b c hl e=>by
    have h3:=X.out.pB;have h4:=X.out.qB;have h5:=T.out.lt
    rcases e with e|e|e|e
    ·omega
    ·omega
    ·omega
    ·omega)
  ·have XG:¬((kd.toNat:Int)=70):=fun e=>PY (UInt8.toNat_inj.mp (by rw [show(70:UInt8).toNat=70 from rfl];omega));have db:((kd.toNat:Int)==70)=false:=by rw [mi];exact XG
   have XD:=aa PY
   by_cases XH:kd=66
   ·have a2:=aa XH;subst XH;obtain⟨N,hN⟩:=gF L.2.2.number;obtain⟨D,hD⟩:=gF (N.2.2.body N.1);obtain⟨B,hB⟩:=gF (aH D.body)
    have JP:Hid (r.frame=if n=8388608 then(none,r.fail L.2.2 71 r.cur.at_) else if N.2.1≠0 then(none,r.fail N.2.2 N.2.1 L.2.2.at_) else if N.1<1\/65535<N.1 then(none,r.fail N.2.2 83 L.2.2.at_) else if D.err≠0 then(none,r.fail D.cur D.err D.place)
     else if B.2.1≠0 then(none,r.fail D.cur B.2.1 (N.2.2.at_+B.2.2)) else if 0<n/\0<=compareBytes (r.rows.getLast?.getD ⟨[],0,0,0⟩).last ((B.1.headD ([],[])).1) then(none,r.fail D.cur 51 N.2.2.at_)
     else(some B.1,{r with cur:=D.cur,rows:=r.rows++ [⟨aD B.1,r.cur.at_,D.cur.at_-r.cur.at_,B.1.length⟩]})):=aa (by
     rw [v.out,if_neg (by simp),if_neg XD.out,if_neg (fun h=>h a2.out),Cb.out];subst hB;subst hD;subst hN;rfl)
    clear v;have v:Hid (r.frame=_):=JP;clear JP;have TC:=ay.number_ok Al.1;have TD:=ay.number_step Al.1 Al.2.1;rw [<-hN] at TC TD;have oQ:=aa TC;have Aj:=aa TD;have TE:=aa hN;have a3:=aa hD;have jm:=aa hB;have c8:w2.cell? z=some (q:Value):=V.out.cell 0;have aA:w2.cell? ⟨z,3,none⟩=some (.slice A n cc):=V.out.cell 3;have bT:w2.cell? q=some (.int .i64 L.2.2.at_):=Z.out.blk.cell 0;have cl:=aa (jK (L.2.2.at_:Nat) bT);have cv:=aa (yM (X.up (ma Y aw)) Z Al.1 hK);clear TC TD hN hD hB
    by_cases NV:n=8388608
    ·have vQ:=aa NV;have cw:((n:Int)==8388608)=true:=by rw [NV];rfl
     go_wp2_with (go_at_call 91;go_loud (refine(bS 71 (r.cur.at_:Nat) V).mono ?_);rintro e9 P ⟨rfl,f,l⟩;have H:=aa f;have I:=aa l;clear f l)
     rw [HR.out]
     exact d L.2.2 71 (r.cur.at_:Nat) w2 _ P Z.src (by rw [v.out,if_pos vQ.out]) bz ⟨rfl,H,I⟩
    ·have vQ:=aa NV;have cw:((n:Int)==8388608)=false:=by rw [mi];omega
     have dd:¬((n:Int)=8388608):=by omega
     go_upto_region 12 with(go_at_call 136;go_loud (refine cl.mono ?_);rintro e w3 ⟨rfl,rfl⟩)
     go_upto_region 13 with(go_at_call 139;go_loud (refine cv.mono ?_);rintro e w3 ⟨dx,rfl,hI,hC⟩;rw [<-TE.out] at hI|-;have ae:=aa hI;have fu:=aa (kL bz hC);have zO:=aa hC;clear hI hC)
     have bj:w.heap.size<=w3:=fu.out.size;have ad:=aa (V.chg zO (T.up (ma Y aw)).no);have Ie:=aa (tQ.cs X jO zO);obtain⟨e2,a6⟩:=gF N.2.1;obtain⟨G,ba⟩:=gF N.1;rw [<-a6,<-ba] at v|-;rw [<-a6] at oQ Aj;rw [<-ba] at a3;clear a6 ba c8 aA bT
     by_cases h2:e2=0
     ·subst h2
      by_cases TG:G<1\/65535<G
      ·have EB:=aa TG
       by_cases c9:G<1
       ·have TH:decide ((G:Int)<1)=true:=decide_eq_true (by omega);have TI:(G:Int)<1:=by omega
        clear TG;go_wp2_with (go_at_call 91;go_loud (refine(bS 83 (L.2.2.at_:Nat) ad).mono ?_);rintro e9 P ⟨rfl,f,l⟩;have H:=aa f;have I:=aa l;clear f l);rw [HR.out]
        exact d N.2.2 83 (L.2.2.at_:Nat) w3 _ P ae.src (by rw [v.out,if_neg vQ.out,if_neg (by simp),if_pos EB.out]) fu ⟨rfl,H,I⟩
       ·have TH:¬((G:Int)<1):=by omega
        have TI:(65535:Int)<(G:Int):=by omega
        clear TG;go_wp2_with (go_at_call 91;go_loud (refine(bS 83 (L.2.2.at_:Nat) ad).mono ?_);rintro e9 P ⟨rfl,f,l⟩;have H:=aa f;have I:=aa l;clear f l);rw [HR.out]
        exact d N.2.2 83 (L.2.2.at_:Nat) w3 _ P ae.src (by rw [v.out,if_neg vQ.out,if_neg (by simp),if_pos EB.out]) fu ⟨rfl,H,I⟩
      ·have EB:=aa TG;have TH:¬((G:Int)<1):=by omega
       have TI:¬((65535:Int)<(G:Int)):=by omega
       have dr:1<=G:=by omega
       have ds:G<=65535:=by omega
       have dy:IntKind.i64.wrap (G:Int)=(G:Int):=IntWalk.i64_in _ (by omega);have aA:w3.cell? z=some (q:Value):=ad.out.cell 0;have bU:w3.cell? q=some (.int .i64 N.2.2.at_):=ae.out.blk.cell 0;have cn:=aa (jK (N.2.2.at_:Nat) bU);have yT:=aa (CZ G (X.up (ma Y bj)) aA (T.up (ma Y bj)).lt T.zq T.zp ae oQ.1 Aj.1 hK (by omega) (by omega));have aE:=ay.body_ok oQ.1 Aj.1 G (by omega);rw [<-a3.out] at aE;have Up:=aa aE;clear aE TG;go_upto_region 18 with(go_at_call 136;go_loud (refine cn.mono ?_);rintro e w4 ⟨rfl,rfl⟩)
       go_upto_region 19 with(go_at_call 140;go_loud (refine yT.mono ?_);rintro e w4 ⟨vD,bk,rfl,hO,hI,hC⟩;rw [<-a3.out] at hO hI|-;have jM:=aa hO;have bx:=aa hI;have gK:=aa (kL fu hC);have wL:=aa hC;clear hO hI hC)
       have du:w.heap.size<=w4:=gK.out.size;have dE:=aa (ad.chg wL (T.up (ma Y bj)).no);have mH:=aa (Ie.cs X jO wL);obtain⟨eD,a8⟩:=gF D.err;rw [<-a8] at v jM|-;have FF:=aa a8;clear a8 aA bU
       by_cases h3:eD=0
       ·subst h3;obtain⟨dA,dn,dc,rfl,b0,_,au,b2⟩:=(jM.out rfl).sb;have b1:dn=G:=by rw [au];exact Up.len FF.out.symm
        have CP:Hid (D.body.length=G):=aa (by rw [<-b1];exact au.symm);have tL:=aa (Nc (fun b=>b<w4) dc ((b2.lt (by omega)).weak (fun b c=>c.2)) au b0 (by omega) (fun _ h=>h));have qo:=aa (qc D.body);rw [<-jm.out] at qo;have c3:B.2.2<=G+128:=by have C:=qo.out;rw [CP.out] at C;exact C
        have da:N.2.2.at_<=1152921504606:=by have m:=oQ.out.1.sum;omega
        have bE:Hid (B.2.1=0->bY B.1/\1<=B.1.length/\B.1.length<=64):=aa (by rw [jm.out];exact zQ);have rF:Hid (B.2.1≠0->True):=aa (fun _=>trivial);clear au b2 b0 b1;go_upto_region 22 with(go_at_call 141;go_loud (refine tL.mono ?_);rintro e E ⟨eA,en,ec,rfl,bL,bN,a5,bP⟩;rw [<-jm.out] at a5|-;have wO:=aa bL;have bp:=aa bN;have IM:=aa a5;have sG:=aa bP;clear bL bN a5 bP)
        have eF:=aa (dE.below sG);have yO:=aa (mH.below sG);have ed:=aa (p9 gK sG);have AR:Hid (oU E F q p D.cur bk):=aa (bx.chg (S:=Nil) (ag.of_below sG) (fun h=>h) (fun h=>h) (fun _ _ h=>h));obtain⟨eB,a7⟩:=gF B.2.1;obtain⟨pB,bh⟩:=gF B.2.2;rw [<-a7,<-bh] at v|-;rw [<-a7] at bE;rw [<-bh] at c3;clear a7 bh
        by_cases h4:eB=0
        ·subst h4;obtain⟨QV,cx,O7⟩:=bE.out rfl;obtain⟨eb,eo,K1,Kc,b6,V1,dF,dz,key,val,yF,_,ac,W,_,_,_,b4,TJ,_⟩:=IM.out.at_ (k:=0) (by rw [IM.out.len];omega);subst yF;have PM:=aa QV;have TK:0<en:=by rw [IM.out.len];omega
         have wV:en<=64:=by rw [IM.out.len];omega
         have cq:Hid ((B.1.headD ([],[])).1=key):=aa (by
          cases hb1:B.1 with
          |nil=>rw [hb1] at ac;simp at ac
          |cons y t=>rw [hb1] at ac;simp at ac;rw [ac];rfl)
         rw [cq.out] at v;have sO:Hid (Kc=key.length):=b4;have cy:=aa TJ;have de:(0:Int)<(en:Int):=by omega
         simp only [Nat.zero_mul,Nat.add_zero] at W;clear QV cx O7 ac b4 TJ;have Um:Hid (dh E (fun b=>w4<=b/\b<E) (some ⟨eb,eo,none⟩) en B.1):=aa (MG IM)
         have XI:Hid (r.cur.at_<=D.cur.at_/\D.cur.at_<=1152921504606846976):=aa ⟨by
          have h7:=Up.out.at_ FF.out.symm;have C:=Al.out.2.2 (by trivial);have m:=Aj.out.2 (by trivial);omega,by have m:=Up.out.ok.sum;omega⟩
         have Tk:E.cell? ⟨z,3,none⟩=some (.slice A n cc):=eF.out.cell 3
         by_cases n0:n=0
         ·have hd:decide (0<n)=false:=decide_eq_false (by omega);have ar:decide ((0:Int)<(n:Int))=false:=decide_eq_false (by omega);have zR:Hid (¬(0<n/\0<=compareBytes (r.rows.getLast?.getD ⟨[],0,0,0⟩).last key)):=aa (fun h=>by omega);clear n0;go_upto_region 24 with fail
          go_quiet (fail);have lm:Hid (ag Nil E (E.drewN nq)):=aa ((ag.refl Nil E).drewN nq);clear hd ar Tk W;go_upto_region 26 with fail
          refine Iw (fun b=>w4<=b/\b<E) r.cur.at_ ec (aa (fun _ _ _ _ h=>h)) (aa (eF.drewN nq)) (aa (yO.chg lm (fun _ _ _ h=>h))) (aa (Um.chg lm (fun _ _ h=>h))) (aa ((AR.blk.drewN nq).cell 0)) TK wV (fun e he=>(dB PM he).2.1) XI.1 XI.2 X9 (by have C:=Y.out;have m:=ed.out.size;show base<=(E.drewN nq).heap.size;exact ma C m) T.lt (aa (fun b c=>⟨c.2,fun e=>by have C:=(ah mH.own b e).2;have m:=c.1;omega⟩)) ?_;intro cA b7 cC cD cE cF cG cH b8 b9 cI cJ cL cM cN cP cQ cR cS ca cb cT cd cU cf cV cW cg cX ch A' kz jJ w6 al am an ao;have Ps:Hid (∀J,(Value.slice A' (n+1) kz).ownBlock=some J->(Value.slice A n cc).ownBlock=some J\/E<=J):=aa ao;have a0:=aa al;have a1:=aa am;have U:=aa an;clear al am an ao;go_wp2;rw [HR.out,v.out,if_neg vQ.out,if_neg (by simp),if_neg EB.out,if_neg (by simp),if_neg (by simp),if_neg zR.out]
          refine⟨((C4 ed).drewN nq).trans U (fun b _ e=>by
           rcases e with e|e
           ·exact .inl e
           ·exact .inr (.inr (.inr (.inl e)))),fun h=>(by cases h),fun es h=> ?_⟩
          injection h with h
          subst h;have a4:w.heap.size<=w4:=gK.out.size;have O:∀J,(Value.slice A n cc).ownBlock=some J->J<w4:=fun J hg=>(ah mH.own J hg).2
          refine⟨_,en,ec,A',n+1,kz,jJ,bk,rfl,wO,bp,?_,a0.wider (fun b c=>c.imp id (fun h=>⟨ma ed.size h.1,h.2⟩)) (fun b c=>c.elim (HM.lo b) (fun h=>ma Y h.1)),?_,a1⟩
          ·refine((Um.chg lm (fun _ _ h=>h)).chg U (fun b c e=> ?_)).weak (fun b c=>⟨ma a4 c.1,fun e=> ?_⟩)
           ·rcases e with e|e
            ·have C:=T.out.lt;have m:=Y.out;have aq:=c.1;omega
            ·have C:=O b e;have m:=c.1;omega
           ·rcases Ps.out b e with e|e
            ·have C:=O b e;have m:=c.1;omega
            ·have m:=c.2;omega
          ·refine(AR.chg lm (fun h=>h) (fun h=>h) (fun _ _ h=>h)).chg U (fun e=> ?_) (fun e=> ?_) (fun b c e=> ?_)
           ·rcases e with e|e
            ·exact T.zq e.symm
            ·have C:=(ah mH.own q e).1;have m:=X.out.qB;omega
           ·rcases e with e|e
            ·exact T.zp e.symm
            ·have C:=(ah mH.own p e).1;have m:=X.out.pB;omega
           ·rcases e with e|e
            ·exact AQ (e▸c)
            ·have C:=(ah mH.own b e).1;have m:=X.out.lt b c;omega
         ·obtain⟨j,hj⟩:∃j,n=j+1:=⟨n-1,by omega⟩;obtain⟨g,o,M,mn,mc,y,yF,_,b5,d0,_,_,_,sy⟩:=yO.out.sps.at_ (k:=j) (by omega);have ap:r.rows.getLast?.getD ⟨[],0,0,0⟩=y:=by rw [List.getLast?_eq_getElem?,<-Cb.out,show n-1=j by omega,b5];rfl
          rw [ap] at v;have Dq:Hid (∀k,Calls prog 56 #[.slice M mn mc,.slice K1 Kc b6] (E.drewN k) fun e w'=>e= .returned (.int .i64 (compareBytes y.last key))/\E.drewN k=w'):=aa (fun k=>eu mc b6 (sy.parts.2.2.2.drewN k) sy.parts.2.2.1 (cy.drewN k) sO);obtain⟨ce,W⟩:=gF (compareBytes y.last key);rw [<-W] at Dq v;have hd:decide (0<n)=true:=decide_eq_true (by omega);have ar:decide ((0:Int)<(n:Int))=true:=decide_eq_true (by omega);have dm:IntKind.i64.wrap ((n:Int)-1)=(j:Int):=by rw [IntWalk.i64_in _ (by omega)];omega
          have dp:IntKind.i64.wrap (j:Int)=(j:Int):=IntWalk.i64_in _ (by omega);have dl:(0:Int)<=(j:Int):=by omega
          have dq:j<n:=by omega
          have yD:(j:Int)<(n:Int):=by omega
          have ct:Hid (0<n):=aa (by omega);subst yF;clear n0 hj b5 ap W sy;go_upto_region 24 with fail
          by_cases EC:0<=ce
          ·have zR:Hid (0<n/\0<=ce):=aa ⟨ct,EC⟩;have c2:decide (0<=ce)=true:=decide_eq_true EC;go_quiet ((go_at_call 56;exact dX (Dq _)));have co:=aa (eF.drewN nq);have cp:=aa (ed.drewN nq);clear hd ar Tk W d0;go_wp2_with (go_at_call 91;go_loud (refine(bS 51 (N.2.2.at_:Nat) co).mono ?_);rintro e9 P ⟨rfl,f,l⟩;have H:=aa f;have I:=aa l;clear f l);rw [HR.out]
           exact d D.cur 51 (N.2.2.at_:Nat) (E.drewN nq) _ P (AR.src.nil ((ag.refl Nil E).drewN nq)) (by rw [v.out,if_neg vQ.out,if_neg (by simp),if_neg EB.out,if_neg (by simp),if_neg (by simp),if_pos zR.out]) cp ⟨rfl,H,I⟩
          ·have zR:Hid (¬(0<n/\0<=ce)):=aa (fun h=>EC h.2);have c2:decide (0<=ce)=false:=decide_eq_false EC;go_quiet ((go_at_call 56;exact dX (Dq _)));have lm:Hid (ag Nil E (E.drewN nq)):=aa ((ag.refl Nil E).drewN nq);clear hd ar Tk W d0;go_upto_region 26 with fail
           refine Iw (fun b=>w4<=b/\b<E) r.cur.at_ ec (A:=some ⟨g,o,none⟩) (aa (fun _ _ _ _ h=>h)) (aa (eF.drewN nq)) (aa (yO.chg lm (fun _ _ _ h=>h))) (aa (Um.chg lm (fun _ _ h=>h))) (aa ((AR.blk.drewN nq).cell 0)) TK wV (fun e he=>(dB PM he).2.1) XI.1 XI.2 X9 (by have C:=Y.out;have m:=ed.out.size;show base<=(E.drewN nq).heap.size;exact ma C m) T.lt (aa (fun b c=>⟨c.2,fun e=>by have C:=(ah mH.own b e).2;have m:=c.1;omega⟩)) ?_;intro cA b7 cC cD cE cF cG cH b8 b9 cI cJ cL cM cN cP cQ cR cS ca cb cT cd cU cf cV cW cg cX ch A' kz jJ w6 al am an ao;have Ps:Hid (∀J,(Value.slice A' (n+1) kz).ownBlock=some J->(Value.slice (some ⟨g,o,none⟩) n cc).ownBlock=some J\/E<=J):=aa ao;have a0:=aa al;have a1:=aa am;have U:=aa an;clear al am an ao;go_wp2;rw [HR.out,v.out,if_neg vQ.out,if_neg (by simp),if_neg EB.out,if_neg (by simp),if_neg (by simp),if_neg zR.out]
           refine⟨((C4 ed).drewN nq).trans U (fun b _ e=>by
            rcases e with e|e
            ·exact .inl e
            ·exact .inr (.inr (.inr (.inl e)))),fun h=>(by cases h),fun es h=> ?_⟩
           injection h with h
           subst h;have a4:w.heap.size<=w4:=gK.out.size;have O:∀J,(Value.slice (some ⟨g,o,none⟩) n cc).ownBlock=some J->J<w4:=fun J hg=>(ah mH.own J hg).2
           refine⟨_,en,ec,A',n+1,kz,jJ,bk,rfl,wO,bp,?_,a0.wider (fun b c=>c.imp id (fun h=>⟨ma ed.size h.1,h.2⟩)) (fun b c=>c.elim (HM.lo b) (fun h=>ma Y h.1)),?_,a1⟩
           ·refine((Um.chg lm (fun _ _ h=>h)).chg U (fun b c e=> ?_)).weak (fun b c=>⟨ma a4 c.1,fun e=> ?_⟩)
            ·rcases e with e|e
             ·have C:=T.out.lt;have m:=Y.out;have aq:=c.1;omega
             ·have C:=O b e;have m:=c.1;omega
            ·rcases Ps.out b e with e|e
             ·have C:=O b e;have m:=c.1;omega
             ·have m:=c.2;omega
           ·refine(AR.chg lm (fun h=>h) (fun h=>h) (fun _ _ h=>h)).chg U (fun e=> ?_) (fun e=> ?_) (fun b c e=> ?_)
            ·rcases e with e|e
             ·exact T.zq e.symm
             ·have C:=(ah mH.own q e).1;have m:=X.out.qB;omega
            ·rcases e with e|e
             ·exact T.zp e.symm
             ·have C:=(ah mH.own p e).1;have m:=X.out.pB;omega
            ·rcases e with e|e
             ·exact AQ (e▸c)
             ·have C:=(ah mH.own b e).1;have m:=X.out.lt b c;omega
        ·have dk:(eB==0)=false:=by rw [mi];exact h4
         have H4:=aa h4;have dt:IntKind.i64.wrap ((N.2.2.at_:Int)+(pB:Int))=((N.2.2.at_+pB:Nat):Int):=by rw [IntWalk.i64_in _ (by omega)];omega
         go_wp2_with (go_at_call 91;go_loud (refine(bS eB ((N.2.2.at_+pB:Nat)) eF).mono ?_);rintro e9 P ⟨rfl,f,l⟩;have H:=aa f;have I:=aa l;clear f l)
         rw [HR.out]
         exact d D.cur eB ((N.2.2.at_+pB:Nat)) E _ P AR.src (by rw [v.out,if_neg vQ.out,if_neg (by simp),if_neg EB.out,if_neg (by simp),if_pos H4.out]) ed ⟨rfl,H,I⟩
       ·have dj:(eD==0)=false:=by rw [mi];exact h3
        have H3:=aa h3;go_wp2_with (go_at_call 91;go_loud (refine(bS eD (D.place:Nat) dE).mono ?_);rintro e9 P ⟨rfl,f,l⟩;have H:=aa f;have I:=aa l;clear f l);rw [HR.out]
        exact d D.cur eD (D.place:Nat) w4 _ P bx.src (by rw [v.out,if_neg vQ.out,if_neg (by simp),if_neg EB.out,if_pos H3.out]) gK ⟨rfl,H,I⟩
     ·have di:(e2==0)=false:=by rw [mi];exact h2
      have H2:=aa h2;go_wp2_with (go_at_call 91;go_loud (refine(bS e2 (L.2.2.at_:Nat) ad).mono ?_);rintro e9 P ⟨rfl,f,l⟩;have H:=aa f;have I:=aa l;clear f l);rw [HR.out]
      exact d N.2.2 e2 (L.2.2.at_:Nat) w3 _ P ae.src (by rw [v.out,if_neg vQ.out,if_pos H2.out]) fu ⟨rfl,H,I⟩
   ·have XK:¬((kd.toNat:Int)=66):=fun e=>XH (UInt8.toNat_inj.mp (by rw [show(66:UInt8).toNat=66 from rfl];omega));have df:((kd.toNat:Int)==66)=false:=by rw [mi];exact XK
    have a2:=aa XH;go_wp2_with (go_at_call 91;go_loud (refine(bS 82 (r.cur.at_:Nat) V).mono ?_);rintro e9 P ⟨rfl,f,l⟩;have H:=aa f;have I:=aa l;clear f l);rw [HR.out]
    exact d L.2.2 82 (r.cur.at_:Nat) w2 _ P Z.src (by rw [v.out,if_neg (by simp),if_neg XD.out,if_pos a2.out]) bz ⟨rfl,H,I⟩
 ·have dg:(e1==0)=false:=by rw [mi];exact h1
  have H1:=aa h1;go_wp2_with (go_at_call 91;go_loud (refine(bS e1 (r.cur.at_:Nat) V).mono ?_);rintro e9 P ⟨rfl,f,l⟩;have H:=aa f;have I:=aa l;clear f l);rw [HR.out];exact d L.2.2 e1 (r.cur.at_:Nat) w2 _ P Z.src (by rw [v.out,if_pos H1.out]) bz ⟨rfl,H,I⟩
theorem Rq (s:Sit F q p base) (zs:Zs z q p base) (Q:¬F z) (B:base<=w)
  (c:ak w z 140 #[q,v1,v2,.slice A n cc,(r.err:Int),(r.bad:Int)]) (hm:bu w base D (.slice A n cc) n r.rows us)
  (h:oU w F q p r.cur hv) (u:r.Ok K) (o:r.st=0) (hK:K<=1152921504606846976):
  Calls prog 52 #[z] w (rW F z q p base D (.func (.func 92) #[z] #[]) v2 A n cc us r.next.1 r.next.2 w):=by
 refine letter fun R T=> ?_;have HS:=aa s;have E:=aa zs;have HB:=aa c;have HM:=aa hm;have dW:=aa B;have g:=u.cur (by omega);have J:=u.held (by omega);have ap:w.cell? z=some (q:Value):=c.cell 0;have rQ:=aa (mY 8 (s.up B) h g hK (by omega) (by omega));obtain⟨L,hL⟩:=gF (r.cur.bytes 8)
 have y:Hid (r.next=if L.2.1≠0 then(none,r.fail L.2.2 L.2.1 0) else if L.1≠gD then(none,r.fail L.2.2 81 0) else({r with cur:=L.2.2,st:=1}:dM).frame):=aa (by
  subst hL;unfold dM.next;rw [if_neg (by omega),if_neg (by omega)])
 have Au:=aa hL
 have Al:Hid (L.2.1=0->L.2.2.at_=8/\L.2.2.Ok K/\L.2.2.held=none):=aa (fun h0=>by
  rw [hL] at h0|-;exact⟨by rw [ay.bytes_step g 8 h0,(u.zero o).1],ay.bytes_ok g 8,ay.bytes_held g 8 J⟩)
 have zK:=aa u;have AQ:=aa Q;have C:=aa o
 have j:Hid (∀(cu:ay) (e:Int) (a:Nat) (Z:World) (I:Ending) (w':World),ig Z F p cu.src->r.next=(none,r.fail cu e a)->ag (Cs q p w) w Z->MO z q v2 (.slice A n cc) e a Z I w'->rW F z q p base D (.func (.func 92) #[z] #[]) v2 A n cc us r.next.1 r.next.2 w I w'):=aa (fun cu e a Z I w' am hx hc d=>by
  rw [hx];refine⟨(C4 hc).trans d.2.2 (fun b _ e=> .inl e),fun _=>⟨d.1,?_,d.2.1,am.own d.2.2 zs.zp Q⟩,fun es h=>by cases h⟩;exact(hm.cs s jO hc).chg d.2.2 (fun b c _ e=>by have e:b=z:=e;have:=zs.lt;omega))
 clear s zs c hm h g J hL u B Q o;go_enter func52,ntmps52;go_upto_region 2 with(go_at_call 90;go_loud (refine rQ.mono ?_);rintro e w2 ⟨vD,ao,rfl,hO,hI,hC⟩;rw [<-Au.out] at hO hI|-;have iG:=aa hO;have m:=aa hI;have k:=aa hC;clear hO hI hC)
 have f:=aa (HB.chg k (E.up dW).no);obtain⟨V,P⟩:=gF L.2.1;rw [<-P] at y iG Al|-;clear P ap
 by_cases h1:V=0
 ·subst h1;obtain⟨dA,dn,dc,rfl,_,_,N,O⟩:=(iG.out rfl).sb;have M:=bC dc O N;clear O N;go_upto_region 4 with fail
  by_cases x:L.1=gD
  ·have l:=aa x;rw [x,show ou gD=⟨#[99,111,112,112,105,99,101,1]⟩ from rfl] at M;have z1:w2.cell? ⟨z,1,none⟩=some v1:=f.out.cell 1;have xP:=f.out.frozen 1;have U:Hid ((L.2.2.at_=8/\L.2.2.Ok K/\L.2.2.held=none)/\r.rows= []):=aa ⟨Al (by trivial),(zK.zero C).2⟩;clear x;go_upto_region 7 with fail
   clear M;obtain⟨t,i⟩:=gF (w2.setCell ⟨z,1,none⟩ (.func (.func 92) #[.pointer (some ⟨z,0,none⟩)] #[]));rw [<-i];have v:Hid (ag (fun b=>b=z) w2 t):=aa (by rw [i];exact(ag.refl (fun b=>b=z) w2).setCell (p:=⟨z,1,none⟩) (fun _=>rfl) _);have ab:Hid (ak t z 140 #[q,.func (.func 92) #[z] #[],v2,.slice A n cc,(r.err:Int),(r.bad:Int)]):=aa (by rw [i];exact f.set_ 1 _);have Ie:Hid (bu t base D (.slice A n cc) n r.rows us):=aa ((HM.cs HS jO k).chg v (fun b c _ e=>by have e:b=z:=e;have:=E.out.lt;omega));have ac:Hid (oU t F q p L.2.2 ao):=aa (m.chg v (fun e=>E.zq e.symm) (fun e=>E.zp e.symm) (fun b c e=>AQ (e▸c)))
   have qW:=aa (Cg (v1:=.func (.func 92) #[z] #[]) (r:={r with cur:=L.2.2,st:=1}) HS E AQ (by have h8:=dW.out;have h9:=k.out.size;have au:=v.out.size;omega) ab Ie ac
    ⟨fun _=>U.1.2.1,fun _=>U.1.2.2,zK.rows,fun e=>absurd e (show¬((1:Nat)=0) by decide),fun _=>(by show L.2.2.at_=dD r.rows;rw [U.out.2,U.out.1.1];rfl),(by show(1:Nat)<=2;omega),fun _=>zK.err (by rw [C.out];decide)⟩ rfl hK)
   clear z1 xP i
   have oZ:Hid (∀w',ag (Fs z q p t (.slice A n cc)) t w'->ag (Fs z q p w (.slice A n cc)) w w'):=aa (fun w' hc=>((C4 k).trans v (fun b _ e=> .inl e)).trans hc (fun b _ e=>by
    rcases e with e|e|e|e|e
    ·exact .inl e
    ·exact .inr (.inl e)
    ·exact .inr (.inr (.inl e))
    ·exact .inr (.inr (.inr (.inl e)))
    ·exact .inr (.inr (.inr (.inr (ma (ma k.size v.size) e))))))
   have xu:Hid (w.heap.size<=t):=aa (ma k.size v.size);have JP:Hid (r.next=({r with cur:=L.2.2,st:=1}:dM).frame):=aa (by rw [y.out,if_neg (by simp),if_neg (fun h=>h l.out)]);clear y;obtain⟨X,hX⟩:∃X,X=({r with cur:=L.2.2,st:=1}:dM).frame:=⟨_,rfl⟩;rw [<-hX] at qW JP;obtain⟨X1,X2⟩:=X;clear hX
   cases X1 with
   |none=>
    go_wp2_with (go_at_call 92;go_loud (refine qW.mono ?_);intro e w4 d;have Y:=aa d;obtain⟨rfl,_,_⟩:=d.no rfl;clear d)
    rw [T.out,JP.out]
    exact⟨oZ _ Y.chg,Y.no,fun es h=>by cases h⟩
   |some es=>
    go_wp2_with (go_at_call 92;go_loud (refine qW.mono ?_);intro e w4 d;have Y:=aa d;obtain⟨eA,I,ec,A',n',kz,jJ,an,rfl,g1,g2,g3,g4,g5,g6⟩:=d.yes es rfl;have G1:=aa g1;have G2:=aa g2;have G3:=aa g3;have G4:=aa g4;have G5:=aa g5;have G6:=aa g6;clear d g1 g2 g3 g4 g5 g6)
    rw [T.out,JP.out];refine⟨oZ _ Y.chg,fun h=>(by cases h),fun aq h=> ?_⟩;injection h with h
    subst h
    exact⟨eA,I,ec,A',n',kz,jJ,an,rfl,G1.out,G2.out,G3.out.weak (fun b c=>⟨ma xu c.1,c.2⟩),G4.out.wider (fun b c=>c.imp id (fun h=>⟨ma xu h.1,h.2⟩)) (fun b c=>c.elim (HM.lo b) (fun h=>ma dW h.1)),G5.out,G6.out⟩
  ·have l:=aa x;have W:((ou L.1).toList==(ou gD).toList)=false:=by rw [vJ];exact decide_eq_false x
   rw [show ou gD=⟨#[99,111,112,112,105,99,101,1]⟩ from rfl] at W
   have ad:¬(ou L.1=⟨#[99,111,112,112,105,99,101,1]⟩):=fun e=>x (by
    have e2:L.1.toArray= #[99,111,112,112,105,99,101,1]:=congrArg ByteArray.data e;have e3:=congrArg Array.toList e2;exact e3)
   have ae:decide (ou L.1=⟨#[99,111,112,112,105,99,101,1]⟩)=false:=decide_eq_false ad;have al:((ou L.1).toList==(⟨#[99,111,112,112,105,99,101,1]⟩:ByteArray).toList)=false:=W;have hl:(⟨#[99,111,112,112,105,99,101,1]⟩:ByteArray).toList= [99,111,112,112,105,99,101,1]:=by kernel_rfl
   have S:((ou L.1).toList== [99,111,112,112,105,99,101,1])=false:=by rw [<-hl];exact W
   have aw:¬((ou L.1).toList= [99,111,112,112,105,99,101,1]):=fun e=>by rw [mi] at S;exact S e
   clear W ae al;go_wp2_with (go_at_call 91;go_loud (refine(bS 81 (0:Nat) f).mono ?_);rintro e9 w9 ⟨rfl,G,H⟩;have fC:=aa G;have fD:=aa H;clear G H);rw [T.out]
   exact j L.2.2 81 0 w2 _ w9 m.src (by rw [y.out,if_neg (by simp),if_pos l.out]) k ⟨rfl,fC,fD⟩
 ·have ar:(V==0)=false:=by rw [mi];exact h1
  have H1:=aa h1;go_wp2_with (go_at_call 91;go_loud (refine(bS V (0:Nat) f).mono ?_);rintro e9 w9 ⟨rfl,G,H⟩;have fC:=aa G;have fD:=aa H;clear G H);rw [T.out];exact j L.2.2 V 0 w2 _ w9 m.src (by rw [y.out,if_pos H1.out]) k ⟨rfl,fC,fD⟩
def D8 (z:Nat) (v0 v1 x c:Value) (e a:Int) (w:World) (d:Ending) (w':World):Prop:=
 d= .returned (.tuple #[(),false])/\ak w' z 103 #[v0,v1,true,e,a,x,c]/\ag (fun b=>b=z) w w'
theorem bi {f d:Int} (e a:Int) (h:ak w z 103 #[v0,v1,v2,f,d,x,c]):
  Calls prog 60 #[z,e,a] w (D8 z v0 v1 x c e a w):=by
 refine letter fun R i=> ?_;have g:=aa h;have m:w.cell? ⟨z,2,none⟩=some v2:=h.cell 2;have n:w.cell? ⟨z,3,none⟩=some (.int .i64 f):=h.cell 3;have o:w.cell? ⟨z,4,none⟩=some (.int .i64 d):=h.cell 4;have j:=h.frozen 2;have k:=h.frozen 3;have l:=h.frozen 4;clear h;go_enter func60,ntmps60;go_wp2;rw [i.out]
 exact⟨rfl,((g.set_ 2 true).set_ 3 e).set_ 4 a,
  (((ag.refl (fun b=>b=z) w).setCell (p:=⟨z,2,none⟩) (fun _=>rfl) _).setCell (p:=⟨z,3,none⟩) (fun _=>rfl) _).setCell (p:=⟨z,4,none⟩) (fun _=>rfl) _⟩
noncomputable def Q4:Code:=aQ (f66.body.bind (aF 10))
theorem Ty (at_:Nat) {c:Nat} {bs:List UInt8} {p B f d l z D r q:Value} {Q:Exit->Act->World->Prop} (kF:Hid (∀c t (a:Act) w,Q (.panic c) ⟨t,a.defers⟩ w->Q (.panic c) a w))
  (H:Hid (Rd w F 1 A n (aI bs))) (HN:Hid (n=bs.length)) (ad:at_<9223372036854775808)
  (au:∀(ae al am an ao:Value) (rb:Bool) (w':World),rb= !(decide (bs=dV at_))->Below w w w'->Q .normal ⟨(p::u1::y::B:: .int .i64 (at_:Nat)::s::u::u7::k::u9::L::E::O::W:: .slice A n c::U::G::f::C::I::M::P::V::d::l::z::D::m::r::T::j::g::x::u33::u34::i::u36::b::u38::N::u40::R::u42::X::u44::u45::u46::v::u48::u49::dI::u51::dP::J::dR::u55::dY::q::u58::u59::u60::fw::ae::al::am::an::ao:: .bool rb::Y).toArray,[]⟩ w'):
  Code.wp prog Q4 Q ⟨(p::u1::y::B:: .int .i64 (at_:Nat)::s::u::u7::k::u9::L::E::O::W:: .slice A n c::U::G::f::C::I::M::P::V::d::l::z::D::m::r::T::j::g::x::u33::u34::i::u36::b::u38::N::u40::R::u42::X::u44::u45::u46::v::u48::u49::dI::u51::dP::J::dR::u55::dY::q::u58::u59::u60::fw::fJ::u63::u64::gm::u66::gH::Y).toArray,[]⟩ w:=by
 have dz:=aa au;have HD:Hid (Below w w w.drew):=aa mh.drew;have S0:=bC c (H.below HD) HN;have e3:((ou bs).toList==(ou (dV at_)).toList)=decide (bs=dV at_):=vJ;have Dw:=aa (Ct at_ w.drew ad);obtain⟨tl,Z⟩:=gF (dV at_);have Ue:=aa Z;rw [<-Z] at e3 dz Dw;clear au Z;conv=>arg 2;whnf
 refine aO (S:=(fun w'=>(convert 24 9 (.slice A n c)).run prog w'= .ok (.string (ou bs)) w')) (by kernel_rfl) ?_;refine vT 0 S0 ?_;refine vT 2 S0 ?_;refine vT 1 S0 ?_;refine nZ 3 fun K hK=> ?_;go_simp;go_loud (refine Dw.mono ?_);rintro e w2 ⟨v2,rfl,ab,o⟩;obtain⟨A2,n2,c2,rfl,-,-,h8,h9⟩:=ab.sb;have ac:=aa o;have S1:=bC c2 h9 h8;have S2:=bC c (H.below (HD.out.trans o)) HN;clear ab o h8 h9
 refine hK.out _ _ S2 ?_;clear hK K;try simp only [aL,aN,aZ,aC]
 refine jQ (S':=fun w'=>(convert 24 9 (.slice A n c)).run prog w'= .ok (.string (ou bs)) w'/\(convert 24 9 (.slice A2 n2 c2)).run prog w'= .ok (.string (ou tl)) w') (fun _ h=>h.1) ?_;refine vT 4 ⟨S2,S1⟩ ?_;refine vT 5 ⟨S2,S1⟩ ?_;refine bf (by kernel_rfl) ?_ _;go_simp;refine dz _ _ _ _ _ _ _ ?_ (HD.out.trans ac);rw [<-e3]
section
structure nR (w:World) (F:Nat->Prop) (q:Nat) (s:Src) (bA gA:Option Addr) (bn bc gn gc p:Nat) (B:List UInt8) (n7 n8 n9 n10 n11:Value):Prop where
 blk:ak w q 34 #[.slice bA bn bc,.slice gA gn gc,(s.fail:Int),s.eager,(s.calls:Int),(p:Int),false,n7,n8,n9,n10,n11]
 gv:Rd w F 1 gA gn (kw s.gives)
 sb:SB w F (.slice bA bn bc) B
 left:s.left=B.drop p
 le:p<=B.length
 bd:bn<=1152921504606
def eP (w:World) (F:Nat->Prop) (q:Nat) (s:Src):Prop:=∃bA gA bn bc gn gc p B n7 n8 n9 n10 n11,nR w F q s bA gA bn bc gn gc p B n7 n8 n9 n10 n11
section
variable {S:Nat->Prop} {w w':World} {F:Nat->Prop} {q:Nat} {s:Src} {bA gA:Option Addr} {bn bc gn gc p:Nat} {B:List UInt8} {n7 n8 n9 n10 n11:Value}
theorem nR.chg (h:nR w F q s bA gA bn bc gn gc p B n7 n8 n9 n10 n11) (hc:ag S w w') (n:¬S q) (Q:∀b,F b->¬S b):nR w' F q s bA gA bn bc gn gc p B n7 n8 n9 n10 n11:=
 ⟨h.blk.chg hc n,h.gv.chg hc Q,h.sb.chg hc Q,h.left,h.le,h.bd⟩
theorem eP.chg (h:eP w F q s) (hc:ag S w w') (n:¬S q) (Q:∀b,F b->¬S b):eP w' F q s:=
 let⟨f,g,i,j,k,l,m,o,p,a,c,d,e,x⟩:=h;⟨f,g,i,j,k,l,m,o,p,a,c,d,e,x.chg hc n Q⟩
theorem eP.below (h:eP w F q s) (o:Below w w w'):eP w' F q s:=h.chg (S:=Nil) (ag.of_below o) (fun h=>h) (fun _ _ h=>h)
theorem nR.gn_len (h:nR w F q s bA gA bn bc gn gc p B n7 n8 n9 n10 n11):gn=s.gives.length:=by
 have:=h.gv.1;simp [kw] at this;omega
end
theorem OT {F:Nat->Prop} {gA:Option Addr} {gn:Nat} (gc n:Nat) {s:Src} {w:World} (h:Rd w F 1 gA gn (kw s.gives)) (hn:n<=1152921504606) (_x:gn<=1152921504606) (hc:s.calls<4611686018427387904):
  Calls prog 201 #[.slice gA gn gc,.int .i64 ((s.calls:Int)+1),(n:Int)] w fun e w'=>e= .returned (.int .i64 (s.most n:Nat))/\w=w':=by
 have r:=aa h;have t:Hid (gn=s.gives.length):=aa (by have:=h.1;simp [kw] at this;omega);obtain⟨cl,c⟩:=gF s.calls;have p:=aa c;obtain⟨R,l⟩:∃R:Ending->World->Prop,R=fun e w'=>e= .returned (.int .i64 (s.most n:Nat))/\w=w':=⟨_,rfl⟩;have d:=aa l;rw [<-l,<-c];rw [<-c] at hc;clear h c l
 by_cases j:cl<gn
 ·obtain⟨b,o,u,rfl,_,m,i⟩:=r.out.at_ j
  obtain⟨g,f,rfl⟩:∃g,s.gives[cl]? =some g/\u= .int .i64 g:=by
   simp only [kw,List.getElem?_map,Option.map_eq_some_iff] at m;obtain⟨g,a,e⟩:=m;exact⟨g,a,e.symm⟩
  have v:=aa f;have k:(cl:Int)+1<=(gn:Int):=by omega
  clear m f;go_enter func201,ntmps201;go_wp2;rw [d.out]
  refine⟨?_,rfl⟩;unfold Src.most;rw [<-p.out,v.out,show((min n g.toNat:Nat):Int)=max 0 (min (n:Int) g) by omega]
  rfl
 ·have k:¬((cl:Int)+1<=(gn:Int)):=by omega
  have q:=aa j;clear j;go_enter func201,ntmps201;go_wp2;rw [d.out]
  refine⟨?_,rfl⟩;unfold Src.most;rw [<-p.out,List.getElem?_eq_none (by have:=t.out;have:=q.out;omega)]
noncomputable def QW:Code:=aQ (f184.body.bind (aF 8))
noncomputable def QX:Code:=aQ (f184.body.bind (fQ 0))
theorem ME {F:Nat->Prop} {q:Nat} (pb:Nat) {n p bn bc gn gc cl m:Nat} {bA gA:Option Addr} {s:Src} {w:World} {y B J u5 u u7 u8 u9 L E O W Z U G f C I M P V d l z D u27 r T j g x u33 u34 u35 h b u38 N u40 R u42 X u44 u45 u46 v u48 u49 H u51 A u53 dR u55 dY dZ u58 u59 u60 fw fJ u63 u64 gm u66 gH u68 u69 u70 iM u72 u73 iN u75 iV:Value} {Y:List Value} {Q:Exit->Act->World->Prop} (kF:Hid (∀c t (a:Act) w,Q (.panic c) ⟨t,a.defers⟩ w->Q (.panic c) a w))
  (o:w.drew.cell? q=some (.slice bA bn bc)/\w.drew.cell? ⟨q,1,none⟩=some (.slice gA gn gc)/\w.drew.cell? ⟨q,4,none⟩=some (.int .i64 ((cl:Int)+1))/\w.drew.cell? ⟨q,5,none⟩=some (.int .i64 p))
  (HR:Hid (Rd w F 1 gA gn (kw s.gives))) (iI:Hid (cl=s.calls)) (hc:cl<4611686018427387904) (hn:n<=1152921504606) (hg:gn<=1152921504606) (ba:bn<=1152921504606) (hp:p<=bn) (HM:Hid (m=min (s.most n) (bn-p)))
  (au:∀(ab ac ad ae al am an ao ap aq ar aw aA aE a0 a1 a2 a3 a4 a5 a6 a7 a8 a9:Value) (w':World),ag Nil w w'->Q .normal ⟨(.pointer (some ⟨q,0,none⟩):: .slice (some ⟨pb,0,none⟩) n n::y::B::J::u5:: .int .i64 m::u7::u8::u9::L::E::O::W::Z::U::G::f::C::I::M::P::V::d::l::z::D::u27::r::T::j::g::x::u33::u34::u35::h::b::u38::N::u40::R::u42::X::u44::u45::u46::v::u48::u49::H::u51::A::ab::ac::ad::ae::al::am::an::ao::ap::aq::ar::aw::aA::aE::a0::a1::a2::a3::a4::a5::a6::a7::a8::a9::Y).toArray,[]⟩ w'):
  Code.wp prog QW Q ⟨(.pointer (some ⟨q,0,none⟩):: .slice (some ⟨pb,0,none⟩) n n::y::B::J::u5::u::u7::u8::u9::L::E::O::W::Z::U::G::f::C::I::M::P::V::d::l::z::D::u27::r::T::j::g::x::u33::u34::u35::h::b::u38::N::u40::R::u42::X::u44::u45::u46::v::u48::u49::H::u51::A::u53::dR::u55::dY::dZ::u58::u59::u60::fw::fJ::u63::u64::gm::u66::gH::u68::u69::u70::iM::u72::u73::iN::u75::iV::Y).toArray,[]⟩ w:=by
 have dz:=aa au;have HD:Hid (Below w w w.drew):=aa mh.drew;obtain⟨k,hk⟩:=gF (s.most n);have HK:=aa hk;have be:k<=n:=by rw [hk];exact s.most_le n
 have LB:min (k:Int) ((bn:Int)-p)=(m:Int):=by have:=HM.out;rw [<-hk] at this;omega
 have bh:IntKind.i64.wrap ((bn:Int)-p)=(bn:Int)-p:=IntWalk.i64_in _ (by omega);clear au hk;conv=>arg 2;whnf
 refine aO (S:=(fun w'=>w'.cell? q=some (.slice bA bn bc)/\w'.cell? ⟨q,1,none⟩=some (.slice gA gn gc)/\w'.cell? ⟨q,4,none⟩=some (.int .i64 ((cl:Int)+1))/\w'.cell? ⟨q,5,none⟩=some (.int .i64 p))) (by kernel_rfl) ?_;refine vT 0 o ?_;refine vT 1 o ?_;refine vT 2 o ?_;refine vT 3 o ?_;refine vT 5 o ?_;refine vT 6 o ?_;refine vT 7 o ?_;refine vT 9 o ?_;refine vT 10 o ?_;refine vT 12 o ?_;refine vT 13 o ?_;refine vT 14 o ?_;refine vT 15 o ?_;refine vT 18 o ?_;refine vT 19 o ?_;refine vT 20 o ?_;refine vT 4 o ?_;refine vT 8 o ?_;refine vT 16 o ?_;refine vT 17 o ?_;refine vT 21 o ?_;refine vT 22 o ?_;refine aK (i:=11) (by kernel_rfl) rfl (fun K hK=> ?_);go_simp;go_loud (refine(by rw [iI.out];exact OT gc n (HR.below HD) hn hg (by rw [<-iI.out];exact hc):Calls _ _ _ _ _).mono ?_);rintro e w2 ⟨rfl,rfl⟩;rw [<-HK.out]
 refine hK.out _ _ o ?_;clear hK K;try simp only [aL,aN,aZ,aC]
 refine vT 23 o ?_;refine vT 24 o ?_;refine bf (by kernel_rfl) ?_ _;go_simp;exact dz _ _ _ _ _ _ _ _ _ _ _ _ _ _ _ _ _ _ _ _ _ _ _ _ _ (ag.refl _ _).drew
end
end Go.Proofs.YtepgcjbhabnciaaGreat
