/- Part 21. -/
import Derived.Test.YtepgcjbhabnciaaGreatLp20
namespace Go.Proofs.YtepgcjbhabnciaaGreat
set_option maxRecDepth 100000
set_option maxHeartbeats 8000000
open Go.Proofs.Tryz Go.RowKit
variable {q p K:Nat} {F:Nat->Prop} {c:ay} {w:World}
theorem Src.read_err (s:Src) (n:Nat):(s.read n).2.1≠34:=by
 unfold Src.read
 split
 ·simp
 ·split
  ·simp
  ·simp only [];split<;>simp
theorem fV.chg {S:Nat->Prop} {w w':World} {F:Nat->Prop} {q p:Nat} {c:ay} (h:fV w F q p c) (hc:ag S w w') (a:¬S q) (e:¬S p) (t:∀b,F b->¬S b):fV w' F q p c:=⟨h.blk.chg hc a,h.src.chg hc e t,h.hl⟩
structure wD (F:Nat->Prop) (q p base n K:Nat) (c0:ay) (b0:List UInt8) (w0:World) (c:ay) (bs:List UInt8) (v:Value) (w:World):Prop where
 iny:fV w F q p c
 row:Ow w base v bs
 fine:c.Fine K
 len:bs.length<=n
 eq:c0.loop b0 n=c.loop bs n
 chg:ag (Cs q p base) w0 w
 gl:c.src.gives.length<=1152921504606
def wJ (F:Nat->Prop) (q p n:Nat) (c:ay) (w:World) (e:Ending) (w':World):Prop:=
 ∃v,e= .returned (.tuple #[v,.int .i64 (c.loop [] n).2.1])/\((c.loop [] n).2.1=0->Ow w' w v (c.loop [] n).1)/\fV w' F q p (c.loop [] n).2.2/\ag (Cs q p w) w w'
theorem CQ (n:Nat) (s:Sit F q p w) (h:fV w F q p c) (a:c.Fine K) (hK:K<=1152921504606846976) (hn:n<=1152921504606) (t:0<n) (D:c.src.gives.length<=1152921504606):
  Calls prog 101 #[q,(n:Int)] w (wJ F q p n c w):=by
 obtain⟨i0,aA,aE,a0,a1⟩:=info_parts bD;refine letter fun R HR=> ?_;obtain⟨base,x⟩:=gF w.heap.size;have B:=aa x;have z4:w.cell? ⟨q,4,none⟩=some (.slice none 0 0):=h.blk.cell 4;have Ni:=h.blk.frozen 4;have G:ak (w.setCell ⟨q,4,none⟩ ()) q 142 #[p,.int .i64 4611686018427387904,(c.at_:Int),(c.err:Int),(),(c.idle:Int)]:=h.blk.set_ 4 ();have M:ag (fun b=>b=q) w (w.setCell ⟨q,4,none⟩ ()):=(ag.refl (fun b=>b=q) w).setCell (p:=⟨q,4,none⟩) (fun _=>rfl) _;have H0:Hid (wD F q p base n K c [] w c [] () (w.setCell ⟨q,4,none⟩ ())):=aa ⟨⟨G,h.src.chg M (fun e=>s.ne e.symm) (fun b hb e=>s.nFq (e▸hb)),h.hl⟩,Ow.nil _ _,a,by simp,rfl,M.mono (fun b _ e=> .inl e),D⟩;have V:=aa s;clear h a D s G M x;go_enter func101,ntmps101;go_upto_region 3 with fail
 go_loopg [6] (n*17+(16-c.idle)) (fun g' Vg wz=>∃(C:ay) (bs:List UInt8),g'=(n-bs.length)*17+(16-C.idle)/\wD F q p base n K c [] w C bs Vg wz)
 case atStart=>exact⟨c,[],rfl,H0⟩
 case round=>
  obtain⟨C,bs,D,hm⟩:=hrel;have HG:=aa D;have k:=aa hm;obtain⟨A,cp,P,be,bh⟩:=ax hm.row;subst P;have a2:=hm.len;have xu:Hid (base<=wr):=aa (by have:=hm.chg.size;have:=B.out;omega);clear D hm
  by_cases bm:bs.length<n
  ·obtain⟨m,O⟩:=gF (n-bs.length);have LB:(n:Int)-(bs.length:Int)=(m:Int):=by omega
   have Jv:=aa O;have ao:=aa (Tf m (V.up (by have:=xu.out;have:=B.out;omega)) k.iny k.fine hK (by omega) (by omega) k.gl);obtain⟨i,S⟩:=gF ((C.ask m).1);obtain⟨f,W⟩:=gF ((C.ask m).2.1);obtain⟨d,y⟩:=gF ((C.ask m).2.2);obtain⟨o,E⟩:=gF i.length;obtain⟨m4,Vh⟩:=gF (min m 4096);have NJ:=aa S;have NK:=aa W;have OH:=aa y;have r:=aa E;have mH:=aa Vh;have vg:o<=m:=by rw [E,S];exact ay.ask_len _ _
   have a6:o<=m4:=by rw [Vh];exact Nat.le_min.2 ⟨vg,by rw [E,S];exact ay.ask_len2 _ _⟩
   have a7:m4<=4096:=by omega
   have a3:(o:Int)<=(m4:Int):=by omega
   have Yp:f≠34:=by rw [W];exact Src.read_err _ _
   have a4:(f==34)=false:=by rw [mi];exact Yp
   have EU:Hid (c.loop [] n=if n<=(bs++i).length then(bs++i,0,d) else if f=31 then([],41,d) else if f≠0 then([],f,d) else if 16<=d.idle then([],33,d) else d.loop (bs++i) n):=aa (by
    rw [k.out.eq,ay.loop_eq,if_neg (by omega),S,W,y,O])
   have HP:Hid (i≠ []\/f=0->d.pot<=K):=aa (by rw [S,W,y];exact ay.ask_pot m k.fine);have ac:Hid (d.idle=if i≠ []\/f≠0 then 0 else C.idle+1):=aa (by rw [S,W,y];rfl);clear O S W y E Vh Yp;go_upto_region 5 with(go_at_call 148;go_loud (refine ao.mono ?_);rintro e w2 ⟨pb,an,rfl,J,L,ae⟩;rw [<-NJ.out,<-mH.out] at J;rw [<-OH.out] at L;rw [<-NJ.out,<-NK.out,<-mH.out,<-r.out];have LP:=aa an;have ap:=aa J;have aq:=aa L;have bz:=aa ae;clear an J L ae)
   have kZ:Hid (Ow w2 base (.slice A bs.length cp) bs):=aa (k.row.chg bz (fun g D e=>by have Z:=(ah k.row g D);have h2:=V.out.qB;have h3:=V.out.pB;have h4:=B.out;rcases e with e|e|e<;>omega));obtain⟨cur,al,au,am⟩:=ap.out
   have tL:Hid (Rd w2 (fun b=>b=pb) 1 (some ⟨pb,0,none⟩) o (aI i)):=aa ⟨by rw [dO,<-r.out];omega,fun _=>⟨pb,0,rfl,rfl,fun j u hj=>by
    rw [al.cell];rw [<-am] at hj;rw [List.getElem?_take] at hj
    split at hj
    ·simpa using hj
    ·cases hj⟩⟩
   have M8:Hid (base<=w2):=aa (ma xu bz.size);clear al au am;go_upto_region 6 with(at_builtin;go_loud (refine af _ rfl (.tmp 29) (.tmp 30) _ rfl base 5 i0 _ 1 1 underlying24 aA aE a0 a1 rfl (by omega) (.slice A bs.length cp) _ (aI bs) rfl kZ (fun b=>b=pb) (some ⟨pb,0,none⟩) o m4 (aI i) rfl tL (bJ _) (by simp only [maxLen];omega) (by omega) M8 ?_);intro v6 Q z Y dF;have lX:=aa z;have mE:=aa Y;have AA:=aa dF;clear z Y dF)
   have Y:ag (fun b=>base<=b) w2 Q:=(ag.refl _ _).grown mE (fun g D _=>(ah kZ g D).1);have My:Hid (fV Q F q p d):=aa (aq.chg Y (by have:=V.out.qB;have:=B.out;omega) (by have:=V.out.pB;have:=B.out;omega) (fun b hb e=>by have Z:=V.out.lt b hb;have h2:=B.out;have e:base<=b:=e;omega))
   have AB:Hid (Ow Q base v6 (bs++i)):=aa (by
    have Z:=lX.out;unfold Ow;rw [mq,<-r.out];simpa [aI] using Z)
   have oZ:Hid (ag (Cs q p base) w Q):=aa ((k.chg.trans (bz.mono (fun b _ e=>by rcases e with e|e|e;exact .inl e;exact .inr (.inl e);exact .inr (.inr (ma xu e)))) (fun _ _ h=>h)).trans (Y.mono (fun b _ e=> .inr (.inr e))) (fun _ _ h=>h));obtain⟨A6,ba,P,_,_⟩:=ax AB;subst P;have T:Hid ((bs++i).length=bs.length+o):=aa (by rw [mq,r.out]);have bk:bs.length+o<=n:=by have:=Jv.out;omega
   have z5:Q.cell? ⟨q,5,none⟩=some (.int .i64 d.idle):=My.out.blk.cell 5
   have Jy:Hid (d.src.gives.length<=1152921504606):=aa (by
    rw [OH.out];have:(C.ask m).2.2.src.gives=C.src.gives:=Src.read_gives _ _;rw [this];exact k.gl)
   clear Y;rw [T.out];obtain⟨ci,N⟩:=gF d.idle;rw [<-N] at z5;have X:=aa N;clear N
   by_cases e1:n<=bs.length+o
   ·have wO:=aa e1;have e2:n=bs.length+o:=by omega
    have ar:((bs.length:Int)+(o:Int))=(n:Int):=by omega
    have U:Hid (c.loop [] n=(bs++i,0,d)):=aa (by rw [EU.out,if_pos (by have:=T.out;omega)]);have aw:(n:Int)<=(bs.length:Int)+(o:Int):=by omega
    clear e1 e2 ar;go_wp2;rw [HR.out];unfold wJ;rw [U.out]
    exact⟨_,rfl,fun _=>(by have h9:=AB.out;rw [T.out] at h9;rw [<-B.out];exact h9),My,by rw [<-B.out];exact oZ⟩
   ·have aw:¬((n:Int)<=(bs.length:Int)+(o:Int)):=by omega
    have Ca:=aa e1;have U:Hid (c.loop [] n=if f=31 then([],41,d) else if f≠0 then([],f,d) else if 16<=d.idle then([],33,d) else d.loop (bs++i) n):=aa (by rw [EU.out,if_neg (by have:=T.out;omega)])
    have H:Hid (∀(v:Value) (ez:Int),c.loop [] n=([],ez,d)->ez≠0->wJ F q p n c w (.returned (.tuple #[v,(ez:Int)])) Q):=aa (fun v ez he hz=>by
     unfold wJ;rw [he];exact⟨_,rfl,fun h=>absurd h hz,My,by rw [<-B.out];exact oZ⟩)
    clear e1
    by_cases l:f=31
    ·have I:Hid (c.loop [] n=([],41,d)):=aa (by rw [U.out,if_pos l]);subst l;go_wp2;rw [HR.out]
     exact H.out _ 41 I (by decide)
    ·have a9:(f==31)=false:=by rw [mi];exact l
     by_cases e0:f=0
     ·subst e0
      by_cases ad:ci=16
      ·have I:Hid (c.loop [] n=([],33,d)):=aa (by rw [U.out,if_neg l,if_neg (fun h=>h rfl),if_pos (by rw [<-X.out];omega)]);subst ad;go_wp2;rw [HR.out]
       exact H.out _ 33 I (by decide)
      ·have Q8:ci<=15:=by have Z:=ac.out;have h2:=k.out.fine.idle;have h3:=X.out;split at Z<;>omega
       have ab:=aa Q8;have I:Hid (c.loop [] n=d.loop (bs++i) n):=aa (by rw [U.out,if_neg l,if_neg (fun h=>h rfl),if_neg (by rw [<-X.out];omega)]);have hd:((ci:Int)==16)=false:=by rw [mi];omega
       have a5:¬((ci:Int)=16):=by omega
       clear Q8 ad z5;have z5:Q.cell? ⟨q,5,none⟩=some (.int .i64 ci):=(My.out.blk.cell 5).trans (by rw [X.out];rfl);go_wp2
       go_roundg ((n-(bs++i).length)*17+(16-d.idle))
       case measure=>
        have Z:=HG.out;have h2:=T.out;have h3:=X.out;have h4:=ac.out;have h5:=ab.out;have h6:=k.out.fine.idle;rw [h2]
        by_cases h7:o=0
        ·have:i= []:=List.eq_nil_of_length_eq_zero (by rw [<-r.out];exact h7)
         rw [if_neg (by simp [this])] at h4;omega
        ·omega
       case rel=>
        have h2:=T.out;have h5:=Ca.out
        exact⟨d,bs++i,rfl,My,(by have h9:=AB.out;rw [h2] at h9;exact h9),⟨by rw [<-X.out];exact ab,HP (.inr trivial)⟩,by omega,I,oZ,Jy⟩
     ·have I:Hid (c.loop [] n=([],f,d)):=aa (by rw [U.out,if_neg l,if_pos e0]);have mM:=aa e0;have YX:(f==0)=false:=by rw [mi];exact e0
      have a8:(f !=0)=true:=by rw [bne_iff_ne];exact e0
      go_wp2;rw [HR.out]
      exact H.out _ f I mM
  ·have bj:¬((bs.length:Int)<(n:Int)):=by omega
   go_wp2;have he:=k.out.eq
   rw [ay.loop_eq C,if_pos (by omega)] at he;rw [HR.out];unfold wJ;rw [he];exact⟨_,rfl,fun _=>by rw [<-B.out];exact k.row,k.iny,by rw [<-B.out];exact k.chg⟩
def CR (F:Nat->Prop) (q p n:Nat) (c:ay) (w:World) (e:Ending) (w':World):Prop:=
 ∃v,e= .returned (.tuple #[v,.int .i64 (c.bytes n).2.1])/\((c.bytes n).2.1=0->Ow w' w v (c.bytes n).1)/\fV w' F q p (c.bytes n).2.2/\ag (Cs q p w) w w'
theorem Kz (n:Nat) (h:fV w F q p c) (b:c.err≠0):
  Calls prog 59 #[q,(n:Int)] w (CR F q p n c w):=by
 refine letter fun R f=> ?_;obtain⟨er,a⟩:=gF c.err;have j:=aa a;have k:w.cell? ⟨q,3,none⟩=some (.int .i64 er):=(h.blk.cell 3).trans (by rw [a];rfl);have e:=aa h;rw [<-a] at b;have d:=aa b;have g:(er==0)=false:=by rw [mi];exact b
 have i:Hid (c.bytes n=([],er,c)):=aa (by unfold ay.bytes;rw [a] at b;rw [if_pos b,a]);clear h a;go_enter func59,ntmps59;go_wp2;go_quiet (fail)
 go_wp2;rw [f.out]
 unfold CR;rw [i.out];exact⟨_,rfl,fun h=>absurd h d,e.chg ((ag.refl Nil w).drewN _) (fun h=>h) (fun h=>h) (fun _ _ h=>h),(ag.refl _ _).drewN _⟩
theorem OI (n:Nat) (s:Sit F q p w) (h:fV w F q p c) (m:c.err=0) (Q:c.Ok K) (T:K<=1152921504606846976) (hn:n<=1152921504606) (t:0<n):
  Calls prog 59 #[q,(n:Int)] w (CR F q p n c w):=by
 refine letter fun R E=> ?_;have l:({c with held:=none}:ay)=c:=by have:=h.hl;cases c;simp only at this;subst this;rfl
 obtain⟨L,hL⟩:=gF (c.loop [] n);have G:Hid (c.bytes n=if L.2.1=0 then(L.1,0,{L.2.2 with at_:=c.at_+n}) else([],L.2.1,{L.2.2 with err:=L.2.1})):=aa (by unfold ay.bytes;rw [if_neg (fun h=>h m),if_neg (by omega),l,h.hl,hL];rfl);obtain⟨d,r⟩:=gF c.at_;have O:=aa r;have U:d<=1152921504606:=by have:=Q.sum;omega
 have W:w.cell? ⟨q,1,none⟩=some (.int .i64 4611686018427387904):=h.blk.cell 1;have H:w.cell? ⟨q,2,none⟩=some (.int .i64 d):=(h.blk.cell 2).trans (by rw [r];rfl);have I:w.cell? ⟨q,3,none⟩=some (.int .i64 0):=(h.blk.cell 3).trans (by rw [m];rfl);have M:=aa h;have N:Hid (∀k,Calls prog 101 #[q,(n:Int)] (w.drewN k) (wJ F q p n c (w.drewN k))):=aa (fun k=>CQ n s (h.chg ((ag.refl Nil w).drewN k) (fun h=>h) (fun h=>h) (fun _ _ h=>h)) (Q.fine m) T hn t Q.gives);have J:=aa hL
 have y:Hid (L.2.2.at_=d):=aa (by
  rw [hL,r];exact(ay.loop_out (K:=K) n _ c [] jO (Q.fine m) (by simp)).2.2.2.1)
 have B:IntKind.i64.wrap ((4611686018427387904:Int)-d)=4611686018427387904-d:=IntWalk.i64_in _ (by omega);have A:¬((4611686018427387904:Int)-d<n):=by omega
 have o:=aa s;clear h m hL r l Q s;go_enter func59,ntmps59;go_wp2;go_quiet (fail)
 go_upto_region 11 with(go_at_call 101;go_loud (refine(N _).mono ?_);rintro e w2 ⟨v,rfl,Q,hi,hc⟩;rw [<-J.out] at Q hi|-;have D:=aa Q;have a:=aa hi;have C:Hid (ag (Cs q p w) w w2):=aa (((ag.refl (Cs q p w) w).drewN _).trans hc (fun _ _ h=>h));clear Q hi hc)
 obtain⟨er,z⟩:=gF L.2.1;rw [<-z];have u:=aa z;clear z W H I B A
 by_cases x:er=0
 ·have j:Hid (L.2.1=0):=aa (by rw [<-u.out];exact x);have H:w2.cell? ⟨q,2,none⟩=some (.int .i64 d):=(a.out.blk.cell 2).trans (by rw [y.out];rfl);have X:=a.out.blk.frozen 2;subst x;go_wp2;rw [E.out];unfold CR;rw [G.out,if_pos j.out];have i:=(ag.refl (fun b=>b=q) w2).setCell (p:=⟨q,2,none⟩) (fun _=>rfl) (.int .i64 ((d:Int)+n))
  refine⟨v,rfl,fun _=> ?_,⟨?_,a.src.chg i (fun e=>o.ne e.symm) (fun b f e=>o.nFq (e▸f)),a.hl⟩,C.setCell (p:=⟨q,2,none⟩) (fun _=> .inl rfl) _⟩
  ·exact(D j).chg i (fun g V e=>by have S:=(ah (D j) g V).1;have Z:=M.out.blk.lt;have e:g=q:=e;have h3:w<=g:=S;omega)
  ·have f:=a.out.blk.set_ 2 (.int .i64 ((d:Int)+n));rw [O.out] at f|-
   exact f
 ·have j:Hid (¬L.2.1=0):=aa (by rw [<-u.out];exact x);have P:(er==0)=false:=by rw [mi];exact x
  have I:w2.cell? ⟨q,3,none⟩=some (.int .i64 L.2.2.err):=a.out.blk.cell 3;have Y:=a.out.blk.frozen 3;go_wp2;rw [E.out];unfold CR;rw [G.out,if_neg j.out];have i:=(ag.refl (fun b=>b=q) w2).setCell (p:=⟨q,3,none⟩) (fun _=>rfl) (er:Int);refine⟨_,by{rw [u.out];rfl},fun h=>absurd h j,⟨?_,a.src.chg i (fun e=>o.ne e.symm) (fun b f e=>o.nFq (e▸f)),a.hl⟩,C.setCell (p:=⟨q,3,none⟩) (fun _=> .inl rfl) _⟩;have f:=a.out.blk.set_ 3 (er:Int);rw [u.out] at f|-;exact f
theorem gY (n:Nat) (s:Sit F q p w) (h:fV w F q p c) (Q:c.Ok K) (b:K<=1152921504606846976) (hn:n<=1152921504606) (t:0<n):
  Calls prog 59 #[q,(n:Int)] w (CR F q p n c w):=by
 by_cases a:c.err=0
 ·exact OI n s h a Q b hn t
 ·exact Kz n h a
def KA (F:Nat->Prop) (q p:Nat) (c:ay) (w:World) (e:Ending) (w':World):Prop:=
 e= .returned (.tuple #[.int .u8 ((c.bytes 1).1.headD 0).toNat,.int .i64 (c.bytes 1).2.1])/\fV w' F q p (c.bytes 1).2.2/\ag (Cs q p w) w w'
theorem CS (s:Sit F q p w) (h:fV w F q p c) (Q:c.Ok K) (W:K<=1152921504606846976):
  Calls prog 62 #[q] w (KA F q p c w):=by
 refine letter fun R E=> ?_;have P:=aa (gY 1 s h Q W (by omega) (by omega));obtain⟨L,hL⟩:=gF (c.bytes 1);have l:=aa hL;have M:Hid (L.2.1≠0->L.1= []):=aa (by rw [hL];exact c.bytes_err 1);have N:Hid (L.2.1=0->L.1.length=1):=aa (by rw [hL];exact ay.bytes_len Q 1 (by omega));clear h Q hL s;go_enter func62,ntmps62;go_upto_region 2 with(go_at_call 59;go_loud (refine P.mono ?_);rintro e w2 ⟨v,rfl,z,t,H⟩;rw [<-l.out] at z t|-;have O:=aa z;have D:=aa t;have C:=aa H;clear z t H)
 obtain⟨er,m⟩:=gF L.2.1;rw [<-m];have n:=aa m;clear m
 by_cases d:er=0
 ·have i:Hid (L.2.1=0):=aa (by rw [<-n.out];exact d);obtain⟨A,J,cc,rfl,Y,Z,V,G⟩:=(O.out i).sb;have B:=N.out i;obtain⟨b,o,u,rfl,_,I,a⟩:=G.at_ (k:=0) (by omega);obtain⟨x,f,rfl⟩:=eO I
  have g:L.1.headD 0=x:=by
   cases hl:L.1 with
   |nil=>rw [hl] at f;cases f
   |cons y r=>rw [hl] at f;simpa using f
  have S:=aa g;have X:0<J:=by omega
  have T:(0:Int)<(J:Int):=by omega
  unfold bv at a;rw [Nat.add_zero] at a;clear g I f G B V;subst d;go_wp2;rw [E.out];unfold KA;rw [<-l.out];refine⟨?_,D,C⟩;rw [S.out,i.out]
  rfl
 ·have i:=aa d;have U:(er==0)=false:=by rw [mi];exact d
  have j:Hid (L.1= []):=aa (M (by rw [<-n.out];exact d));go_wp2;rw [E.out];unfold KA;rw [<-l.out];refine⟨?_,D,C⟩;rw [n.out,j.out];rfl
section
theorem uS:∀(l:List UInt8) (j:Nat),gZ (l.drop j)<=gZ l
 |_,0=>jO
 | [],_+1=>jO
 |c::r,j+1=>by
  have:=uS r j;rw [List.drop_succ_cons,gZ];omega
theorem O9 {l:List UInt8} {j:Nat} {c:UInt8} (h:l[j]? =some c):gZ (l.drop j)=c.toNat%128+128*gZ (l.drop (j+1)):=by
 rw [qI h,gZ]
section
variable {b:List UInt8} {p i v:Nat} {c:UInt8}
theorem ED.fit (h:ED b p i v) (hc:b[i]? =some c) (f:aW (i-p) c=0) (g:c.toNat<128):gZ ((b.drop p).take (i+1-p))<18446744073709551616/\ai b p=(gZ ((b.drop p).take (i+1-p)),i+1,0):=by
 have a:=h.whole hc f g;have e:=h.taken hc;have d:=zn b p;rw [<-e] at a;refine⟨?_,a⟩;rw [a] at d;exact d
end
noncomputable def Uj:Code:=aQ (f149.body.bind (fQ 2))
theorem Ld {F:Nat->Prop} {A:Option Addr} {n:Nat} (c:Nat) {p K:Nat} (z:Int) {b L:List UInt8} {w:World} {u2 u3 u4 u5 u6 u7 u8 E O W Z U u16 f C I u20 u21 u22 u23 u24 u25 u26 u27 u28 u29 u30 u31 u32 u33 u34 u35 u36 u37 u38 N u40 R u42 X u44 u45 u46 v u48 u49 H u51 dP u53 dR u55 S dZ u58 u59 u60 fw fJ u63 u64 gm u66 l u68 u69 u70 T u72 u73 iN u75 iV:Value} (Q:Exit->Act->World->Prop)
  (HR:Hid (Rd w F 1 A n (aI b))) (hn2:n<=1152921504606) (Au:Hid (∀j,j<K->L[j]? =b[p+j]?)) (fq:Hid (L.length=K)) (hK:p+K<=n) (hz:z=(p:Int)+K-1) (HF:Hid (gZ L<18446744073709551616))
  (au:∀(x B D G J M P Y ab ac ad ae al am an:Value),Q (.exit 2) ⟨(.slice A n c:: .int .i64 p::u2::u3::u4::u5::u6::u7::u8:: .int .u64 (gZ L)::x::E::O::W::Z::U::u16::f::C::I::u20::u21::u22::u23::u24::u25::u26::u27::u28::u29::u30::u31::u32::u33::u34::u35::u36::u37::u38::N::u40::R::u42::X::u44::u45::u46::v::u48::u49::H::u51::dP::u53::dR::u55::S::dZ::u58::B::D::G::J::M::P::Y::ab::ac::ad::ae::al::am::an::u73::iN::u75::iV:: []).toArray,[]⟩ w):
  Code.wp prog Uj Q ⟨(.slice A n c:: .int .i64 p::u2::u3::u4::u5::u6::u7::u8:: .int .u64 0:: .int .i64 z::E::O::W::Z::U::u16::f::C::I::u20::u21::u22::u23::u24::u25::u26::u27::u28::u29::u30::u31::u32::u33::u34::u35::u36::u37::u38::N::u40::R::u42::X::u44::u45::u46::v::u48::u49::H::u51::dP::u53::dR::u55::S::dZ::u58::u59::u60::fw::fJ::u63::u64::gm::u66::l::u68::u69::u70::T::u72::u73::iN::u75::iV:: []).toArray,[]⟩ w:=by
 have dz:=aa au;clear au;conv=>arg 2;whnf
 go_loopg [10,9] K (fun g' jv vv wz=>∃m:Nat,g'=m/\m<=K/\jv= .int .i64 ((p:Int)+m-1)/\vv= .int .u64 (gZ (L.drop m))/\w=wz)
 case atStart=>exact⟨K,rfl,jO,by rw [hz],by rw [List.drop_of_length_le (by have:=fq.out;omega)];rfl,rfl⟩
 case round=>
  obtain⟨m,h,hm,rfl,rfl,rfl⟩:=hrel;have o:=aa h;clear h
  by_cases ap:0<m
  ·obtain⟨j,rfl⟩:∃j:Nat,m=j+1:=⟨m-1,by omega⟩;have i:(p:Int)+((j+1:Nat):Int)-1=((p+j:Nat):Int):=by omega
   have e:p+j<n:=by omega
   obtain⟨b2,o2,u2,rfl,_,hy,d⟩:=HR.out.at_ e;obtain⟨y,k,rfl⟩:=eO hy;simp only [bv] at d;have g:L[j]? =some y:=by rw [Au.out _ (by omega)];exact k
   have a:=O9 g;have s:=uS L j;obtain⟨V,hV⟩:=gF (gZ (L.drop (j+1)));rw [<-hV] at a|-;have ao:y.toNat%128+128*V<18446744073709551616:=by have:=HF.out;omega
   have r:=aa a;rw [i];obtain⟨q,u⟩:=gF (p+j);have HQ:=aa u;have aq:(p:Int)<=(q:Int):=by omega
   rw [<-u] at d e|-;clear hy k g a s hV i u;go_wp2
   go_roundg j
   case measure=>have:=o.out;omega
   case rel=>exact⟨j,rfl,by omega,by have:=HQ.out;congr 1;omega,by rw [r.out];congr 1;omega,rfl⟩
  ·have t:m=0:=by omega
   subst t;have e:¬((p:Int)<=(p:Int)+((0:Nat):Int)-1):=by omega
   go_wp2;exact dz _ _ _ _ _ _ _ _ _ _ _ _ _ _ _
theorem jB {F:Nat->Prop} {A:Option Addr} {n:Nat} (c p:Nat) {b:List UInt8} {w:World} (h:Rd w F 1 A n (aI b)) (hn:n=b.length) (G:p<=n) (K:n<=1152921504606):
  Calls prog 149 #[.slice A n c,(p:Int)] w fun e w'=>e= .returned (.tuple #[.int .u64 (ai b p).1,.int .i64 (ai b p).2.1,.int .i64 (ai b p).2.2])/\w=w':=by
 have HR:=aa h;have HN:=aa hn;clear h hn;obtain⟨vr,f⟩:=gF (ai b p);have y:=aa f;rw [<-f];clear f;obtain⟨R,hR⟩:∃R:Ending->World->Prop,R=fun e w'=>e= .returned (.tuple #[.int .u64 vr.1,(vr.2.1:Int),(vr.2.2:Int)])/\w=w':=⟨_,rfl⟩;have i:=aa hR;rw [<-hR];clear hR;have aq:¬((n:Int)<(p:Int)):=by omega
 have ap:decide (n<p)=false:=decide_eq_false (by omega);go_enter func149,ntmps149;go_wp2
 go_loopg [7] (n-p) (fun g' iv wz=>∃(d v:Nat),g'=n-(p+d)/\p+d<=n/\iv= (d:Int)/\ED b p (p+d) v/\w=wz)
 case atStart=>exact⟨0,0,rfl,G,rfl,ED.start _ _,rfl⟩
 case round=>
  obtain⟨d,v,hg,hi,rfl,J,rfl⟩:=hrel;have HG:=aa hg;have r:=aa J;clear hg J
  by_cases am:p+d<n
  ·have hq:¬((d:Int)=(n:Int)-p):=by omega
   obtain⟨bb,o,u,rfl,_,hx,k⟩:=HR.out.at_ am;obtain⟨x,M,rfl⟩:=eO hx;have t:=aa M;simp only [bv] at k;have m:∀z,aW d x=z->aW (p+d-p) x=z:=fun z h=>by rw [show p+d-p=d by omega];exact h
   clear hx M
   by_cases IP:d=9
   ·by_cases h1:1<x.toNat
    ·have ae:(1:Int)<(x.toNat:Int):=by omega
     have g:=aa (m 12 (by unfold aW;rw [if_pos ⟨IP,h1⟩]));clear m;subst IP;go_wp2;go_ret3;rw [i.out,y.out,r.out.bad t.out (by rw [g.out];simp),g]
     exact⟨rfl,rfl⟩
    ·have ae:¬((1:Int)<(x.toNat:Int)):=by omega
     by_cases h2:x.toNat=0
     ·have B:(x.toNat:Int)=0:=by omega
      have g:=aa (m 13 (by unfold aW;rw [if_neg (by omega),if_pos ⟨by omega,h2⟩]));clear m;subst IP;go_wp2;go_ret3;rw [i.out,y.out,r.out.bad t.out (by rw [g.out];simp),g]
      exact⟨rfl,rfl⟩
     ·have B:¬((x.toNat:Int)=0):=by omega
      have g:=aa (m 0 (by unfold aW;rw [if_neg (by omega),if_neg (by omega)]));have C:x.toNat<128:=by omega
      have s:(x.toNat:Int)<128:=by omega
      clear m;have a:=k;rw [IP] at a;have q:Hid (x.toNat<128):=aa C;obtain⟨l,f⟩:=r.out.fit t g q;rw [show p+d+1-p=d+1 by omega] at l f;obtain⟨L,hL⟩:=gF ((b.drop p).take (d+1));have D:Hid (∀j,j<d+1->L[j]? =b[p+j]?):=aa (fun j hj=>by rw [hL,List.getElem?_take,if_pos (by omega),List.getElem?_drop]);have I:Hid (L.length=d+1):=aa (by rw [hL,List.length_take,List.length_drop];have:=HN.out;omega);rw [<-hL] at l f;have E:=aa l;have H:=aa f;clear l f hL;go_upto_region 15 with fail
      refine Ld c _ _ HR K D I (by omega) (by omega) E ?_;intro N O P Q S T U V W X Y Z ab ac ad;go_wp2;go_ret3;rw [i.out,y.out,H.out]
      exact⟨by first|rfl|(simp;done)|(simp;omega),rfl⟩
   ·have an:¬((d:Int)=9):=by omega
    by_cases h0:d=0
    ·have g:=aa (m 0 (by unfold aW;rw [if_neg (by omega),if_neg (by omega)]));clear m;have a:=k;rw [h0,Nat.add_zero] at a
     by_cases C:x.toNat<128
     ·have s:(x.toNat:Int)<128:=by omega
      have q:Hid (x.toNat<128):=aa C;obtain⟨l,f⟩:=r.out.fit t g q;rw [show p+d+1-p=d+1 by omega] at l f;obtain⟨L,hL⟩:=gF ((b.drop p).take (d+1));have D:Hid (∀j,j<d+1->L[j]? =b[p+j]?):=aa (fun j hj=>by rw [hL,List.getElem?_take,if_pos (by omega),List.getElem?_drop]);have I:Hid (L.length=d+1):=aa (by rw [hL,List.length_take,List.length_drop];have:=HN.out;omega);rw [<-hL] at l f;have E:=aa l;have H:=aa f;clear l f hL;go_upto_region 15 with fail
      refine Ld c _ _ HR K D I (by omega) (by omega) E ?_;intro N O P Q S T U V W X Y Z ab ac ad;go_wp2;go_ret3;rw [i.out,y.out,H.out]
      exact⟨by first|rfl|(simp;done)|(simp;omega),rfl⟩
     ·have q:Hid (¬x.toNat<128):=aa C;have s:¬((x.toNat:Int)<128):=by omega
      go_wp2
      go_roundg (n-(p+d+1))
      case measure=>have:=HG.out;omega
      case rel=>exact⟨d+1,_,rfl,by omega,by go_num,r.next t g q,rfl⟩
    ·have ao:0<(d:Int):=by omega
     by_cases h2:x.toNat=0
     ·have B:(x.toNat:Int)=0:=by omega
      have g:=aa (m 13 (by unfold aW;rw [if_neg (by omega),if_pos ⟨by omega,h2⟩]));clear m;go_wp2;go_ret3;rw [i.out,y.out,r.out.bad t.out (by rw [g.out];simp),g]
      exact⟨rfl,rfl⟩
     ·have B:¬((x.toNat:Int)=0):=by omega
      have g:=aa (m 0 (by unfold aW;rw [if_neg (by omega),if_neg (by omega)]));clear m
      by_cases C:x.toNat<128
      ·have s:(x.toNat:Int)<128:=by omega
       have q:Hid (x.toNat<128):=aa C;obtain⟨l,f⟩:=r.out.fit t g q;rw [show p+d+1-p=d+1 by omega] at l f;obtain⟨L,hL⟩:=gF ((b.drop p).take (d+1));have D:Hid (∀j,j<d+1->L[j]? =b[p+j]?):=aa (fun j hj=>by rw [hL,List.getElem?_take,if_pos (by omega),List.getElem?_drop]);have I:Hid (L.length=d+1):=aa (by rw [hL,List.length_take,List.length_drop];have:=HN.out;omega);rw [<-hL] at l f;have E:=aa l;have H:=aa f;clear l f hL;go_upto_region 15 with fail
       refine Ld c _ _ HR K D I (by omega) (by omega) E ?_;intro N O P Q S T U V W X Y Z ab ac ad;go_wp2;go_ret3;rw [i.out,y.out,H.out]
       exact⟨by first|rfl|(simp;done)|(simp;omega),rfl⟩
      ·have q:Hid (¬x.toNat<128):=aa C;have s:¬((x.toNat:Int)<128):=by omega
       go_wp2
       go_roundg (n-(p+d+1))
       case measure=>have:=HG.out;omega
       case rel=>exact⟨d+1,_,rfl,by omega,by go_num,r.next t g q,rfl⟩
  ·have al:n=p+d:=by omega
   subst al;go_wp2;go_ret3;rw [i.out,y.out,r.out.short HN.out];exact⟨rfl,rfl⟩
end
end Go.Proofs.YtepgcjbhabnciaaGreat
