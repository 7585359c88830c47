/- Part 31. -/
import Derived.Test.YtepgcjbhabnciaaGreatLe30
namespace Go.Proofs.YtepgcjbhabnciaaGreat
set_option maxRecDepth 100000
set_option maxHeartbeats 8000000
open Go.Proofs.Tryz Go.RowKit
variable {k size n base fill F p mm:Nat} {D S D' G j:Nat->Prop} {w w' q:World} {l:List aK}
theorem Src.read_err (s:Src) (n:Nat):(s.read n).2.1≠34:=by
 unfold Src.read
 split
 ·simp
 ·split
  ·simp
  ·simp only [];split<;>simp
theorem eY.chg {S:Nat->Prop} {w w':World} {F:Nat->Prop} {q p:Nat} {c:ay} (h:eY w F q p c) (y:ag S w w') (a:¬S q) (d:¬S p) (e:∀b,F b->¬S b):eY w' F q p c:=⟨h.blk.chg y a,h.src.chg y d e,h.hl⟩
structure ZT (F:Nat->Prop) (q p base n K:Nat) (c0:ay) (b0:List UInt8) (w0:World) (c:ay) (bs:List UInt8) (v:Value) (w:World):Prop where
 iny:eY w F q p c
 row:Ow w base v bs
 fine:c.Fine K
 len:bs.length<=n
 eq:c0.loop b0 n=c.loop bs n
 chg:ag (Cs q p base) w0 w
 gl:c.src.gives.length<=1152921504606
def sI (F:Nat->Prop) (q p n:Nat) (c:ay) (w:World) (e:Ending) (w':World):Prop:=
 ∃v,e= .returned (.tuple #[v,.int .i64 (c.loop [] n).2.1])/\((c.loop [] n).2.1=0->Ow w' w.heap.size v (c.loop [] n).1)/\eY w' F q p (c.loop [] n).2.2/\ag (Cs q p w.heap.size) w w'
theorem zz (F:Nat->Prop) (q p n K:Nat) (c:ay) (w:World) (s:Sit F q p w.heap.size) (h:eY w F q p c) (i:c.Fine K) (hK:K<=1152921504606846976) (T:n<=1152921504606) (a:0<n) (D:c.src.gives.length<=1152921504606):
  Calls prog 101 #[.pointer (some ⟨q,0,none⟩),.int .i64 n] w (sI F q p n c w):=by
 obtain⟨i0,ax,aA,aE,a0⟩:=info_parts bu;refine letter fun R HR=> ?_;obtain⟨base,y⟩:∃base,base=w.heap.size:=⟨_,rfl⟩;have C:=aa y;have z4:w.cell? ⟨q,4,none⟩=some (.slice none 0 0):=h.blk.cell 4;have Jm:=h.blk.frozen 4;have G:aj (w.setCell ⟨q,4,none⟩ (.slice none 0 0)) q 142 #[.pointer (some ⟨p,0,none⟩),.int .i64 4611686018427387904,.int .i64 c.at_,.int .i64 c.err,.slice none 0 0,.int .i64 c.idle]:=h.blk.set_ 4 (.slice none 0 0);have N:ag (fun b=>b=q) w (w.setCell ⟨q,4,none⟩ (.slice none 0 0)):=(ag.refl (fun b=>b=q) w).setCell (p:=⟨q,4,none⟩) (fun _=>rfl) _;have H0:Hid (ZT F q p base n K c [] w c [] (.slice none 0 0) (w.setCell ⟨q,4,none⟩ (.slice none 0 0))):=aa ⟨⟨G,h.src.chg N (fun e=>s.ne e.symm) (fun b hb e=>s.nFq (e▸hb)),h.hl⟩,Ow.nil _ _,i,by simp,rfl,N.mono (fun b _ e=> .inl e),D⟩;have X:=aa s;clear h i D s G N y;go_enter func101,ntmps101
 go_upto_region 3 with fail
 go_loopg [6] (n*17+(16-c.idle)) (fun g' QA wz=>∃(x:ay) (bs:List UInt8),g'=(n-bs.length)*17+(16-x.idle)/\ZT F q p base n K c [] w x bs QA wz)
 case atStart=>exact⟨c,[],rfl,H0⟩
 case round=>
  obtain⟨x,bs,D,hm⟩:=hrel;have HG:=aa D;have l:=aa hm;obtain⟨A,cp,Q,ba,bb⟩:=au hm.row;subst Q;have a1:=hm.len;have sN:Hid (base<=wr.heap.size):=aa (by have:=hm.chg.size;have:=C.out;omega);clear D hm
  by_cases bj:bs.length<n
  ·obtain⟨m,P⟩:∃m,m=n-bs.length:=⟨_,rfl⟩;have Hu:(n:Int)-(bs.length:Int)=(m:Int):=by omega
   have CX:=aa P;have an:=aa (OI F q p m K x wr (X.up (by have:=sN.out;have:=C.out;omega)) l.iny l.fine hK (by omega) (by omega) l.gl);obtain⟨k,S⟩:∃k,k=(x.ask m).1:=⟨_,rfl⟩;obtain⟨f,Y⟩:∃f,f=(x.ask m).2.1:=⟨_,rfl⟩;obtain⟨d,z⟩:∃d,d=(x.ask m).2.2:=⟨_,rfl⟩;obtain⟨o,E⟩:∃o,o=k.length:=⟨_,rfl⟩;obtain⟨m4,QB⟩:∃m4,m4=min m 4096:=⟨_,rfl⟩;have JQ:=aa S;have JR:=aa Y;have Kz:=aa z;have t:=aa E;have mO:=aa QB;have ut:o<=m:=by rw [E,S];exact ay.ask_len _ _
   have a6:o<=m4:=by rw [QB];exact Nat.le_min.2 ⟨ut,by rw [E,S];exact ay.ask_len2 _ _⟩
   have a7:m4<=4096:=by omega
   have a3:(o:Int)<=(m4:Int):=by omega
   have TL:f≠34:=by rw [Y];exact Src.read_err _ _
   have a4:(f==34)=false:=by rw [beq_eq_false_iff_ne];exact TL
   have Ez:Hid (c.loop [] n=if n<=(bs++k).length then(bs++k,0,d) else if f=31 then([],41,d) else if f≠0 then([],f,d) else if 16<=d.idle then([],33,d) else d.loop (bs++k) n):=aa (by
    rw [l.out.eq,ay.loop_eq,if_neg (by omega),S,Y,z,P])
   have HP:Hid (k≠ []\/f=0->d.pot<=K):=aa (by rw [S,Y,z];exact ay.ask_pot m l.fine);have ab:Hid (d.idle=if k≠ []\/f≠0 then 0 else x.idle+1):=aa (by rw [S,Y,z];rfl);clear P S Y z E QB TL;go_upto_region 5 with(go_at_call 148;go_loud (refine an.mono ?_);rintro e w2 ⟨pb,am,rfl,L,M,ad⟩;rw [<-JQ.out,<-mO.out] at L;rw [<-Kz.out] at M;rw [<-JQ.out,<-JR.out,<-mO.out,<-t.out];have Ig:=aa am;have ao:=aa L;have ap:=aa M;have bB:=aa ad;clear am L M ad)
   have JS:Hid (Ow w2 base (.slice A bs.length cp) bs):=aa (l.row.chg bB (fun g D e=>by have h1:=(ah l.row g D);have h2:=X.out.qB;have h3:=X.out.pB;have h4:=C.out;rcases e with e|e|e<;>omega));obtain⟨cur,ae,ar,al⟩:=ao.out
   have uf:Hid (Rd w2 (fun b=>b=pb) 1 (some ⟨pb,0,none⟩) o (aF k)):=aa ⟨by rw [cO,<-t.out];omega,fun _=>⟨pb,0,rfl,rfl,fun j u hj=>by
    rw [ae.cell];rw [<-al] at hj;rw [List.getElem?_take] at hj
    split at hj
    ·simpa using hj
    ·cases hj⟩⟩
   have Jd:Hid (base<=w2.heap.size):=aa (Nat.le_trans sN bB.size);clear ae ar al;go_upto_region 6 with(at_builtin;go_loud (refine af _ rfl (.tmp 29) (.tmp 30) _ rfl base 5 i0 _ 1 1 underlying24 ax aA aE a0 rfl (by omega) (.slice A bs.length cp) _ (aF bs) rfl JS (fun b=>b=pb) (some ⟨pb,0,none⟩) o m4 (aF k) rfl uf (bC _) (by simp only [maxLen];omega) (by omega) Jd ?_);intro v6 U B fu dD;have lU:=aa B;have kE:=aa fu;have xJ:=aa dD;clear B fu dD)
   have fu:ag (fun b=>base<=b) w2 U:=(ag.refl _ _).grown kE (fun g D _=>(ah JS g D).1);have IP:Hid (eY U F q p d):=aa (ap.chg fu (by have:=X.out.qB;have:=C.out;omega) (by have:=X.out.pB;have:=C.out;omega) (fun b hb e=>by have h1:=X.out.lt b hb;have h2:=C.out;have e:base<=b:=e;omega))
   have xK:Hid (Ow U base v6 (bs++k)):=aa (by
    have h1:=lU.out;unfold Ow;rw [List.length_append,<-t.out];simpa [aF] using h1)
   have rH:Hid (ag (Cs q p base) w U):=aa ((l.chg.trans (bB.mono (fun b _ e=>by rcases e with e|e|e;exact .inl e;exact .inr (.inl e);exact .inr (.inr (Nat.le_trans sN e)))) (fun _ _ h=>h)).trans (fu.mono (fun b _ e=> .inr (.inr e))) (fun _ _ h=>h));obtain⟨A6,a9,Q,_,_⟩:=au xK;subst Q;have V:Hid ((bs++k).length=bs.length+o):=aa (by rw [List.length_append,t.out]);have bh:bs.length+o<=n:=by have:=CX.out;omega
   have z5:U.cell? ⟨q,5,none⟩=some (.int .i64 d.idle):=IP.out.blk.cell 5
   have Fx:Hid (d.src.gives.length<=1152921504606):=aa (by
    rw [Kz.out];have:(x.ask m).2.2.src.gives=x.src.gives:=Src.read_gives _ _;rw [this];exact l.gl)
   clear fu;rw [V.out];obtain⟨J,O⟩:∃J,J=d.idle:=⟨_,rfl⟩;rw [<-O] at z5;have Z:=aa O;clear O
   by_cases e1:n<=bs.length+o
   ·have xA:=aa e1;have e2:n=bs.length+o:=by omega
    have aq:((bs.length:Int)+(o:Int))=(n:Int):=by omega
    have W:Hid (c.loop [] n=(bs++k,0,d)):=aa (by rw [Ez.out,if_pos (by have:=V.out;omega)]);have aw:(n:Int)<=(bs.length:Int)+(o:Int):=by omega
    clear e1 e2 aq;go_wp2;rw [HR.out];unfold sI;rw [W.out]
    exact⟨_,rfl,fun _=>(by have h9:=xK.out;rw [V.out] at h9;rw [<-C.out];exact h9),IP,by rw [<-C.out];exact rH⟩
   ·have aw:¬((n:Int)<=(bs.length:Int)+(o:Int)):=by omega
    have yV:=aa e1;have W:Hid (c.loop [] n=if f=31 then([],41,d) else if f≠0 then([],f,d) else if 16<=d.idle then([],33,d) else d.loop (bs++k) n):=aa (by rw [Ez.out,if_neg (by have:=V.out;omega)])
    have H:Hid (∀(v:Value) (ez:Int),c.loop [] n=([],ez,d)->ez≠0->sI F q p n c w (.returned (.tuple #[v,.int .i64 ez])) U):=aa (fun v ez he hz=>by
     unfold sI;rw [he];exact⟨_,rfl,fun h=>absurd h hz,IP,by rw [<-C.out];exact rH⟩)
    clear e1
    by_cases r:f=31
    ·have I:Hid (c.loop [] n=([],41,d)):=aa (by rw [W.out,if_pos r]);subst r;go_wp2;rw [HR.out]
     exact H.out _ 41 I (by decide)
    ·have a2:(f==31)=false:=by rw [beq_eq_false_iff_ne];exact r
     by_cases e0:f=0
     ·subst e0
      by_cases ac:J=16
      ·have I:Hid (c.loop [] n=([],33,d)):=aa (by rw [W.out,if_neg r,if_neg (fun h=>h rfl),if_pos (by rw [<-Z.out];omega)]);subst ac;go_wp2;rw [HR.out]
       exact H.out _ 33 I (by decide)
      ·have Np:J<=15:=by have h1:=ab.out;have h2:=l.out.fine.idle;have h3:=Z.out;split at h1<;>omega
       have Zd:=aa Np;have I:Hid (c.loop [] n=d.loop (bs++k) n):=aa (by rw [W.out,if_neg r,if_neg (fun h=>h rfl),if_neg (by rw [<-Z.out];omega)]);have hd:((J:Int)==16)=false:=by rw [beq_eq_false_iff_ne];omega
       have a5:¬((J:Int)=16):=by omega
       clear Np ac z5;have z5:U.cell? ⟨q,5,none⟩=some (.int .i64 J):=(IP.out.blk.cell 5).trans (by rw [Z.out];rfl);go_wp2
       go_roundg ((n-(bs++k).length)*17+(16-d.idle))
       case measure=>
        have h1:=HG.out;have h2:=V.out;have h3:=Z.out;have h4:=ab.out;have h5:=Zd.out;have h6:=l.out.fine.idle;rw [h2]
        by_cases h7:o=0
        ·have:k= []:=List.eq_nil_of_length_eq_zero (by rw [<-t.out];exact h7)
         rw [if_neg (by simp [this])] at h4;omega
        ·omega
       case rel=>
        have h2:=V.out;have h5:=yV.out
        exact⟨d,bs++k,rfl,IP,(by have h9:=xK.out;rw [h2] at h9;exact h9),⟨by rw [<-Z.out];exact Zd,HP (.inr trivial)⟩,by omega,I,rH,Fx⟩
     ·have I:Hid (c.loop [] n=([],f,d)):=aa (by rw [W.out,if_neg r,if_pos e0]);have kK:=aa e0;have Us:(f==0)=false:=by rw [beq_eq_false_iff_ne];exact e0
      have a8:(f !=0)=true:=by rw [bne_iff_ne];exact e0
      go_wp2;rw [HR.out]
      exact H.out _ f I kK
  ·have be:¬((bs.length:Int)<(n:Int)):=by omega
   go_wp2;have he:=l.out.eq
   rw [ay.loop_eq x,if_pos (by omega)] at he;rw [HR.out];unfold sI;rw [he];exact⟨_,rfl,fun _=>by rw [<-C.out];exact l.row,l.iny,by rw [<-C.out];exact l.chg⟩
def zA (F:Nat->Prop) (q p n:Nat) (c:ay) (w:World) (e:Ending) (w':World):Prop:=
 ∃v,e= .returned (.tuple #[v,.int .i64 (c.bytes n).2.1])/\((c.bytes n).2.1=0->Ow w' w.heap.size v (c.bytes n).1)/\eY w' F q p (c.bytes n).2.2/\ag (Cs q p w.heap.size) w w'
theorem Gm (F:Nat->Prop) (q p n:Nat) (c:ay) (w:World) (h:eY w F q p c) (b:c.err≠0):
  Calls prog 59 #[.pointer (some ⟨q,0,none⟩),.int .i64 n] w (zA F q p n c w):=by
 refine letter fun R f=> ?_;obtain⟨er,a⟩:∃er,er=c.err:=⟨_,rfl⟩;have j:=aa a;have k:w.cell? ⟨q,3,none⟩=some (.int .i64 er):=(h.blk.cell 3).trans (by rw [a];rfl);have e:=aa h;rw [<-a] at b;have d:=aa b;have g:(er==0)=false:=by rw [beq_eq_false_iff_ne];exact b
 have i:Hid (c.bytes n=([],er,c)):=aa (by unfold ay.bytes;rw [a] at b;rw [if_pos b,a]);clear h a;go_enter func59,ntmps59
 go_wp2;go_quiet (fail)
 go_wp2;rw [f.out]
 unfold zA;rw [i.out];exact⟨_,rfl,fun h=>absurd h d,e.chg ((ag.refl Nil w).drewN _) (fun h=>h) (fun h=>h) (fun _ _ h=>h),(ag.refl _ _).drewN _⟩
theorem KA (F:Nat->Prop) (q p n K:Nat) (c:ay) (w:World) (s:Sit F q p w.heap.size) (h:eY w F q p c) (o:c.err=0) (a:c.Ok K) (U:K<=1152921504606846976) (T:n<=1152921504606) (hn0:0<n):
  Calls prog 59 #[.pointer (some ⟨q,0,none⟩),.int .i64 n] w (zA F q p n c w):=by
 refine letter fun R E=> ?_;have m:({c with held:=none}:ay)=c:=by have:=h.hl;cases c;simp only at this;subst this;rfl
 obtain⟨L,hL⟩:∃L,L=c.loop [] n:=⟨_,rfl⟩;have H:Hid (c.bytes n=if L.2.1=0 then(L.1,0,{L.2.2 with at_:=c.at_+n}) else([],L.2.1,{L.2.2 with err:=L.2.1})):=aa (by unfold ay.bytes;rw [if_neg (fun h=>h o),if_neg (by omega),m,h.hl,hL];rfl);obtain⟨d,r⟩:∃d,d=c.at_:=⟨_,rfl⟩;have P:=aa r;have V:d<=1152921504606:=by have:=a.sum;omega
 have X:w.cell? ⟨q,1,none⟩=some (.int .i64 4611686018427387904):=h.blk.cell 1;have I:w.cell? ⟨q,2,none⟩=some (.int .i64 d):=(h.blk.cell 2).trans (by rw [r];rfl);have J:w.cell? ⟨q,3,none⟩=some (.int .i64 0):=(h.blk.cell 3).trans (by rw [o];rfl);have N:=aa h;have O:Hid (∀k,Calls prog 101 #[.pointer (some ⟨q,0,none⟩),.int .i64 n] (w.drewN k) (sI F q p n c (w.drewN k))):=aa (fun k=>zz F q p n K c _ s (h.chg ((ag.refl Nil w).drewN k) (fun h=>h) (fun h=>h) (fun _ _ h=>h)) (a.fine o) U T hn0 a.gives);have M:=aa hL
 have y:Hid (L.2.2.at_=d):=aa (by
  rw [hL,r];exact(ay.loop_out (K:=K) n _ c [] (Nat.le_refl _) (a.fine o) (by simp)).2.2.2.1)
 have B:IntKind.i64.wrap ((4611686018427387904:Int)-d)=4611686018427387904-d:=IntWalk.i64_in _ (by omega);have A:¬((4611686018427387904:Int)-d<n):=by omega
 have t:=aa s;clear h o hL r m a s;go_enter func59,ntmps59
 go_wp2;go_quiet (fail)
 go_upto_region 11 with(go_at_call 101;go_loud (refine(O _).mono ?_);rintro e w2 ⟨v,rfl,a,hi,G⟩;rw [<-M.out] at a hi|-;have D:=aa a;have f:=aa hi;have C:Hid (ag (Cs q p w.heap.size) w w2):=aa (((ag.refl (Cs q p w.heap.size) w).drewN _).trans G (fun _ _ h=>h));clear a hi G)
 obtain⟨er,z⟩:∃er,er=L.2.1:=⟨_,rfl⟩;rw [<-z];have u:=aa z;clear z X I J B A
 by_cases x:er=0
 ·have l:Hid (L.2.1=0):=aa (by rw [<-u.out];exact x);have I:w2.cell? ⟨q,2,none⟩=some (.int .i64 d):=(f.out.blk.cell 2).trans (by rw [y.out];rfl);have yR:=f.out.blk.frozen 2;subst x;go_wp2;rw [E.out];unfold zA;rw [H.out,if_pos l.out];have j:=(ag.refl (fun b=>b=q) w2).setCell (p:=⟨q,2,none⟩) (fun _=>rfl) (.int .i64 ((d:Int)+n))
  refine⟨v,rfl,fun _=> ?_,⟨?_,f.src.chg j (fun e=>t.ne e.symm) (fun b i e=>t.nFq (e▸i)),f.hl⟩,C.setCell (p:=⟨q,2,none⟩) (fun _=> .inl rfl) _⟩
  ·exact(D l).chg j (fun g W e=>by have S:=(ah (D l) g W).1;have Z:=N.out.blk.lt;have e:g=q:=e;have h3:w.heap.size<=g:=S;omega)
  ·have i:=f.out.blk.set_ 2 (.int .i64 ((d:Int)+n));rw [P.out] at i|-
   exact i
 ·have l:Hid (¬L.2.1=0):=aa (by rw [<-u.out];exact x);have Q:(er==0)=false:=by rw [beq_eq_false_iff_ne];exact x
  have J:w2.cell? ⟨q,3,none⟩=some (.int .i64 L.2.2.err):=f.out.blk.cell 3;have Y:=f.out.blk.frozen 3;go_wp2;rw [E.out];unfold zA;rw [H.out,if_neg l.out];have j:=(ag.refl (fun b=>b=q) w2).setCell (p:=⟨q,3,none⟩) (fun _=>rfl) (.int .i64 er);refine⟨_,by{rw [u.out];rfl},fun h=>absurd h l,⟨?_,f.src.chg j (fun e=>t.ne e.symm) (fun b i e=>t.nFq (e▸i)),f.hl⟩,C.setCell (p:=⟨q,3,none⟩) (fun _=> .inl rfl) _⟩;have i:=f.out.blk.set_ 3 (.int .i64 er);rw [u.out] at i|-;exact i
theorem fK (F:Nat->Prop) (q p n K:Nat) (c:ay) (w:World) (s:Sit F q p w.heap.size) (h:eY w F q p c) (ho:c.Ok K) (d:K<=1152921504606846976) (T:n<=1152921504606) (a:0<n):
  Calls prog 59 #[.pointer (some ⟨q,0,none⟩),.int .i64 n] w (zA F q p n c w):=by
 by_cases b:c.err=0
 ·exact KA F q p n K c w s h b ho d T a
 ·exact Gm F q p n c w h b
def Gn (F:Nat->Prop) (q p:Nat) (c:ay) (w:World) (e:Ending) (w':World):Prop:=
 e= .returned (.tuple #[.int .u8 ((c.bytes 1).1.headD 0).toNat,.int .i64 (c.bytes 1).2.1])/\eY w' F q p (c.bytes 1).2.2/\ag (Cs q p w.heap.size) w w'
theorem zB (F:Nat->Prop) (q p K:Nat) (c:ay) (w:World) (s:Sit F q p w.heap.size) (h:eY w F q p c) (a:c.Ok K) (V:K<=1152921504606846976):
  Calls prog 62 #[.pointer (some ⟨q,0,none⟩)] w (Gn F q p c w):=by
 refine letter fun R G=> ?_;have Q:=aa (fK F q p 1 K c w s h a V (by omega) (by omega));obtain⟨L,hL⟩:∃L,L=c.bytes 1:=⟨_,rfl⟩;have m:=aa hL;have N:Hid (L.2.1≠0->L.1= []):=aa (by rw [hL];exact c.bytes_err 1);have O:Hid (L.2.1=0->L.1.length=1):=aa (by rw [hL];exact ay.bytes_len a 1 (by omega));clear h a hL s;go_enter func62,ntmps62
 go_upto_region 2 with(go_at_call 59;go_loud (refine Q.mono ?_);rintro e w2 ⟨v,rfl,B,z,I⟩;rw [<-m.out] at B z|-;have P:=aa B;have E:=aa z;have D:=aa I;clear B z I)
 obtain⟨er,n⟩:∃er,er=L.2.1:=⟨_,rfl⟩;rw [<-n];have t:=aa n;clear n
 by_cases f:er=0
 ·have j:Hid (L.2.1=0):=aa (by rw [<-t.out];exact f);obtain⟨A,M,cc,rfl,Y,Z,U,H⟩:=(P.out j).sb;have C:=O.out j;obtain⟨b,o,u,rfl,_,J,d⟩:=H.at_ (k:=0) (by omega);obtain⟨x,g,rfl⟩:=dX J
  have i:L.1.headD 0=x:=by
   cases hl:L.1 with
   |nil=>rw [hl] at g;cases g
   |cons y r=>rw [hl] at g;simpa using g
  have S:=aa i;have W:0<M:=by omega
  have X:(0:Int)<(M:Int):=by omega
  unfold bv at d;rw [Nat.add_zero] at d;clear i J g H C U;subst f;go_wp2;rw [G.out];unfold Gn;rw [<-m.out];refine⟨?_,E,D⟩;rw [S.out,j.out]
  rfl
 ·have j:=aa f;have T:(er==0)=false:=by rw [beq_eq_false_iff_ne];exact f
  have l:Hid (L.1= []):=aa (N (by rw [<-t.out];exact f));go_wp2;rw [G.out];unfold Gn;rw [<-m.out];refine⟨?_,E,D⟩;rw [t.out,l.out];rfl
theorem Rd.next {A:Option Addr} {xs:List Value} (h:Rd w D size A n xs) (d:0<size) (y:ag S w w') (o:∀b,D b->¬S b) (c:∀b,b<w.heap.size->D b->D' b):Rd w' D' size A n xs:=
 ((h.lt d).chg y (fun b a=>o b a.1)).weak (fun b a=>c b a.2 a.1)
theorem SB.next {w w':World} {S D D':Nat->Prop} {v:Value} {bs:List UInt8} (h:SB w D v bs) (y:ag S w w') (o:∀b,D b->¬S b) (i:∀b,b<w.heap.size->D b->D' b):SB w' D' v bs:=
 let⟨A,n,c,a,d,e,f,g⟩:=h;⟨A,n,c,a,d,e,f,g.next Nat.zero_lt_one y o i⟩
theorem o8.next {w w':World} {S D D':Nat->Prop} {base fill K m c:Nat} {t:TypeId} {gv:Value} {vs vals:List Value} {A:Option Addr} (h:o8 w D base t gv vs fill K m vals A c) (y:ag S w w') (o:∀b,D b->¬S b) (k:∀b,b<w.heap.size->D b->D' b):o8 w' D' base t gv vs fill K m vals A c:=
 ⟨aD h.own y (fun g j=>o g (h.blk g j)),fun g j=>k g (ah h.own g j).2 (h.blk g j),h.len,fun i hi=>let⟨B,d,a,b,e,f⟩:=h.parts i hi;⟨B,d,a,b,e,f.next (by omega) y o k⟩,h.last.next (by omega) y o k,h.mc,h.cm⟩
theorem FL.next {w w':World} {S D D':Nat->Prop} {vs:List Value} {l:List aK} (h:FL w D vs l) (y:ag S w w') (o:∀b,D b->¬S b) (f:∀b,b<w.heap.size->D b->D' b):FL w' D' vs l:=
 fun i e g=>let⟨u,v,a,b,c,d⟩:=h i e g;⟨u,v,a,b,c.next y o f,d.next y o f⟩
theorem Dx {vs:List Value} {kv vv:Value} {iQ K:List Value} (h:ik w base ((vs.drop (k*fill*2)).take (F*2)) F F kv vv iQ K) (r:FL w D vs l) (J:k*fill+F<=l.length)
  (p:∀b,base<=b->G b) (q:∀b,D b->G b):∃d f g m,kv= .slice d F f/\vv= .slice g F m/\Tx w G d F f (((l.drop (k*fill)).take F).map Prod.fst)/\Tx w G g F m (((l.drop (k*fill)).take F).map Prod.snd):=by
 obtain⟨d,f,rfl,B,C⟩:=au h.k;obtain⟨g,m,rfl,E,H⟩:=au h.v;have hl:((l.drop (k*fill)).take F).length=F:=by rw [List.length_take,List.length_drop];omega
 have key:∀(i:Nat),i<F->∃e:aK,((l.drop (k*fill)).take F)[i]? =some e/\l[k*fill+i]? =some e:=by
  intro i hi;have:k*fill+i<l.length:=by omega
  exact⟨l[k*fill+i],by rw [List.getElem?_take,if_pos hi,List.getElem?_drop];exact List.getElem?_eq_getElem this,List.getElem?_eq_getElem this⟩
 have c:∀(i j:Nat),i<F->j<2->((vs.drop (k*fill*2)).take (F*2))[2*i+j]? =vs[2*(k*fill+i)+j]? :=by
  intro i j hi I;rw [List.getElem?_take,if_pos (by omega),List.getElem?_drop,show k*fill*2+(2*i+j)=2*(k*fill+i)+j by omega]
 refine⟨d,f,g,m,rfl,rfl,⟨B,C,aa (by rw [List.length_map,hl]),iQ,(Rd.of_own h.k).weak p,fun i t a=> ?_⟩,⟨E,H,aa (by rw [List.length_map,hl]),K,(Rd.of_own h.v).weak p,fun i t a=> ?_⟩⟩
 ·have hi:i<F:=by have:=(List.getElem?_eq_some_iff.1 a).1;rw [List.length_map,hl] at this;exact this
  obtain⟨e,n,o⟩:=key i hi;rw [List.getElem?_map,n] at a;injection a with a
  subst a;obtain⟨u,v,x,y,z,A⟩:=r _ e o;have s:=c i 0 hi (by omega);rw [Nat.add_zero,Nat.add_zero] at s
  exact⟨u,by rw [h.ku i hi,s];exact x,z.weak q⟩
 ·have hi:i<F:=by have:=(List.getElem?_eq_some_iff.1 a).1;rw [List.length_map,hl] at this;exact this
  obtain⟨e,n,o⟩:=key i hi;rw [List.getElem?_map,n] at a;injection a with a
  subst a;obtain⟨u,v,x,y,z,A⟩:=r _ e o;exact⟨v,by rw [h.vu i hi,c i 1 hi (by omega)];exact y,A.weak q⟩
theorem zM {G:World} {F:Nat->Prop} {nodes root:Int} {d:List bR} {f:Nat->bR} {hi:Nat->List UInt8} {o n:Value} (h:Lv w G F j p mm nodes root d f hi k o) (r:Below G.heap.size G q)
  {s:bR} {high:List UInt8} {id:Int} (x:Put q w' j p mm nodes root ((d++(List.range k).map f)++ [s]) w.heap.size o n (((List.range k).map fun(i:Nat)=>((d.length:Int)+(i:Int)+1,hi i))++ [(id,high)]))
  (y:s=f k) (m:id=(d.length:Int)+(k:Int)+1) (v:high=hi k) (t:∀g,o.ownBlock=some g->w.heap.size<=g):∃e,Lv w w' F e p mm nodes root d f hi (k+1) n/\∀b,b<q.heap.size->Rest j mm o b->Rest e mm n b:=by
 obtain⟨⟨e,A,B,C,D⟩,u⟩:=x;subst y;subst m;subst v;have z:=h.chg.size
 refine⟨e,⟨?_,?_,?_,fun b c=>(B b c).elim (fun l=>h.sub b l) (fun l=> .inr (by have:=r.size;omega))⟩,D⟩
 ·rw [List.range_succ,List.map_append,<-List.append_assoc];exact A
 ·rw [List.range_succ,List.map_append];exact C
 ·refine(h.chg.then r).trans u (fun b c a=> ?_)
  rcases a with(a|a)|a
  ·exact(h.sub b a).elim .inl (fun l=>by omega)
  ·exact .inr a
  ·exact absurd (t b a) (by omega)
theorem pI (d:∀e∈l,e.1.length<=1152921504606/\e.2.length<=1152921504606) (s m:Nat) (g:m<=1152921504606) (lev right:Int) (high:List UInt8) (f:high.length<=1152921504606):Small ⟨lev,high,right,((l.drop s).take m).map Prod.fst,((l.drop s).take m).map Prod.snd,[]⟩:=by
 have hl:((l.drop s).take m).length<=m:=by rw [List.length_take];exact Nat.min_le_left _ _
 have a:∀e∈(l.drop s).take m,e∈l:=fun e b=>List.mem_of_mem_drop (List.mem_of_mem_take b)
 refine⟨f,?_,?_,by simp,fun t c=> ?_,fun t c=> ?_⟩
 ·show(((l.drop s).take m).map Prod.fst).length<=_;rw [List.length_map];omega
 ·show(((l.drop s).take m).map Prod.snd).length<=_;rw [List.length_map];omega
 ·obtain⟨e,b,rfl⟩:=List.mem_map.1 c;exact(d e (a e b)).1
 ·obtain⟨e,b,rfl⟩:=List.mem_map.1 c;exact(d e (a e b)).2
theorem Dy (a b:List UInt8):(oz a b).1.length<=b.length:=by
 unfold oz;split
 ·rw [List.length_take];exact Nat.min_le_right _ _
 ·simp
theorem FM (F:Nat->Prop) (p mm:Nat) (nodes root:Int) (A:Option Addr) (n c:Nat) (l:List aK) (fill M:Nat) (w:World) (bk:dQ w F p mm nodes root []) (hE:bz w (Off F mm) A n l) (Q:n<=c) (P:c<=maxLen)
  (h1:1<=fill) (h2:fill<=1152921504606) (T:n<=1152921504606) (cd:0<n) (bj:∀e∈l,e.1.length<=1152921504606/\e.2.length<=1152921504606) (hM:n<=M*fill/\M*fill<n+fill) (ch:(M:Int)<=nodes) (H:nodes<=65536):
  Calls prog 94 #[.pointer (some ⟨mm,0,none⟩),.slice A n c,.int .i64 fill] w fun e w'=>∃x v,e= .returned v/\Lv w w' F x p mm nodes root [] (kT fill l M) (iX fill l) M v:=by
 obtain⟨i0,cj,kH,kI,kJ⟩:=info_parts lH;have am:=aa bk;have HL:=aa hE.len;obtain⟨_,vs,bh,R⟩:=hE;have HR:=aa bh;have HT:=aa (show FL w (Off F mm) vs l from R);have HS:=aa bj;clear bk bh R bj;go_enter func94,ntmps94
 go_wp2_with (go_at_call 143;refine(Dj A n c fill (Off F mm) vs w HR Q P h1 h2 T).mono ?_;rintro e w0 ⟨K,vals,A',m,c',gv,rfl,g1,g2,g3,g4,g5,g6,g7,g8,g9,ax⟩;obtain⟨r,cp,bQ,ci,cl⟩:=g1.form (by omega);subst bQ)
 have cn:0<m:=by rcases g6 with h|h;subst h;simp at g4;omega;exact h
 have bM:M=K+1:=by
  have a1:K*fill<M*fill:=by omega
  have a2:M*fill<(K+2)*fill:=by rw [Nat.add_mul];omega
  have Y:=Nat.lt_of_mul_lt_mul_right a1;have a4:=Nat.lt_of_mul_lt_mul_right a2;omega
 subst bM;have lI:∀b,Off F mm b->Rest F mm (.slice none 0 0) b:=fun b h=>⟨h,by simp [Value.ownBlock]⟩;have H0:=aa (show o8 w0 (Rest F mm (.slice none 0 0)) w.heap.size 58 (.slice (some ⟨r,0,none⟩) (K+1) cp) vs fill K m vals A' c' from⟨g1,fun g C=>by have C:some r=some g:=C;injection C with C;subst C;exact lI _ ⟨fun h=>by have:=am.out.2.1 _ h;omega,by have:=am.out.2.2.1;omega⟩,g2,fun i hi=>let⟨B,d,a,b,e,f⟩:=g3 i hi;⟨B,d,a,b,e,f.weak lI⟩,g9.weak lI,g7,g8⟩);have HN:=aa g4;have HM:=aa g5;have ae:=aa ax;clear g1 g2 g3 g4 g5 g6 g9 ax
 go_loopg [7,20] (K+1) (fun g' out i wr=>∃(k:Nat) (o:Value) (x:Nat->Prop),g'=K+1-k/\k<=K+1/\i= .int .i64 k/\o=out/\Lv w wr F x p mm nodes root [] (kT fill l (K+1)) (iX fill l) k o/\o8 wr (Rest x mm o) w.heap.size 58 (.slice (some ⟨r,0,none⟩) (K+1) cp) vs fill K m vals A' c'/\FL wr (Rest x mm o) vs l)
 case atStart=>exact⟨0,_,F,by omega,by omega,rfl,rfl,⟨am.below ae,dB.nil _ _ _,ag.of_below ae,fun b q=> .inl q⟩,H0,(HT.below ae).next (ag.refl Nil _) (fun _ _ h=>h) (fun b _ h=>lI b h)⟩
 case round=>
  obtain⟨k,o,x,C,hk,rfl,rfl,a8,a5,R⟩:=hrel;have HG:=aa C;have z:=aa a8;have Uc:=aa a5;have zL:=aa R;clear C a8 a5 R
  rename World=>wq
  by_cases bX:k<K+1
  ·obtain⟨r',ce,B,s,d,E,cr,cq,Hu,bN,bO,bP,ba⟩:=Uc.out.at_ bX;injection E with E _ Ud
   injection E with E
   injection E with E
   subst E;subst Ud;have Zt:=aa Hu;have uE:=aa ba;clear Hu ba
   have ut:k*fill+s<=l.length:=by
    have a1:=HL.out;have a2:=HN.out;have Y:=Zt.out
    by_cases D:k<K
    ·rw [if_pos D] at Y;have a4:(k+1)*fill<=K*fill:=Nat.mul_le_mul_right _ D;rw [Nat.add_mul] at a4
     omega
    ·rw [if_neg D] at Y;obtain rfl:k=K:=by omega
     omega
   have EI:s<=1152921504606:=by have:=HL.out;omega
   have Yt:0<s:=by have Y:=Zt.out;rw [Y];split<;>omega
   have Ep:=aa ut;clear ut bP;have BZ:Hid (∀g,o.ownBlock=some g->w.heap.size<=g/\Off x mm g):=aa (by obtain⟨us,a,b,_⟩:=z.out.row;exact fun g C=>⟨(ah a g C).1,b g C⟩);have sN:=aa z.chg.size;have XP:Hid (((List.range k).map (kT fill l (K+1))).length=k):=aa (by simp);go_wp2;refine J6 (Rest x mm o) vs l B s d k fill wq EI bO _ uE zL Ep ?_;intro cx cy cA cC cD cE cF cG cH cI cJ cL cM cN cP cQ cR cS cT cU cV cW cX kv vv iQ uj U aA aq ac;have gK:=aa aA;have L:=aa ac;obtain⟨kA,kc,vA,vc,rfl,rfl,tk,tv⟩:=Dx (G:=Off x mm) aq (zL.below ac) Ep (fun b q=>⟨fun h=>by have:=z.out.st.2.1 b h;omega,by have:=z.out.st.2.2.1;omega⟩) (fun b q=>q.1)
   have Tt:Hid ((∀(I:World),Below U.heap.size U I->∀u,Tx (I.setCell ⟨wq.heap.size,1,none⟩ u) (Off x mm) kA s kc (((l.drop (k*fill)).take s).map Prod.fst))/\(∀(I:World),Below U.heap.size U I->∀u,Tx (I.setCell ⟨wq.heap.size,1,none⟩ u) (Off x mm) vA s vc (((l.drop (k*fill)).take s).map Prod.snd))):=aa (by
    obtain⟨ct,cu,dq,dr,Z,e2,bY,bZ⟩:=Dx (G:=fun b=>Off x mm b/\b≠wq.heap.size) aq (FL.next zL (ag.of_below (S:=Nil) ac) (fun _ _ h=>h) (D':=fun b=>Rest x mm o b/\b<wq.heap.size) (fun b q h=>⟨h,q⟩)) Ep (fun b q=>⟨⟨fun h=>by have:=z.out.st.2.1 b h;omega,by have:=z.out.st.2.2.1;omega⟩,by omega⟩) (fun b q=>⟨q.1.1,by omega⟩);injection Z with Z _ UB
    injection e2 with e2 _ bL
    subst Z;subst UB;subst e2;subst bL;exact⟨fun I h5 u=>((bY.below h5).chg (ag.set1 _ _ _ _) (fun b q e=>q.2 e)).weak (fun b q=>q.1),fun I h5 u=>((bZ.below h5).chg (ag.set1 _ _ _ _) (fun b q e=>q.2 e)).weak (fun b q=>q.1)⟩)
   have Lm:=aa tk;have bx:=aa tv;have bb:Rest x mm o wq.heap.size:=⟨⟨fun h=>by have:=z.out.st.2.1 _ h;omega,by have:=z.out.st.2.2.1;omega⟩,fun e=>by obtain⟨us,a,_⟩:=z.out.row;have:=(ah a _ e).2;omega⟩;have ar:=aa bb;clear aA aq ac tk tv bb
   by_cases O:k<K
   ·have XT:Hid (s=fill):=aa (by have:=Zt.out;rw [if_pos O] at this;exact this);obtain⟨r2,cf,B2,Qx,d2,t,_,_,IC,J,_,_,Zu⟩:=Uc.out.at_ (show k+1<K+1 by omega);injection t with t _ be
    injection t with t
    injection t with t
    subst t;subst be;have a9:0<Qx:=by rw [IC];split<;>omega
    have ap:(k+1)*fill+Qx<=l.length:=by
     have a1:=HL.out;have a2:=HN.out
     by_cases D:k+1<K
     ·rw [if_pos D] at IC;have a4:(k+1+1)*fill<=K*fill:=Nat.mul_le_mul_right _ D;rw [Nat.add_mul (k+1)] at a4
      omega
     ·rw [if_neg D] at IC;obtain rfl:k+1=K:=by omega
      omega
    have X6:=aa ap;obtain⟨b,o1,Ak,nk,ck,Av,nv,cv,rfl,XO,Z,e2,aw,bK,ea,ao,sa,_⟩:=Am uE.out zL Ep (j:=s-1) (by omega);obtain⟨b3,o3,Bk,Qy,Tq,Bv,cw,cg,rfl,bB,f1,f2,an,PG,eb,ad,sb,_⟩:=Am Zu zL ap (j:=0) a9;rw [Nat.zero_mul,Nat.add_zero] at an;have C1:=aa (ak L aw);have C2:=aa (ak L J);have C3:=aa (ak L an);have la:ea.1.length<=1152921504606:=(HS.out _ (List.mem_of_getElem? ao)).1;have lb:eb.1.length<=1152921504606:=(HS.out _ (List.mem_of_getElem? ad)).1;have C6:=aa (sa.below L).bt;have Lx:=aa (sb.below L).bt
    have a0:Hid (iX fill l k=(oz ea.1 eb.1).1):=aa (by
     have q1:l.getD ((k+1)*fill-1) ([],[])=ea:=by
      rw [show(k+1)*fill-1=k*fill+(s-1) by have:=XT.out;rw [Nat.add_mul];omega,List.getD_eq_getElem?_getD,ao];rfl
     have q2:l.getD ((k+1)*fill) ([],[])=eb:=by
      rw [List.getD_eq_getElem?_getD];rw [Nat.add_zero] at ad;rw [ad];rfl
     unfold iX;rw [if_pos (by omega),q1,q2])
    clear ap IC Zu J aw bK an PG Z e2 f1 f2 ao ad sa sb XO bB;have Td:K<=65536:=by omega
    go_wp2;refine JK r K cp k b o1 s d wq.heap.size b3 o3 Qx d2 Ak Bk nk Qy ck Tq _ _ ea.1 eb.1 U _ (aa (fun _ _ _ _ h=>h)) O (by omega) Yt EI a9 C1.out C2.out C3.out C6 Lx la lb _ _ _ _ _ gK ?_
    intro cY c2 c3 c4 c6 c7 c8 c9 da db dc dd de df dg dj dk dl dm dn dp V X W I a6 ab;have eG:=aa ab;have nU:Hid (Below wq.heap.size wq (I.setCell ⟨wq.heap.size,1,none⟩ (.slice V X W))):=aa ((L.out.trans (ab.mono L.size)).setCell (p:=⟨wq.heap.size,1,none⟩) (Nat.le_refl _) _);have bE:Hid (aj (I.setCell ⟨wq.heap.size,1,none⟩ (.slice V X W)) wq.heap.size 132 #[.int .i64 0,.slice V X W,.int .i64 0,.slice kA s kc,.slice vA s vc,.slice none 0 0]):=aa ((gK.below ab).set_ 1 _);have co:wq.heap.size<U.heap.size:=gK.out.lt;have aE:ag (mZ wq.heap.size) I (I.setCell ⟨wq.heap.size,1,none⟩ (.slice V X W)):=ag.set1 _ _ _ _;have bp:=aa (((a6.weak (G:=fun b=>Rest x mm o b/\b≠wq.heap.size) (fun b q=>⟨⟨⟨fun h=>by have:=z.out.st.2.1 b h;have q:U.heap.size<=b:=q;omega,by have:=z.out.st.2.2.1;have q:U.heap.size<=b:=q;omega⟩,fun e=>by obtain⟨us,a,_⟩:=z.out.row;have:=(ah a _ e).2;have q:U.heap.size<=b:=q;omega⟩,by have q:U.heap.size<=b:=q;omega⟩)).chg aE (fun b q e=>q.2 e)).weak (G:=Rest x mm o) (fun b q=>q.1));clear a6 ab aE;have bm:Hid (Tx (I.setCell ⟨wq.heap.size,1,none⟩ (.slice V X W)) (Off x mm) kA s kc (((l.drop (k*fill)).take s).map Prod.fst)):=aa (Tt.1 _ eG (.slice V X W));have bo:Hid (Tx (I.setCell ⟨wq.heap.size,1,none⟩ (.slice V X W)) (Off x mm) vA s vc (((l.drop (k*fill)).take s).map Prod.snd)):=aa (Tt.2 _ eG (.slice V X W));go_wp2;refine Ty x p mm nodes root ([]++(List.range k).map (kT fill l (K+1))) ⟨0,(oz ea.1 eb.1).1,0,((l.drop (k*fill)).take s).map Prod.fst,((l.drop (k*fill)).take s).map Prod.snd,[]⟩ V kA vA none X W s kc s vc 0 0 true wq.heap.size (I.setCell ⟨wq.heap.size,1,none⟩ (.slice V X W)) w.heap.size o _ _ (aa (fun _ _ _ _ h=>h)) (z.st.below nU) (by simp;omega) H (by simp;omega) (by have:=sN.out;have:=nU.out.size;omega) bE ar bp bm bo (It.nil _ _) (pI HS _ _ EI _ _ _ (Nat.le_trans (Dy _ _) lb)) (z.row.below nU) ?_;intro b0 b1 b2 b4 b5 b6 b7 b8 b9 ca cb o' w' y
    obtain⟨Pf,Pg,t⟩:=zM z nU y (by
     have Z:s=fill:=XT.out;have e2:=a0.out;simp only [kT,Z,e2,if_pos (show k+1<K+1 by omega),if_true,List.nil_append,List.length_map,List.length_range]) (by simp) a0.out.symm (fun g C=>(BZ g C).1)
    have Te:=aa y.chg;have LV:=aa Pg;have N:=aa t;clear y Pg t;have Cc:∀b,Rest x mm o b->¬((x b\/b=mm)\/o.ownBlock=some b):=fun b q h=>h.elim (fun h=>h.elim q.1.1 q.1.2) q.2;go_wp2
    go_roundg (K+1-(k+1))
    case measure=>have:=HG.out;omega
    case rel=>exact⟨k+1,o',Pf,rfl,by omega,by go_num,rfl,LV,(Uc.below nU).next Te Cc N,(zL.below nU).next Te Cc N⟩
   ·obtain rfl:k=K:=by omega
    have a7:l.length=k*fill+s:=by have a1:=HL.out;have a2:=HN.out;have Y:=Zt.out;rw [if_neg (by omega)] at Y;omega
    have XT:s<=fill:=by have a2:=HM.out;have Y:=Zt.out;rw [if_neg (by omega)] at Y;omega
    have al:=aa a7;clear a7;go_wp2;refine Ty x p mm nodes root ([]++(List.range k).map (kT fill l (k+1))) ⟨0,[],0,((l.drop (k*fill)).take s).map Prod.fst,((l.drop (k*fill)).take s).map Prod.snd,[]⟩ none kA vA none 0 0 s kc s vc 0 0 false wq.heap.size U w.heap.size o _ _ (aa (fun _ _ _ _ h=>h)) (z.st.below L) (by simp;omega) H (by simp;omega) (by have:=sN.out;have:=L.out.size;omega) gK ar (Bt.nil _ _) Lm bx (It.nil _ _) (pI HS _ _ EI _ _ _ (by simp)) (z.row.below L) ?_;intro b0 b1 b2 b4 b5 b6 b7 b8 b9 ca cb o' w' y
    obtain⟨Pf,Pg,t⟩:=zM z L y (by
     have Z:(l.drop (k*fill)).take fill=(l.drop (k*fill)).take s:=by
      have:=al.out;rw [List.take_of_length_le (by rw [List.length_drop];omega),List.take_of_length_le (by rw [List.length_drop];omega)]
     have e2:iX fill l k= []:=by unfold iX;rw [if_neg (by have:=al.out;rw [Nat.add_mul];omega)]
     simp only [kT,Z,e2,if_neg (Nat.lt_irrefl _),Bool.false_eq_true,if_false]) (by simp) (by unfold iX;rw [if_neg (by have:=al.out;rw [Nat.add_mul];omega)]) (fun g C=>(BZ g C).1)
    have Te:=aa y.chg;have LV:=aa Pg;have N:=aa t;clear y Pg t;have Cc:∀b,Rest x mm o b->¬((x b\/b=mm)\/o.ownBlock=some b):=fun b q h=>h.elim (fun h=>h.elim q.1.1 q.1.2) q.2;go_wp2
    go_roundg (k+1-(k+1))
    case measure=>have:=HG.out;omega
    case rel=>exact⟨k+1,o',Pf,rfl,by omega,by go_num,rfl,LV,(Uc.below L).next Te Cc N,(zL.below L).next Te Cc N⟩
  ·obtain rfl:k=K+1:=by omega
   go_wp2;go_ret
   exact⟨x,_,rfl,z⟩
end Go.Proofs.YtepgcjbhabnciaaGreat
