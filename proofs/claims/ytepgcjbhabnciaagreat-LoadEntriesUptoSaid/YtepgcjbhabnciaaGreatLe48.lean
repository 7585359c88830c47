/- Part 48. -/
import Derived.Test.YtepgcjbhabnciaaGreatLe47
namespace Go.Proofs.YtepgcjbhabnciaaGreat
set_option maxRecDepth 100000
set_option maxHeartbeats 8000000
open Go.Proofs.Tryz Go.RowKit
variable {F D:Nat->Prop} {w w':World} {vs:List Value}
theorem tL (w:World):(sizeOf (prog.elem 58)).run prog w= .ok 2 w:=by kernel_rfl
theorem zy:prog.underlying 58=some (.slice (prog.elem 58)):=by kernel_rfl
theorem Ky:(prog.info? 69).map (fun i=>(i.zero,i.size,i.bytes))=some (some (.agg #[.slice none 0 0,.slice none 0 0]),2,48):=by kernel_rfl
theorem Re {A:Option Addr} {n c:Nat} (h:Rd w F 2 A n vs) (Q:n<=c):
  ∃a d,(∀w',(Instr.slice 58 (.slice A n c) none (some (.int .i64 n)) none).run prog w'= .ok (.slice a n c) w')/\Rd w F 2 a n vs/\
   (∀w',(Instr.slice 58 (.slice A n c) (some (.int .i64 n)) none none).run prog w'= .ok (.slice d 0 (c-n)) w'):=by
 refine⟨if c=0 then A else A.map (·.add 0),if c=n then A else A.map (·.add (n*2)),fun w'=> ?_,?_,fun w'=> ?_⟩
 ·rw [run_slice_h w' _ A n c zy .i64 n (by omega) (by omega),tL]
  simp [Result.andThen,sliced]
 ·have b:=h.cut (k:=0) (cap:=c) (by omega) Q;simp at b
  exact b
 ·rw [run_slice_l w' _ A n c zy .i64 n (by omega) (by omega),tL];simp [Result.andThen,sliced]
theorem OC {F:List aK} {m:Nat} (hl:vs.length=m*2) (p:m=F.length) (k:∀(i:Nat) (e:aK),F[i]? =some e->∃u v,vs[2*i]? =some u/\vs[2*i+1]? =some v/\SB w D u e.1/\SB w D v e.2):∀u∈vs,u.oneCell'=true:=by
 intro u l;obtain⟨j,f,rfl⟩:=List.mem_iff_getElem.mp l;have hi:j/2<F.length:=by omega
 obtain⟨a,b,c,d,n,o⟩:=k (j/2) F[j/2] (List.getElem?_eq_getElem hi);have key:∀(x:Value) (t:List UInt8),SB w D x t->x.oneCell'=true:=fun x t h=>by obtain⟨_,_,_,rfl,_⟩:=h;rfl
 by_cases h:2*(j/2)=j
 ·rw [h,List.getElem?_eq_getElem f] at c;injection c with c
  rw [c];exact key _ _ n
 ·have g:2*(j/2)+1=j:=by omega
  rw [g,List.getElem?_eq_getElem f] at d;injection d with d
  rw [d];exact key _ _ o
structure RX (w:World) (F Dr:Nat->Prop) (z q p base:Nat) (A:Option Addr) (n cc:Nat) (us:List Value) (K:Nat) (r:bg) (LA:Option Addr) (LC:Nat):Prop where
 sit:Sit F q p base
 zs:Zs z q p base
 nFz:¬F z
 bw:base<=w.heap.size
 rblk:aj w z 103 #[.pointer (some ⟨q,0,none⟩),.bool (decide (r.st=1)),.bool false,.int .i64 r.err,.int .i64 (r.bad:Nat),.slice A n cc,.slice LA 0 LC]
 rows:aX w base Dr (.slice A n cc) n r.rows us
 iny:eY w F q p r.cur
 drl:∀b,Dr b->base<=b/\b<w.heap.size
 ok:r.Ok K
 go:r.st≠2
theorem OD (z q p base K:Nat) (F Dr:Nat->Prop) (A c:Option Addr) (n cc t:Nat) (us:List Value) (r:bg) (w:World) (h:RX w F Dr z q p base A n cc us K r c t) (d:K<=1152921504606846976):
  Calls prog 35 #[.pointer (some ⟨z,0,none⟩)] w (oo F z q p base Dr c t A n cc us r.next.1 r.next.2 w):=by
 have g:=h.ok.st;have f:=h.go;have a:=h.rblk
 by_cases b:r.st=1
 ·have e:decide (r.st=1)=true:=decide_eq_true b;rw [e] at a
  exact Gj F Dr z q p base K c t A n cc us r w h.sit h.zs h.nFz h.bw a h.rows h.iny h.ok b d
 ·have e:decide (r.st=1)=false:=decide_eq_false b;rw [e] at a;exact DV F Dr z q p base K c t A n cc us r w h.sit h.zs h.nFz h.bw a h.rows h.iny h.ok (by omega) d
def Vi (z q p lo:Nat):Nat->Prop:=fun b=>b=z\/b=q\/b=p\/lo<=b
def TE (F:Nat->Prop) (z q p base K:Nat) (f:bg) (w:World) (g:Nat) (e:Value) (wr:World):Prop:=
 ∃(r:bg) (out:List aK) (Dr:Nat->Prop) (A:Option Addr) (n cc:Nat) (us:List Value) (c:Option Addr) (d:Nat) (a:Option Addr) (b:Nat) (vs:List Value),
  g=8388609-r.rows.length/\e= .slice a out.length b/\RX wr F Dr z q p base A n cc us K r c d/\uy wr base (uZ Dr (.slice A n cc)) Dr (.slice a out.length b) vs out/\Came f out r/\out.length<=64*r.rows.length/\ag (Vi z q p base) w wr
structure ZM (F:Nat->Prop) (z q p base:Nat) (r0:bg) (w:World) (e:Ending) (w':World):Prop where
 out:∃(out:List aK) (rf:bg) (A:Option Addr) (c:Nat),kP r0 out rf/\e= .returned (.slice A out.length c)/\out.length<=536870912/\bz w' (From base) A out.length out/\
  (∃v0 v1 v2 v5 v6,aj w' z 103 #[v0,v1,v2,.int .i64 rf.err,.int .i64 (rf.bad:Nat),v5,v6])/\dO w' F p rf.cur.src
 chg:ag (Vi z q p base) w w'
theorem OE (F:Nat->Prop) (z q p base K:Nat) (r:bg) (w:World) (h:RX w F Nil z q p base none 0 0 [] K r none 0) (hK:K<=1152921504606846976) (ae:r.rows= []):
  Calls prog 43 #[.pointer (some ⟨z,0,none⟩),.int .i64 4611686018427387904] w (ZM F z q p base r w):=by
 obtain⟨i0,ar,aA,aE,a0⟩:=info_parts Ky;refine letter fun R HR=> ?_;have H0:Hid (TE F z q p base K r w 8388609 (.slice none 0 0) w):=aa ⟨r,[],Nil,none,0,0,[],none,0,none,0,[],by rw [ae];simp,rfl,h,uy.nil _ _ _ _ (fun b a=>a.1.elim),Came.nil r,by simp,ag.refl _ _⟩;clear h ae;go_enter func43,ntmps43
 go_wp2
 go_loopg [5] 8388609 (fun g' ov wz=>Hid (TE F z q p base K r w g' ov wz))
 case atStart=>exact H0
 case round=>
  obtain⟨r1,out,Dr,A,n,cc,us,LA,LC,oA,oc,vs,Tf,rfl,Y,jO,YR,hN,hC⟩:=hrel;have an:=aa Tf;have c:=aa Y;have v:=aa jO;have S:=aa YR;have HN:=aa hN;have HC:=aa hC;have i:=OD z q p base K F Dr A LA n cc LC us r1 wr Y hK;have qb:=aa i;have CW:=aa (bg.next_ok Y.ok);have aw:out.length<=536870912:=by have G:=Y.ok.rows.many;omega
  have a6:((out.length:Nat):Int)<4611686018427387904:=by omega
  clear Tf Y jO YR hN hC i;obtain⟨nx,i⟩:∃x,x=r1.next:=⟨_,rfl⟩;have gm:=aa i;rw [<-i] at qb CW;obtain⟨o,N⟩:=nx;clear i
  have YT:Hid (∀w',ag (Fs z q p wr.heap.size (.slice A n cc)) wr w'->ag (Vi z q p base) w w'):=aa (fun w' hc=>HC.out.trans hc (fun b a e=>by
   have a4:=c.out.bw
   rcases e with e|e|e|e|e
   ·exact .inl e
   ·exact .inr (.inl e)
   ·exact .inr (.inr (.inl e))
   ·have:=(ah c.rows.own b e).1;exact .inr (.inr (.inr (by omega)))
   ·exact .inr (.inr (.inr (by omega)))))
  have U:Hid (∀b,base<=b->b<wr.heap.size->¬Dr b->¬Fs z q p wr.heap.size (.slice A n cc) b):=aa (fun b h1 G h3 e=>by
   have t:=c.out.sit;have hz:=c.out.zs.lt
   rcases e with e|e|e|e|e
   ·omega
   ·have:=t.qB;omega
   ·have:=t.pB;omega
   ·exact h3 (c.rows.dom b e)
   ·omega)
  have BN:Hid (∀b,uZ Dr (.slice A n cc) b->¬Fs z q p wr.heap.size (.slice A n cc) b):=aa (fun b a e=>by
   have t:=c.out.sit;have hz:=c.out.zs.lt;have P:=c.out.drl b a.1
   rcases e with e|e|e|e|e
   ·omega
   ·have:=t.qB;omega
   ·have:=t.pB;omega
   ·exact a.2 e
   ·omega)
  cases o with
  |none=>
   go_wp2_with (go_at_call 35;go_loud (refine qb.mono ?_);intro e C J;have M:=aa J;obtain⟨rfl,_⟩:=J.no rfl;clear J)
   rw [HR.out];obtain⟨_,_,⟨v1,aq⟩,Ag⟩:=M.out.no rfl;have l:=gm.out
   have Fe:kP r out N:=by
    have G:=S.out.stop (by rw [<-l]);rw [<-l] at G;exact G
   exact⟨⟨out,N,oA,oc,Fe,rfl,aw,(v.chg M.chg (fun g s=>U g (ah v.own g s).1 (ah v.own g s).2 (v.ne g s)) BN).ents rfl (Nat.le_refl _) (fun b a=>(c.drl b a.1).1),⟨_,_,_,_,_,aq⟩,Ag⟩,YT _ M.chg⟩
  |some u=>
   go_upto_region 6 with(go_at_call 35;go_loud (refine qb.mono ?_);intro e C J;have M:=aa J;obtain⟨eA,m,ec,Q,n',iW,kF,rfl,g1,g2,g3,g4,g5,g6,g7⟩:=J.yes u rfl;have G1:=aa g1;have G2:=aa g2;have G3:=aa g3;have G4:=aa g4;have G5:=aa g5;have G6:=aa g6;have G7:=aa g7;have a5:m<=64:=(by have h1:=g3.len;have G:=(CW.out.2 u rfl).most;omega);have Hu:min (m:Int) (4611686018427387904-(out.length:Int))=(m:Int):=(by omega);clear J g1 g2 g3 g4 g5 g6 g7)
   have Z:=CW.out.2 u rfl;have l:r1.next.1=some u/\r1.next.2=N:=by have:=gm.out;rw [<-this];exact⟨rfl,rfl⟩
   have al:=M.out.chg.size;obtain⟨j,f⟩:∃D:Nat->Prop,D=fun b=>Dr b\/(wr.heap.size<=b/\b<C.heap.size):=⟨_,rfl⟩
   have H:∀b,j b->base<=b/\b<C.heap.size:=fun b a=>by
    rw [f] at a
    rcases a with a|a
    ·have:=c.out.drl b a;omega
    ·have:=c.out.bw;omega
   have ab:uy C base (uZ j (.slice Q n' iW)) j (.slice oA out.length oc) vs out:=v.out.step M.chg (fun g s=>U g (ah v.own g s).1 (ah v.own g s).2 (v.ne g s)) BN
    (fun b a P=>⟨by rw [f];exact .inl P.1,fun e=>by
     rcases G7.out b e with h|h
     ·exact P.2 h
     ·omega⟩)
    (fun g s hn P=>by
     rw [f] at P
     rcases P with h|h
     ·exact hn h
     ·omega)
    (fun b a=>⟨a.1,(H b a.1).2⟩)
   obtain⟨ac,a1,L,I⟩:bz C (uZ j (.slice Q n' iW)) eA m u:=G3.out.weak (fun b a=>⟨by rw [f];exact .inr ⟨a.1,a.2.1⟩,a.2.2⟩);obtain⟨A6,A7,a2,ZN,a3⟩:=Re L G1.out;have Vj:m=u.length:=ac;have B:=OC L.1 Vj I;have ao:=aa B;have W:=aa ab;have am:=aa I;have uf:=aa ZN;have k:=aa H;have kG:=aa f;have E:=aa Z;have wK:=aa l;have Po:=aa Vj;have ZO:base<=C.heap.size:=Nat.le_trans c.bw al;clear Z l al H f ab ac L I ZN Vj B;go_upto_region 7 with(at_builtin;go_loud (refine af _ rfl (.tmp 27) (.tmp 30) _ rfl base 69 i0 _ 2 48 underlying58 ar aA aE a0 rfl (by decide) (.slice oA out.length oc) out.length vs rfl W.own (uZ j (.slice Q n' iW)) A6 m ec a1 rfl uf ao (by simp only [maxLen];omega) (by omega) ZO ?_);intro v6 O d ad jP;obtain⟨K5,c5,ax,_,_⟩:=au d;subst ax;have lG:=aa d;have vw:=aa ad;have M9:=aa jP;clear d ad jP)
   have Pk:aj O z 103 #[.pointer (some ⟨q,0,none⟩),.bool true,.bool false,.int .i64 N.err,.int .i64 (N.bad:Nat),.slice Q n' iW,.slice LA 0 LC]:=G6.out.chg (ag.of_grown vw) (fun e=>by have:=(ah W.own z e).1;have:=c.out.zs.lt;omega);have Tz:=aa Pk;have y6:O.cell? ⟨z,6,none⟩=some (.slice LA 0 LC):=Pk.cell 6;have yf:=Pk.frozen 6;clear Pk;go_wp2
   go_roundg (8388609-N.rows.length)
   case measure=>
    have h1:=an.out;have G:=E.out.rows;have h4:=E.out.ok.rows.many
    omega
   case rel=>
    have X:ag (fun b=>b=z) O (O.setCell ⟨z,6,none⟩ (.slice A7 0 (ec-m))):=(ag.refl (fun b=>b=z) O).setCell (p:=⟨z,6,none⟩) (fun _=>rfl) _;have ap:ag (fun b=>base<=b/\¬j b) C O:=(ag.of_grown vw).mono (fun b _ e=>⟨(ah W.own b e).1,W.ne b e⟩);have V:ag (fun b=>b=z\/base<=b/\¬j b) C (O.setCell ⟨z,6,none⟩ (.slice A7 0 (ec-m))):=(ap.mono (T:=fun b=>b=z\/base<=b/\¬j b) (fun b _ e=> .inr e)).trans X (fun b _ e=> .inl e)
    have XW:∀b,j b->¬(b=z\/base<=b/\¬j b):=fun b a e=>by
     rcases e with e|e
     ·have:=(k.out b a).1;have:=c.out.zs.lt;omega
     ·exact e.2 a
    have Az:=(W.out.cat lG.out vw (M9.out.imp id (fun h=>⟨_,h,fun a=>by have:=(k.out _ a).2;omega⟩)) Po am).chg X (fun g s e=>by have h1:=(ah lG g s).1;have:=c.out.zs.lt;omega) (fun b a e=>by have:=(k.out b a.1).1;have:=c.out.zs.lt;omega);have y:(out++u).length=out.length+m:=by rw [List.length_append,Po.out]
    refine aa ⟨N,out++u,j,Q,n',iW,kF,A7,ec-m,K5,c5,_,rfl,by rw [y],?_,by rw [y];exact Az,by have:=S.out.more wK.1;rw [wK.out.2] at this;exact this,?_,?_⟩
    ·have t:=c.out.sit;have a:=c.out.zs.lt
     exact⟨t,c.zs,c.nFz,Nat.le_trans ZO V.size,by rw [E.out.st];exact Tz.set_ 6 _,by rw [kG.out] at XW|-;exact G4.out.chgD V (fun b a _=>by rw [kG.out];exact XW b a),
      G5.out.chg V (fun e=>by rcases e with e|e;exact c.zs.zq e.symm;have:=t.qB;omega) (fun e=>by rcases e with e|e;exact c.zs.zp e.symm;have:=t.pB;omega) (fun b a e=>by rcases e with e|e;exact c.nFz (e▸a);have:=t.lt b a;omega),
      fun b a=>⟨(k b a).1,Nat.lt_of_lt_of_le (k b a).2 V.size⟩,E.ok,by rw [E.out.st];decide⟩
    ·have h1:=HN.out;have G:=E.out.rows;have h3:=E.out.most;rw [List.length_append]
     omega
    ·exact(YT _ M.chg).trans V (fun b _ e=>by rcases e with e|e;exact .inl e;exact .inr (.inr (.inr e.1)))
structure OG (F:Nat->Prop) (p:Nat) (s:Src) (w:World) (e:Ending) (w':World):Prop where
 out:∃(out:List aK) (rf:bg) (lv:Value) (a:Int),kP (vg s) out rf/\e= .returned (.tuple #[lv,.int .i64 rf.err,.int .i64 a])/\dO w' F p rf.cur.src/\
  (rf.err≠0->lv= .slice none 0 0/\a=(rf.bad:Nat))/\(rf.err=0->∃A c,lv= .slice A out.length c/\bz w' (From w.heap.size) A out.length out)/\out.length<=536870912
 chg:ag (fun b=>b=p) w w'
theorem Ai (F:Nat->Prop) (p K:Nat) (s:Src) (w:World) (M:dO w F p s) (L:(vg s).Ok K) (X:K<=1152921504606846976) (o:p<w.heap.size) (I:∀b,F b->b<w.heap.size/\b≠p):
  Calls prog 18 #[.pointer (some ⟨p,0,none⟩)] w (OG F p s w):=by
 refine letter fun R B=> ?_;have P:=aa M;have O:=aa L;have r:=aa I;have z:=aa o;clear M L o I;go_enter func18,ntmps18
 go_upto_region 4 with(go_at_call 28;go_loud (refine(vN p w).mono ?_);rintro e w1 ⟨rfl,g,j,v⟩)
 have H2:=aa j;have x:=z.out;have N:w.heap.size+1<w1.heap.size:=j.lt
 have J:RX w1 F Nil (w.heap.size+1) w.heap.size p w1.heap.size none 0 0 [] K (vg s) none 0:=
  {sit:=⟨fun e=>(r p e).2 rfl,fun e=>by have:=(r.out _ e).1;omega,by omega,fun b k=>by have:=(r.out b k).1;omega,by omega,by omega⟩
   zs:=⟨by omega,by omega,N⟩
   nFz:=fun e=>by have:=(r.out _ e).1;omega
   bw:=Nat.le_refl _
   rblk:=j
   rows:=aX.nil _ _
   iny:=⟨g,P.below v,rfl⟩
   drl:=fun b k=>k.elim
   ok:=O.out
   go:=by simp [vg]}
 have Z:=aa (OE F (w.heap.size+1) w.heap.size p w1.heap.size K (vg s) w1 J X rfl);have m:=aa v;clear g j v J x N;go_upto_region 5 with(go_at_call 43;go_loud (refine Z.mono ?_);intro e w2 i;have Q:=aa i;obtain⟨out,d,A,c,D,rfl,E,G,⟨v0,v1,v2,v5,v6,u⟩,H⟩:=i.out;clear i)
 have t:=aa (And.intro D (And.intro E (And.intro G H)));have z3:w2.cell? ⟨w.heap.size+1,3,none⟩=some (.int .i64 d.err):=u.cell 3;have z4:w2.cell? ⟨w.heap.size+1,4,none⟩=some (.int .i64 (d.bad:Nat)):=u.cell 4
 have f:∀(lv:Value) (a:Int) (n:Nat),(d.err≠0->lv= .slice none 0 0/\a=(d.bad:Nat))->(d.err=0->lv= .slice A out.length c)->OG F p s w (.returned (.tuple #[lv,.int .i64 d.err,.int .i64 a])) (w2.drewN n):=fun lv a n g j=>by
  obtain⟨T,U,V,W⟩:=t.out;have o:=z.out;have y:=m.out.size;refine⟨⟨out,d,lv,a,T,rfl,W.nil ((ag.refl Nil w2).drewN n),g,fun h=>⟨A,c,j h,(V.chg ((ag.refl Nil w2).drewN n) (fun _ _ h=>h)).weak (fun b k=>Nat.le_trans y k)⟩,U⟩,?_⟩
  exact((ag.of_below (S:=fun b=>b=p) m).trans Q.chg (fun b k e=>by
   rcases e with e|e|e|e
   ·omega
   ·omega
   ·exact e
   ·omega)).drewN n
 have C:=aa f;clear f D E G u H
 by_cases l:d.err=0
 ·have q:=aa l;rw [l] at z3;clear l;go_wp2;go_ret3
  rw [B.out];have g:=C.out (.slice A out.length c) 0 0 (fun h=>absurd q.out h) (fun _=>rfl);rw [q.out] at g
  exact g
 ·have Y:(d.err==0)=false:=by rw [beq_eq_false_iff_ne];exact l
  have q:=aa l;clear l;go_upto_region 6 with fail
  go_quiet (fail);go_wp2;go_ret3
  rw [B.out];exact C _ _ nq (fun _=>⟨rfl,rfl⟩) (fun h=>absurd h q)
def nX (bA gA:Option Addr) (bn bc gn gc:Nat) (f:Int) (a:Bool):Array Value:= #[.slice bA bn bc,.slice gA gn gc,.int .i64 f,.bool a,.int .i64 0,.int .i64 0,.bool false,.slice none 0 0,.slice none 0 0,.int .u8 0,.int .u8 0,.slice none 0 0]
theorem Jy {bA gA:Option Addr} {bn bc gn gc:Nat} {bs:List UInt8} {k:List Int} {f:Int} {a:Bool} {t:Nat} (d:aj w t 34 (nX bA gA bn bc gn gc f a)) (b:SB w F (.slice bA bn bc) bs) (c:Rd w F 1 gA gn (jw k)) (e:bn<=1048576):dO w F t ⟨bs,k,f,a,0⟩:=
 ⟨bA,gA,bn,bc,gn,gc,0,bs,_,_,_,_,_,d,c,b,by simp,Nat.zero_le _,by omega⟩
theorem M4 (w:World):Calls prog 17 #[.nilIface] w fun e w'=>∃a,e= .returned (.tuple #[.slice none 0 0,a])/\mr w' w.heap.size a 1 0/\Below w.heap.size w w':=by
 go_enter func17,ntmps17
 go_wp2_with (go_at_call 30;go_loud (refine(iN 1 0 w (by decide)).mono ?_);rintro e w2 ⟨rfl,b,c⟩;have d:=aa b;have f:=aa c;clear b c)
 go_ret2
 exact⟨_,rfl,.inr ⟨by decide,_,rfl,d,Nat.le_refl _⟩,f⟩
theorem M5 (nd lf inn fl bl:Int) (w:World) (g:dx nd lf inn fl bl):
  Calls prog 7 #[.agg #[.int .i64 nd,.int .i64 lf,.int .i64 inn,.int .i64 fl,.int .i64 bl],.nilIface] w fun e w'=>e= .returned (.tuple #[.pointer none,.int .i64 1])/\Below w.heap.size w w':=by
 have d:=aj.new w 23 #[.int .i64 nd,.int .i64 lf,.int .i64 inn,.int .i64 fl,.int .i64 bl];have c:Below w.heap.size w (w.alloc (.cells #[.int .i64 nd,.int .i64 lf,.int .i64 inn,.int .i64 fl,.int .i64 bl] 23)):=(Below.refl _ _).alloc (Nat.le_refl _) _;have a:=aa c;have h:=aa (Ip nd lf inn fl bl Nil (w.alloc (.cells #[.int .i64 nd,.int .i64 lf,.int .i64 inn,.int .i64 fl,.int .i64 bl] 23)) g);obtain⟨j,k,l,m,n⟩:=CR d;clear d c g;go_enter func7,ntmps7
 go_wp2_with (go_at_call 25;go_loud (refine h.mono ?_);rintro e w1 ⟨pb,rfl,i,b⟩;have f:=aa b;clear i b)
 go_ret2
 exact⟨rfl,a.out.trans (f.mono a.size)⟩
theorem M6 (nd lf inn fl bl:Int) (w:World) (g:dx nd lf inn fl bl):
  Calls prog 15 #[.agg #[.int .i64 nd,.int .i64 lf,.int .i64 inn,.int .i64 fl,.int .i64 bl],.nilIface] w fun e w'=>∃d,e= .returned (.tuple #[.pointer none,d])/\mr w' w.heap.size d 1 0/\Below w.heap.size w w':=by
 have i:=aj.new w 23 #[.int .i64 nd,.int .i64 lf,.int .i64 inn,.int .i64 fl,.int .i64 bl];have h:Below w.heap.size w (w.alloc (.cells #[.int .i64 nd,.int .i64 lf,.int .i64 inn,.int .i64 fl,.int .i64 bl] 23)):=(Below.refl _ _).alloc (Nat.le_refl _) _;have c:=aa h;have l:=aa (M5 nd lf inn fl bl (w.alloc (.cells #[.int .i64 nd,.int .i64 lf,.int .i64 inn,.int .i64 fl,.int .i64 bl] 23)) g);obtain⟨o,p,q,r,s⟩:=CR i;clear i h g;go_enter func15,ntmps15
 go_wp2_with (first|(go_at_call 7;go_loud (refine l.mono ?_);rintro e w1 ⟨rfl,a⟩;have b:=aa a;clear a)|(go_at_call 30;go_loud (refine(iN 1 0 w1 (by decide)).mono ?_);rintro e w2 ⟨rfl,a,f⟩;have j:=aa a;have k:=aa f;clear a f))
 go_ret2
 have m:=c.out.size;have n:=b.out.size;exact⟨_,rfl,.inr ⟨by decide,_,rfl,j,by omega⟩,(c.out.trans (b.mono m)).trans (k.mono (by omega))⟩
theorem mr.bel {s:Nat} {v:Value} {e a:Int} (h:mr w s v e a) (b:Below w.heap.size w w'):mr w' s v e a:=h.chg (S:=Nil) (ag.of_below b) (fun _ _ h=>h)
theorem Qg {s:Src} (h:CZ s):(vg s).Ok 17825808:=(vk h iB.1).rdr
theorem Ff (bA gA:Option Addr) (bn bc gn gc:Nat) (bs:List UInt8) (k:List Int) (f:Int) (a:Bool) (w:World) (A:SB w (fun b=>b<w.heap.size) (.slice bA bn bc) bs) (hg:Rd w (fun b=>b<w.heap.size) 1 gA gn (jw k)) (x:bs.length<=1048576) (ac:k.length<=1048576):
  Calls prog 4 #[.agg #[.slice bA bn bc,.slice gA gn gc,.int .i64 f,.bool a]] w fun e w'=>e= .returned (.bool true)/\Below w.heap.size w w':=by
 refine letter fun R HR=> ?_;obtain⟨src,j⟩:∃s,s=(⟨bs,k,f,a,0⟩:Src):=⟨_,rfl⟩;have YX:=aa j;have aw:Hid (CZ src):=aa (by rw [j];exact⟨x,ac,rfl⟩);have bj:bn<=1048576:=by rw [A.parts.2.2.1];exact x
 have bk:gn<=1048576:=by have:=hg.1;simp [jw] at this;omega
 obtain⟨n,m⟩:∃W,W=w.alloc (.cells #[.slice bA bn bc,.slice gA gn gc,.int .i64 f,.bool a] 27):=⟨_,rfl⟩;have q:Below w.heap.size w n:=by rw [m];exact(Below.refl _ _).alloc (Nat.le_refl _) _
 have ae:n.heap.size=w.heap.size+1:=by rw [m];simp
 have Jz:Hid (aj n w.heap.size 27 #[.slice bA bn bc,.slice gA gn gc,.int .i64 f,.bool a]):=aa (by rw [m];exact aj.new _ _ _);have J:=aa q;have sN:=aa ae;have Lx:=aa (A.below q);have HG:=aa (hg.below q);have lJ:=aa (C4 n);have be:bn<=1152921504606:=by omega
 clear j A hg x ac q ae;go_enter func4,ntmps4
 go_upto_region 1 with fail
 rw [<-m];clear m;go_upto_region 2 with(go_at_call 5;go_loud (refine lJ.mono ?_);rintro e w1 ⟨rfl,c⟩;have d:=aa c;clear c)
 have L:=aa (Jz.below d);have EH:=aa (Lx.below d);have xC:=aa (HG.below d);have ba:n.heap.size<=w1.heap.size:=d.out.size;have f0:w1.cell? ⟨w.heap.size,0,none⟩=some (.slice bA bn bc):=L.out.cell 0;have f1:w1.cell? ⟨w.heap.size,1,none⟩=some (.slice gA gn gc):=L.out.cell 1;have f2:w1.cell? ⟨w.heap.size,2,none⟩=some (.int .i64 f):=L.out.cell 2;have f3:w1.cell? ⟨w.heap.size,3,none⟩=some (.bool a):=L.out.cell 3;have BO:=aa (oO _ bn bc gn gc bA gA bs k f a w1 EH.parts.2.2.2 EH.parts.2.2.1 (by omega) xC (by omega));rw [<-YX.out] at BO;go_upto_region 3 with(go_at_call 6;go_loud (refine BO.mono ?_);rintro e w2 ⟨p,rfl,h1,h2,h3,h4⟩;have an:=aa h1;have ao:=aa h2;have ap:=aa h3;have N:=aa h4;clear h1 h2 h3 h4)
 have Jw:=aa (L.below N);have ar:=aa (EH.below N);have xD:=aa (xC.below N);have bo:w1.heap.size<=w2.heap.size:=N.out.size;clear f0 f1 f2 f3;have f0:w2.cell? ⟨w.heap.size,0,none⟩=some (.slice bA bn bc):=Jw.out.cell 0;have f1:w2.cell? ⟨w.heap.size,1,none⟩=some (.slice gA gn gc):=Jw.out.cell 1;have f2:w2.cell? ⟨w.heap.size,2,none⟩=some (.int .i64 f):=Jw.out.cell 2;have f3:w2.cell? ⟨w.heap.size,3,none⟩=some (.bool a):=Jw.out.cell 3;go_upto_region 4 with fail
 obtain⟨o,r⟩:∃W,W=w2.alloc (.cells (nX bA gA bn bc gn gc f a) 34):=⟨_,rfl⟩;have UA:=r;unfold nX at UA;rw [<-UA];have g:Below w2.heap.size w2 o:=by rw [r];exact(Below.refl _ _).alloc (Nat.le_refl _) _
 have ma:Hid (aj o w2.heap.size 34 (nX bA gA bn bc gn gc f a)):=aa (by rw [r];exact aj.new _ _ _);have aA:Hid (fo o (fun b=>w1.heap.size<=b/\b<p) p src):=aa (ap.below g);have YZ:Hid (dO o (fun b=>b<w.heap.size) w2.heap.size src):=aa (by rw [YX.out];exact Jy ma (ar.below g) (xD.below g) (by omega));have al:Hid (Below n.heap.size n o):=aa ((d.out.trans (N.mono ba)).trans (g.mono (by omega)));have bb:w2.heap.size<o.heap.size:=ma.out.lt;have bm:w1.heap.size<=p:=an.out;have a9:p<w2.heap.size:=ao.out;obtain⟨t,ht⟩:∃t,t=w2.heap.size:=⟨_,rfl⟩;have HT:=aa ht;rw [<-ht] at YZ bb a9|-;have bh:=sN.out;clear f0 f1 f2 f3 r UA g ht;have rJ:=aa (Qg aw);have pX:=aa (CY (fun b=>w1.heap.size<=b/\b<p) p 17825808 src o aA rJ (by omega) (by omega) (fun b c=>⟨by omega,by omega⟩));go_upto_region 5 with(go_at_call 17;go_loud (refine pX.mono ?_);rintro e w4 z;have u:=aa z;obtain⟨out,rf,lv,ev,O,rfl,G,P,Q,S,a6⟩:=z.out;clear z)
 have bp:o.heap.size<=w4.heap.size:=u.out.chg.size;have I:=aa (And.intro O (And.intro G (And.intro P (And.intro Q (And.intro S a6)))));clear O G P Q S a6;have aE:=aa (Ai (fun b=>b<w.heap.size) t 17825808 src w4 (YZ.chg u.chg (by omega) (fun b c e=>by omega)) rJ (by omega) (by omega) (fun b c=>⟨by omega,by omega⟩));go_upto_region 6 with(go_at_call 18;go_loud (refine aE.mono ?_);rintro e C Yw;have M:=aa Yw;obtain⟨M7,bB,Pg,ra,b1,rfl,b2,b3,b4,b5⟩:=Yw.out;clear Yw)
 have bx:w4.heap.size<=C.heap.size:=M.out.chg.size;obtain⟨O,G,P,Q,S,a6⟩:=I.out;obtain⟨rfl,rfl⟩:=kP.unique O b1
 have hl:∃(D E:Option Addr) (B c1 n2 T:Nat) (l:List aK),lv= .slice D B c1/\Pg= .slice E n2 T/\bz C (fun _=>True) D B l/\bz C (fun _=>True) E n2 l/\B<=1152921504606:=by
  by_cases y:rf.err=0
  ·obtain⟨D,B,c1,e1,U⟩:=S y;obtain⟨E,T,e3,e4⟩:=b4 y;have h1:=U.len
   exact⟨D,E,B,c1,out.length,T,out,e1,e3,(U.chg M.chg (fun b c e=>by have c:o.heap.size<=b:=c;omega)).weak (fun _ _=>trivial),e4.weak (fun _ _=>trivial),by omega⟩
  ·exact⟨none,none,0,0,0,0,[],Q y,(b3 y).1,bz.nil _ _ _,bz.nil _ _ _,by omega⟩
 have ab:mr C o.heap.size ev rf.err ra:=by
  by_cases y:rf.err=0
  ·rcases G with h|⟨h,_⟩
   ·exact .inl h
   ·exact absurd y h
  ·rw [(b3 y).2];exact G.chg M.chg (fun b c e=>by omega)
 have ad:fo C (fun b=>w1.heap.size<=b/\b<p) p rf.cur.src:=P.chg M.chg (by omega) (fun b c e=>by omega);have Qh:Below n.heap.size n C:=(al.out.trans (u.chg.below_of (by omega) (fun b c e=>by omega))).trans (M.chg.below_of (by omega) (fun b c e=>by omega));obtain⟨D,E,B,c1,n2,T,l,rfl,rfl,e1,U,e3⟩:=hl;have C6:=aa (sameAll_eq _ _ D E B c1 n2 T l C e1 U e3);have am:=aa ab;have ax:=aa ad;have aq:=aa b2;have eG:=aa Qh;clear ab ad Qh e1 U e3 O G P Q S a6 b1 b2 b3 b4 b5 I;go_upto_region 7 with(first|(go_at_call 19;go_loud (refine C6.mono ?_);rintro e w6 ⟨rfl,h6⟩;have H6:=aa h6;clear h6)|(go_at_call 13;go_loud (refine(pu _ _ _ _ _ (am.bel H6)).mono ?_);rintro e w7 ⟨rfl,h7⟩;have H7:=aa (H6.out.trans (h7.mono H6.size));clear h7)|(go_at_call 14;go_loud (refine(JA _ _ _ _ rf.cur.src w7 (ax.below H7) (aq.below H7)).mono ?_);rintro e w8 ⟨rfl,h8⟩;have H8:=aa (H7.out.trans (h8.mono H7.size));clear h8))
 go_upto_region 8 with(go_at_call 17;go_loud (refine(M4 _).mono ?_);rintro e w9 ⟨a8,rfl,h9,Z⟩;have K:=aa h9;have H9:=aa Z;clear h9 Z)
 go_upto_region 9 with(first|(go_at_call 20;go_loud (refine(C8 _).mono ?_);rintro e kw ⟨rfl,V⟩;have Y1:=aa V;clear V)|(go_at_call 15;go_loud (refine(M6 9 4 3 2 1 kw iB.1).mono ?_);rintro e F ⟨a0,rfl,X,Y2⟩;have Y3:=aa X;have H:=aa Y2;clear X Y2))
 have Y4:Hid (Below n.heap.size n F):=aa (by
  have q5:=eG.out.size;have q8:=H8.out.size;have q9:=H9.out.size;have Ey:=Y1.out.size;exact(((eG.out.trans (H8.mono q5)).trans (H9.mono (by omega))).trans (Y1.mono (by omega))).trans (H.mono (by omega)))
 have a7:Hid (∀(v:Value) (w':World),(v=a8\/v=a0)->Below F.heap.size F w'->Calls prog 13 #[v,.int .i64 1,.int .i64 0] w' fun en w2=>en= .returned (.bool true)/\Below w'.heap.size w' w2):=aa (fun v w' hv c=>by
  rcases hv with rfl|rfl
  ·exact pu _ _ _ _ _ (((K.bel Y1).bel H).bel c)
  ·exact pu _ _ _ _ _ (Y3.bel c))
 have i:Below F.heap.size F F:=Below.refl _ _;clear K Y3;go_wp2_with (go_at_call 13;go_loud (refine(a7 _ _ (by first|exact .inl rfl|exact .inr rfl) i).mono ?_);rintro e bE ⟨rfl,Y⟩;replace i:=i.trans (Y.mono i.size);clear Y)
 rw [HR.out];refine⟨rfl,?_⟩;have q0:=J.out.size;have q1:=Y4.out.size;exact(J.out.trans (Y4.mono q0)).trans (i.mono (by omega))
end Go.Proofs.YtepgcjbhabnciaaGreat
