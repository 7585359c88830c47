/- Part 32. -/
import Derived.Test.YtepgcjbhabnciaaGreatLe31
import Derived.Test.YtepgcjbhabnciaaGreatLe29
namespace Go.Proofs.YtepgcjbhabnciaaGreat
set_option maxRecDepth 100000
set_option maxHeartbeats 8000000
open Go.Proofs.Tryz Go.RowKit
variable {q Y u1 J L v B r u9 E I Z U u16 O f C s V P D T j W u k p b u38 R X u42 G H N u23 u25 A u32 F h e u6 u7 M m g u30 x u34 u36 u40 u44 u45 u46 l u48 u49 z d o eQ u55 fE fF u58 u59 u60 gJ gY u63 u64 gZ u66 iq:Value} {S:List Value}
theorem CU (F D:Nat->Prop) (z q p base hv K:Nat) (Y v2:Value) (A:Option Addr) (n cc:Nat) (us:List Value) (r:bg) (w:World) (s:Sit F q p base) (zs:Zs z q p base) (v:¬F z) (G:base<=w.heap.size)
  (c:aj w z 140 #[.pointer (some ⟨q,0,none⟩),Y,v2,.slice A n cc,.int .i64 r.err,.int .i64 (r.bad:Nat)]) (hm:aX w base D (.slice A n cc) n r.rows us)
  (h:lW w F q p r.cur hv) (u:r.Ok K) (x:r.st=0) (hK:K<=1152921504606846976):
  Calls prog 52 #[.pointer (some ⟨z,0,none⟩)] w (nG F z q p base D (.func (.func 92) #[.pointer (some ⟨z,0,none⟩)] #[]) v2 A n cc us r.next.1 r.next.2 w):=by
 refine letter fun R U=> ?_;have HS:=aa s;have H:=aa zs;have HB:=aa c;have HM:=aa hm;have d9:=aa G;have i:=u.cur (by omega);have N:=u.held (by omega);have ao:w.cell? ⟨z,0,none⟩=some (.pointer (some ⟨q,0,none⟩)):=c.cell 0;have pE:=aa (kS F q p hv 8 K r.cur w (s.up G) h i hK (by omega) (by omega));obtain⟨L,hL⟩:∃L,L=r.cur.bytes 8:=⟨_,rfl⟩
 have C:Hid (r.next=if L.2.1≠0 then(none,r.fail L.2.2 L.2.1 0) else if L.1≠fq then(none,r.fail L.2.2 81 0) else({r with cur:=L.2.2,st:=1}:bg).frame):=aa (by
  subst hL;unfold bg.next;rw [if_neg (by omega),if_neg (by omega)])
 have xG:=aa hL
 have ug:Hid (L.2.1=0->L.2.2.at_=8/\L.2.2.Ok K/\L.2.2.held=none):=aa (fun h0=>by
  rw [hL] at h0|-;exact⟨by rw [ay.bytes_step i 8 h0,(u.zero x).1],ay.bytes_ok i 8,ay.bytes_held i 8 N⟩)
 have wV:=aa u;have xU:=aa v;have E:=aa x
 have k:Hid (∀(cu:ay) (e:Int) (a:Nat) (wk:World) (M:Ending) (w':World),fo wk F p cu.src->r.next=(none,r.fail cu e a)->ag (Cs q p w.heap.size) w wk->I4 z (.pointer (some ⟨q,0,none⟩)) v2 (.slice A n cc) e a wk M w'->nG F z q p base D (.func (.func 92) #[.pointer (some ⟨z,0,none⟩)] #[]) v2 A n cc us r.next.1 r.next.2 w M w'):=aa (fun cu e a wk M w' am hx hc d=>by
  rw [hx];refine⟨(zI hc).trans d.2.2 (fun b _ e=> .inl e),fun _=>⟨d.1,?_,d.2.1,am.own d.2.2 zs.zp v⟩,fun es h=>by cases h⟩;exact(hm.cs s (Nat.le_refl _) hc).chg d.2.2 (fun b c _ e=>by have e:b=z:=e;have:=zs.lt;omega))
 clear s zs c hm h i N hL u G v x;go_enter func52,ntmps52
 go_upto_region 2 with(go_at_call 90;go_loud (refine pE.mono ?_);rintro e w2 ⟨vD,T,rfl,hO,hI,hC⟩;rw [<-xG.out] at hO hI|-;have iR:=aa hO;have t:=aa hI;have l:=aa hC;clear hO hI hC)
 have f:=aa (HB.chg l (H.up d9).no);obtain⟨Z,S⟩:∃e,e=L.2.1:=⟨_,rfl⟩;rw [<-S] at C iR ug|-;clear S ao
 by_cases h1:Z=0
 ·subst h1;obtain⟨dA,dn,dc,rfl,_,_,P,Q⟩:=(iR.out rfl).sb;have O:=bf w2 _ dA dn dc L.1 Q P;clear Q P;go_upto_region 4 with fail
  by_cases B:L.1=fq
  ·have o:=aa B;rw [B,show lV fq=⟨#[99,111,112,112,105,99,101,1]⟩ from rfl] at O;have z1:w2.cell? ⟨z,1,none⟩=some Y:=f.out.cell 1;have sW:=f.out.frozen 1;have V:Hid ((L.2.2.at_=8/\L.2.2.Ok K/\L.2.2.held=none)/\r.rows= []):=aa ⟨ug (by trivial),(wV.zero E).2⟩;clear B;go_upto_region 7 with fail
   clear O;obtain⟨m,j⟩:∃W,W=w2.setCell ⟨z,1,none⟩ (.func (.func 92) #[.pointer (some ⟨z,0,none⟩)] #[]):=⟨_,rfl⟩;rw [<-j];have y:Hid (ag (fun b=>b=z) w2 m):=aa (by rw [j];exact(ag.refl (fun b=>b=z) w2).setCell (p:=⟨z,1,none⟩) (fun _=>rfl) _);have ab:Hid (aj m z 140 #[.pointer (some ⟨q,0,none⟩),.func (.func 92) #[.pointer (some ⟨z,0,none⟩)] #[],v2,.slice A n cc,.int .i64 r.err,.int .i64 (r.bad:Nat)]):=aa (by rw [j];exact f.set_ 1 _);have D7:Hid (aX m base D (.slice A n cc) n r.rows us):=aa ((HM.cs HS (Nat.le_refl _) l).chg y (fun b c _ e=>by have e:b=z:=e;have:=H.out.lt;omega));have ac:Hid (lW m F q p L.2.2 T):=aa (t.chg y (fun e=>H.zq e.symm) (fun e=>H.zp e.symm) (fun b c e=>xU (e▸c)))
   have yT:=aa (rR F D z q p base T K (.func (.func 92) #[.pointer (some ⟨z,0,none⟩)] #[]) v2 A n cc us {r with cur:=L.2.2,st:=1} m HS H xU (by have h8:=d9.out;have h9:=l.out.size;have ar:=y.out.size;omega) ab D7 ac
    ⟨fun _=>V.1.2.1,fun _=>V.1.2.2,wV.rows,fun e=>absurd e (show¬((1:Nat)=0) by decide),fun _=>(by show L.2.2.at_=bV r.rows;rw [V.out.2,V.out.1.1];rfl),(by show(1:Nat)<=2;omega),fun _=>wV.err (by rw [E.out];decide)⟩ rfl hK)
   clear z1 sW j
   have rH:Hid (∀w',ag (Fs z q p m.heap.size (.slice A n cc)) m w'->ag (Fs z q p w.heap.size (.slice A n cc)) w w'):=aa (fun w' hc=>((zI l).trans y (fun b _ e=> .inl e)).trans hc (fun b _ e=>by
    rcases e with e|e|e|e|e
    ·exact .inl e
    ·exact .inr (.inl e)
    ·exact .inr (.inr (.inl e))
    ·exact .inr (.inr (.inr (.inl e)))
    ·exact .inr (.inr (.inr (.inr (Nat.le_trans (Nat.le_trans l.size y.size) e))))))
   have sN:Hid (w.heap.size<=m.heap.size):=aa (Nat.le_trans l.size y.size);have Jw:Hid (r.next=({r with cur:=L.2.2,st:=1}:bg).frame):=aa (by rw [C.out,if_neg (by simp),if_neg (fun h=>h o.out)]);clear C;obtain⟨X,hX⟩:∃X,X=({r with cur:=L.2.2,st:=1}:bg).frame:=⟨_,rfl⟩;rw [<-hX] at yT Jw;obtain⟨X1,X2⟩:=X;clear hX
   cases X1 with
   |none=>
    go_wp2_with (go_at_call 92;go_loud (refine yT.mono ?_);intro e w4 d;have ja:=aa d;obtain⟨rfl,_,_⟩:=d.no rfl;clear d)
    rw [U.out,Jw.out]
    exact⟨rH _ ja.chg,ja.no,fun es h=>by cases h⟩
   |some es=>
    go_wp2_with (go_at_call 92;go_loud (refine yT.mono ?_);intro e w4 d;have ja:=aa d;obtain⟨eA,M,ec,A',n',iW,kF,an,rfl,g1,g2,g3,g4,g5,g6,g7⟩:=d.yes es rfl;have G7:=aa g7;have G1:=aa g1;have G2:=aa g2;have G3:=aa g3;have G4:=aa g4;have G5:=aa g5;have G6:=aa g6;clear d g1 g2 g3 g4 g5 g6 g7)
    rw [U.out,Jw.out];refine⟨rH _ ja.chg,fun h=>(by cases h),fun ap h=> ?_⟩;injection h with h
    subst h
    exact⟨eA,M,ec,A',n',iW,kF,an,rfl,G1.out,G2.out,G3.out.weak (fun b c=>⟨Nat.le_trans sN c.1,c.2⟩),G4.out.wider (fun b c=>c.imp id (fun h=>⟨Nat.le_trans sN h.1,h.2⟩)) (fun b c=>c.elim (HM.lo b) (fun h=>Nat.le_trans d9 h.1)),G5.out,G6.out,fun g hg=>(G7.out g hg).imp id (fun h=>Nat.le_trans sN h)⟩
  ·have o:=aa B;have hq:((lV L.1).toList==(lV fq).toList)=false:=by rw [rQ];exact decide_eq_false B
   rw [show lV fq=⟨#[99,111,112,112,105,99,101,1]⟩ from rfl] at hq
   have ad:¬(lV L.1=⟨#[99,111,112,112,105,99,101,1]⟩):=fun e=>B (by
    have e2:L.1.toArray= #[99,111,112,112,105,99,101,1]:=congrArg ByteArray.data e;have e3:=congrArg Array.toList e2;exact e3)
   have ae:decide (lV L.1=⟨#[99,111,112,112,105,99,101,1]⟩)=false:=decide_eq_false ad;have al:((lV L.1).toList==(⟨#[99,111,112,112,105,99,101,1]⟩:ByteArray).toList)=false:=hq;have hl:(⟨#[99,111,112,112,105,99,101,1]⟩:ByteArray).toList= [99,111,112,112,105,99,101,1]:=by kernel_rfl
   have XU:((lV L.1).toList== [99,111,112,112,105,99,101,1])=false:=by rw [<-hl];exact hq
   have aw:¬((lV L.1).toList= [99,111,112,112,105,99,101,1]):=fun e=>by rw [beq_eq_false_iff_ne] at XU;exact XU e
   clear hq ae al;go_wp2_with (go_at_call 91;go_loud (refine(bF z _ Y v2 _ _ _ 81 (0:Nat) w2 f).mono ?_);rintro e9 w9 ⟨rfl,I,J⟩;have dY:=aa I;have dZ:=aa J;clear I J)
   rw [U.out]
   exact k L.2.2 81 0 w2 _ w9 t.src (by rw [C.out,if_neg (by simp),if_pos o.out]) l ⟨rfl,dY,dZ⟩
 ·have aq:(Z==0)=false:=by rw [beq_eq_false_iff_ne];exact h1
  have H1:=aa h1;go_wp2_with (go_at_call 91;go_loud (refine(bF z _ Y v2 _ _ _ Z (0:Nat) w2 f).mono ?_);rintro e9 w9 ⟨rfl,I,J⟩;have dY:=aa I;have dZ:=aa J;clear I J)
  rw [U.out];exact k L.2.2 Z 0 w2 _ w9 t.src (by rw [C.out,if_pos H1.out]) l ⟨rfl,dY,dZ⟩
def pO (F:Nat->Prop) (q p:Nat) (c:ay) (w:World) (e:Ending) (w':World):Prop:=
 e= .returned (.tuple #[.int .u64 c.number.1,.int .i64 c.number.2.1])/\eY w' F q p c.number.2.2/\ag (Cs q p w.heap.size) w w'
structure Vm (F:Nat->Prop) (q p t K:Nat) (c0:ay) (w0:World) (c:ay) (bs:List UInt8) (w:World):Prop where
 iny:eY w F q p c
 tk:jI w t t bs 0
 k9:bs.length<=9
 scan:∀r,dG 0 (bs++r)=dG bs.length r
 ok:c.Ok K
 eq:c0.numL 0 0=c.numL bs.length (fM bs)
 chg:ag (Cs q p w0.heap.size) w0 w
theorem jI.lt {w:World} {b q:Nat} {bs:List UInt8} {st:Int} (h:jI w b q bs st):q<w.heap.size:=let⟨_,a,_,_⟩:=h;a.lt
theorem jI.chg2 {S:Nat->Prop} {w w':World} {base q:Nat} {bs:List UInt8} {st:Int} (h:jI w base q bs st) (y:ag S w w') (f:base<=q) (e:∀g,base<=g->g<w.heap.size->¬S g):jI w' base q bs st:=
 let⟨v,a,b,c⟩:=h;⟨v,a.chg y (e q f a.lt),b.chg y (fun g d=>e g (ah b g d).1 (ah b g d).2),c⟩
theorem DY (F:Nat->Prop) (q p:Nat) (c:ay) (w:World) (h:eY w F q p c) (b:c.err≠0):
  Calls prog 63 #[.pointer (some ⟨q,0,none⟩)] w (pO F q p c w):=by
 refine letter fun R e=> ?_;obtain⟨er,a⟩:∃er,er=c.err:=⟨_,rfl⟩;have j:=aa a;have k:w.cell? ⟨q,3,none⟩=some (.int .i64 er):=(h.blk.cell 3).trans (by rw [a];rfl);have d:=aa h;have g:(er==0)=false:=by rw [beq_eq_false_iff_ne,a];exact b
 have i:Hid (c.number=(0,er,c)):=aa (by
  have f:c.numL 0 0=(0,er,c):=by rw [ay.numL_eq _ _ _ (by omega),ay.bytes_e 1 b,if_pos b,a]
  unfold ay.number;rw [f,if_neg (by rw [a];exact b)])
 clear h a b;go_enter func63,ntmps63
 go_wp2;go_quiet (fail)
 go_wp2;rw [e.out]
 unfold pO;rw [i.out];exact⟨rfl,d.chg ((ag.refl Nil w).drewN _) (fun h=>h) (fun h=>h) (fun _ _ h=>h),(ag.refl _ _).drewN _⟩
theorem Gp (F:Nat->Prop) (q p K:Nat) (c:ay) (w:World) (s:Sit F q p w.heap.size) (h:eY w F q p c) (he:c.err=0) (a:c.Ok K) (hK:K<=1152921504606846976):
  Calls prog 63 #[.pointer (some ⟨q,0,none⟩)] w (pO F q p c w):=by
 refine letter fun R HR=> ?_;obtain⟨z,A⟩:∃z,z=c.at_:=⟨_,rfl⟩;have HA:=aa A;have Y:w.cell? ⟨q,2,none⟩=some (.int .i64 z):=(h.blk.cell 2).trans (by rw [A];rfl);have z3:w.cell? ⟨q,3,none⟩=some (.int .i64 0):=(h.blk.cell 3).trans (by rw [he];rfl);have HH:=aa h;have HO:=aa a;have j:=aa s;clear h a s A he;go_enter func63,ntmps63
 go_upto_region 5 with fail
 obtain⟨t,T⟩:∃t,t=w.heap.size:=⟨_,rfl⟩;obtain⟨w1,v⟩:∃W,W=w.alloc (.cells #[.slice none 0 0,.int .i64 0] 204):=⟨_,rfl⟩;rw [<-v,<-T];have E:=aa T;have HB:Hid (Below w.heap.size w w1):=aa (by rw [v];exact(Below.refl _ _).alloc (Nat.le_refl _) _);have HT:Hid (jI w1 t t [] 0):=aa (by rw [v,T];exact jI.new (_w:=w) (aj.new _ _ _));have Tt:Hid (t≠q/\t≠p):=aa (by have u:=j.out.qB;have f:=j.out.pB;omega);clear Y z3 T v
 go_loopg [] 10 (fun g' wz=>∃(N:ay) (bs:List UInt8),g'=10-bs.length/\Vm F q p t K c w N bs wz)
 case atStart=>exact⟨c,[],rfl,HH.chg (ag.of_below (S:=Nil) HB) (fun h=>h) (fun h=>h) (fun _ _ h=>h),HT,by simp,fun r=>rfl,HO,rfl,ag.of_below HB⟩
 case round=>
  obtain⟨N,bs,hg,P⟩:=hrel;have HG:=aa hg;have i:=aa P;have sN:Hid (w.heap.size<=wr.heap.size):=aa P.chg.size;have zY:Hid (t<wr.heap.size):=aa P.tk.lt;clear hg P;obtain⟨L,hL⟩:∃L,L=N.bytes 1:=⟨_,rfl⟩;obtain⟨x,hx⟩:∃x,x=L.1.headD 0:=⟨_,rfl⟩;obtain⟨er,dU⟩:∃er,er=L.2.1:=⟨_,rfl⟩;have HL:=aa hL;have HX:=aa hx;have fO:=aa dU;have pE:=aa (zB F q p K N wr (j.up sN) i.iny i.ok hK)
  have X:Hid (c.numL 0 0=if er≠0 then(0,er,L.2.2)
   else if bs.length=9/\1<x.toNat then(0,12,{L.2.2 with err:=12})
   else if 0<bs.length/\x.toNat=0 then(0,13,{L.2.2 with err:=13})
   else if x.toNat<128 then(fM bs+x.toNat%128*128^bs.length,0,L.2.2)
   else L.2.2.numL (bs.length+1) (fM bs+x.toNat%128*128^bs.length)):=aa (by rw [i.out.eq,ay.numL_eq _ _ _ (by have:=i.out.k9;omega),dU,hx,hL])
  have rJ:Hid (L.2.2.Ok K):=aa (by rw [hL];exact ay.bytes_ok i.ok 1);clear hL hx dU;go_upto_region 6 with(go_at_call 62;go_loud (refine pE.mono ?_);rintro e w2 ⟨rfl,hI,hC⟩;rw [<-HL.out] at hI|-;rw [<-HX.out,<-fO.out];have C:=aa hI;have HC:=aa hC;clear hI hC)
  have bB:Hid (ag (Cs q p w.heap.size) w w2):=aa (i.chg.trans (HC.mono (fun b _ e=>by rcases e with e|e|e;exact .inl e;exact .inr (.inl e);exact .inr (.inr (Nat.le_trans sN e)))) (fun _ _ h=>h));have ab:Hid (jI w2 t t bs 0):=aa (i.tk.chg2 HC (Nat.le_refl _) (fun g hg hl e=>by have u:=Tt.out;have f:=E.out;have O:=j.out.qB;have h4:=j.out.pB;rcases e with e|e|e<;>omega));have Y:w2.cell? ⟨q,2,none⟩=some (.int .i64 L.2.2.at_):=C.out.blk.cell 2;have yR:=C.out.blk.frozen 2
  by_cases h0:er=0
  ·subst h0;have Lm:=aa (KB t t bs x w2 ab (Nat.le_refl _) i.k9);obtain⟨m,I⟩:∃m,m=aT bs.length x:=⟨_,rfl⟩;obtain⟨tb,H⟩:∃tb,tb=decide (aT bs.length x=0/\x.toNat<128):=⟨_,rfl⟩;have Fy:=aa I;have Z:=aa H;clear I H Y yR;go_upto_region 10 with(go_at_call 102;go_loud (refine Lm.mono ?_);rintro e n ⟨rfl,Tj,Zg⟩;rw [<-Z.out,<-Fy.out];have eH:=aa Tj;have D:=aa Zg;clear Tj Zg)
   have d:Hid (eY n F q p L.2.2):=aa (C.chg eH (fun e=>by have u:=j.out.qB;have f:=E.out;have e:t<=q:=e;omega) (fun e=>by have u:=j.out.pB;have f:=E.out;have e:t<=p:=e;omega) (fun b G e=>by have u:=j.out.lt b G;have f:=E.out;have e:t<=b:=e;omega));have E7:Hid (ag (Cs q p w.heap.size) w n):=aa (bB.out.trans (eH.mono (fun b _ e=>by have e:t<=b:=e;have:=E.out;exact .inr (.inr (by omega)))) (fun _ _ h=>h))
   by_cases u:m=0
   ·have M:Hid (aT bs.length x=0):=aa (by rw [<-Fy.out];exact u)
    have o:Hid (¬(bs.length=9/\1<x.toNat)/\¬(0<bs.length/\x.toNat=0)):=aa (by
     have:=M.out;unfold aT at this
     split at this
     ·exact absurd this (by decide)
     ·rename_i U
      split at this
      ·exact absurd this (by decide)
      ·rename_i V;exact⟨U,V⟩)
    subst u
    by_cases f:x.toNat<128
    ·have O:tb=true:=by rw [Z.out,decide_eq_true_iff];exact⟨M,f⟩
     subst O;have Tv:Hid (jI n t t (bs++ [x]) 1):=aa (by have:=D.out M;rwa [if_pos f] at this);have J:=aa f
     have ac:Hid (dG 0 (bs++ [x])=(0,(bs++ [x]).length)):=aa (by
      rw [i.out.scan,List.length_append,List.length_singleton];unfold dG;rw [if_neg o.out.1,if_neg o.out.2,if_pos f])
     have X4:=aa (OJ t t (bs++ [x]) n Tv (by have:=i.out.k9;rw [List.length_append,List.length_singleton];omega) ac);obtain⟨vv,B⟩:∃vv,vv=fM (bs++ [x]):=⟨_,rfl⟩;rw [<-B] at X4;have ad:Hid (vv=fM bs+x.toNat%128*128^bs.length):=aa (by rw [B,oq]);clear f B;go_wp2_with (go_at_call 103;go_loud (refine X4.mono ?_);rintro e w4 ⟨rfl,rfl⟩)
     rw [HR.out];unfold pO;have Q:=X.out;rw [if_neg (fun h=>h rfl),if_neg o.out.1,if_neg o.out.2,if_pos J.out,<-ad.out] at Q;have l:c.number=(vv,0,L.2.2):=by unfold ay.number;rw [Q,if_pos rfl]
     rw [l]
     exact⟨rfl,d,E7⟩
    ·have O:tb=false:=by rw [Z.out,decide_eq_false_iff_not];exact fun h=>f h.2
     subst O;have Tv:Hid (jI n t t (bs++ [x]) 0):=aa (by have:=D.out M;rwa [if_neg f] at this);have Zh:Hid (bs.length+1<=9):=aa (by have:=i.out.k9;have:=o.out;omega);have J:=aa f;clear f;go_wp2
     go_roundg (10-(bs.length+1))
     case measure=>have:=HG.out;have:=Zh.out;omega
     case rel=>
      refine⟨L.2.2,bs++ [x],by simp,d,Tv,by rw [List.length_append,List.length_singleton];exact Zh,fun r=> ?_,rJ,?_,E7⟩
      ·rw [List.append_assoc,i.out.scan,List.length_append,List.length_singleton,List.singleton_append];conv=>lhs;unfold dG
       rw [if_neg o.out.1,if_neg o.out.2,if_neg J.out]
      ·rw [X.out,if_neg (fun h=>h rfl),if_neg o.out.1,if_neg o.out.2,if_neg J.out,oq,List.length_append,List.length_singleton]
   ·have Io:=aa u;have al:(m==0)=false:=by rw [beq_eq_false_iff_ne];exact u
    have Y:n.cell? ⟨q,2,none⟩=some (.int .i64 L.2.2.at_):=d.out.blk.cell 2;have yR:=d.out.blk.frozen 2;have z3:n.cell? ⟨q,3,none⟩=some (.int .i64 L.2.2.err):=d.out.blk.cell 3;have PS:=d.out.blk.frozen 3;go_wp2;rw [HR.out];unfold pO
    have Q:c.numL 0 0=(0,m,{L.2.2 with err:=m}):=by
     rw [X.out,if_neg (fun h=>h rfl)];have y:=Fy.out;unfold aT at y
     by_cases U:bs.length=9/\1<x.toNat
     ·rw [if_pos U] at y|-;rw [y]
     ·rw [if_neg U] at y|-
      by_cases V:0<bs.length/\x.toNat=0
      ·rw [if_pos V] at y|-;rw [y]
      ·rw [if_neg V] at y;exact absurd y Io
    have l:c.number=(0,m,{L.2.2 with err:=m,at_:=c.at_}):=by unfold ay.number;rw [Q,if_neg Io.out]
    rw [l];have k:ag (fun b=>b=q) n ((n.setCell ⟨q,2,none⟩ (.int .i64 z)).setCell ⟨q,3,none⟩ (.int .i64 m)):=((ag.refl (fun b=>b=q) n).setCell (p:=⟨q,2,none⟩) (fun _=>rfl) _).setCell (p:=⟨q,3,none⟩) (fun _=>rfl) _;refine⟨rfl,⟨?_,d.src.chg k (fun e=>j.ne e.symm) (fun b G e=>j.nFq (e▸G)),d.hl⟩,E7.out.trans (k.mono (fun b _ e=> .inl e)) (fun _ _ h=>h)⟩;have:=(d.out.blk.set_ 2 (.int .i64 z)).set_ 3 (.int .i64 m);rw [HA.out] at this|-
    exact this
  ·have H0:=aa h0;have ae:(er==0)=false:=by rw [beq_eq_false_iff_ne];exact h0
   go_wp2;rw [HR.out]
   unfold pO;have l:c.number=(0,er,{L.2.2 with at_:=c.at_}):=by unfold ay.number;rw [X.out,if_pos H0.out,if_neg H0.out]
   rw [l];have k:ag (fun b=>b=q) w2 (w2.setCell ⟨q,2,none⟩ (.int .i64 z)):=(ag.refl (fun b=>b=q) w2).setCell (p:=⟨q,2,none⟩) (fun _=>rfl) _;refine⟨rfl,⟨?_,C.src.chg k (fun e=>j.ne e.symm) (fun b G e=>j.nFq (e▸G)),C.hl⟩,bB.out.trans (k.mono (fun b _ e=> .inl e)) (fun _ _ h=>h)⟩;have:=C.out.blk.set_ 2 (.int .i64 z);rw [HA.out] at this|-;exact this
theorem DZ (F:Nat->Prop) (q p K:Nat) (c:ay) (w:World) (s:Sit F q p w.heap.size) (h:eY w F q p c) (a:c.Ok K) (d:K<=1152921504606846976):
  Calls prog 63 #[.pointer (some ⟨q,0,none⟩)] w (pO F q p c w):=by
 by_cases b:c.err=0
 ·exact Gp F q p K c w s h b a d
 ·exact DY F q p c w h b
def wT (F:Nat->Prop) (q p:Nat) (c:ay) (w:World) (e:Ending) (w':World):Prop:=
 e= .returned (.tuple #[.bool c.end_.1,.int .i64 c.end_.2.1])/\dO w' F p c.end_.2.2.src/\ag (Cs q p w.heap.size) w w'
theorem OK (F:Nat->Prop) (q p K:Nat) (c:ay) (w:World) (s:Sit F q p w.heap.size) (h:eY w F q p c) (a:c.Ok K) (Z:K<=1152921504606846976):
  Calls prog 110 #[.pointer (some ⟨q,0,none⟩)] w (wT F q p c w):=by
 refine letter fun R n=> ?_;obtain⟨er,r⟩:∃er,er=c.err:=⟨_,rfl⟩;have B:=aa r;have I:w.cell? ⟨q,3,none⟩=some (.int .i64 er):=(h.blk.cell 3).trans (by rw [r];rfl);have J:w.cell? ⟨q,4,none⟩=some (.slice none 0 0):=h.blk.cell 4;have N:=aa h;have HO:=aa a;have o:=aa s;have Q:=aa h.hl
 by_cases t:er=0
 ·have m:Hid (c.err=0):=aa (by rw [<-B.out];exact t);obtain⟨L,hL⟩:∃L,L=c.loop [] 1:=⟨_,rfl⟩;have O:=aa hL;have P:=aa (zz F q p 1 K c w s h (a.fine m) Z (by omega) (by omega) a.gives)
  have u:Hid (c.end_=if L.2.1=0 then(false,0,{L.2.2 with held:=L.1.head?}) else if L.2.1=41 then(true,0,L.2.2) else(false,L.2.1,{L.2.2 with err:=L.2.1})):=aa (by
   unfold ay.end_;rw [if_neg (fun h=>by rcases h with h|h;exact h m.out;rw [Q.out] at h;cases h),hL])
  clear h a s r hL;subst t;go_enter func110,ntmps110
  go_upto_region 6 with(go_at_call 101;go_loud (refine P.mono ?_);rintro e w2 ⟨v,rfl,j,i,l⟩;rw [<-O.out] at j i|-;have H:=aa j;have d:=aa i;have z:=aa l;clear j i l)
  obtain⟨g,k⟩:∃g,g=L.2.1:=⟨_,rfl⟩;rw [<-k] at H u|-;have M:=aa k;clear k I J
  by_cases C:g=0
  ·subst C;obtain⟨A,nn,cc,rfl,V,W,X,Y⟩:=(H.out rfl).sb;have J:w2.cell? ⟨q,4,none⟩=some (.slice none 0 0):=d.out.blk.cell 4;have Jm:=d.out.blk.frozen 4;clear V W X Y;go_wp2;rw [n.out];unfold wT;rw [u.out,if_pos trivial];have f:ag (fun b=>b=q) w2 (w2.setCell ⟨q,4,none⟩ (.slice A nn cc)):=(ag.refl (fun b=>b=q) w2).setCell (p:=⟨q,4,none⟩) (fun _=>rfl) _
   exact⟨rfl,d.src.chg f (fun e=>o.ne e.symm) (fun b D e=>o.nFq (e▸D)),z.out.trans (f.mono (fun b _ e=> .inl e)) (fun _ _ h=>h)⟩
  ·have E:=aa C
   by_cases y:g=41
   ·subst y;go_wp2;rw [n.out];unfold wT;rw [u.out,if_neg E.out,if_pos trivial]
    exact⟨rfl,d.src,z⟩
   ·have x:=aa y;have U:(g==0)=false:=by rw [beq_eq_false_iff_ne];exact C
    have T:(g==41)=false:=by rw [beq_eq_false_iff_ne];exact y
    have I:w2.cell? ⟨q,3,none⟩=some (.int .i64 L.2.2.err):=d.out.blk.cell 3;have PS:=d.out.blk.frozen 3;go_wp2;rw [n.out];unfold wT;rw [u.out,if_neg E.out,if_neg x.out];have f:=(ag.refl (fun b=>b=q) w2).setCell (p:=⟨q,3,none⟩) (fun _=>rfl) (.int .i64 g)
    exact⟨rfl,d.src.chg f (fun e=>o.ne e.symm) (fun b D e=>o.nFq (e▸D)),z.out.trans (f.mono (fun b _ e=> .inl e)) (fun _ _ h=>h)⟩
 ·have m:Hid (c.err≠0):=aa (by rw [<-B.out];exact t);have S:(er==0)=false:=by rw [beq_eq_false_iff_ne];exact t
  clear h a s r;go_enter func110,ntmps110
  go_wp2;go_quiet (fail)
  go_wp2;rw [n.out]
  unfold wT;have hn:c.end_=(false,er,c):=by unfold ay.end_;rw [if_pos (.inl m.out),B.out]
  rw [hn];have G:ag Nil w (w.drewN nq):=(ag.refl Nil w).drewN _;exact⟨rfl,N.src.chg G (fun h=>h) (fun _ _ h=>h),G.mono (fun _ _ h=>h.elim)⟩
def AB (z:Nat) (h Y B M:Value) (e a:Int) (w:World) (c:Ending) (w':World):Prop:=
 c= .returned (.tuple #[.slice none 0 0,.bool false])/\aj w' z 103 #[h,Y,.bool true,.int .i64 e,.int .i64 a,B,M]/\ag (fun b=>b=z) w w'
theorem aY (z:Nat) (v0 Y v2 B M:Value) (d c e a:Int) (w:World) (h:aj w z 103 #[v0,Y,v2,.int .i64 d,.int .i64 c,B,M]):
  Calls prog 60 #[.pointer (some ⟨z,0,none⟩),.int .i64 e,.int .i64 a] w (AB z v0 Y B M e a w):=by
 refine letter fun R g=> ?_;have f:=aa h;have l:w.cell? ⟨z,2,none⟩=some v2:=h.cell 2;have m:w.cell? ⟨z,3,none⟩=some (.int .i64 d):=h.cell 3;have n:w.cell? ⟨z,4,none⟩=some (.int .i64 c):=h.cell 4;have i:=h.frozen 2;have j:=h.frozen 3;have k:=h.frozen 4;clear h;go_enter func60,ntmps60
 go_wp2;rw [g.out]
 exact⟨rfl,((f.set_ 2 (.bool true)).set_ 3 (.int .i64 e)).set_ 4 (.int .i64 a),
  (((ag.refl (fun b=>b=z) w).setCell (p:=⟨z,2,none⟩) (fun _=>rfl) _).setCell (p:=⟨z,3,none⟩) (fun _=>rfl) _).setCell (p:=⟨z,4,none⟩) (fun _=>rfl) _⟩
theorem Kt (F:Nat->Prop) (bA:Option Addr) (bn bc:Nat) (b:List UInt8) (w:World) (h:Rd w F 1 bA bn (aF b)) (N:bn=b.length) (D:bn<=bc) (Q:bn<=1152921504606) (c:∀g,F g->g<w.heap.size):
  Calls prog 111 #[.slice bA bn bc] w (oV b w):=by
 by_cases a:(ai b 0).2.2=0/\1<=(ai b 0).1/\(ai b 0).1<=64
 ·exact Gd F bA bn bc b w h N D Q c a.1 a.2.1 a.2.2
 ·exact Kq F bA bn bc b w h N Q a
theorem Ku (l:List Nat) (j:Nat):j<(eighth l).length↔8*j<l.length:=by
 have h:=wQ _ l j (Nat.le_refl _)
 constructor
 ·intro a;rw [List.getElem?_eq_getElem a] at h
  exact(List.getElem?_eq_some_iff.1 h.symm).1
 ·intro a;rw [List.getElem?_eq_getElem a] at h;exact(List.getElem?_eq_some_iff.1 h).1
theorem DU (b:List UInt8):aB b=if(bJ b).err≠0 then([],(bJ b).err,(bJ b).place) else if stand b ((eighth (bJ b).ats).flatMap two) (bJ b).at_<((eighth (bJ b).ats).flatMap two).length then([],62,(bJ b).at_+stand b ((eighth (bJ b).ats).flatMap two) (bJ b).at_) else if(bJ b).at_+((eighth (bJ b).ats).flatMap two).length<b.length then([],63,(bJ b).at_+((eighth (bJ b).ats).flatMap two).length) else((bJ b).ents,0,0):=by
 by_cases a:(ai b 0).2.2=0
 ·by_cases d:(ai b 0).1=0\/64<(ai b 0).1
  ·have c:bJ b=⟨[],[],0,61,0⟩:=by unfold bJ;rw [if_neg (fun h=>h a),if_pos d]
   rw [c,if_pos (by simp)];unfold aB
   rw [if_neg (fun h=>h a),if_pos d]
  ·have c:bJ b=bq b (ai b 0).1 [] [] (ai b 0).2.1:=by unfold bJ;rw [if_neg (fun h=>h a),if_neg d]
   rw [Cr a (by omega) (by omega) c.symm]
 ·have c:bJ b=⟨[],[],0,(ai b 0).2.2,(ai b 0).2.1⟩:=by unfold bJ;rw [if_pos a]
  rw [c,if_pos a];unfold aB;rw [if_pos a]
structure Ra (b:List UInt8) (r:Jb):Prop where
 rise:bH r.ents
 alen:r.ats.length=r.ents.length
 le:r.at_<=b.length
 most:r.ents.length<=64
 aple:∀a∈r.ats,a<=b.length
theorem zw (b:List UInt8):∀(m:Nat) (l:List aK) (ats:List Nat) (p:Nat),p<=b.length->(∀a∈ats,a<=b.length)->∀a∈(bq b m l ats p).ats,a<=b.length
 |0,l,ats,p,d,h=>h
 |m+1,l,ats,p,d,h=>by
  rw [uN]
  split
  ·exact h
  ·rename_i e
   split
   ·exact h
   ·refine zw b m _ _ _ (jq d (Decidable.byContradiction e)).next (fun a c=> ?_)
    rcases List.mem_append.1 c with c|c
    ·exact h a c
    ·rw [List.mem_singleton] at c;rw [c];exact d
theorem Ov (b:List UInt8):Ra b (bJ b):=by
 unfold bJ
 split
 ·exact⟨fH,rfl,Nat.zero_le _,by simp,fun a c=>by simp at c⟩
 ·split
  ·exact⟨fH,rfl,Nat.zero_le _,by simp,fun a c=>by simp at c⟩
  ·rename_i d;have hv:=(fe b 0 (Nat.zero_le _)).2;have h:=ry b (ai b 0).1 [] [] (ai b 0).2.1 hv fH rfl;exact⟨h.rise,h.ats,h.le,by have:=h.most;simp at this;omega,zw b _ _ _ _ hv (fun a c=>by simp at c)⟩
noncomputable def zC:Code:=aV (f67.body.bind (aJ 7))
theorem Rb (g o m d i a:Nat) (w:World) (Q:Exit->Act->World->Prop) (mQ:Hid (∀c t (a:Act) w,Q (.panic c) ⟨t,a.defers⟩ w->Q (.panic c) a w))
  (hc:w.cell? ⟨g,o+i,none⟩=some (.int .i64 a)) (aA:i<m) (_hm:m<=64) (ha:a<=1152921504606)
  (ax:∀(z M ab ac ad ae al am an ao ap aq ar:Value) (x:Nat) (w':World),w.heap.size<=x->aj w' x 5 #[bv (UInt8.ofNat a),bv (UInt8.ofNat (a/256))]->Below w.heap.size w w'->Q .normal ⟨(Y::u1::J::L::H::v:: .slice (some ⟨g,o,none⟩) m d::B::r::u9:: .int .i64 i:: .slice (some ⟨x,0,none⟩) 2 2::I::Z::N::U::u16::O::f::C::s::V::P::u23::D::u25::T::j::W::u::A::z::M::ab::ac::ad::ae::al::am::an::ao::ap::aq::ar::S).toArray,[]⟩ w'):
  Code.wp prog zC Q ⟨(Y::u1::J::L::H::v:: .slice (some ⟨g,o,none⟩) m d::B::r::u9:: .int .i64 i::E::I::Z::N::U::u16::O::f::C::s::V::P::u23::D::u25::T::j::W::u::A::k::u32::p::F::q::h::b::u38::R::e::X::u42::G::S).toArray,[]⟩ w:=by
 have dP:=aa ax
 have e0:Value.int IntKind.u8 (IntKind.u8.wrap ((a:Int).tmod 256))=bv (UInt8.ofNat a):=by
  unfold bv;rw [UInt8.toNat_ofNat',Int.tmod_eq_emod_of_nonneg (by omega),IntKind.wrap_u8];congr 1
  omega
 have e1:Value.int IntKind.u8 (IntKind.u8.wrap (IntKind.i64.wrap ((a:Int)/256)))=bv (UInt8.ofNat (a/256)):=by
  unfold bv;rw [UInt8.toNat_ofNat',IntKind.wrap_u8,IntWalk.i64_in _ (by omega)];congr 1
 have E0:=aa e0;have E1:=aa e1;have aw:(i:Int)<(m:Int):=by omega
 have l:w.drew.cell? ⟨g,o+i,none⟩=some (.int .i64 a):=hc;clear ax e0 e1;conv=>arg 2;whnf
 refine aU (fun w'=>w'.cell? ⟨g,o+i,none⟩=some (.int .i64 a)) (by kernel_rfl) ?_;refine vT 0 l ?_;refine vT 1 l ?_;refine vT 2 l ?_;refine vT 6 l ?_;refine vT 7 l ?_;refine vT 8 l ?_;refine vT 3 l ?_;refine vT 4 l ?_;refine vT 5 l ?_;refine vT 9 l ?_;refine vT 10 l ?_;refine vT 11 l ?_;refine aO (i:=12) (by kernel_rfl) rfl (fun K hK=> ?_);go_simp
 rw [E0.out,E1.out];have n:Below w.heap.size w ((w.alloc (.cells #[bv (UInt8.ofNat a),bv (UInt8.ofNat (a/256))] 5)).drew):=((Below.refl _ _).alloc (Nat.le_refl _) _).drew;have y:=aa n;have S3:((w.alloc (.cells #[bv (UInt8.ofNat a),bv (UInt8.ofNat (a/256))] 5)).drew).cell? ⟨g,o+i,none⟩=some (.int .i64 a):=ak n hc;refine hK.out _ _ S3 ?_;clear hK K;try simp only [aL,aN,aZ,aC]
 refine vT 13 S3 ?_;refine bG (by kernel_rfl) ?_ _;exact dP _ _ _ _ _ _ _ _ _ _ _ _ _ w.heap.size _ (Nat.le_refl _) (aj.new w _ _).drew y
noncomputable def AA:Code:=aV (f66.body.bind (aJ 10))
theorem OQ (F:Nat->Prop) (at_ n c:Nat) (A:Option Addr) (bs:List UInt8) (w:World) (Q:Exit->Act->World->Prop) (mQ:Hid (∀c t (a:Act) w,Q (.panic c) ⟨t,a.defers⟩ w->Q (.panic c) a w))
  (H:Hid (Rd w F 1 A n (aF bs))) (HN:Hid (n=bs.length)) (ad:at_<9223372036854775808)
  (ax:∀(ae al am an ao:Value) (rb:Bool) (w':World),rb= !(decide (bs=dw at_))->Below w.heap.size w w'->Q .normal ⟨(Y::u1::J::L:: .int .i64 (at_:Nat)::v::u6::u7::r::u9::M::E::I::Z:: .slice A n c::U::u16::O::f::C::s::V::P::m::D::g::T::j::W::u::u30::k::x::p::u34::q::u36::b::u38::R::u40::X::u42::G::u44::u45::u46::l::u48::u49::z::d::o::B::eQ::u55::fE::fF::u58::u59::u60::gJ::ae::al::am::an::ao:: .bool rb::S).toArray,[]⟩ w'):
  Code.wp prog AA Q ⟨(Y::u1::J::L:: .int .i64 (at_:Nat)::v::u6::u7::r::u9::M::E::I::Z:: .slice A n c::U::u16::O::f::C::s::V::P::m::D::g::T::j::W::u::u30::k::x::p::u34::q::u36::b::u38::R::u40::X::u42::G::u44::u45::u46::l::u48::u49::z::d::o::B::eQ::u55::fE::fF::u58::u59::u60::gJ::gY::u63::u64::gZ::u66::iq::S).toArray,[]⟩ w:=by
 have dP:=aa ax;have HD:Hid (Below w.heap.size w w.drew):=aa (Below.refl _ _).drew;have S0:=bf w.drew F A n c bs (H.below HD) HN;have e3:((lV bs).toList==(lV (dw at_)).toList)=decide (bs=dw at_):=rQ;have zY:=aa (zh at_ w.drew ad);obtain⟨tl,N⟩:∃t,t=dw at_:=⟨_,rfl⟩;have Pn:=aa N;rw [<-N] at e3 dP zY;clear ax N;conv=>arg 2;whnf
 refine aU (fun w'=>(convert 24 9 (.slice A n c)).run prog w'= .ok (.string (lV bs)) w') (by kernel_rfl) ?_;refine vT 0 S0 ?_;refine vT 2 S0 ?_;refine vT 1 S0 ?_;refine aO (i:=3) (by kernel_rfl) rfl (fun K hK=> ?_);go_simp
 go_loud (refine zY.mono ?_);rintro e w2 ⟨v2,rfl,ab,y⟩;obtain⟨A2,n2,c2,rfl,-,-,h8,h9⟩:=ab.sb;have ac:=aa y;have S1:=bf w2 _ A2 n2 c2 tl h9 h8;have S2:=bf w2 F A n c bs (H.below (HD.out.trans y)) HN;clear ab y h8 h9
 refine hK.out _ _ S2 ?_;clear hK K;try simp only [aL,aN,aZ,aC]
 refine iM (S':=fun w'=>(convert 24 9 (.slice A n c)).run prog w'= .ok (.string (lV bs)) w'/\(convert 24 9 (.slice A2 n2 c2)).run prog w'= .ok (.string (lV tl)) w') (fun _ h=>h.1) ?_;refine vT 4 ⟨S2,S1⟩ ?_;refine vT 5 ⟨S2,S1⟩ ?_;refine bG (by kernel_rfl) ?_ _;go_simp
 refine dP _ _ _ _ _ _ _ ?_ (HD.out.trans ac);rw [<-e3]
theorem Gg (F:Nat->Prop) (bA:Option Addr) (bn bc:Nat) (b:List UInt8) (w:World) (h:Rd w F 1 bA bn (aF b)) (N:bn=b.length) (D:bn<=bc) (Q:bn<=1152921504606) (hF:∀g,F g->g<w.heap.size):
  Calls prog 67 #[.slice bA bn bc] w (uR b w):=by
 refine letter fun R HR=> ?_;have HE:=aa (Kt F bA bn bc b w h N D Q hF);have jM:=aa (DU b);have rJ:=aa (Ov b);obtain⟨r,hr⟩:∃r,r=bJ b:=⟨_,rfl⟩;have a7:=aa hr;rw [<-hr] at jM rJ;obtain⟨ln,L⟩:∃ln,ln=r.ents.length:=⟨_,rfl⟩;obtain⟨p,Yb⟩:∃p,p=r.ats.length:=⟨_,rfl⟩;have T:p=ln:=by rw [Yb,L];exact rJ.alen
 subst T;obtain⟨er,dU⟩:∃er,er=r.err:=⟨_,rfl⟩;obtain⟨pl,ab⟩:∃pl,pl=r.place:=⟨_,rfl⟩;obtain⟨l,H⟩:∃l,l=r.at_:=⟨_,rfl⟩;have eu:=aa L;have a4:=aa Yb;have fO:=aa dU;have sU:=aa ab;have a6:=aa H;have ZI:p<=64:=by have:=rJ.out.most;omega
 have aq:l<=bn:=by rw [H,N];exact rJ.le
 have HH:=aa h;have HN:=aa N;obtain⟨m,M⟩:∃m,m=(eighth r.ats).flatMap two:=⟨_,rfl⟩;obtain⟨I,X⟩:∃I,I=(eighth r.ats).length:=⟨_,rfl⟩;have ap:=aa M;have Cv:Hid (m.length=2*I):=aa (by rw [M,Cu,X]);have JF:Hid (∀j,j<I↔8*j<p):=aa (fun j=>by rw [X,Yb];exact Ku _ j);rw [<-M,<-H] at jM
 have ar:Hid (∀e w',oV b w e w'->∃A c B d,e= .returned (.tuple #[.slice A p c,.slice B p d,.int .i64 l,.int .i64 er,.int .i64 pl])/\p<=c/\c<=maxLen/\bz w' (From w.heap.size) A p r.ents/\Rd w' (From w.heap.size) 1 B p (mo r.ats)/\Below w.heap.size w w'):=aa (fun e w' h=>by
  obtain⟨A,c,B,d,f,C,h3,h4,h5,h6⟩:=h;rw [<-hr] at f C h4 h5;rw [<-L] at f C h4;rw [<-Yb,<-dU,<-ab,<-H] at f;rw [<-Yb] at h5;exact⟨A,c,B,d,f,C,h3,h4,h5,h6⟩)
 clear h N hr L Yb dU ab H M X hF;go_enter func67,ntmps67
 go_upto_region 2 with(go_at_call 111;go_loud (refine HE.mono ?_);intro e w1 hE;obtain⟨A,c,B,d,rfl,f,C,h3,h4,h5⟩:=ar.out e w1 hE;have HA:=aa (And.intro f (And.intro C h3));have HB:=aa h4;have oH:=aa h5;clear hE f C h3 h4 h5)
 by_cases e0:er=0
 ·have kK:Hid (r.err=0):=aa (by rw [<-fO.out];exact e0);have qc:Hid (aB b=if stand b m l<m.length then([],62,l+stand b m l) else if l+m.length<b.length then([],63,l+m.length) else(r.ents,0,0)):=aa (by rw [jM.out,if_neg (fun h=>h kK.out)]);have YA:=aa (qa b m l);subst e0
  have zo:Hid (∀(ec:Int) (q:Nat) (w':World),aB b=([],ec,q)->Below w.heap.size w w'->R (.returned (.tuple #[.slice none 0 0,.int .i64 ec,.int .i64 q])) w'):=aa (fun ec q w' h hb=>by
   rw [HR.out];unfold uR;rw [h];exact⟨none,0,0,rfl,Nat.le_refl _,by simp [maxLen],bz.nil _ _ _,hb⟩)
  go_upto_region 5 with fail
  go_loopw [7,10] (fun pv iv wz=>∃j:Nat,j<=I/\iv= .int .i64 (8*j:Nat)/\pv= .int .i64 (l+2*j:Nat)/\Hid (Below w1.heap.size w1 wz)/\Hid (∀k,k<2*j->b[l+k]? =m[k]?)/\Hid (l+2*j<=bn)) (fun _ iv _=>8*I-(intOf iv).toNat)
  case atStart=>exact⟨0,Nat.zero_le _,rfl,rfl,aa (Below.refl _ _),aa (fun k hk=>absurd hk (by omega)),aa aq⟩
  case round=>
   obtain⟨j,hj,rfl,rfl,ZJ,ae,ad⟩:=hrel;obtain⟨i,hi⟩:∃i,i=8*j:=⟨_,rfl⟩;obtain⟨G,J⟩:∃G,G=l+2*j:=⟨_,rfl⟩;rw [<-hi,<-J];have HI:=aa hi;have HP:=aa J;rw [<-J] at ad
   have a9:I<=64:=by
    rcases Nat.eq_zero_or_pos I with h|h
    ·omega
    ·have:=(JF.out (I-1)).1 (by omega);omega
   clear hi J
   by_cases W:j<I
   ·have V:i<p:=by have:=(JF.out j).1 W;have:=HI.out;omega
    have aw:(i:Int)<(p:Int):=by omega
    obtain⟨g,o,u,aA,_,hu,s⟩:=HB.out.at_ V
    obtain⟨a,ha,a1⟩:∃a,r.ats[i]? =some a/\u= .int .i64 (a:Nat):=by
     simp only [mo,List.getElem?_map,Option.map_eq_some_iff] at hu;obtain⟨a,f,C⟩:=hu;exact⟨a,f,C.symm⟩
    subst a1;subst aA;have n:wr.cell? ⟨g,o+i,none⟩=some (.int .i64 (a:Nat)):=ak ZJ s;have T:a<=1152921504606:=by have f:=rJ.out.aple a (List.mem_of_getElem? ha);have C:=HN.out;omega
    have Ph:Hid ((eighth r.ats)[j]? =some a):=aa (by rw [wQ _ _ j (Nat.le_refl _),<-HI.out];exact ha);clear hu s ha;go_upto_region 7 with fail
    refine Rb g o p d i a wr _ (aa (fun _ _ _ _ h=>h)) n V ZI T ?_;intro be bh bj bk bm bo bp bx bB bE bK bL bM x w2 hx K U;have HX:=aa hx;have pV:=aa K;have a5:=aa U
    have ax:Hid (∀k,k<2->∃y:UInt8,m[2*j+k]? =some y/\(#[bv (UInt8.ofNat a),bv (UInt8.ofNat (a/256))]:Array Value)[k]? =some (bv y)):=aa (fun k hk=>by
     have f:=zT (eighth r.ats) j k a Ph hk;rw [ap.out,f]
     match k,hk with
     |0,_=>exact⟨_,rfl,rfl⟩
     |1,_=>exact⟨_,rfl,rfl⟩)
    have E:Hid (Below w1.heap.size w1 w2):=aa (ZJ.out.trans (U.mono ZJ.size));have oG:Hid (Rd w2 F 1 bA bn (aF b)):=aa ((HH.below oH).below E);clear hx K U n;go_wp2
    go_loopw [7,12] (fun pv kv wz=>∃k:Nat,k<=2/\kv= .int .i64 k/\pv= .int .i64 (G+k:Nat)/\Hid (Below w2.heap.size w2 wz)/\Hid (∀z,z<2*j+k->b[l+z]? =m[z]?)/\Hid (G+k<=bn)) (fun _ kv _=>2-(intOf kv).toNat)
    case atStart=>exact⟨0,by omega,rfl,rfl,aa (Below.refl _ _),ae,ad⟩
    case round=>
     obtain⟨k,hk,rfl,rfl,gK,Un,Ls⟩:=hrel;obtain⟨P,hP⟩:∃P,P=G+k:=⟨_,rfl⟩;rw [<-hP] at Ls|-;have JQ:Hid (P=l+(2*j+k)):=aa (by have:=HP.out;omega);have S:=aa hP;have ba:=Ls.out;clear hP
     by_cases K:k<2
     ·obtain⟨y,am,ao⟩:=ax.out k K;have l9:=aa am;have zt:wr.cell? ⟨x,k,none⟩=some (.int .u8 y.toNat):=((pV.below gK).cell k).trans ao;have ac:Hid (2*j+k<m.length):=aa (by have:=Cv.out;omega);have Ie:Hid (Rd wr F 1 bA bn (aF b)):=aa (oG.below gK)
      have ZK:Hid (Below w.heap.size w wr):=aa (by
       have f:=E.out.trans (gK.mono E.size);exact oH.out.trans (f.mono oH.size))
      have Mq:Hid (b[l+(2*j+k)]?≠m[2*j+k]? ->stand b m l=2*j+k):=aa (fun Y=>uP b m l _ Un ac.out Y);clear am ao
      by_cases Z:P=bn
      ·have t:Hid (aB b=([],62,bn)):=aa (by
        have f:=Mq.out (by rw [l9.out,<-JQ.out,List.getElem?_eq_none (by have:=HN.out;omega)];simp);rw [qc.out,if_pos (by rw [f];exact ac.out),f,<-JQ.out,Z])
       have bb:(bn:Int)<=(P:Int):=by omega
       clear Z;go_wp2;go_ret3
       exact zo.out 62 bn wr t ZK
      ·have aE:P<bn:=by omega
       have a8:(P:Int)<(bn:Int):=by omega
       obtain⟨b2,o2,u,rfl,_,hu,n⟩:=Ie.out.at_ aE;obtain⟨v,hv,rfl⟩:=dX hu;unfold bv at n;have HV:=aa hv;clear hu hv Z;have Uo:(k:Int)<2:=by omega
       by_cases O:v=y
       ·subst O;go_upto_region 13 with fail
        go_quiet (fail);go_wp2
        go_roundw
        case rel=>
         refine⟨k+1,by omega,by go_num,by have:=S.out;rw [this];go_num,aa (below_drewN gK _),aa (fun z hz=> ?_),aa (by have:=S.out;omega)⟩
         rcases Nat.lt_or_ge z (2*j+k) with h|h
         ·exact Un z h
         ·have a2:z=2*j+k:=by omega
          subst a2
          rw [l9.out,<-JQ.out,HV.out]
        case measure=>simp [intOf];omega
       ·have Y:((v.toNat:Int)==(y.toNat:Int))=false:=by
         rw [beq_eq_false_iff_ne];intro e;exact O (UInt8.toNat_inj.1 (by omega))
        have a3:((v.toNat:Int) !=(y.toNat:Int))=true:=by rw [bne,Y];rfl
        have t:Hid (aB b=([],62,P)):=aa (by
         have f:=Mq.out (by rw [l9.out,<-JQ.out,HV.out];intro e;exact O (Option.some.inj e));rw [qc.out,if_pos (by rw [f];exact ac.out),f,<-JQ.out])
        clear O;go_upto_region 13 with fail
        go_quiet (fail);go_wp2;go_ret3
        exact zo.out 62 P _ t (below_drewN ZK _)
     ·have Uo:¬((k:Int)<2):=by omega
      have Up:k=2:=by omega
      subst Up;go_wp2
      go_roundw
      case rel=>
       refine⟨j+1,by omega,by have:=HI.out;rw [this];go_num,by have f:=S.out;have C:=HP.out;rw [f,C];go_num,aa (E.out.trans (gK.mono E.size)),aa (fun z hz=>Un z (by omega)),aa (by have f:=S.out;have C:=HP.out;omega)⟩
      case measure=>have f:=HI.out;simp [intOf];omega
   ·have V:¬i<p:=fun h=>W ((JF j).2 (by have:=HI.out;omega));have aw:¬((i:Int)<(p:Int)):=by omega
    have a0:j=I:=by omega
    have t:Hid (stand b m l=m.length):=aa (rO b m l (fun k hk=>ae k (by have:=Cv.out;omega)));have S:Hid (l+m.length=G):=aa (by have f:=Cv.out;have C:=HP.out;omega);have ZK:Hid (Below w.heap.size w wr):=aa (oH.out.trans (ZJ.mono oH.size));clear a0 W
    by_cases al:G<bn
    ·have Uq:(G:Int)<(bn:Int):=by omega
     have oG:Hid (aB b=([],63,G)):=aa (by rw [qc.out,if_neg (by rw [t.out];omega),if_pos (by rw [S.out,<-HN.out];exact al),S]);go_wp2;go_ret3
     exact zo.out 63 G wr oG ZK
    ·have Uq:¬((G:Int)<(bn:Int)):=by omega
     have oG:Hid (aB b=(r.ents,0,0)):=aa (by rw [qc.out,if_neg (by rw [t.out];omega),if_neg (by rw [S.out,<-HN.out];exact al)]);go_wp2;go_ret3
     rw [HR.out];unfold uR;rw [oG.out]
     exact⟨A,p,c,rfl,HA.1,HA.2.1,HA.2.2.below ZJ,ZK⟩
 ·have kK:Hid (r.err≠0):=aa (by rw [<-fO.out];exact e0);have Us:(er==0)=false:=by rw [beq_eq_false_iff_ne];exact e0
  have qc:Hid (aB b=([],er,pl)):=aa (by rw [jM.out,if_pos kK.out,fO.out,sU.out]);clear e0;go_wp2;go_ret3
  rw [HR.out];unfold uR;rw [qc.out];exact⟨none,0,0,rfl,Nat.le_refl _,by simp [maxLen],bz.nil _ _ _,oH⟩
end Go.Proofs.YtepgcjbhabnciaaGreat
