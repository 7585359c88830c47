/- Part 9. -/
import Derived.Test.YtepgcjbhabnciaaGreatLp08
namespace Go.Proofs.YtepgcjbhabnciaaGreat
set_option maxRecDepth 100000
set_option maxHeartbeats 8000000
open Go.Proofs.Tryz Go.RowKit
variable {v1 v2 v4 u1 y s u7 k L E O W Z U G f C I M P l z D u28 T g J u6 r V d j v5 u4 u u9 u22 u23 u27 u30 x u33 u34 u35 h u37 u38 N u40 R u42 X u44 u45:Value} {n m q p c base:Nat} {A B:Option Addr} {prev b:List UInt8} {F:Nat->Prop} {w:World} {Y:List Value} {Q:Exit->Act->World->Prop}
theorem Jf (c:Nat) (d p:Nat) (hA:Rd w F 1 A n (aI prev)) (hn:n=prev.length) (hnc:n<=c) (hB:Rd w F 1 B m (aI b)) (hm:m=b.length) (y:m<=d) (hp:p<=m) (hn2:n<=1152921504606) (o:m<=1152921504606) (hcm:c<=maxLen) (a:∀b,F b->b<w):
  Calls prog 195 #[.slice A n c,.slice B m d,(p:Int)] w (iw prev b p w):=by
 refine letter fun R W=> ?_;have HA:=aa hA;have U:=aa hn;have HB:=aa hB;have HM:=aa hm;have HF:=aa a;have bo:=aa hcm;clear hA hn hB hm a hcm;go_enter func195,ntmps195;go_upto_region 7 with fail
 obtain⟨q,hq⟩:=gF w.heap.size;obtain⟨w1,M⟩:=gF (((w.alloc (.cells #[.slice none 0 0,.slice none 0 0] 69)).alloc (.cells #[.slice none 0 0,.slice none 0 0] 69)).alloc (.cells #[.int .u64 0,.int .u64 0,.int .u64 0] 328));simp only [<-M,<-hq];have Q:=aa hq;have S:Hid (Below w w w1):=aa (by rw [M];exact(gV.alloc (by simp) _).alloc (by simp;omega) _);have QS:Hid (ak w1 q 69 #[(),()]):=aa (by rw [M,hq];exact((ak.new w _ _).alloc _).alloc _);have bp:Hid (ak w1 (q+1) 69 #[(),()]):=aa (by rw [M,hq];have:=(ak.new (w.alloc (.cells #[(),()] 69)) 69 #[(),()]).alloc (.cells #[.int .u64 0,.int .u64 0,.int .u64 0] 328);rwa [World.size_alloc] at this);have bE:Hid (ak w1 (q+1+1) 328 #[.int .u64 0,.int .u64 0,.int .u64 0]):=aa (by rw [M,hq];have:=ak.new ((w.alloc (.cells #[(),()] 69)).alloc (.cells #[(),()] 69)) 328 #[.int .u64 0,.int .u64 0,.int .u64 0];rwa [World.size_alloc,World.size_alloc] at this);clear M hq
 refine ZI d p _ (aa (HB.below S)) HM hp o QS bp bE (aa (fun b f=>by have:=HF.out b f;have:=Q.out;omega)) (by omega) ?_ ?_
 ·intro v7 v8 b3 b4 b5 b6 b7 b8 b9 ca cb cd cf cg ch ci cj ck cl cn co cp cq cr ct cu w2 he Un IP Y hc;have G:Hid (Below w w w2):=aa ((S.out.trans (hc.below_of (B:=w.heap.size) S.size (fun b f e=>by have:=Q.out;have e:b=q+1+1:=e;omega))));have cx:Hid (w<=q/\q+1+1<w2):=aa ⟨by have:=Q.out;omega,Y.lt⟩;obtain⟨s,hs⟩:=gF (EW b p 0);obtain⟨mm,ae⟩:=gF (EW b p 1);obtain⟨l,hl⟩:=gF (EW b p 2);obtain⟨P,hP⟩:=gF (rf b p 3);have bQ:P<=m:=by rw [hP,HM.out];exact wh b p (by have:=HM.out;omega) 3
  have On:s<18446744073709551616:=by rw [hs];exact wm _ _ _
  have Sz:mm<18446744073709551616:=by rw [ae];exact wm _ _ _
  have VR:l<18446744073709551616:=by rw [hl];exact wm _ _ _
  have xW:Hid (pread prev b p=bZ prev b p s mm l P):=aa (by
   rw [zo,if_neg (fun h=>h (he 0 (by omega))),if_neg (fun h=>h (he 1 (by omega))),if_neg (fun h=>h (he 2 (by omega))),hs,ae,hl,hP])
  have CB:Hid (ak w2 (q+1+1) 328 #[.int .u64 s,.int .u64 mm,.int .u64 l]):=aa (by rw [hs,ae,hl];exact Y);have y0:w2.cell? ⟨q+1+1,0,none⟩=some (.int .u64 s):=CB.out.cell 0;have y1:w2.cell? ⟨q+1+1,1,none⟩=some (.int .u64 mm):=CB.out.cell 1;have y2:w2.cell? ⟨q+1+1,2,none⟩=some (.int .u64 l):=CB.out.cell 2;have x0:w2.cell? ⟨q+1,0,none⟩=some (.slice none 0 0):=IP.cell 0;have x1:w2.cell? ⟨q+1,1,none⟩=some (.slice none 0 0):=IP.cell 1;have g:w2.cell? q=some (.slice none 0 0):=Un.cell 0;have k:w2.cell? ⟨q,1,none⟩=some (.slice none 0 0):=Un.cell 1;have IJ:=Un.frozen 0;have xP:=Un.frozen 1;have bF:=aa Un;have bG:=aa IP;rw [<-hP]
  have CE:Hid (∀(xn:Nat) (O:Int),O≠0->bZ prev b p s mm l P=⟨[],[],xn,O⟩->∀w',ag (fun b=>b=q) w2 w'->iw prev b p w (.returned (.tuple #[.agg #[(),()],(xn:Int),(O:Int)])) w'):=aa (fun xn O am hp w' hw=>by
   unfold iw;rw [xW.out,hp];exact⟨_,_,_,_,_,_,rfl,fun h=>absurd h am,G.out.trans (hw.below_of G.size (fun b f e=>by have:=Q.out;have e:b=q:=e;omega))⟩)
  have jo:Hid (ag (fun b=>b=q) w2 ((w2.setCell q ()).setCell ⟨q,1,none⟩ ())):=aa (((ag.refl (fun b=>b=q) w2).setCell (p:=q) (fun _=>rfl) _).setCell (p:=⟨q,1,none⟩) (fun _=>rfl) _);clear he Un IP Y hc hs ae hl hP
  by_cases c1:n<s
  ·have E:Hid (bZ prev b p s mm l P=⟨[],[],p,52⟩):=aa (by unfold bZ;rw [if_pos (by have:=U.out;omega)]);have aw:(n:Int)<(s:Int):=by omega
   go_wp2;refine bodyPost_ret (v:= .tuple #[.agg #[(),()],(p:Int),.int .i64 52]) (by simp [results,results195,go_sem,g,k]) rfl ?_
   rw [W.out]
   exact CE.out p 52 (by decide) E _ jo
  ·have Ca:Hid (¬prev.length<s):=aa (by have:=U.out;omega);have aw:¬((n:Int)<(s:Int)):=by omega
   by_cases c2:64<mm\/256<l\/s+mm=0\/64<s+mm
   ·have E:Hid (bZ prev b p s mm l P=⟨[],[],p,3⟩):=aa (by unfold bZ;rw [if_neg Ca.out,if_pos c2])
    by_cases d1:64<mm
    ·have aA:(64:Int)<(mm:Int):=by omega
     clear c2;go_wp2;refine bodyPost_ret (v:= .tuple #[.agg #[(),()],(p:Int),.int .i64 3]) (by simp [results,results195,go_sem,g,k]) rfl ?_;rw [W.out]
     exact CE.out p 3 (by decide) E _ jo
    ·have aA:¬((64:Int)<(mm:Int)):=by omega
     by_cases d2:256<l
     ·have Ur:(256:Int)<(l:Int):=by omega
      clear c2;go_wp2;refine bodyPost_ret (v:= .tuple #[.agg #[(),()],(p:Int),.int .i64 3]) (by simp [results,results195,go_sem,g,k]) rfl ?_;rw [W.out]
      exact CE.out p 3 (by decide) E _ jo
     ·have Ur:¬((256:Int)<(l:Int)):=by omega
      have ds:((s:Int)+(mm:Int))<18446744073709551616:=by omega
      by_cases d3:s+mm=0
      ·have a0:s=0:=by omega
       have aE:mm=0:=by omega
       clear y0 y1 c2;have y0:w2.cell? ⟨q+1+1,0,none⟩=some (.int .u64 0):=(CB.out.cell 0).trans (by rw [a0];rfl);have y1:w2.cell? ⟨q+1+1,1,none⟩=some (.int .u64 0):=(CB.out.cell 1).trans (by rw [aE];rfl);clear d3 a0 aE ds c1 aw d1 aA On Sz;go_wp2;refine bodyPost_ret (v:= .tuple #[.agg #[(),()],(p:Int),.int .i64 3]) (by simp [results,results195,go_sem,g,k]) rfl ?_;rw [W.out]
       exact CE.out p 3 (by decide) E _ jo
      ·have cE:¬(((s:Int)+(mm:Int))=0):=by omega
       have d4:64<s+mm:=by omega
       have cF:(64:Int)<((s:Int)+(mm:Int)):=by omega
       clear c2;go_wp2;refine bodyPost_ret (v:= .tuple #[.agg #[(),()],(p:Int),.int .i64 3]) (by simp [results,results195,go_sem,g,k]) rfl ?_;rw [W.out]
       exact CE.out p 3 (by decide) E _ jo
   ·have CF:=aa c2;have e1:¬((64:Int)<(mm:Int)):=by omega
    have e2:¬((256:Int)<(l:Int)):=by omega
    have e3:¬(((s:Int)+(mm:Int))=0):=by omega
    have e4:¬((64:Int)<((s:Int)+(mm:Int))):=by omega
    have On:s<=64:=by omega
    have Ye:mm<=64:=by omega
    have cC:l<=256:=by omega
    have b0:s<=n:=by omega
    clear c1 c2 Sz VR
    by_cases c3:m-P<mm+l
    ·have E:Hid (bZ prev b p s mm l P=⟨[],[],m,53⟩):=aa (by unfold bZ;rw [if_neg Ca.out,if_neg CF.out,if_pos (by have:=HM.out;omega),<-HM.out]);have bP:(m:Int)-(P:Int)<(mm:Int)+(l:Int):=by omega
     clear c3;go_wp2;refine bodyPost_ret (v:= .tuple #[.agg #[(),()],(m:Int),.int .i64 53]) (by simp [results,results195,go_sem,g,k]) rfl ?_;rw [W.out]
     exact CE.out m 53 (by decide) E _ jo
    ·have ZJ:Hid (¬b.length-P<mm+l):=aa (by have:=HM.out;omega);have bP:¬((m:Int)-(P:Int)<(mm:Int)+(l:Int)):=by omega
     have bT:P+mm+l<=m:=by omega
     have bm:Hid (Rd w2 F 1 B m (aI b)):=aa (HB.below G);have bk:Hid (Rd w2 F 1 A n (aI prev)):=aa (HA.below G);obtain⟨A1,bU,ba⟩:=ZK (p:=P) bm bQ y;obtain⟨A2,bX,be⟩:=VS (c:=d-P) (p:=mm) ba (by omega) (by omega);obtain⟨A3,cG,bh⟩:=ZL (p:=s) bk b0 hnc;have bx:=aa be;have bz:=aa bh;clear c3 ba be bh;go_upto_region 21 with fail
     go_quiet (fail);clear bU bX;go_upto_region 23 with fail
     obtain⟨z,al⟩:=gF (w2.drewN nq);rw [<-al];have fu:Hid (ag Nil w2 z):=aa (by rw [al];exact(ag.refl Nil w2).drewN _);have au:Hid (z.heap.size=w2.heap.size):=aa (by rw [al];rfl);have bI:Hid (Rd z F 1 A2 mm (aI ((b.drop P).take mm))):=aa (bx.chg fu (fun _ _ h=>h));have bL:Hid (Rd z F 1 A3 s (aI (prev.take s))):=aa (bz.chg fu (fun _ _ h=>h));have ZM:Hid (ak z q 69 #[(),()]):=aa (bF.chg fu (fun h=>h));have bN:Hid (ak z (q+1+1) 328 #[.int .u64 s,.int .u64 mm,.int .u64 l]):=aa (CB.chg fu (fun h=>h));have Zr:Hid (ak z (q+1) 69 #[(),()]):=aa ((bG).chg fu (fun h=>h));obtain⟨key,L⟩:=gF (prev.take s++(b.drop P).take mm);have Kb:=aa L;have jE:Hid ([prev.take s,(b.drop P).take mm].flatten=key):=aa (by rw [L];simp)
     have EP:Hid (key.length=s+mm):=aa (by
      have h1:=HM.out;have h2:=U.out;rw [L,mq,List.length_take,List.length_take,List.length_drop];omega)
     have Da:Hid (Tx (z.alloc (.cells #[.slice A3 s c,.slice A2 mm mm] 24)) (fun b=>b<z+1) (some ⟨z,0,none⟩) 2 2 [prev.take s,(b.drop P).take mm]):=aa (by
      have a4:Below z z (z.alloc (.cells #[.slice A3 s c,.slice A2 mm mm] 24)):=gV;have a2:∀b,F b->b<z+1:=fun b f=>by have h1:=HF.out b f;have h2:=G.out.size;have h3:=au.out;omega
      refine⟨by omega,by simp [maxLen],rfl,[.slice A3 s c,.slice A2 mm mm],⟨rfl,fun _=>⟨_,0,rfl,by omega,fun j u hj=>by rw [(ak.new z _ _).cell];simpa using hj⟩⟩,fun i t ht=> ?_⟩
      match i,ht with
      |0,ht=>
       simp only [List.getElem?_cons_zero,Option.some.injEq] at ht;subst ht
       exact⟨_,rfl,(SB.mk (by omega) bo (by have h2:=U.out;rw [List.length_take];omega) (bL.below a4)).weak a2⟩
      |1,ht=>
       simp only [List.getElem?_cons_succ,List.getElem?_cons_zero,Option.some.injEq] at ht;subst ht;exact⟨_,rfl,(SB.mk jO (by simp only [maxLen];omega) (by have h1:=HM.out;rw [List.length_take,List.length_drop];omega) (bI.below a4)).weak a2⟩)
     have tJ:=aa (yB (fun b=>b<z+1) (some ⟨z,0,none⟩) 2 2 (w:=z.alloc (.cells #[.slice A3 s c,.slice A2 mm mm] 24)) Da (fun b f=>by rw [World.size_alloc];exact f) (by omega) (by rw [jE.out,EP.out];omega));rw [jE.out] at tJ;clear al L y0 y1 y2 x0 x1 g k IJ xP;go_upto_block 3 with(go_at_call 170;go_loud (refine tJ.mono ?_);rintro e H ⟨kv,rfl,a3,a1⟩;have jM:=aa a3;have dE:Hid (Below z z H):=aa (gV.trans (a1.mono (by rw [World.size_alloc];omega)));clear a3 a1)
     obtain⟨K,kn,kc,rfl,a6,a7,a8,a9⟩:=jM.out.sb;have EX:Hid (Below w w H):=aa ((G.out.trans (fu.below_of G.size (fun _ _ h=>h))).trans (dE.mono (by have:=G.out.size;have:=au.out;omega)));have SA:=aa a8;have rH:=aa a9;have PU:=aa (And.intro a6 a7);have Af:Hid (Rd H F 1 A n (aI prev)):=aa (HA.below EX);have ZN:Hid (Rd H F 1 B m (aI b)):=aa (HB.below EX);have mo:Hid (ak H q 69 #[(),()]):=aa (ZM.below dE);have VT:Hid (ak H (q+1) 69 #[(),()]):=aa (Zr.below dE);have Yf:Hid (ak H (q+1+1) 328 #[.int .u64 s,.int .u64 mm,.int .u64 l]):=aa (bN.below dE);have Mv:=aa (yA c kc Af U rH SA (by omega));obtain⟨cm,X⟩:=gF (comm prev key);rw [<-X] at Mv;have SC:=aa X;have cy:cm<=1152921504606:=by have:=(jG prev key).1;have:=U.out;omega
     clear a6 a7 a8 a9 X
     have M8:Hid (∀(O:Int) (w':World),O≠0->bZ prev b p s mm l P=⟨[],[],p,O⟩->ag (fun b=>b=q) H w'->iw prev b p w (.returned (.tuple #[.agg #[(),()],(p:Int),(O:Int)])) w'):=aa (fun O w' am hp hw=>by
      unfold iw;rw [xW.out,hp];exact⟨_,_,_,_,_,_,rfl,fun h=>absurd h am,EX.out.trans (hw.below_of EX.size (fun b f e=>by have:=Q.out;have e:b=q:=e;omega))⟩)
     by_cases k1:cm=s
     ·have sO:Hid (¬comm prev key≠s):=aa (by rw [<-SC.out];exact fun h=>h k1);have aq:((cm:Int)==(s:Int))=true:=by rw [beq_iff_eq];omega
      have Kc:((cm:Int) !=(s:Int))=false:=by simp [k1]
      have ZO:decide ((cm:Int)=(s:Int))=true:=decide_eq_true (by omega)
      by_cases k2:0<n/\0<=Lib.compareBytes prev key
      ·have E:Hid (bZ prev b p s mm l P=⟨[],[],p,51⟩):=aa (by unfold bZ;rw [if_neg Ca.out,if_neg CF.out,if_neg ZJ.out,<-Kb.out,if_neg sO.out,if_pos (by rw [<-U.out];exact k2)]);have cH:0<n:=k2.1;have cA:(0:Int)<(n:Int):=by omega
       obtain⟨ce,D⟩:=gF (Lib.compareBytes prev key);have sN:=aa D;have b1:0<=ce:=by rw [D];exact k2.2
       clear k2 D k1;go_wp2_with (first|(go_at_call 177;go_loud (refine Mv.mono ?_);rintro e x ⟨rfl,q5,ib⟩;have r:Hid (ag Nil H x):=aa (by rw [ib];exact(ag.refl Nil H).drewN _);have cv:x.cell? ⟨q+1,0,none⟩=some (.slice none 0 0):=(VT.out.chg r (fun h=>h)).cell 0;have cw:x.cell? ⟨q+1,1,none⟩=some (.slice none 0 0):=(VT.out.chg r (fun h=>h)).cell 1;have g:x.cell? q=some (.slice none 0 0):=(mo.out.chg r (fun h=>h)).cell 0;have k:x.cell? ⟨q,1,none⟩=some (.slice none 0 0):=(mo.out.chg r (fun h=>h)).cell 1;have IJ:=(mo.out.chg r (fun h=>h)).frozen 0;have xP:=(mo.out.chg r (fun h=>h)).frozen 1;clear ib)|(go_at_call 56;go_loud (refine(eu c kc (Af.chg r (fun _ _ h=>h)) U (rH.chg r (fun _ _ h=>h)) SA).mono ?_);rintro e C ⟨rfl,rfl⟩;rw [<-sN.out]));refine bodyPost_ret (v:= .tuple #[.agg #[(),()],(p:Int),.int .i64 51]) (by simp [results,results195,go_sem,g,k]) rfl ?_;rw [W.out]
       exact M8 51 _ (by decide) E (((r.mono (T:=fun b=>b=q) (fun _ _ h=>h.elim)).setCell (p:=q) (fun _=>rfl) _).setCell (p:=⟨q,1,none⟩) (fun _=>rfl) _)
      ·have E:Hid (bZ prev b p s mm l P=⟨key,(b.drop (P+mm)).take l,P+mm+l,0⟩):=aa (by unfold bZ;rw [if_neg Ca.out,if_neg CF.out,if_neg ZJ.out,<-Kb.out,if_neg sO.out,if_neg (by rw [<-U.out];exact k2)]);obtain⟨A4,ao,an⟩:=Ke (p:=P+mm) (q:=P+mm+l) ZN (by omega) bT y;rw [show P+mm+l-(P+mm)=l by omega] at ao an;have cD:∀w',(Instr.slice 24 (.slice B m d) (some (.int .i64 ((P:Int)+(mm:Int)))) (some (.int .i64 ((P:Int)+(mm:Int)+(l:Int)))) none).run prog w'= .ok (.slice A4 l (d-(P+mm))) w':=fun w'=>by have:=ao w';simpa only [Int.natCast_add] using this
       have ar:=aa an;clear ao an
       by_cases n0:0<n
       ·have b2:(0:Int)<(n:Int):=by omega
        obtain⟨ce,D⟩:=gF (Lib.compareBytes prev key);have sN:=aa D;have b1:¬0<=ce:=by rw [D];exact fun h=>k2 ⟨n0,h⟩
        clear k2 D k1;go_upto_region 29 with(first|(go_at_call 177;go_loud (refine Mv.mono ?_);rintro e x ⟨rfl,q5,ib⟩;have r:Hid (ag Nil H x):=aa (by rw [ib];exact(ag.refl Nil H).drewN _);have y2:x.cell? ⟨q+1+1,2,none⟩=some (.int .u64 l):=(Yf.out.chg r (fun h=>h)).cell 2;clear ib)|(go_at_call 56;go_loud (refine(eu c kc (Af.chg r (fun _ _ h=>h)) U (rH.chg r (fun _ _ h=>h)) SA).mono ?_);rintro e C ⟨rfl,rfl⟩;rw [<-sN.out]))
        have iI:=aa (eG (d-(P+mm)) (bs:=(b.drop (P+mm)).take l) (ar.chg r (fun _ _ h=>h)) (by rw [List.length_take,List.length_drop];have:=HM.out;omega) (by omega));have rM:Hid (ak x q 69 #[(),()]):=aa (mo.chg r (fun h=>h));have F5:Hid (Rd x (From (z.alloc (.cells #[.slice A3 s c,.slice A2 mm mm] 24)).heap.size) 1 K kn (aI key)):=aa (rH.chg r (fun _ _ h=>h));have sG:Hid (Below w w x):=aa (EX.out.trans (r.below_of EX.size (fun _ _ h=>h)));clear y2 aq Kc ZO;go_wp2_with (go_at_call 24;go_loud (refine iI.mono ?_);rintro e C ⟨V,vn,vc,rfl,Z,ab,ac,ad,J⟩;have HV:=aa (And.intro Z (And.intro ab (And.intro ac.out ad)));have gG:=aa J;have N:ak C q 69 #[(),()]:=rM.out.below J;have vI:=aa N;have g:C.cell? q=some (.slice none 0 0):=N.cell 0;have k:C.cell? ⟨q,1,none⟩=some (.slice none 0 0):=N.cell 1;have IJ:=N.frozen 0;have xP:=N.frozen 1;clear Z ab ac ad J N);refine bodyPost_ret (v:= .tuple #[.agg #[.slice K kn kc,.slice V vn vc],.int .i64 ((P:Int)+(mm:Int)+(l:Int)),.int .i64 0]) (by simp [results,results195,go_sem,g,k]) rfl ?_;rw [W.out];unfold iw;rw [xW.out,E.out];have I:ag (fun b=>b=q) C ((C.setCell q (.slice K kn kc)).setCell ⟨q,1,none⟩ (.slice V vn vc)):=((ag.refl (fun b=>b=q) C).setCell (p:=q) (fun _=>rfl) _).setCell (p:=⟨q,1,none⟩) (fun _=>rfl) _;have iO:Below w w C:=sG.out.trans (gG.mono sG.size)
        refine⟨K,kn,kc,V,vn,vc,by simp only [Int.natCast_add],fun _=>⟨?_,?_⟩,iO.trans (I.below_of iO.size (fun b f e=>by have:=Q.out;have e:b=q:=e;omega))⟩
        ·have h1:SB C (fun b=>q<b) (.slice K kn kc) key:=(SB.mk PU.1 PU.2 SA (F5.below gG)).weak (fun b f=>by have h2:(z.alloc (.cells #[.slice A3 s c,.slice A2 mm mm] 24)).heap.size<=b:=f;rw [World.size_alloc] at h2;have h3:=ZM.out.lt;omega)
         exact(h1.chg I (fun b f e=>by have f:q<b:=f;have e:b=q:=e;omega)).weak (fun b f=>by have f:q<b:=f;show w<=b;have:=Q.out;omega)
        ·have h1:SB C (fun b=>q<b) (.slice V vn vc) ((b.drop (P+mm)).take l):=(SB.mk HV.1 HV.2.1 HV.2.2.1 HV.2.2.2).weak (fun b f=>by have h2:x<=b:=f.1;have h3:=rM.out.lt;omega)
         exact(h1.chg I (fun b f e=>by have f:q<b:=f;have e:b=q:=e;omega)).weak (fun b f=>by have f:q<b:=f;show w<=b;have:=Q.out;omega)
       ·have b2:¬((0:Int)<(n:Int)):=by omega
        obtain⟨ce,D⟩:=gF (Lib.compareBytes prev key);have sN:=aa D;clear k2 D k1;go_upto_region 29 with(first|(go_at_call 177;go_loud (refine Mv.mono ?_);rintro e x ⟨rfl,q5,ib⟩;have r:Hid (ag Nil H x):=aa (by rw [ib];exact(ag.refl Nil H).drewN _);have y2:x.cell? ⟨q+1+1,2,none⟩=some (.int .u64 l):=(Yf.out.chg r (fun h=>h)).cell 2;clear ib)|(go_at_call 56;go_loud (refine(eu c kc (Af.chg r (fun _ _ h=>h)) U (rH.chg r (fun _ _ h=>h)) SA).mono ?_);rintro e C ⟨rfl,rfl⟩;rw [<-sN.out]));have iI:=aa (eG (d-(P+mm)) (bs:=(b.drop (P+mm)).take l) (ar.chg r (fun _ _ h=>h)) (by rw [List.length_take,List.length_drop];have:=HM.out;omega) (by omega));have rM:Hid (ak x q 69 #[(),()]):=aa (mo.chg r (fun h=>h));have F5:Hid (Rd x (From (z.alloc (.cells #[.slice A3 s c,.slice A2 mm mm] 24)).heap.size) 1 K kn (aI key)):=aa (rH.chg r (fun _ _ h=>h));have sG:Hid (Below w w x):=aa (EX.out.trans (r.below_of EX.size (fun _ _ h=>h)));clear y2 aq Kc ZO;go_wp2_with (go_at_call 24;go_loud (refine iI.mono ?_);rintro e C ⟨V,vn,vc,rfl,Z,ab,ac,ad,J⟩;have HV:=aa (And.intro Z (And.intro ab (And.intro ac.out ad)));have gG:=aa J;have N:ak C q 69 #[(),()]:=rM.out.below J;have vI:=aa N;have g:C.cell? q=some (.slice none 0 0):=N.cell 0;have k:C.cell? ⟨q,1,none⟩=some (.slice none 0 0):=N.cell 1;have IJ:=N.frozen 0;have xP:=N.frozen 1;clear Z ab ac ad J N);refine bodyPost_ret (v:= .tuple #[.agg #[.slice K kn kc,.slice V vn vc],.int .i64 ((P:Int)+(mm:Int)+(l:Int)),.int .i64 0]) (by simp [results,results195,go_sem,g,k]) rfl ?_;rw [W.out];unfold iw;rw [xW.out,E.out];have I:ag (fun b=>b=q) C ((C.setCell q (.slice K kn kc)).setCell ⟨q,1,none⟩ (.slice V vn vc)):=((ag.refl (fun b=>b=q) C).setCell (p:=q) (fun _=>rfl) _).setCell (p:=⟨q,1,none⟩) (fun _=>rfl) _;have iO:Below w w C:=sG.out.trans (gG.mono sG.size)
        refine⟨K,kn,kc,V,vn,vc,by simp only [Int.natCast_add],fun _=>⟨?_,?_⟩,iO.trans (I.below_of iO.size (fun b f e=>by have:=Q.out;have e:b=q:=e;omega))⟩
        ·have h1:SB C (fun b=>q<b) (.slice K kn kc) key:=(SB.mk PU.1 PU.2 SA (F5.below gG)).weak (fun b f=>by have h2:(z.alloc (.cells #[.slice A3 s c,.slice A2 mm mm] 24)).heap.size<=b:=f;rw [World.size_alloc] at h2;have h3:=ZM.out.lt;omega)
         exact(h1.chg I (fun b f e=>by have f:q<b:=f;have e:b=q:=e;omega)).weak (fun b f=>by have f:q<b:=f;show w<=b;have:=Q.out;omega)
        ·have h1:SB C (fun b=>q<b) (.slice V vn vc) ((b.drop (P+mm)).take l):=(SB.mk HV.1 HV.2.1 HV.2.2.1 HV.2.2.2).weak (fun b f=>by have h2:x<=b:=f.1;have h3:=rM.out.lt;omega)
         exact(h1.chg I (fun b f e=>by have f:q<b:=f;have e:b=q:=e;omega)).weak (fun b f=>by have f:q<b:=f;show w<=b;have:=Q.out;omega)
     ·have E:Hid (bZ prev b p s mm l P=⟨[],[],p,52⟩):=aa (by unfold bZ;rw [if_neg Ca.out,if_neg CF.out,if_neg ZJ.out,<-Kb.out,if_pos (by rw [<-SC.out];exact k1)]);have aq:((cm:Int)==(s:Int))=false:=by rw [mi];omega
      have Kc:((cm:Int) !=(s:Int))=true:=by simp;omega
      have ZO:decide ((cm:Int)=(s:Int))=false:=decide_eq_false (by omega);go_wp2_with (go_at_call 177;go_loud (refine Mv.mono ?_);rintro e x ⟨rfl,q5,ib⟩;have r:Hid (ag Nil H x):=aa (by rw [ib];exact(ag.refl Nil H).drewN _);have cv:x.cell? ⟨q+1,0,none⟩=some (.slice none 0 0):=(VT.out.chg r (fun h=>h)).cell 0;have cw:x.cell? ⟨q+1,1,none⟩=some (.slice none 0 0):=(VT.out.chg r (fun h=>h)).cell 1;have g:x.cell? q=some (.slice none 0 0):=(mo.out.chg r (fun h=>h)).cell 0;have k:x.cell? ⟨q,1,none⟩=some (.slice none 0 0):=(mo.out.chg r (fun h=>h)).cell 1;have IJ:=(mo.out.chg r (fun h=>h)).frozen 0;have xP:=(mo.out.chg r (fun h=>h)).frozen 1;clear ib);refine bodyPost_ret (v:= .tuple #[.agg #[(),()],(p:Int),.int .i64 52]) (by simp [results,results195,go_sem,g,k]) rfl ?_;rw [W.out]
      exact M8 52 _ (by decide) E (((r.mono (T:=fun b=>b=q) (fun _ _ h=>h.elim)).setCell (p:=q) (fun _=>rfl) _).setCell (p:=⟨q,1,none⟩) (fun _=>rfl) _)
 ·intro cI b3 b4 b5 b6 b7 b8 b9 ca cb cd cf cg ch ci cj ck cl cn co cp cq cr ct cu i xn O w2 hi a5 he bj ap Un hc;have E:Hid (pread prev b p=⟨[],[],xn,O⟩):=aa (by rw [bj,ap];exact Om prev b p i hi a5 he);have iq:Hid (O≠0):=aa (by rw [ap];exact he);have HC:=aa hc;have g:w2.cell? q=some (.slice none 0 0):=Un.cell 0;have k:w2.cell? ⟨q,1,none⟩=some (.slice none 0 0):=Un.cell 1;clear hi a5 he bj ap Un hc;go_wp2;refine bodyPost_ret (v:= .tuple #[.agg #[(),()],(xn:Int),(O:Int)]) (by simp [results,results195,go_sem,g,k]) rfl ?_;rw [W.out];unfold iw;rw [E.out];exact⟨_,_,_,_,_,_,rfl,fun h=>absurd h iq,S.out.trans (HC.below_of (B:=w.heap.size) S.size (fun b f e=>by have:=Q.out;rcases e with e|e<;>omega))⟩
def gI (e:Int) (p:Nat):List PanicEntry:= [{v:= .iface 290 (.agg #[e,(p:Int)]),recovered:=false}]
theorem rG:eighth []= []:=by unfold eighth;rfl
theorem wR:∀(k:Nat) (l:List Nat) (a:Nat),l.length<=k->eighth (l++ [a])=if l.length%8=0 then eighth l++ [a] else eighth l:=by
 intro k
 induction k with
 |zero=>
  intro l a h;have:l= []:=List.eq_nil_of_length_eq_zero (by omega);subst this
  simp [eighth]
 |succ k d=>
  intro l a h
  cases l with
  |nil=>simp [eighth]
  |cons x r=>
   rw [List.cons_append];conv=>lhs;unfold eighth
   conv=>rhs;unfold eighth
   rw [List.length_cons] at h|-
   by_cases c:7<=r.length
   ·rw [List.drop_append_of_le_length c,d _ _ (by rw [List.length_drop];omega),List.length_drop]
    by_cases b:(r.length-7)%8=0
    ·rw [if_pos b,if_pos (by omega),List.cons_append]
    ·rw [if_neg b,if_neg (by omega)]
   ·rw [List.drop_eq_nil_of_le (by rw [mq,List.length_singleton];omega),List.drop_eq_nil_of_le (by omega),if_neg (by omega)]
theorem oo (l:List Nat):∀k,l.length<=k->(eighth l).length<=l.length:=by
 intro k
 induction k generalizing l with
 |zero=>intro h;have:l= []:=List.eq_nil_of_length_eq_zero (by omega);subst this;simp [eighth]
 |succ k a=>
  intro h
  cases l with
  |nil=>simp [eighth]
  |cons x r=>
   unfold eighth;rw [List.length_cons,List.length_cons];rw [List.length_cons] at h;have:=a (r.drop 7) (by rw [List.length_drop];omega);rw [List.length_drop] at this;omega
theorem Jc:∀(k:Nat) (l:List Nat),l.length<=k->∀a∈eighth l,a∈l:=by
 intro k
 induction k with
 |zero=>intro l h a b;have:l= []:=List.eq_nil_of_length_eq_zero (by omega);subst this;rw [rG] at b;exact b
 |succ k c=>
  intro l h a b
  cases l with
  |nil=>rw [rG] at b;exact b
  |cons x r=>
   unfold eighth at b;rw [List.length_cons] at h
   rcases List.mem_cons.1 b with e|e
   ·rw [e];exact List.mem_cons_self
   ·exact List.mem_cons_of_mem _ (List.mem_of_mem_drop (c _ (by rw [List.length_drop];omega) a e))
def o7 (l:List Nat):List Value:=l.map fun a=> .int .i64 (a:Nat)
structure BR (w:World) (base q:Nat) (bA:Option Addr) (bn bc n:Nat) (l:List aR) (ats:List Nat) (p:Nat) (lv rv:Value):Prop where
 blk:ak w q 295 #[.slice bA bn bc,(n:Int),(l.length:Int),(p:Int),lv,rv]
 lst:l= []->lv= ()
 key:SB w (fun b=>base<=b/\rv.ownBlock≠some b/\b≠q) lv (aD l)
 own:w.ownsRow base 3 1 rv (eighth ats).length (o7 (eighth ats))
 ne:rv.ownBlock≠some q
theorem BR.chg {S:Nat->Prop} {w w':World} {base q:Nat} {bA:Option Addr} {bn bc n:Nat} {l:List aR} {ats:List Nat} {p:Nat} {lv rv:Value} (h:BR w base q bA bn bc n l ats p lv rv) (hc:ag S w w') (c:∀_b,base<=_b->_b<w->¬S _b) (K:base<=q):BR w' base q bA bn bc n l ats p lv rv:=
 ⟨h.blk.chg hc (c q K h.blk.lt),h.lst,(h.key.lt.chg hc (fun _b a=>c _b a.1.1 a.2)).weak (fun _b a=>a.1),aB h.own hc (fun g d=>c g (ah h.own g d).1 (ah h.own g d).2),h.ne⟩
theorem Qo (c:Nat) (h:Rd w F 1 A n (aI b)) (hn:n=b.length) (K:n<=1152921504606) (l:(ai b 0).2.2=0) (r:1<=(ai b 0).1) (f:(ai b 0).1<=64):
  Calls prog 173 #[.slice A n c] w fun e w'=>∃q,e= .returned (.pointer (some ⟨q,0,none⟩))/\w.heap.size<=q/\BR w' w.heap.size q A n c (ai b 0).1 [] [] (ai b 0).2.1 (.slice none 0 0) ()/\Below w w w':=by
 have k:=aa (mO c 0 h hn (Nat.zero_le _) K);obtain⟨x,j⟩:=gF ((ai b 0).1);obtain⟨p,i⟩:=gF ((ai b 0).2.1);rw [<-j,<-i,l] at k;rw [<-j] at r f|-;rw [<-i];obtain⟨R,g⟩:∃R:Ending->World->Prop,R=fun e w'=>∃q,e= .returned q/\w.heap.size<=q/\BR w' w q A n c x [] [] p () ()/\Below w w w':=⟨_,rfl⟩;have m:=aa g;rw [<-g];have t:((x:Int)==0)=false:=by rw [mi];omega
 have o:¬((x:Int)=0):=by omega
 have s:¬((64:Int)<(x:Int)):=by omega
 clear g j i h hn l;go_enter func173,ntmps173;go_wp2_with (go_at_call 194;go_loud (refine k.mono ?_);rintro e w2 ⟨rfl,a⟩;have d:=aa a;clear a)
 rw [m.out];refine⟨_,rfl,d.size,⟨ak.new _ _ _,fun _=>rfl,SB.nil _ _,by rw [rG];exact World.ownsRow_nil _ _ _ _,by simp [Value.ownBlock]⟩,d.alloc d.size _⟩
theorem Nb (c:Nat) (h:Rd w F 1 A n (aI b)) (hn:n=b.length) (K:n<=1152921504606) (j:(ai b 0).2.2≠0):
  Calls prog 173 #[.slice A n c] w fun e w'=>e= .panicked (gI (ai b 0).2.2 (ai b 0).2.1)/\Below w w w':=by
 have i:=aa (mO c 0 h hn (Nat.zero_le _) K);obtain⟨x,k⟩:=gF ((ai b 0).1);obtain⟨p,g⟩:=gF ((ai b 0).2.1);obtain⟨er,d⟩:=gF ((ai b 0).2.2);rw [<-k,<-g,<-d] at i;rw [<-d] at j|-;rw [<-g];obtain⟨R,f⟩:∃R:Ending->World->Prop,R=fun e w'=>e= .panicked (gI er p)/\Below w w w':=⟨_,rfl⟩;have l:=aa f;rw [<-f];have o:(er==0)=false:=by rw [mi];exact j
 clear f k g d h hn;go_enter func173,ntmps173;go_wp2_with (go_at_call 194;go_loud (refine i.mono ?_);rintro e w2 ⟨rfl,a⟩;have m:=aa a;clear a)
 refine⟨rfl,?_⟩;rw [l.out];exact⟨rfl,m⟩
theorem Jd (c:Nat) (h:Rd w F 1 A n (aI b)) (hn:n=b.length) (K:n<=1152921504606) (j:(ai b 0).2.2=0) (i:(ai b 0).1=0):
  Calls prog 173 #[.slice A n c] w fun e w'=>e= .panicked (gI 61 0)/\Below w w w':=by
 have g:=aa (mO c 0 h hn (Nat.zero_le _) K);obtain⟨x,f⟩:=gF ((ai b 0).1);obtain⟨p,k⟩:=gF ((ai b 0).2.1);rw [<-f,<-k,j] at g;rw [<-f] at i;obtain⟨R,d⟩:∃R:Ending->World->Prop,R=fun e w'=>e= .panicked (gI 61 0)/\Below w w w':=⟨_,rfl⟩;have l:=aa d;rw [<-d]
 (subst i)
 clear d f k h hn j;go_enter func173,ntmps173;go_wp2_with (go_at_call 194;go_loud (refine g.mono ?_);rintro e w2 ⟨rfl,a⟩;have m:=aa a;clear a)
 refine⟨rfl,?_⟩;rw [l.out];exact⟨rfl,m⟩
theorem Je (c:Nat) (h:Rd w F 1 A n (aI b)) (hn:n=b.length) (K:n<=1152921504606) (i:(ai b 0).2.2=0) (o:64<(ai b 0).1):
  Calls prog 173 #[.slice A n c] w fun e w'=>e= .panicked (gI 61 0)/\Below w w w':=by
 have g:=aa (mO c 0 h hn (Nat.zero_le _) K);obtain⟨x,f⟩:=gF ((ai b 0).1);obtain⟨p,j⟩:=gF ((ai b 0).2.1);rw [<-f,<-j,i] at g;rw [<-f] at o;obtain⟨R,d⟩:∃R:Ending->World->Prop,R=fun e w'=>e= .panicked (gI 61 0)/\Below w w w':=⟨_,rfl⟩;have k:=aa d;rw [<-d]
 (have r:((x:Int)==0)=false:=(by rw [mi];omega);have m:¬((x:Int)=0):=(by omega);have q:(64:Int)<(x:Int):=(by omega))
 clear d f j h hn i;go_enter func173,ntmps173;go_wp2_with (go_at_call 194;go_loud (refine g.mono ?_);rintro e w2 ⟨rfl,a⟩;have l:=aa a;clear a)
 refine⟨rfl,?_⟩;rw [k.out];exact⟨rfl,l⟩
noncomputable def yG:Code:=aQ (f174.body.bind (aF 5))
theorem UD (us:List Value) {b:Value} {B m:Value} (kF:Hid (∀c t (a:Act) w,Q (.panic c) ⟨t,a.defers⟩ w->Q (.panic c) a w))
  (S:Hid (ak w q 295 #[b,v1,v2,(p:Int),v4,.slice A n c])) (HO:Hid (w.ownsRow base 3 1 (.slice A n c) n us)) (hT:(Value.slice A n c).ownBlock≠some q) (hn:n<=1152921504606) (hbw:base<=w)
  (au:∀(ad ae al am an ao ap aq ar aw aA aE a0:Value) (x:Value) (wa w2:World),Below w w wa->w2.ownsRow base 3 1 x (n+1) (us++ [.int .i64 p])->wa.grownBy w2 (Value.slice A n c).ownBlock->(x.ownBlock=(Value.slice A n c).ownBlock\/x.ownBlock=some wa)->Q .normal ⟨(.pointer (some ⟨q,0,none⟩)::u1::y::B::J::s::u6::u7::k::r::L::E::O::W::Z::U::G::f::C::ad::ae::al::am::an::ao::ap::aq::ar::aw::aA::aE::a0::Y).toArray,[]⟩ (w2.setCell ⟨q,5,none⟩ x)):
  Code.wp prog yG Q ⟨(.pointer (some ⟨q,0,none⟩)::u1::y::B::J::s::u6::u7::k::r::L::E::O::W::Z::U::G::f::C::I::M::P::V::d::l::z::D::m::u28::T::j::g::Y).toArray,[]⟩ w:=by
 obtain⟨i0,ab,iC,iD,iE⟩:=info_parts jL;have dz:=aa au;have a1:=S.out.lt;have e:w.drew.cell? ⟨q,5,none⟩=some (.slice A n c)/\w.drew.cell? ⟨q,3,none⟩=some (.int .i64 p):=⟨(S.cell 5).trans rfl,(S.cell 3).trans rfl⟩;clear au;conv=>arg 2;whnf
 refine aM (fun w'=>w'.cell? ⟨q,5,none⟩=some (.slice A n c)/\w'.cell? ⟨q,3,none⟩=some (.int .i64 p)) 13 (by kernel_rfl) ?_;refine uF 0 (fun _=>e) ?_;refine uF 1 (fun _=>e) ?_;refine uF 2 (fun _=>e) ?_;refine uF 3 (fun _=>e) ?_;refine uF 5 (fun _=>e) ?_;refine uF 6 (fun _=>e) ?_;refine uF 7 (fun _=>e) ?_;refine uT 4 e ?_;refine uT 8 e ?_;refine az (i:=9) (by kernel_rfl) rfl (fun K H=> ?_);go_simp;have N:Below w.drew.heap.size w.drew (w.drew.alloc (.cells #[.int .i64 p] 3)):=gV;have F:Hid (Below w w (w.drew.alloc (.cells #[(p:Int)] 3))):=aa (mh.drew.trans N);have X:(w.drew.alloc (.cells #[(p:Int)] 3)).cell? ⟨q,5,none⟩=some (.slice A n c)/\(w.drew.alloc (.cells #[(p:Int)] 3)).cell? ⟨q,3,none⟩=some (.int .i64 p):=⟨aj N e.1,aj N e.2⟩;refine H.out _ _ (fun _=>X) ?_;clear H K;try simp only [aL,aN,aZ,aC]
 refine az (i:=10) (by kernel_rfl) rfl (fun K H=> ?_);refine aG _ rfl (.tmp 23) (.tmp 28) _ rfl base 3 i0 _ 1 8 underlying25 ab iC iD iE rfl (by omega) (.slice A n c) n us rfl (own_below HO F) (From w) (some ⟨w,0,none⟩) 1 1 [(p:Int)] rfl (Rd.one w.drew _ _) (by intro u hu;simp at hu;subst hu;rfl) (by simp only [maxLen];omega) (by omega) (ma hbw F.size) ?_;intro x R di v gp;obtain⟨K4,IE,ac,_,_⟩:=ax di;subst ac;have jM:=aa di;have IX:=aa v;have Af:=aa gp;have xO:R.cell? ⟨q,5,none⟩=some (.slice A n c):=(ag.of_grown v).cell hT X.1;have YK:∀o,R.frozen? ⟨q,o,none⟩=false:=((S.below F).chg (ag.of_grown v) hT).frozen;have S4:R.cell? ⟨q,5,none⟩=some (.slice A n c)/\R.cell? ⟨q,3,none⟩=some (.int .i64 p):=⟨xO,(ag.of_grown v).cell hT X.2⟩;clear di v gp;refine H.out _ _ (fun _=>S4) ?_;clear H K;try simp only [aL,aN,aZ,aC]
 refine uF 11 (fun _=>S4) ?_;refine uF 12 (fun _=>S4) ?_;refine az (i:=13) (by kernel_rfl) rfl (fun K H=> ?_);go_simp;refine H.out _ _ (fun h=>absurd h (by decide)) ?_;clear H K;try simp only [aL,aN,aZ,aC]
 refine bH (by kernel_rfl) ?_ _;exact dz _ _ _ _ _ _ _ _ _ _ _ _ _ _ _ R F jM IX Af
theorem FJ (w:World):(zeroValue 69).run prog w= .ok (.agg #[(),()]) w:=by kernel_rfl
noncomputable def y7:Code:=aQ (f174.body.bind (aF 6))
theorem LQ {d:Nat} (kF:Hid (∀c t (a:Act) w,Q (.panic c) ⟨t,a.defers⟩ w->Q (.panic c) a w))
  (HB:Hid (ak w q 295 #[.slice B m d,v1,v2,(p:Int),v4,v5])) (HP:Hid (Rd w F 1 A n (aI prev))) (HN:Hid (n=prev.length)) (hnc:n<=c) (HR:Hid (Rd w F 1 B m (aI b))) (HM:Hid (m=b.length)) (hmd:m<=d) (hp:p<=m) (hn2:n<=1152921504606) (o:m<=1152921504606) (hcm:c<=maxLen) (HF:Hid (∀b,F b->b<w))
  (au:∀(aq ar aw aA aE a0 a1 a2 a3 a4 a5 a6 a7 a8:Value) (v:Nat) (K:Option Addr) (kn kc:Nat) (V:Option Addr) (vn vc:Nat) (w':World),w<=v->ak w' v 69 #[.slice K kn kc,.slice V vn vc]->((pread prev b p).err=0->SB w' (fun b=>w<=b/\b≠v) (.slice K kn kc) (pread prev b p).key/\SB w' (fun b=>w<=b/\b≠v) (.slice V vn vc) (pread prev b p).val)->Below w w w'->Q .normal ⟨(.pointer (some ⟨q,0,none⟩)::u1::y:: .slice A n c::u4:: .pointer (some ⟨v,0,none⟩):: .int .i64 (pread prev b p).next:: .int .i64 (pread prev b p).err::k::u9::L::E::O::W::Z::U::G::f::C::I::M::P::u22::u23::l::z::D::u27::u28::T::u30::g::aq::ar::aw::aA::aE::a0::a1::a2::a3::a4::a5::a6::a7::a8::Y).toArray,[]⟩ w'):
  Code.wp prog y7 Q ⟨(.pointer (some ⟨q,0,none⟩)::u1::y:: .slice A n c::u4::s::u::u7::k::u9::L::E::O::W::Z::U::G::f::C::I::M::P::u22::u23::l::z::D::u27::u28::T::u30::g::x::u33::u34::u35::h::u37::u38::N::u40::R::u42::X::u44::u45::Y).toArray,[]⟩ w:=by
 have dz:=aa au;obtain⟨r,hr⟩:=gF (pread prev b p);have ao:=aa hr;have am:∀w1,Below w w w1->Calls prog 195 #[.slice A n c,.slice B m d,(p:Int)] w1 (iw prev b p w1):=fun w1 H=>Jf c d p (HP.below H) HN hnc (HR.below H) HM hmd hp hn2 o hcm (fun b ap=>mU (HF b ap) H.size);have PK:=aa am;have S0:w.drew.cell? q=some (.slice B m d)/\w.drew.cell? ⟨q,3,none⟩=some (.int .i64 p):=⟨(HB.cell 0).trans rfl,(HB.cell 3).trans rfl⟩;rw [<-hr] at dz;have a9:=FJ;clear au hr am;conv=>arg 2;whnf
 refine aO (S:=(fun w'=>w'.cell? q=some (.slice B m d)/\w'.cell? ⟨q,3,none⟩=some (.int .i64 p))) (by kernel_rfl) ?_;refine vT 0 S0 ?_;refine vT 1 S0 ?_;refine vT 2 S0 ?_;refine vT 3 S0 ?_;refine vT 5 S0 ?_;refine vT 6 S0 ?_;refine vT 7 S0 ?_;refine vT 4 S0 ?_;refine vT 8 S0 ?_
 refine Do (i:=9) (j:=14) (by kernel_rfl) rfl rfl (fun K hK=> ?_) (fun K hK=> ?_)
 ·go_simp
  go_loud (refine(PK _ (mh.drew)).mono ?_);rintro e w2 ⟨J,kn,kc,V,vn,vc,rfl,hk,ab⟩;rw [<-ao.out] at hk|-;have HK:=aa hk;have ae:Hid (Below w w w2):=aa (mh.drew.trans ab);have S1:w2.cell? q=some (.slice B m d)/\w2.cell? ⟨q,3,none⟩=some (.int .i64 p):=⟨aj ab S0.1,aj ab S0.2⟩;clear hk ab
  refine hK.out _ _ S1 ?_;clear hK K;try simp only [aL,aN,aZ,aC]
  refine vT 10 S1 ?_;refine vT 11 S1 ?_;refine vT 12 S1 ?_;refine vT 13 S1 ?_;refine aK (i:=14) (by kernel_rfl) rfl (fun K hK=> ?_);go_simp;obtain⟨v,ad⟩:=gF w2.heap.size;obtain⟨wA,Jg⟩:=gF (w2.alloc (.cells #[.slice none 0 0,.slice none 0 0] 69));have PL:Below w2 w2 wA:=(by rw [Jg];exact gV);have jq:=aa PL;have UE:ak wA v 69 #[(),()]:=(by rw [Jg,ad];exact ak.new _ _ _);have IG:=aa UE;have qQ:=aa ad;rw [<-Jg,<-ad];have S2:wA.cell? q=some (.slice B m d)/\wA.cell? ⟨q,3,none⟩=some (.int .i64 p):=⟨aj PL S1.1,aj PL S1.2⟩;have y0:wA.cell? ⟨v,0,none⟩=some (.slice none 0 0):=UE.cell 0;have y1:wA.cell? ⟨v,1,none⟩=some (.slice none 0 0):=UE.cell 1;have FK:=UE.frozen 0;have FL:=UE.frozen 1;clear ad Jg PL UE;refine hK.out _ _ S2 ?_;clear hK K;try simp only [aL,aN,aZ,aC]
  refine aK (i:=15) (by kernel_rfl) rfl (fun K hK=> ?_);go_simp;have ac:ag (fun b=>b=v) wA ((wA.setCell ⟨v,0,none⟩ (.slice J kn kc)).setCell ⟨v,1,none⟩ (.slice V vn vc)):=((ag.refl (fun b=>b=v) wA).setCell (p:=⟨v,0,none⟩) (fun _=>rfl) _).setCell (p:=⟨v,1,none⟩) (fun _=>rfl) _;have II:=aa ac;have an:¬q=v:=(by have h1:=HB.out.lt;have h2:=ae.out.size;have h3:=qQ.out;omega);have S3:((wA.setCell ⟨v,0,none⟩ (.slice J kn kc)).setCell ⟨v,1,none⟩ (.slice V vn vc)).cell? ⟨q,0,none⟩=some (.slice B m d)/\((wA.setCell ⟨v,0,none⟩ (.slice J kn kc)).setCell ⟨v,1,none⟩ (.slice V vn vc)).cell? ⟨q,3,none⟩=some (.int .i64 p):=⟨ac.cell an S2.1,ac.cell an S2.2⟩;clear ac y0 y1 FK FL;refine hK.out _ _ S3 ?_;clear hK K;try simp only [aL,aN,aZ,aC]
  refine vT 16 S3 ?_;refine vT 17 S3 ?_;refine bf (by kernel_rfl) ?_ _;have hw:=ae.out.trans (jq.mono ae.size)
  refine dz _ _ _ _ _ _ _ _ _ _ _ _ _ _ v J kn kc V vn vc _ (by have h2:=ae.out.size;have h3:=qQ.out;omega) ((IG.set_ 0 (.slice J kn kc)).set_ 1 (.slice V vn vc)) (fun he=>⟨?_,?_⟩) (hw.trans (II.below_of hw.size (fun b H e=>by have h2:=ae.out.size;have h3:=qQ.out;have e:b=v:=e;omega)))
  ·exact(((((HK he).1.lt).below jq).chg II (fun b H e=>by have h1:=H.2;have h3:=qQ.out;have e:b=v:=e;omega))).weak (fun b H=>⟨H.1,by have h1:=H.2;have h3:=qQ.out;omega⟩)
  ·exact(((((HK he).2.lt).below jq).chg II (fun b H e=>by have h1:=H.2;have h3:=qQ.out;have e:b=v:=e;omega))).weak (fun b H=>⟨H.1,by have h1:=H.2;have h3:=qQ.out;omega⟩)
 ·go_simp
  obtain⟨v,ad⟩:=gF w.heap.size;obtain⟨wA,Jg⟩:=gF ((w.alloc (.cells #[.slice none 0 0,.slice none 0 0] 69)).drew);have PL:Below w w wA:=(by rw [Jg];exact gV.drew);have jq:=aa PL;have UE:ak wA v 69 #[(),()]:=(by rw [Jg,ad];exact(ak.new _ _ _).drew);have IG:=aa UE;have qQ:=aa ad;rw [<-Jg,<-ad];have S2:wA.cell? q=some (.slice B m d)/\wA.cell? ⟨q,3,none⟩=some (.int .i64 p):=⟨aj PL S0.1,aj PL S0.2⟩;clear ad Jg PL UE;refine hK.out _ _ S2 ?_;clear hK K;try simp only [aL,aN,aZ,aC]
  refine aK (i:=9) (by kernel_rfl) rfl (fun K hK=> ?_);go_simp;go_loud (refine(PK _ jq).mono ?_);rintro e w2 ⟨J,kn,kc,V,vn,vc,rfl,hk,ab⟩;rw [<-ao.out] at hk|-;have HK:=aa hk;have ae:=aa ab;have al:=IG.out.below ab;have l7:=aa al;have y0:w2.cell? v=some (.slice none 0 0):=al.cell 0;have y1:w2.cell? ⟨v,1,none⟩=some (.slice none 0 0):=al.cell 1;have FK:=al.frozen 0;have FL:=al.frozen 1;have S3:w2.cell? ⟨q,0,none⟩=some (.slice B m d)/\w2.cell? ⟨q,3,none⟩=some (.int .i64 p):=⟨aj ab S2.1,aj ab S2.2⟩;clear hk ab al
  refine hK.out _ _ S3 ?_;clear hK K;try simp only [aL,aN,aZ,aC]
  refine vT 10 S3 ?_;refine vT 11 S3 ?_;refine vT 12 S3 ?_;refine vT 13 S3 ?_;refine aK (i:=15) (by kernel_rfl) rfl (fun K hK=> ?_);go_simp;have ac:ag (fun b=>b=v) w2 ((w2.setCell ⟨v,0,none⟩ (.slice J kn kc)).setCell ⟨v,1,none⟩ (.slice V vn vc)):=((ag.refl (fun b=>b=v) w2).setCell (p:=⟨v,0,none⟩) (fun _=>rfl) _).setCell (p:=⟨v,1,none⟩) (fun _=>rfl) _;have II:=aa ac;have an:¬q=v:=(by have h1:=HB.out.lt;have h3:=qQ.out;omega);have S4:((w2.setCell ⟨v,0,none⟩ (.slice J kn kc)).setCell ⟨v,1,none⟩ (.slice V vn vc)).cell? ⟨q,0,none⟩=some (.slice B m d)/\((w2.setCell ⟨v,0,none⟩ (.slice J kn kc)).setCell ⟨v,1,none⟩ (.slice V vn vc)).cell? ⟨q,3,none⟩=some (.int .i64 p):=⟨ac.cell an S3.1,ac.cell an S3.2⟩;clear ac y0 y1 FK FL;refine hK.out _ _ S4 ?_;clear hK K;try simp only [aL,aN,aZ,aC]
  refine vT 16 S4 ?_;refine vT 17 S4 ?_;refine bf (by kernel_rfl) ?_ _;have hw:=jq.out.trans (ae.mono jq.size)
  refine dz _ _ _ _ _ _ _ _ _ _ _ _ _ _ v J kn kc V vn vc _ (by have h3:=qQ.out;omega) ((l7.set_ 0 (.slice J kn kc)).set_ 1 (.slice V vn vc)) (fun he=>⟨?_,?_⟩) (hw.trans (II.below_of hw.size (fun b H e=>by have h3:=qQ.out;have e:b=v:=e;omega)))
  ·exact((HK he).1.chg II (fun b H e=>by have h1:wA<=b:=H;have h4:=IG.out.lt;have e:b=v:=e;omega)).weak (fun b H=>by have h1:wA<=b:=H;have h4:=IG.out.lt;have h3:=qQ.out;exact⟨by omega,by omega⟩)
  ·exact((HK he).2.chg II (fun b H e=>by have h1:wA<=b:=H;have h4:=IG.out.lt;have e:b=v:=e;omega)).weak (fun b H=>by have h1:wA<=b:=H;have h4:=IG.out.lt;have h3:=qQ.out;exact⟨by omega,by omega⟩)
end Go.Proofs.YtepgcjbhabnciaaGreat
