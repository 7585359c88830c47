/- Part 9. -/
import Derived.Test.YtepgcjbhabnciaaGreatLe08
namespace Go.Proofs.YtepgcjbhabnciaaGreat
set_option maxRecDepth 100000
set_option maxHeartbeats 8000000
open Go.Proofs.Tryz Go.RowKit
theorem EW (F:Nat->Prop) (A B:Option Addr) (n c m d p:Nat) (prev b:List UInt8) (w:World) (hA:Rd w F 1 A n (aF prev)) (hn:n=prev.length) (Q:n<=c) (hB:Rd w F 1 B m (aF b)) (hm:m=b.length) (hmd:m<=d) (hp:p<=m) (hn2:n<=1152921504606) (g:m<=1152921504606) (hcm:c<=maxLen) (hF:∀b,F b->b<w.heap.size):
  Calls prog 195 #[.slice A n c,.slice B m d,.int .i64 p] w (fP prev b p w):=by
 refine letter fun R Y=> ?_;have HA:=aa hA;have X:=aa hn;have HB:=aa hB;have HM:=aa hm;have HF:=aa hF;have bp:=aa hcm;clear hA hn hB hm hF hcm;go_enter func195,ntmps195
 go_upto_region 7 with fail
 obtain⟨q,hq⟩:∃q,q=w.heap.size:=⟨_,rfl⟩;obtain⟨w1,L⟩:∃W,W=((w.alloc (.cells #[.slice none 0 0,.slice none 0 0] 69)).alloc (.cells #[.slice none 0 0,.slice none 0 0] 69)).alloc (.cells #[.int .u64 0,.int .u64 0,.int .u64 0] 328):=⟨_,rfl⟩;simp only [<-L,<-hq];have O:=aa hq;have U:Hid (Below w.heap.size w w1):=aa (by rw [L];exact(((Below.refl _ _).alloc (Nat.le_refl _) _).alloc (by simp) _).alloc (by simp;omega) _);have Na:Hid (aj w1 q 69 #[.slice none 0 0,.slice none 0 0]):=aa (by rw [L,hq];exact((aj.new w _ _).alloc _).alloc _);have bx:Hid (aj w1 (q+1) 69 #[.slice none 0 0,.slice none 0 0]):=aa (by rw [L,hq];have:=(aj.new (w.alloc (.cells #[.slice none 0 0,.slice none 0 0] 69)) 69 #[.slice none 0 0,.slice none 0 0]).alloc (.cells #[.int .u64 0,.int .u64 0,.int .u64 0] 328);rwa [World.size_alloc] at this);have bL:Hid (aj w1 (q+1+1) 328 #[.int .u64 0,.int .u64 0,.int .u64 0]):=aa (by rw [L,hq];have:=aj.new ((w.alloc (.cells #[.slice none 0 0,.slice none 0 0] 69)).alloc (.cells #[.slice none 0 0,.slice none 0 0] 69)) 328 #[.int .u64 0,.int .u64 0,.int .u64 0];rwa [World.size_alloc,World.size_alloc] at this);clear L hq
 refine UX F q (q+1) (q+1+1) m d p B b w1 _ (aa (HB.below U)) HM hp g Na bx bL (aa (fun b a=>by have:=HF.out b a;have:=O.out;omega)) (by omega) ?_ ?_
 ·intro v7 v8 b3 b4 b5 b6 b7 b8 b9 ca cb cd cf cg ch ci cj ck cl cn co cp cq cr ct cu w2 he Pw ED ac hc;have D:Hid (Below w.heap.size w w2):=aa ((U.out.trans (hc.below_of (B:=w.heap.size) U.size (fun b a e=>by have:=O.out;have e:b=q+1+1:=e;omega))));have cx:Hid (w.heap.size<=q/\q+1+1<w2.heap.size):=aa ⟨by have:=O.out;omega,ac.lt⟩;obtain⟨s,hs⟩:∃s,s=BP b p 0:=⟨_,rfl⟩;obtain⟨mm,an⟩:∃mm,mm=BP b p 1:=⟨_,rfl⟩;obtain⟨l,hl⟩:∃l,l=BP b p 2:=⟨_,rfl⟩;obtain⟨P,hP⟩:∃P,P=oU b p 3:=⟨_,rfl⟩;have bX:P<=m:=by rw [hP,HM.out];exact sw b p (by have:=HM.out;omega) 3
  have Kk:s<18446744073709551616:=by rw [hs];exact sD _ _ _
  have Oi:mm<18446744073709551616:=by rw [an];exact sD _ _ _
  have Q5:l<18446744073709551616:=by rw [hl];exact sD _ _ _
  have uE:Hid (pread prev b p=bI prev b p s mm l P):=aa (by
   rw [wH,if_neg (fun h=>h (he 0 (by omega))),if_neg (fun h=>h (he 1 (by omega))),if_neg (fun h=>h (he 2 (by omega))),hs,an,hl,hP])
  have zn:Hid (aj w2 (q+1+1) 328 #[.int .u64 s,.int .u64 mm,.int .u64 l]):=aa (by rw [hs,an,hl];exact ac);have y0:w2.cell? ⟨q+1+1,0,none⟩=some (.int .u64 s):=zn.out.cell 0;have y1:w2.cell? ⟨q+1+1,1,none⟩=some (.int .u64 mm):=zn.out.cell 1;have y2:w2.cell? ⟨q+1+1,2,none⟩=some (.int .u64 l):=zn.out.cell 2;have x0:w2.cell? ⟨q+1,0,none⟩=some (.slice none 0 0):=ED.cell 0;have x1:w2.cell? ⟨q+1,1,none⟩=some (.slice none 0 0):=ED.cell 1;have f:w2.cell? ⟨q,0,none⟩=some (.slice none 0 0):=Pw.cell 0;have k:w2.cell? ⟨q,1,none⟩=some (.slice none 0 0):=Pw.cell 1;have Ev:=Pw.frozen 0;have sW:=Pw.frozen 1;have bM:=aa Pw;have bN:=aa ED;rw [<-hP]
  have zo:Hid (∀(xn:Nat) (N:Int),N≠0->bI prev b p s mm l P=⟨[],[],xn,N⟩->∀w',ag (fun b=>b=q) w2 w'->fP prev b p w (.returned (.tuple #[.agg #[.slice none 0 0,.slice none 0 0],.int .i64 xn,.int .i64 N])) w'):=aa (fun xn N ap hp w' hw=>by
   unfold fP;rw [uE.out,hp];exact⟨_,_,_,_,_,_,rfl,fun h=>absurd h ap,D.out.trans (hw.below_of D.size (fun b a e=>by have:=O.out;have e:b=q:=e;omega))⟩)
  have iZ:Hid (ag (fun b=>b=q) w2 ((w2.setCell ⟨q,0,none⟩ (.slice none 0 0)).setCell ⟨q,1,none⟩ (.slice none 0 0))):=aa (((ag.refl (fun b=>b=q) w2).setCell (p:=⟨q,0,none⟩) (fun _=>rfl) _).setCell (p:=⟨q,1,none⟩) (fun _=>rfl) _);clear he Pw ED ac hc hs an hl hP
  by_cases c1:n<s
  ·have C:Hid (bI prev b p s mm l P=⟨[],[],p,52⟩):=aa (by unfold bI;rw [if_pos (by have:=X.out;omega)]);have a0:(n:Int)<(s:Int):=by omega
   go_wp2;refine bodyPost_ret (v:= .tuple #[.agg #[.slice none 0 0,.slice none 0 0],.int .i64 p,.int .i64 52]) (by simp [results,results195,go_sem,f,k]) rfl ?_
   rw [Y.out]
   exact zo.out p 52 (by decide) C _ iZ
  ·have yV:Hid (¬prev.length<s):=aa (by have:=X.out;omega);have a0:¬((n:Int)<(s:Int)):=by omega
   by_cases c2:64<mm\/256<l\/s+mm=0\/64<s+mm
   ·have C:Hid (bI prev b p s mm l P=⟨[],[],p,3⟩):=aa (by unfold bI;rw [if_neg yV.out,if_pos c2])
    by_cases d1:64<mm
    ·have a1:(64:Int)<(mm:Int):=by omega
     clear c2;go_wp2;refine bodyPost_ret (v:= .tuple #[.agg #[.slice none 0 0,.slice none 0 0],.int .i64 p,.int .i64 3]) (by simp [results,results195,go_sem,f,k]) rfl ?_;rw [Y.out]
     exact zo.out p 3 (by decide) C _ iZ
    ·have a1:¬((64:Int)<(mm:Int)):=by omega
     by_cases d2:256<l
     ·have PG:(256:Int)<(l:Int):=by omega
      clear c2;go_wp2;refine bodyPost_ret (v:= .tuple #[.agg #[.slice none 0 0,.slice none 0 0],.int .i64 p,.int .i64 3]) (by simp [results,results195,go_sem,f,k]) rfl ?_;rw [Y.out]
      exact zo.out p 3 (by decide) C _ iZ
     ·have PG:¬((256:Int)<(l:Int)):=by omega
      have ds:((s:Int)+(mm:Int))<18446744073709551616:=by omega
      by_cases d3:s+mm=0
      ·have a3:s=0:=by omega
       have a2:mm=0:=by omega
       clear y0 y1 c2;have y0:w2.cell? ⟨q+1+1,0,none⟩=some (.int .u64 0):=(zn.out.cell 0).trans (by rw [a3];rfl);have y1:w2.cell? ⟨q+1+1,1,none⟩=some (.int .u64 0):=(zn.out.cell 1).trans (by rw [a2];rfl);clear d3 a3 a2 ds c1 a0 d1 a1 Kk Oi;go_wp2;refine bodyPost_ret (v:= .tuple #[.agg #[.slice none 0 0,.slice none 0 0],.int .i64 p,.int .i64 3]) (by simp [results,results195,go_sem,f,k]) rfl ?_;rw [Y.out]
       exact zo.out p 3 (by decide) C _ iZ
      ·have cC:¬(((s:Int)+(mm:Int))=0):=by omega
       have d4:64<s+mm:=by omega
       have cD:(64:Int)<((s:Int)+(mm:Int)):=by omega
       clear c2;go_wp2;refine bodyPost_ret (v:= .tuple #[.agg #[.slice none 0 0,.slice none 0 0],.int .i64 p,.int .i64 3]) (by simp [results,results195,go_sem,f,k]) rfl ?_;rw [Y.out]
       exact zo.out p 3 (by decide) C _ iZ
   ·have wK:=aa c2;have e1:¬((64:Int)<(mm:Int)):=by omega
    have e2:¬((256:Int)<(l:Int)):=by omega
    have e3:¬(((s:Int)+(mm:Int))=0):=by omega
    have e4:¬((64:Int)<((s:Int)+(mm:Int))):=by omega
    have Kk:s<=64:=by omega
    have TC:mm<=64:=by omega
    have ZC:l<=256:=by omega
    have b1:s<=n:=by omega
    clear c1 c2 Oi Q5
    by_cases c3:m-P<mm+l
    ·have C:Hid (bI prev b p s mm l P=⟨[],[],m,53⟩):=aa (by unfold bI;rw [if_neg yV.out,if_neg wK.out,if_pos (by have:=HM.out;omega),<-HM.out]);have bQ:(m:Int)-(P:Int)<(mm:Int)+(l:Int):=by omega
     clear c3;go_wp2;refine bodyPost_ret (v:= .tuple #[.agg #[.slice none 0 0,.slice none 0 0],.int .i64 m,.int .i64 53]) (by simp [results,results195,go_sem,f,k]) rfl ?_;rw [Y.out]
     exact zo.out m 53 (by decide) C _ iZ
    ·have UY:Hid (¬b.length-P<mm+l):=aa (by have:=HM.out;omega);have bQ:¬((m:Int)-(P:Int)<(mm:Int)+(l:Int)):=by omega
     have bY:P+mm+l<=m:=by omega
     have bo:Hid (Rd w2 F 1 B m (aF b)):=aa (HB.below D);have bm:Hid (Rd w2 F 1 A n (aF prev)):=aa (HA.below D);obtain⟨A1,bZ,bh⟩:=UZ (p:=P) bo bX hmd;obtain⟨A2,b0,bj⟩:=Q6 (c:=d-P) (p:=mm) bh (by omega) (by omega);obtain⟨A3,cE,bk⟩:=U1 (p:=s) bm b1 Q;have bB:=aa bj;have bE:=aa bk;clear c3 bh bj bk;go_upto_region 21 with fail
     go_quiet (fail);clear bZ b0;go_upto_region 23 with fail
     obtain⟨x,ao⟩:∃W,W=w2.drewN nq:=⟨_,rfl⟩;rw [<-ao];have eH:Hid (ag Nil w2 x):=aa (by rw [ao];exact(ag.refl Nil w2).drewN _);have aE:Hid (x.heap.size=w2.heap.size):=aa (by rw [ao];rfl);have bO:Hid (Rd x F 1 A2 mm (aF ((b.drop P).take mm))):=aa (bB.chg eH (fun _ _ h=>h));have bP:Hid (Rd x F 1 A3 s (aF (prev.take s))):=aa (bE.chg eH (fun _ _ h=>h));have U2:Hid (aj x q 69 #[.slice none 0 0,.slice none 0 0]):=aa (bM.chg eH (fun h=>h));have ZD:Hid (aj x (q+1+1) 328 #[.int .u64 s,.int .u64 mm,.int .u64 l]):=aa (zn.chg eH (fun h=>h));have bK:Hid (aj x (q+1) 69 #[.slice none 0 0,.slice none 0 0]):=aa ((bN).chg eH (fun h=>h));obtain⟨key,I⟩:∃key,key=prev.take s++(b.drop P).take mm:=⟨_,rfl⟩;have F7:=aa I;have iH:Hid ([prev.take s,(b.drop P).take mm].flatten=key):=aa (by rw [I];simp)
     have BK:Hid (key.length=s+mm):=aa (by
      have h1:=HM.out;have h2:=X.out;rw [I,List.length_append,List.length_take,List.length_take,List.length_drop];omega)
     have zL:Hid (Tx (x.alloc (.cells #[.slice A3 s c,.slice A2 mm mm] 24)) (fun b=>b<x.heap.size+1) (some ⟨x.heap.size,0,none⟩) 2 2 [prev.take s,(b.drop P).take mm]):=aa (by
      have a7:Below x.heap.size x (x.alloc (.cells #[.slice A3 s c,.slice A2 mm mm] 24)):=(Below.refl _ _).alloc (Nat.le_refl _) _;have a5:∀b,F b->b<x.heap.size+1:=fun b a=>by have h1:=HF.out b a;have h2:=D.out.size;have h3:=aE.out;omega
      refine⟨by omega,by simp [maxLen],rfl,[.slice A3 s c,.slice A2 mm mm],⟨rfl,fun _=>⟨_,0,rfl,by omega,fun j u hj=>by rw [(aj.new x _ _).cell];simpa using hj⟩⟩,fun i t ht=> ?_⟩
      match i,ht with
      |0,ht=>
       simp only [List.getElem?_cons_zero,Option.some.injEq] at ht;subst ht
       exact⟨_,rfl,(SB.mk (by omega) bp (by have h2:=X.out;rw [List.length_take];omega) (bP.below a7)).weak a5⟩
      |1,ht=>
       simp only [List.getElem?_cons_succ,List.getElem?_cons_zero,Option.some.injEq] at ht;subst ht;exact⟨_,rfl,(SB.mk (Nat.le_refl _) (by simp only [maxLen];omega) (by have h1:=HM.out;rw [List.length_take,List.length_drop];omega) (bO.below a7)).weak a5⟩)
     have E7:=aa (uV (fun b=>b<x.heap.size+1) (some ⟨x.heap.size,0,none⟩) 2 2 _ (x.alloc (.cells #[.slice A3 s c,.slice A2 mm mm] 24)) zL (fun b a=>by rw [World.size_alloc];exact a) (by omega) (by rw [iH.out,BK.out];omega));rw [iH.out] at E7;clear ao I y0 y1 y2 x0 x1 f k Ev sW;go_upto_block 3 with(go_at_call 170;go_loud (refine E7.mono ?_);rintro e E ⟨kv,rfl,a6,a4⟩;have iV:=aa a6;have dR:Hid (Below x.heap.size x E):=aa (((Below.refl _ _).alloc (Nat.le_refl _) _).trans (a4.mono (by rw [World.size_alloc];omega)));clear a6 a4)
     obtain⟨K,J,S,rfl,a9,ba,bb,be⟩:=iV.out.sb;have BQ:Hid (Below w.heap.size w E):=aa ((D.out.trans (eH.below_of D.size (fun _ _ h=>h))).trans (dR.mono (by have:=D.out.size;have:=aE.out;omega)));have Oj:=aa bb;have tY:=aa be;have Q7:=aa (And.intro a9 ba);have yL:Hid (Rd E F 1 A n (aF prev)):=aa (HA.below BQ);have U6:Hid (Rd E F 1 B m (aF b)):=aa (HB.below BQ);have kC:Hid (aj E q 69 #[.slice none 0 0,.slice none 0 0]):=aa (U2.below dR);have Q8:Hid (aj E (q+1) 69 #[.slice none 0 0,.slice none 0 0]):=aa (bK.below dR);have TD:Hid (aj E (q+1+1) 328 #[.int .u64 s,.int .u64 mm,.int .u64 l]):=aa (ZD.below dR);have IL:=aa (uU A K n J c S F (From _) prev key E yL X tY Oj (by omega));obtain⟨cm,ab⟩:∃cm,cm=comm prev key:=⟨_,rfl⟩;rw [<-ab] at IL;have Ol:=aa ab;have cy:cm<=1152921504606:=by have:=(jf prev key).1;have:=X.out;omega
     clear a9 ba bb be ab
     have Jd:Hid (∀(N:Int) (w':World),N≠0->bI prev b p s mm l P=⟨[],[],p,N⟩->ag (fun b=>b=q) E w'->fP prev b p w (.returned (.tuple #[.agg #[.slice none 0 0,.slice none 0 0],.int .i64 p,.int .i64 N])) w'):=aa (fun N w' ap hp hw=>by
      unfold fP;rw [uE.out,hp];exact⟨_,_,_,_,_,_,rfl,fun h=>absurd h ap,BQ.out.trans (hw.below_of BQ.size (fun b a e=>by have:=O.out;have e:b=q:=e;omega))⟩)
     by_cases k1:cm=s
     ·have xB:Hid (¬comm prev key≠s):=aa (by rw [<-Ol.out];exact fun h=>h k1);have ax:((cm:Int)==(s:Int))=true:=by rw [beq_iff_eq];omega
      have F8:((cm:Int) !=(s:Int))=false:=by simp [k1]
      have U7:decide ((cm:Int)=(s:Int))=true:=decide_eq_true (by omega)
      by_cases k2:0<n/\0<=Lib.compareBytes prev key
      ·have C:Hid (bI prev b p s mm l P=⟨[],[],p,51⟩):=aa (by unfold bI;rw [if_neg yV.out,if_neg wK.out,if_neg UY.out,<-F7.out,if_neg xB.out,if_pos (by rw [<-X.out];exact k2)]);have cF:0<n:=k2.1;have cA:(0:Int)<(n:Int):=by omega
       obtain⟨ce,z⟩:∃ce,ce=Lib.compareBytes prev key:=⟨_,rfl⟩;have pU:=aa z;have b2:0<=ce:=by rw [z];exact k2.2
       clear k2 z k1;go_wp2_with (first|(go_at_call 177;go_loud (refine IL.mono ?_);rintro e r ⟨rfl,q5,Z⟩;have o:Hid (ag Nil E r):=aa (by rw [Z];exact(ag.refl Nil E).drewN _);have cv:r.cell? ⟨q+1,0,none⟩=some (.slice none 0 0):=(Q8.out.chg o (fun h=>h)).cell 0;have cw:r.cell? ⟨q+1,1,none⟩=some (.slice none 0 0):=(Q8.out.chg o (fun h=>h)).cell 1;have f:r.cell? ⟨q,0,none⟩=some (.slice none 0 0):=(kC.out.chg o (fun h=>h)).cell 0;have k:r.cell? ⟨q,1,none⟩=some (.slice none 0 0):=(kC.out.chg o (fun h=>h)).cell 1;have Ev:=(kC.out.chg o (fun h=>h)).frozen 0;have sW:=(kC.out.chg o (fun h=>h)).frozen 1;clear Z)|(go_at_call 56;go_loud (refine(dE A K n J c S F (From _) prev key _ (yL.chg o (fun _ _ h=>h)) X (tY.chg o (fun _ _ h=>h)) Oj).mono ?_);rintro e y ⟨rfl,rfl⟩;rw [<-pU.out]))
       refine bodyPost_ret (v:= .tuple #[.agg #[.slice none 0 0,.slice none 0 0],.int .i64 p,.int .i64 51]) (by simp [results,results195,go_sem,f,k]) rfl ?_;rw [Y.out]
       exact Jd 51 _ (by decide) C (((o.mono (T:=fun b=>b=q) (fun _ _ h=>h.elim)).setCell (p:=⟨q,0,none⟩) (fun _=>rfl) _).setCell (p:=⟨q,1,none⟩) (fun _=>rfl) _)
      ·have C:Hid (bI prev b p s mm l P=⟨key,(b.drop (P+mm)).take l,P+mm+l,0⟩):=aa (by unfold bI;rw [if_neg yV.out,if_neg wK.out,if_neg UY.out,<-F7.out,if_neg xB.out,if_neg (by rw [<-X.out];exact k2)]);obtain⟨A4,ar,aq⟩:=F9 (p:=P+mm) (q:=P+mm+l) U6 (by omega) bY hmd;rw [show P+mm+l-(P+mm)=l by omega] at ar aq;have ZE:∀w',(Instr.slice 24 (.slice B m d) (some (.int .i64 ((P:Int)+(mm:Int)))) (some (.int .i64 ((P:Int)+(mm:Int)+(l:Int)))) none).run prog w'= .ok (.slice A4 l (d-(P+mm))) w':=fun w'=>by have:=ar w';simpa only [Int.natCast_add] using this
       have aA:=aa aq;clear ar aq
       by_cases n0:0<n
       ·have Y7:(0:Int)<(n:Int):=by omega
        obtain⟨ce,z⟩:∃ce,ce=Lib.compareBytes prev key:=⟨_,rfl⟩;have pU:=aa z;have b2:¬0<=ce:=by rw [z];exact fun h=>k2 ⟨n0,h⟩
        clear k2 z k1;go_upto_region 29 with(first|(go_at_call 177;go_loud (refine IL.mono ?_);rintro e r ⟨rfl,q5,Z⟩;have o:Hid (ag Nil E r):=aa (by rw [Z];exact(ag.refl Nil E).drewN _);have y2:r.cell? ⟨q+1+1,2,none⟩=some (.int .u64 l):=(TD.out.chg o (fun h=>h)).cell 2;clear Z)|(go_at_call 56;go_loud (refine(dE A K n J c S F (From _) prev key _ (yL.chg o (fun _ _ h=>h)) X (tY.chg o (fun _ _ h=>h)) Oj).mono ?_);rintro e y ⟨rfl,rfl⟩;rw [<-pU.out]))
        have fC:=aa (dH A4 l (d-(P+mm)) F ((b.drop (P+mm)).take l) r (aA.chg o (fun _ _ h=>h)) (by rw [List.length_take,List.length_drop];have:=HM.out;omega) (by omega));have pq:Hid (aj r q 69 #[.slice none 0 0,.slice none 0 0]):=aa (kC.chg o (fun h=>h));have Fj:Hid (Rd r (From (x.alloc (.cells #[.slice A3 s c,.slice A2 mm mm] 24)).heap.size) 1 K J (aF key)):=aa (tY.chg o (fun _ _ h=>h));have pN:Hid (Below w.heap.size w r):=aa (BQ.out.trans (o.below_of BQ.size (fun _ _ h=>h)));clear y2 ax F8 U7;go_wp2_with (go_at_call 24;go_loud (refine fC.mono ?_);rintro e y ⟨V,vn,vc,rfl,ad,ae,al,am,H⟩;have HV:=aa (And.intro ad (And.intro ae (And.intro al.out am)));have fT:=aa H;have M:aj y q 69 #[.slice none 0 0,.slice none 0 0]:=pq.out.below H;have rP:=aa M;have f:y.cell? ⟨q,0,none⟩=some (.slice none 0 0):=M.cell 0;have k:y.cell? ⟨q,1,none⟩=some (.slice none 0 0):=M.cell 1;have Ev:=M.frozen 0;have sW:=M.frozen 1;clear ad ae al am H M)
        refine bodyPost_ret (v:= .tuple #[.agg #[.slice K J S,.slice V vn vc],.int .i64 ((P:Int)+(mm:Int)+(l:Int)),.int .i64 0]) (by simp [results,results195,go_sem,f,k]) rfl ?_;rw [Y.out];unfold fP;rw [uE.out,C.out];have G:ag (fun b=>b=q) y ((y.setCell ⟨q,0,none⟩ (.slice K J S)).setCell ⟨q,1,none⟩ (.slice V vn vc)):=((ag.refl (fun b=>b=q) y).setCell (p:=⟨q,0,none⟩) (fun _=>rfl) _).setCell (p:=⟨q,1,none⟩) (fun _=>rfl) _;have gL:Below w.heap.size w y:=pN.out.trans (fT.mono pN.size)
        refine⟨K,J,S,V,vn,vc,by simp only [Int.natCast_add],fun _=>⟨?_,?_⟩,gL.trans (G.below_of gL.size (fun b a e=>by have:=O.out;have e:b=q:=e;omega))⟩
        ·have h1:SB y (fun b=>q<b) (.slice K J S) key:=(SB.mk Q7.1 Q7.2 Oj (Fj.below fT)).weak (fun b a=>by have h2:(x.alloc (.cells #[.slice A3 s c,.slice A2 mm mm] 24)).heap.size<=b:=a;rw [World.size_alloc] at h2;have h3:=U2.out.lt;omega)
         exact(h1.chg G (fun b a e=>by have a:q<b:=a;have e:b=q:=e;omega)).weak (fun b a=>by have a:q<b:=a;show w.heap.size<=b;have:=O.out;omega)
        ·have h1:SB y (fun b=>q<b) (.slice V vn vc) ((b.drop (P+mm)).take l):=(SB.mk HV.1 HV.2.1 HV.2.2.1 HV.2.2.2).weak (fun b a=>by have h2:r.heap.size<=b:=a.1;have h3:=pq.out.lt;omega)
         exact(h1.chg G (fun b a e=>by have a:q<b:=a;have e:b=q:=e;omega)).weak (fun b a=>by have a:q<b:=a;show w.heap.size<=b;have:=O.out;omega)
       ·have Y7:¬((0:Int)<(n:Int)):=by omega
        obtain⟨ce,z⟩:∃ce,ce=Lib.compareBytes prev key:=⟨_,rfl⟩;have pU:=aa z;clear k2 z k1;go_upto_region 29 with(first|(go_at_call 177;go_loud (refine IL.mono ?_);rintro e r ⟨rfl,q5,Z⟩;have o:Hid (ag Nil E r):=aa (by rw [Z];exact(ag.refl Nil E).drewN _);have y2:r.cell? ⟨q+1+1,2,none⟩=some (.int .u64 l):=(TD.out.chg o (fun h=>h)).cell 2;clear Z)|(go_at_call 56;go_loud (refine(dE A K n J c S F (From _) prev key _ (yL.chg o (fun _ _ h=>h)) X (tY.chg o (fun _ _ h=>h)) Oj).mono ?_);rintro e y ⟨rfl,rfl⟩;rw [<-pU.out]))
        have fC:=aa (dH A4 l (d-(P+mm)) F ((b.drop (P+mm)).take l) r (aA.chg o (fun _ _ h=>h)) (by rw [List.length_take,List.length_drop];have:=HM.out;omega) (by omega));have pq:Hid (aj r q 69 #[.slice none 0 0,.slice none 0 0]):=aa (kC.chg o (fun h=>h));have Fj:Hid (Rd r (From (x.alloc (.cells #[.slice A3 s c,.slice A2 mm mm] 24)).heap.size) 1 K J (aF key)):=aa (tY.chg o (fun _ _ h=>h));have pN:Hid (Below w.heap.size w r):=aa (BQ.out.trans (o.below_of BQ.size (fun _ _ h=>h)));clear y2 ax F8 U7;go_wp2_with (go_at_call 24;go_loud (refine fC.mono ?_);rintro e y ⟨V,vn,vc,rfl,ad,ae,al,am,H⟩;have HV:=aa (And.intro ad (And.intro ae (And.intro al.out am)));have fT:=aa H;have M:aj y q 69 #[.slice none 0 0,.slice none 0 0]:=pq.out.below H;have rP:=aa M;have f:y.cell? ⟨q,0,none⟩=some (.slice none 0 0):=M.cell 0;have k:y.cell? ⟨q,1,none⟩=some (.slice none 0 0):=M.cell 1;have Ev:=M.frozen 0;have sW:=M.frozen 1;clear ad ae al am H M)
        refine bodyPost_ret (v:= .tuple #[.agg #[.slice K J S,.slice V vn vc],.int .i64 ((P:Int)+(mm:Int)+(l:Int)),.int .i64 0]) (by simp [results,results195,go_sem,f,k]) rfl ?_;rw [Y.out];unfold fP;rw [uE.out,C.out];have G:ag (fun b=>b=q) y ((y.setCell ⟨q,0,none⟩ (.slice K J S)).setCell ⟨q,1,none⟩ (.slice V vn vc)):=((ag.refl (fun b=>b=q) y).setCell (p:=⟨q,0,none⟩) (fun _=>rfl) _).setCell (p:=⟨q,1,none⟩) (fun _=>rfl) _;have gL:Below w.heap.size w y:=pN.out.trans (fT.mono pN.size)
        refine⟨K,J,S,V,vn,vc,by simp only [Int.natCast_add],fun _=>⟨?_,?_⟩,gL.trans (G.below_of gL.size (fun b a e=>by have:=O.out;have e:b=q:=e;omega))⟩
        ·have h1:SB y (fun b=>q<b) (.slice K J S) key:=(SB.mk Q7.1 Q7.2 Oj (Fj.below fT)).weak (fun b a=>by have h2:(x.alloc (.cells #[.slice A3 s c,.slice A2 mm mm] 24)).heap.size<=b:=a;rw [World.size_alloc] at h2;have h3:=U2.out.lt;omega)
         exact(h1.chg G (fun b a e=>by have a:q<b:=a;have e:b=q:=e;omega)).weak (fun b a=>by have a:q<b:=a;show w.heap.size<=b;have:=O.out;omega)
        ·have h1:SB y (fun b=>q<b) (.slice V vn vc) ((b.drop (P+mm)).take l):=(SB.mk HV.1 HV.2.1 HV.2.2.1 HV.2.2.2).weak (fun b a=>by have h2:r.heap.size<=b:=a.1;have h3:=pq.out.lt;omega)
         exact(h1.chg G (fun b a e=>by have a:q<b:=a;have e:b=q:=e;omega)).weak (fun b a=>by have a:q<b:=a;show w.heap.size<=b;have:=O.out;omega)
     ·have C:Hid (bI prev b p s mm l P=⟨[],[],p,52⟩):=aa (by unfold bI;rw [if_neg yV.out,if_neg wK.out,if_neg UY.out,<-F7.out,if_pos (by rw [<-Ol.out];exact k1)]);have ax:((cm:Int)==(s:Int))=false:=by rw [beq_eq_false_iff_ne];omega
      have F8:((cm:Int) !=(s:Int))=true:=by simp;omega
      have U7:decide ((cm:Int)=(s:Int))=false:=decide_eq_false (by omega);go_wp2_with (go_at_call 177;go_loud (refine IL.mono ?_);rintro e r ⟨rfl,q5,Z⟩;have o:Hid (ag Nil E r):=aa (by rw [Z];exact(ag.refl Nil E).drewN _);have cv:r.cell? ⟨q+1,0,none⟩=some (.slice none 0 0):=(Q8.out.chg o (fun h=>h)).cell 0;have cw:r.cell? ⟨q+1,1,none⟩=some (.slice none 0 0):=(Q8.out.chg o (fun h=>h)).cell 1;have f:r.cell? ⟨q,0,none⟩=some (.slice none 0 0):=(kC.out.chg o (fun h=>h)).cell 0;have k:r.cell? ⟨q,1,none⟩=some (.slice none 0 0):=(kC.out.chg o (fun h=>h)).cell 1;have Ev:=(kC.out.chg o (fun h=>h)).frozen 0;have sW:=(kC.out.chg o (fun h=>h)).frozen 1;clear Z)
      refine bodyPost_ret (v:= .tuple #[.agg #[.slice none 0 0,.slice none 0 0],.int .i64 p,.int .i64 52]) (by simp [results,results195,go_sem,f,k]) rfl ?_;rw [Y.out]
      exact Jd 52 _ (by decide) C (((o.mono (T:=fun b=>b=q) (fun _ _ h=>h.elim)).setCell (p:=⟨q,0,none⟩) (fun _=>rfl) _).setCell (p:=⟨q,1,none⟩) (fun _=>rfl) _)
 ·intro cG b3 b4 b5 b6 b7 b8 b9 ca cb cd cf cg ch ci cj ck cl cn co cp cq cr ct cu i xn N w2 hi a8 he Ya aw Pw hc;have C:Hid (pread prev b p=⟨[],[],xn,N⟩):=aa (by rw [Ya,aw];exact Kj prev b p i hi a8 he);have gm:Hid (N≠0):=aa (by rw [aw];exact he);have HC:=aa hc;have f:w2.cell? ⟨q,0,none⟩=some (.slice none 0 0):=Pw.cell 0;have k:w2.cell? ⟨q,1,none⟩=some (.slice none 0 0):=Pw.cell 1;clear hi a8 he Ya aw Pw hc;go_wp2;refine bodyPost_ret (v:= .tuple #[.agg #[.slice none 0 0,.slice none 0 0],.int .i64 xn,.int .i64 N]) (by simp [results,results195,go_sem,f,k]) rfl ?_;rw [Y.out];unfold fP;rw [C.out];exact⟨_,_,_,_,_,_,rfl,fun h=>absurd h gm,U.out.trans (HC.below_of (B:=w.heap.size) U.size (fun b a e=>by have:=O.out;rcases e with e|e<;>omega))⟩
def fw (e:Int) (p:Nat):List PanicEntry:= [{v:= .iface 290 (.agg #[.int .i64 e,.int .i64 p]),recovered:=false}]
theorem pg:eighth []= []:=by unfold eighth;rfl
theorem sS:∀(k:Nat) (l:List Nat) (a:Nat),l.length<=k->eighth (l++ [a])=if l.length%8=0 then eighth l++ [a] else eighth l:=by
 intro k
 induction k with
 |zero=>
  intro l a h;have:l= []:=List.eq_nil_of_length_eq_zero (by omega);subst this
  simp [eighth]
 |succ k d=>
  intro l a h
  cases l with
  |nil=>simp [eighth]
  |cons x r=>
   rw [List.cons_append];conv=>lhs;unfold eighth
   conv=>rhs;unfold eighth
   rw [List.length_cons] at h|-
   by_cases c:7<=r.length
   ·rw [List.drop_append_of_le_length c,d _ _ (by rw [List.length_drop];omega),List.length_drop]
    by_cases b:(r.length-7)%8=0
    ·rw [if_pos b,if_pos (by omega),List.cons_append]
    ·rw [if_neg b,if_neg (by omega)]
   ·rw [List.drop_eq_nil_of_le (by rw [List.length_append,List.length_singleton];omega),List.drop_eq_nil_of_le (by omega),if_neg (by omega)]
theorem lS (l:List Nat):∀k,l.length<=k->(eighth l).length<=l.length:=by
 intro k
 induction k generalizing l with
 |zero=>intro h;have:l= []:=List.eq_nil_of_length_eq_zero (by omega);subst this;simp [eighth]
 |succ k a=>
  intro h
  cases l with
  |nil=>simp [eighth]
  |cons x r=>
   unfold eighth;rw [List.length_cons,List.length_cons];rw [List.length_cons] at h;have:=a (r.drop 7) (by rw [List.length_drop];omega);rw [List.length_drop] at this;omega
theorem ET:∀(k:Nat) (l:List Nat),l.length<=k->∀a∈eighth l,a∈l:=by
 intro k
 induction k with
 |zero=>intro l h a b;have:l= []:=List.eq_nil_of_length_eq_zero (by omega);subst this;rw [pg] at b;exact b
 |succ k c=>
  intro l h a b
  cases l with
  |nil=>rw [pg] at b;exact b
  |cons x r=>
   unfold eighth at b;rw [List.length_cons] at h
   rcases List.mem_cons.1 b with e|e
   ·rw [e];exact List.mem_cons_self
   ·exact List.mem_cons_of_mem _ (List.mem_of_mem_drop (c _ (by rw [List.length_drop];omega) a e))
def mo (l:List Nat):List Value:=l.map fun a=> .int .i64 (a:Nat)
structure BR (w:World) (base q:Nat) (bA:Option Addr) (bn bc n:Nat) (l:List aK) (ats:List Nat) (p:Nat) (lv rv:Value):Prop where
 blk:aj w q 295 #[.slice bA bn bc,.int .i64 n,.int .i64 l.length,.int .i64 p,lv,rv]
 lst:l= []->lv= .slice none 0 0
 key:SB w (fun b=>base<=b/\rv.ownBlock≠some b/\b≠q) lv (az l)
 own:w.ownsRow base 3 1 rv (eighth ats).length (mo (eighth ats))
 ne:rv.ownBlock≠some q
theorem BR.chg {S:Nat->Prop} {w w':World} {base q:Nat} {bA:Option Addr} {bn bc n:Nat} {l:List aK} {ats:List Nat} {p:Nat} {lv rv:Value} (h:BR w base q bA bn bc n l ats p lv rv) (y:ag S w w') (c:∀_b,base<=_b->_b<w.heap.size->¬S _b) (hq:base<=q):BR w' base q bA bn bc n l ats p lv rv:=
 ⟨h.blk.chg y (c q hq h.blk.lt),h.lst,(h.key.lt.chg y (fun _b a=>c _b a.1.1 a.2)).weak (fun _b a=>a.1),aD h.own y (fun g d=>c g (ah h.own g d).1 (ah h.own g d).2),h.ne⟩
theorem Ml (F:Nat->Prop) (A:Option Addr) (n c:Nat) (b:List UInt8) (w:World) (h:Rd w F 1 A n (aF b)) (K:n=b.length) (hn2:n<=1152921504606) (l:(ai b 0).2.2=0) (r:1<=(ai b 0).1) (f:(ai b 0).1<=64):
  Calls prog 173 #[.slice A n c] w fun e w'=>∃q,e= .returned (.pointer (some ⟨q,0,none⟩))/\w.heap.size<=q/\BR w' w.heap.size q A n c (ai b 0).1 [] [] (ai b 0).2.1 (.slice none 0 0) (.slice none 0 0)/\Below w.heap.size w w':=by
 have k:=aa (kL F A n c 0 b w h K (Nat.zero_le _) hn2);obtain⟨x,j⟩:∃x,x=(ai b 0).1:=⟨_,rfl⟩;obtain⟨p,i⟩:∃p,p=(ai b 0).2.1:=⟨_,rfl⟩;rw [<-j,<-i,l] at k;rw [<-j] at r f|-;rw [<-i];obtain⟨R,g⟩:∃R:Ending->World->Prop,R=fun e w'=>∃q,e= .returned (.pointer (some ⟨q,0,none⟩))/\w.heap.size<=q/\BR w' w.heap.size q A n c x [] [] p (.slice none 0 0) (.slice none 0 0)/\Below w.heap.size w w':=⟨_,rfl⟩;have m:=aa g;rw [<-g];have t:((x:Int)==0)=false:=by rw [beq_eq_false_iff_ne];omega
 have o:¬((x:Int)=0):=by omega
 have s:¬((64:Int)<(x:Int)):=by omega
 clear g j i h K l;go_enter func173,ntmps173
 go_wp2_with (go_at_call 194;go_loud (refine k.mono ?_);rintro e w2 ⟨rfl,a⟩;have d:=aa a;clear a)
 rw [m.out];refine⟨_,rfl,d.size,⟨aj.new _ _ _,fun _=>rfl,SB.nil _ _,by rw [pg];exact World.ownsRow_nil _ _ _ _,by simp [Value.ownBlock]⟩,d.alloc d.size _⟩
theorem Jh (F:Nat->Prop) (A:Option Addr) (n c:Nat) (b:List UInt8) (w:World) (h:Rd w F 1 A n (aF b)) (K:n=b.length) (hn2:n<=1152921504606) (j:(ai b 0).2.2≠0):
  Calls prog 173 #[.slice A n c] w fun e w'=>e= .panicked (fw (ai b 0).2.2 (ai b 0).2.1)/\Below w.heap.size w w':=by
 have i:=aa (kL F A n c 0 b w h K (Nat.zero_le _) hn2);obtain⟨x,k⟩:∃x,x=(ai b 0).1:=⟨_,rfl⟩;obtain⟨p,g⟩:∃p,p=(ai b 0).2.1:=⟨_,rfl⟩;obtain⟨er,d⟩:∃er,er=(ai b 0).2.2:=⟨_,rfl⟩;rw [<-k,<-g,<-d] at i;rw [<-d] at j|-;rw [<-g];obtain⟨R,f⟩:∃R:Ending->World->Prop,R=fun e w'=>e= .panicked (fw er p)/\Below w.heap.size w w':=⟨_,rfl⟩;have l:=aa f;rw [<-f];have o:(er==0)=false:=by rw [beq_eq_false_iff_ne];exact j
 clear f k g d h K;go_enter func173,ntmps173
 go_wp2_with (go_at_call 194;go_loud (refine i.mono ?_);rintro e w2 ⟨rfl,a⟩;have m:=aa a;clear a)
 refine⟨rfl,?_⟩;rw [l.out];exact⟨rfl,m⟩
theorem EU (F:Nat->Prop) (A:Option Addr) (n c:Nat) (b:List UInt8) (w:World) (h:Rd w F 1 A n (aF b)) (K:n=b.length) (hn2:n<=1152921504606) (j:(ai b 0).2.2=0) (i:(ai b 0).1=0):
  Calls prog 173 #[.slice A n c] w fun e w'=>e= .panicked (fw 61 0)/\Below w.heap.size w w':=by
 have g:=aa (kL F A n c 0 b w h K (Nat.zero_le _) hn2);obtain⟨x,f⟩:∃x,x=(ai b 0).1:=⟨_,rfl⟩;obtain⟨p,k⟩:∃p,p=(ai b 0).2.1:=⟨_,rfl⟩;rw [<-f,<-k,j] at g;rw [<-f] at i;obtain⟨R,d⟩:∃R:Ending->World->Prop,R=fun e w'=>e= .panicked (fw 61 0)/\Below w.heap.size w w':=⟨_,rfl⟩;have l:=aa d;rw [<-d]
 (subst i)
 clear d f k h K j;go_enter func173,ntmps173
 go_wp2_with (go_at_call 194;go_loud (refine g.mono ?_);rintro e w2 ⟨rfl,a⟩;have m:=aa a;clear a)
 refine⟨rfl,?_⟩;rw [l.out];exact⟨rfl,m⟩
theorem EV (F:Nat->Prop) (A:Option Addr) (n c:Nat) (b:List UInt8) (w:World) (h:Rd w F 1 A n (aF b)) (K:n=b.length) (hn2:n<=1152921504606) (i:(ai b 0).2.2=0) (o:64<(ai b 0).1):
  Calls prog 173 #[.slice A n c] w fun e w'=>e= .panicked (fw 61 0)/\Below w.heap.size w w':=by
 have g:=aa (kL F A n c 0 b w h K (Nat.zero_le _) hn2);obtain⟨x,f⟩:∃x,x=(ai b 0).1:=⟨_,rfl⟩;obtain⟨p,j⟩:∃p,p=(ai b 0).2.1:=⟨_,rfl⟩;rw [<-f,<-j,i] at g;rw [<-f] at o;obtain⟨R,d⟩:∃R:Ending->World->Prop,R=fun e w'=>e= .panicked (fw 61 0)/\Below w.heap.size w w':=⟨_,rfl⟩;have k:=aa d;rw [<-d]
 (have r:((x:Int)==0)=false:=(by rw [beq_eq_false_iff_ne];omega);have m:¬((x:Int)=0):=(by omega);have q:(64:Int)<(x:Int):=(by omega))
 clear d f j h K i;go_enter func173,ntmps173
 go_wp2_with (go_at_call 194;go_loud (refine g.mono ?_);rintro e w2 ⟨rfl,a⟩;have l:=aa a;clear a)
 refine⟨rfl,?_⟩;rw [k.out];exact⟨rfl,l⟩
end Go.Proofs.YtepgcjbhabnciaaGreat
