/- Part 10. -/
import Derived.Test.YtbjgeidjmhialaaGreatDoorLa09
namespace Go.Proofs.YtbjgeidjmhialaaGreatDoor
set_option maxRecDepth 100000
set_option maxHeartbeats 8000000
section
open Go.Proofs.Tryz
open Go.RowKit
theorem Dg (F:Nat→Prop) (A B:Option Addr) (n c m d p:Nat) (prev b:List UInt8) (w:World) (hA:Rd w F 1 A n (aK prev)) (hn:n=prev.length) (hnc:n≤c) (hB:Rd w F 1 B m (aK b)) (hm:m=b.length) (hmd:m≤d) (hp:p≤m) (hn2:n≤1152921504606) (hm2:m≤1152921504606) (hcm:c≤maxLen) (hF:∀b,F b→b<w.heap.size):
  Calls prog 161 #[.slice A n c,.slice B m d,.int .i64 p] w (kK prev b p w):=by
 refine letter fun R HR=> ?_;have HA:=aa hA;have HN:=aa hn;have HB:=aa hB;have HM:=aa hm;have HF:=aa hF;have HCM:=aa hcm;clear hA hn hB hm hF hcm;go_enter func161,ntmps161
 go_upto_region 7 with fail
 obtain⟨q,hq⟩:∃q,q=w.heap.size:=⟨_,rfl⟩;obtain⟨w1,hw1⟩:∃W,W=((w.alloc (.cells #[.slice none 0 0,.slice none 0 0] 57)).alloc (.cells #[.slice none 0 0,.slice none 0 0] 57)).alloc (.cells #[.int .u64 0,.int .u64 0,.int .u64 0] 306):=⟨_,rfl⟩;simp only [←hw1,←hq];have HQ:=aa hq;have HB1:Hid (Below w.heap.size w w1):=aa (by rw [hw1];exact(((Below.refl _ _).alloc (Nat.le_refl _) _).alloc (by simp) _).alloc (by simp;omega) _);have Cy:Hid (ai w1 q 57 #[.slice none 0 0,.slice none 0 0]):=aa (by rw [hw1,hq];exact((ai.new w _ _).alloc _).alloc _);have Sl:Hid (ai w1 (q+1) 57 #[.slice none 0 0,.slice none 0 0]):=aa (by rw [hw1,hq];have:=(ai.new (w.alloc (.cells #[.slice none 0 0,.slice none 0 0] 57)) 57 #[.slice none 0 0,.slice none 0 0]).alloc (.cells #[.int .u64 0,.int .u64 0,.int .u64 0] 306);rwa [World.size_alloc] at this);have aa2:Hid (ai w1 (q+1+1) 306 #[.int .u64 0,.int .u64 0,.int .u64 0]):=aa (by rw [hw1,hq];have:=ai.new ((w.alloc (.cells #[.slice none 0 0,.slice none 0 0] 57)).alloc (.cells #[.slice none 0 0,.slice none 0 0] 57)) 306 #[.int .u64 0,.int .u64 0,.int .u64 0];rwa [World.size_alloc,World.size_alloc] at this);clear hw1 hq
 refine Sk F q (q+1) (q+1+1) m d p B b w1 _ (aa (HB.below HB1)) HM hp hm2 Cy Sl aa2 (aa (fun b hb=>by have:=HF.out b hb;have:=HQ.out;omega)) (by omega) ?_ ?_
 ·intro v7 v8 v12 v13 v14 v15 v30 v31 v32 v33 v34 v35 v36 v37 v38 v39 v40 v41 v42 v43 v44 v45 v46 v47 v48 v49 w2 he NB MO hk10 hc;have HW1:Hid (Below w.heap.size w w2):=aa ((HB1.out.trans (hc.below_of (B:=w.heap.size) HB1.size (fun b hb e=>by have:=HQ.out;have e:b=q+1+1:=e;omega))));have HQL:Hid (w.heap.size≤q∧q+1+1<w2.heap.size):=aa ⟨by have:=HQ.out;omega,hk10.lt⟩;obtain⟨s,hs⟩:∃s,s=JD b p 0:=⟨_,rfl⟩;obtain⟨mm,hmm⟩:∃mm,mm=JD b p 1:=⟨_,rfl⟩;obtain⟨l,hl⟩:∃l,l=JD b p 2:=⟨_,rfl⟩;obtain⟨P,hP⟩:∃P,P=Em b p 3:=⟨_,rfl⟩;have hPm:P≤m:=by rw [hP,HM.out];exact En b p (by have:=HM.out;omega) 3
  have VZ:s<18446744073709551616:=by rw [hs];exact Eo _ _ _
  have V5:mm<18446744073709551616:=by rw [hmm];exact Eo _ _ _
  have aa3:l<18446744073709551616:=by rw [hl];exact Eo _ _ _
  have CK:Hid (pread prev b p=cZ prev b p s mm l P):=aa (by
   rw [BZ,if_neg (fun h=>h (he 0 (by omega))),if_neg (fun h=>h (he 1 (by omega))),if_neg (fun h=>h (he 2 (by omega))),hs,hmm,hl,hP])
  have xG:Hid (ai w2 (q+1+1) 306 #[.int .u64 s,.int .u64 mm,.int .u64 l]):=aa (by rw [hs,hmm,hl];exact hk10);have y0:w2.cell? ⟨q+1+1,0,none⟩=some (.int .u64 s):=xG.out.cell 0;have y1:w2.cell? ⟨q+1+1,1,none⟩=some (.int .u64 mm):=xG.out.cell 1;have y2:w2.cell? ⟨q+1+1,2,none⟩=some (.int .u64 l):=xG.out.cell 2;have x0:w2.cell? ⟨q+1,0,none⟩=some (.slice none 0 0):=MO.cell 0;have x1:w2.cell? ⟨q+1,1,none⟩=some (.slice none 0 0):=MO.cell 1;have z60:w2.cell? ⟨q,0,none⟩=some (.slice none 0 0):=NB.cell 0;have z61:w2.cell? ⟨q,1,none⟩=some (.slice none 0 0):=NB.cell 1;have Nn:=NB.frozen 0;have Kt:=NB.frozen 1;have aa4:=aa NB;have aa5:=aa MO;rw [←hP]
  have Ui:Hid (∀(xn:Nat) (xe:Int),xe≠0→cZ prev b p s mm l P=⟨[],[],xn,xe⟩→∀w',ag (fun b=>b=q) w2 w'→kK prev b p w (.returned (.tuple #[.agg #[.slice none 0 0,.slice none 0 0],.int .i64 xn,.int .i64 xe])) w'):=aa (fun xn xe hne hp w' hw=>by
   unfold kK;rw [CK.out,hp];exact⟨_,_,_,_,_,_,rfl,fun h=>absurd h hne,HW1.out.trans (hw.below_of HW1.size (fun b hb e=>by have:=HQ.out;have e:b=q:=e;omega))⟩)
  have uf:Hid (ag (fun b=>b=q) w2 ((w2.setCell ⟨q,0,none⟩ (.slice none 0 0)).setCell ⟨q,1,none⟩ (.slice none 0 0))):=aa (((ag.refl (fun b=>b=q) w2).setCell (p:=⟨q,0,none⟩) (fun _=>rfl) _).setCell (p:=⟨q,1,none⟩) (fun _=>rfl) _);clear he NB MO hk10 hc hs hmm hl hP
  by_cases c1:n<s
  ·have HP:Hid (cZ prev b p s mm l P=⟨[],[],p,52⟩):=aa (by unfold cZ;rw [if_pos (by have:=HN.out;omega)]);have c1':(n:Int)<(s:Int):=by omega
   go_wp2;refine bodyPost_ret (v:= .tuple #[.agg #[.slice none 0 0,.slice none 0 0],.int .i64 p,.int .i64 52]) (by simp [results,results161,go_sem,z60,z61]) rfl ?_
   rw [HR.out]
   exact Ui.out p 52 (by decide) HP _ uf
  ·have F8:Hid (¬prev.length<s):=aa (by have:=HN.out;omega);have c1':¬((n:Int)<(s:Int)):=by omega
   by_cases c2:64<mm∨256<l∨s+mm=0∨64<s+mm
   ·have HP:Hid (cZ prev b p s mm l P=⟨[],[],p,3⟩):=aa (by unfold cZ;rw [if_neg F8.out,if_pos c2])
    by_cases d1:64<mm
    ·have d1':(64:Int)<(mm:Int):=by omega
     clear c2;go_wp2;refine bodyPost_ret (v:= .tuple #[.agg #[.slice none 0 0,.slice none 0 0],.int .i64 p,.int .i64 3]) (by simp [results,results161,go_sem,z60,z61]) rfl ?_;rw [HR.out]
     exact Ui.out p 3 (by decide) HP _ uf
    ·have d1':¬((64:Int)<(mm:Int)):=by omega
     by_cases d2:256<l
     ·have QT:(256:Int)<(l:Int):=by omega
      clear c2;go_wp2;refine bodyPost_ret (v:= .tuple #[.agg #[.slice none 0 0,.slice none 0 0],.int .i64 p,.int .i64 3]) (by simp [results,results161,go_sem,z60,z61]) rfl ?_;rw [HR.out]
      exact Ui.out p 3 (by decide) HP _ uf
     ·have QT:¬((256:Int)<(l:Int)):=by omega
      have ds:((s:Int)+(mm:Int))<18446744073709551616:=by omega
      by_cases d3:s+mm=0
      ·have d3s:s=0:=by omega
       have d3m:mm=0:=by omega
       clear y0 y1 c2;have y0:w2.cell? ⟨q+1+1,0,none⟩=some (.int .u64 0):=(xG.out.cell 0).trans (by rw [d3s];rfl);have y1:w2.cell? ⟨q+1+1,1,none⟩=some (.int .u64 0):=(xG.out.cell 1).trans (by rw [d3m];rfl);clear d3 d3s d3m ds c1 c1' d1 d1' VZ V5;go_wp2;refine bodyPost_ret (v:= .tuple #[.agg #[.slice none 0 0,.slice none 0 0],.int .i64 p,.int .i64 3]) (by simp [results,results161,go_sem,z60,z61]) rfl ?_;rw [HR.out]
       exact Ui.out p 3 (by decide) HP _ uf
      ·have d3':¬(((s:Int)+(mm:Int))=0):=by omega
       have d4:64<s+mm:=by omega
       have d4':(64:Int)<((s:Int)+(mm:Int)):=by omega
       clear c2;go_wp2;refine bodyPost_ret (v:= .tuple #[.agg #[.slice none 0 0,.slice none 0 0],.int .i64 p,.int .i64 3]) (by simp [results,results161,go_sem,z60,z61]) rfl ?_;rw [HR.out]
       exact Ui.out p 3 (by decide) HP _ uf
   ·have zl:=aa c2;have e1:¬((64:Int)<(mm:Int)):=by omega
    have e2:¬((256:Int)<(l:Int)):=by omega
    have e3:¬(((s:Int)+(mm:Int))=0):=by omega
    have e4:¬((64:Int)<((s:Int)+(mm:Int))):=by omega
    have VZ:s≤64:=by omega
    have ah5:mm≤64:=by omega
    have ah6:l≤256:=by omega
    have hsn:s≤n:=by omega
    clear c1 c2 V5 aa3
    by_cases c3:m-P<mm+l
    ·have HP:Hid (cZ prev b p s mm l P=⟨[],[],m,53⟩):=aa (by unfold cZ;rw [if_neg F8.out,if_neg zl.out,if_pos (by have:=HM.out;omega),←HM.out]);have c3':(m:Int)-(P:Int)<(mm:Int)+(l:Int):=by omega
     clear c3;go_wp2;refine bodyPost_ret (v:= .tuple #[.agg #[.slice none 0 0,.slice none 0 0],.int .i64 m,.int .i64 53]) (by simp [results,results161,go_sem,z60,z61]) rfl ?_;rw [HR.out]
     exact Ui.out m 53 (by decide) HP _ uf
    ·have TR:Hid (¬b.length-P<mm+l):=aa (by have:=HM.out;omega);have c3':¬((m:Int)-(P:Int)<(mm:Int)+(l:Int)):=by omega
     have hpl:P+mm+l≤m:=by omega
     have HB2:Hid (Rd w2 F 1 B m (aK b)):=aa (HB.below HW1);have HA2:Hid (Rd w2 F 1 A n (aK prev)):=aa (HA.below HW1);obtain⟨A1,hs1,hr1⟩:=Sm (p:=P) HB2 hPm hmd;obtain⟨A2,hs2,hr2⟩:=Pq (c:=d-P) (p:=mm) hr1 (by omega) (by omega);obtain⟨A3,hs3,hr3⟩:=Sn (p:=s) HA2 hsn hnc;have HR2:=aa hr2;have HR3:=aa hr3;clear c3 hr1 hr2 hr3;go_upto_region 21 with fail
     go_quiet (fail);clear hs1 hs2;go_upto_region 23 with fail
     obtain⟨w3,hw3⟩:∃W,W=w2.drewN nq:=⟨_,rfl⟩;rw [←hw3];have gN:Hid (ag Nil w2 w3):=aa (by rw [hw3];exact(ag.refl Nil w2).drewN _);have HZ3:Hid (w3.heap.size=w2.heap.size):=aa (by rw [hw3];rfl);have aa6:Hid (Rd w3 F 1 A2 mm (aK ((b.drop P).take mm))):=aa (HR2.chg gN (fun _ _ h=>h));have aa7:Hid (Rd w3 F 1 A3 s (aK (prev.take s))):=aa (HR3.chg gN (fun _ _ h=>h));have Sq:Hid (ai w3 q 57 #[.slice none 0 0,.slice none 0 0]):=aa (aa4.chg gN (fun h=>h));have V6:Hid (ai w3 (q+1+1) 306 #[.int .u64 s,.int .u64 mm,.int .u64 l]):=aa (xG.chg gN (fun h=>h));have Qt:Hid (ai w3 (q+1) 57 #[.slice none 0 0,.slice none 0 0]):=aa ((aa5).chg gN (fun h=>h));obtain⟨key,hkey⟩:∃key,key=prev.take s++(b.drop P).take mm:=⟨_,rfl⟩;have Sr:=aa hkey;have kZ:Hid ([prev.take s,(b.drop P).take mm].flatten=key):=aa (by rw [hkey];simp)
     have Dh:Hid (key.length=s+mm):=aa (by
      have h1:=HM.out;have h2:=HN.out;rw [hkey,List.length_append,List.length_take,List.length_take,List.length_drop];omega)
     have xV:Hid (Tx (w3.alloc (.cells #[.slice A3 s c,.slice A2 mm mm] 24)) (fun b=>b<w3.heap.size+1) (some ⟨w3.heap.size,0,none⟩) 2 2 [prev.take s,(b.drop P).take mm]):=aa (by
      have hal:Below w3.heap.size w3 (w3.alloc (.cells #[.slice A3 s c,.slice A2 mm mm] 24)):=(Below.refl _ _).alloc (Nat.le_refl _) _;have hFs:∀b,F b→b<w3.heap.size+1:=fun b hb=>by have h1:=HF.out b hb;have h2:=HW1.out.size;have h3:=HZ3.out;omega
      refine⟨by omega,by simp [maxLen],rfl,[.slice A3 s c,.slice A2 mm mm],⟨rfl,fun _=>⟨_,0,rfl,by omega,fun j u hj=>by rw [(ai.new w3 _ _).cell];simpa using hj⟩⟩,fun i t ht=> ?_⟩
      match i,ht with
      |0,ht=>
       simp only [List.getElem?_cons_zero,Option.some.injEq] at ht;subst ht
       exact⟨_,rfl,(SB.mk (by omega) HCM (by have h2:=HN.out;rw [List.length_take];omega) (aa7.below hal)).weak hFs⟩
      |1,ht=>
       simp only [List.getElem?_cons_succ,List.getElem?_cons_zero,Option.some.injEq] at ht;subst ht;exact⟨_,rfl,(SB.mk (Nat.le_refl _) (by simp only [maxLen];omega) (by have h1:=HM.out;rw [List.length_take,List.length_drop];omega) (aa6.below hal)).weak hFs⟩)
     have ES:=aa (uL (fun b=>b<w3.heap.size+1) (some ⟨w3.heap.size,0,none⟩) 2 2 _ (w3.alloc (.cells #[.slice A3 s c,.slice A2 mm mm] 24)) xV (fun b hb=>by rw [World.size_alloc];exact hb) (by omega) (by rw [kZ.out,Dh.out];omega));rw [kZ.out] at ES;clear hw3 hkey y0 y1 y2 x0 x1 z60 z61 Nn Kt;go_upto_block 3 with(go_at_call 134;go_loud (refine ES.mono ?_);rintro e w4 ⟨kv,rfl,hO4,hB4⟩;have lI:=aa hO4;have dN:Hid (Below w3.heap.size w3 w4):=aa (((Below.refl _ _).alloc (Nat.le_refl _) _).trans (hB4.mono (by rw [World.size_alloc];omega)));clear hO4 hB4)
     obtain⟨K,kn,kc,rfl,hk1,hk2,hk3,hk4⟩:=lI.out.sb;have Qw:Hid (Below w.heap.size w w4):=aa ((HW1.out.trans (gN.below_of HW1.size (fun _ _ h=>h))).trans (dN.mono (by have:=HW1.out.size;have:=HZ3.out;omega)));have xZ:=aa hk3;have lH:=aa hk4;have Rq:=aa (And.intro hk1 hk2);have F5:Hid (Rd w4 F 1 A n (aK prev)):=aa (HA.below Qw);have aa8:Hid (Rd w4 F 1 B m (aK b)):=aa (HB.below Qw);have wS:Hid (ai w4 q 57 #[.slice none 0 0,.slice none 0 0]):=aa (Sq.below dN);have Ps:Hid (ai w4 (q+1) 57 #[.slice none 0 0,.slice none 0 0]):=aa (Qt.below dN);have Qx:Hid (ai w4 (q+1+1) 306 #[.int .u64 s,.int .u64 mm,.int .u64 l]):=aa (V6.below dN);have Qy:=aa (uK A K n kn c kc F (From _) prev key w4 F5 HN lH xZ (by omega));obtain⟨cm,hcm2⟩:∃cm,cm=comm prev key:=⟨_,rfl⟩;rw [←hcm2] at Qy;have V7:=aa hcm2;have ak3:cm≤1152921504606:=by have:=(jG prev key).1;have:=HN.out;omega
     clear hk1 hk2 hk3 hk4 hcm2
     have Kn:Hid (∀(xe:Int) (w':World),xe≠0→cZ prev b p s mm l P=⟨[],[],p,xe⟩→ag (fun b=>b=q) w4 w'→kK prev b p w (.returned (.tuple #[.agg #[.slice none 0 0,.slice none 0 0],.int .i64 p,.int .i64 xe])) w'):=aa (fun xe w' hne hp hw=>by
      unfold kK;rw [CK.out,hp];exact⟨_,_,_,_,_,_,rfl,fun h=>absurd h hne,Qw.out.trans (hw.below_of Qw.size (fun b hb e=>by have:=HQ.out;have e:b=q:=e;omega))⟩)
     by_cases k1:cm=s
     ·have lL:Hid (¬comm prev key≠s):=aa (by rw [←V7.out];exact fun h=>h k1);have k1':((cm:Int)==(s:Int))=true:=by rw [beq_iff_eq];omega
      have Su:((cm:Int) !=(s:Int))=false:=by simp [k1]
      have k1d:decide ((cm:Int)=(s:Int))=true:=decide_eq_true (by omega)
      by_cases k2:0<n∧0≤Lib.compareBytes prev key
      ·have HP:Hid (cZ prev b p s mm l P=⟨[],[],p,51⟩):=aa (by unfold cZ;rw [if_neg F8.out,if_neg zl.out,if_neg TR.out,←Sr.out,if_neg lL.out,if_pos (by rw [←HN.out];exact k2)]);have k20:0<n:=k2.1;have ak4:(0:Int)<(n:Int):=by omega
       obtain⟨ce,hce⟩:∃ce,ce=Lib.compareBytes prev key:=⟨_,rfl⟩;have uD:=aa hce;have k21:0≤ce:=by rw [hce];exact k2.2
       clear k2 hce k1;go_wp2_with (first|(go_at_call 145;go_loud (refine Qy.mono ?_);rintro e w5 ⟨rfl,q5,jg⟩;have fQ:Hid (ag Nil w4 w5):=aa (by rw [jg];exact(ag.refl Nil w4).drewN _);have z90:w5.cell? ⟨q+1,0,none⟩=some (.slice none 0 0):=(Ps.out.chg fQ (fun h=>h)).cell 0;have z91:w5.cell? ⟨q+1,1,none⟩=some (.slice none 0 0):=(Ps.out.chg fQ (fun h=>h)).cell 1;have z60:w5.cell? ⟨q,0,none⟩=some (.slice none 0 0):=(wS.out.chg fQ (fun h=>h)).cell 0;have z61:w5.cell? ⟨q,1,none⟩=some (.slice none 0 0):=(wS.out.chg fQ (fun h=>h)).cell 1;have Nn:=(wS.out.chg fQ (fun h=>h)).frozen 0;have Kt:=(wS.out.chg fQ (fun h=>h)).frozen 1;clear jg)|(go_at_call 70;go_loud (refine(bi A K n kn c kc F (From _) prev key _ (F5.chg fQ (fun _ _ h=>h)) HN (lH.chg fQ (fun _ _ h=>h)) xZ).mono ?_);rintro e w6 ⟨rfl,rfl⟩;rw [←uD.out]))
       refine bodyPost_ret (v:= .tuple #[.agg #[.slice none 0 0,.slice none 0 0],.int .i64 p,.int .i64 51]) (by simp [results,results161,go_sem,z60,z61]) rfl ?_;rw [HR.out]
       exact Kn 51 _ (by decide) HP (((fQ.mono (T:=fun b=>b=q) (fun _ _ h=>h.elim)).setCell (p:=⟨q,0,none⟩) (fun _=>rfl) _).setCell (p:=⟨q,1,none⟩) (fun _=>rfl) _)
      ·have HP:Hid (cZ prev b p s mm l P=⟨key,(b.drop (P+mm)).take l,P+mm+l,0⟩):=aa (by unfold cZ;rw [if_neg F8.out,if_neg zl.out,if_neg TR.out,←Sr.out,if_neg lL.out,if_neg (by rw [←HN.out];exact k2)]);obtain⟨A4,hs4,hr4⟩:=Sv (p:=P+mm) (q:=P+mm+l) aa8 (by omega) hpl hmd;rw [show P+mm+l-(P+mm)=l by omega] at hs4 hr4;have ak5:∀w',(Instr.slice 24 (.slice B m d) (some (.int .i64 ((P:Int)+(mm:Int)))) (some (.int .i64 ((P:Int)+(mm:Int)+(l:Int)))) none).run prog w'= .ok (.slice A4 l (d-(P+mm))) w':=fun w'=>by have:=hs4 w';simpa only [Int.natCast_add] using this
       have HR4:=aa hr4;clear hs4 hr4
       by_cases n0:0<n
       ·have Zd:(0:Int)<(n:Int):=by omega
        obtain⟨ce,hce⟩:∃ce,ce=Lib.compareBytes prev key:=⟨_,rfl⟩;have uD:=aa hce;have k21:¬0≤ce:=by rw [hce];exact fun h=>k2 ⟨n0,h⟩
        clear k2 hce k1;go_upto_region 29 with(first|(go_at_call 145;go_loud (refine Qy.mono ?_);rintro e w5 ⟨rfl,q5,jg⟩;have fQ:Hid (ag Nil w4 w5):=aa (by rw [jg];exact(ag.refl Nil w4).drewN _);have y2:w5.cell? ⟨q+1+1,2,none⟩=some (.int .u64 l):=(Qx.out.chg fQ (fun h=>h)).cell 2;clear jg)|(go_at_call 70;go_loud (refine(bi A K n kn c kc F (From _) prev key _ (F5.chg fQ (fun _ _ h=>h)) HN (lH.chg fQ (fun _ _ h=>h)) xZ).mono ?_);rintro e w6 ⟨rfl,rfl⟩;rw [←uD.out]))
        have jy:=aa (dm A4 l (d-(P+mm)) F ((b.drop (P+mm)).take l) w5 (HR4.chg fQ (fun _ _ h=>h)) (by rw [List.length_take,List.length_drop];have:=HM.out;omega) (by omega));have oO:Hid (ai w5 q 57 #[.slice none 0 0,.slice none 0 0]):=aa (wS.chg fQ (fun h=>h));have kw:Hid (Rd w5 (From (w3.alloc (.cells #[.slice A3 s c,.slice A2 mm mm] 24)).heap.size) 1 K kn (aK key)):=aa (lH.chg fQ (fun _ _ h=>h));have xH:Hid (Below w.heap.size w w5):=aa (Qw.out.trans (fQ.below_of Qw.size (fun _ _ h=>h)));clear y2 k1' Su k1d;go_wp2_with (go_at_call 23;go_loud (refine jy.mono ?_);rintro e w6 ⟨V,vn,vc,rfl,hv1,hv2,hv3,hv4,hv5⟩;have HV:=aa (And.intro hv1 (And.intro hv2 (And.intro hv3.out hv4)));have lg:=aa hv5;have rQ:ai w6 q 57 #[.slice none 0 0,.slice none 0 0]:=oO.out.below hv5;have yt:=aa rQ;have z60:w6.cell? ⟨q,0,none⟩=some (.slice none 0 0):=rQ.cell 0;have z61:w6.cell? ⟨q,1,none⟩=some (.slice none 0 0):=rQ.cell 1;have Nn:=rQ.frozen 0;have Kt:=rQ.frozen 1;clear hv1 hv2 hv3 hv4 hv5 rQ)
        refine bodyPost_ret (v:= .tuple #[.agg #[.slice K kn kc,.slice V vn vc],.int .i64 ((P:Int)+(mm:Int)+(l:Int)),.int .i64 0]) (by simp [results,results161,go_sem,z60,z61]) rfl ?_;rw [HR.out];unfold kK;rw [CK.out,HP.out];have hcs:ag (fun b=>b=q) w6 ((w6.setCell ⟨q,0,none⟩ (.slice K kn kc)).setCell ⟨q,1,none⟩ (.slice V vn vc)):=((ag.refl (fun b=>b=q) w6).setCell (p:=⟨q,0,none⟩) (fun _=>rfl) _).setCell (p:=⟨q,1,none⟩) (fun _=>rfl) _;have kF:Below w.heap.size w w6:=xH.out.trans (lg.mono xH.size)
        refine⟨K,kn,kc,V,vn,vc,by simp only [Int.natCast_add],fun _=>⟨?_,?_⟩,kF.trans (hcs.below_of kF.size (fun b hb e=>by have:=HQ.out;have e:b=q:=e;omega))⟩
        ·have h1:SB w6 (fun b=>q<b) (.slice K kn kc) key:=(SB.mk Rq.1 Rq.2 xZ (kw.below lg)).weak (fun b hb=>by have h2:(w3.alloc (.cells #[.slice A3 s c,.slice A2 mm mm] 24)).heap.size≤b:=hb;rw [World.size_alloc] at h2;have h3:=Sq.out.lt;omega)
         exact(h1.chg hcs (fun b hb e=>by have hb:q<b:=hb;have e:b=q:=e;omega)).weak (fun b hb=>by have hb:q<b:=hb;show w.heap.size≤b;have:=HQ.out;omega)
        ·have h1:SB w6 (fun b=>q<b) (.slice V vn vc) ((b.drop (P+mm)).take l):=(SB.mk HV.1 HV.2.1 HV.2.2.1 HV.2.2.2).weak (fun b hb=>by have h2:w5.heap.size≤b:=hb.1;have h3:=oO.out.lt;omega)
         exact(h1.chg hcs (fun b hb e=>by have hb:q<b:=hb;have e:b=q:=e;omega)).weak (fun b hb=>by have hb:q<b:=hb;show w.heap.size≤b;have:=HQ.out;omega)
       ·have Zd:¬((0:Int)<(n:Int)):=by omega
        obtain⟨ce,hce⟩:∃ce,ce=Lib.compareBytes prev key:=⟨_,rfl⟩;have uD:=aa hce;clear k2 hce k1;go_upto_region 29 with(first|(go_at_call 145;go_loud (refine Qy.mono ?_);rintro e w5 ⟨rfl,q5,jg⟩;have fQ:Hid (ag Nil w4 w5):=aa (by rw [jg];exact(ag.refl Nil w4).drewN _);have y2:w5.cell? ⟨q+1+1,2,none⟩=some (.int .u64 l):=(Qx.out.chg fQ (fun h=>h)).cell 2;clear jg)|(go_at_call 70;go_loud (refine(bi A K n kn c kc F (From _) prev key _ (F5.chg fQ (fun _ _ h=>h)) HN (lH.chg fQ (fun _ _ h=>h)) xZ).mono ?_);rintro e w6 ⟨rfl,rfl⟩;rw [←uD.out]))
        have jy:=aa (dm A4 l (d-(P+mm)) F ((b.drop (P+mm)).take l) w5 (HR4.chg fQ (fun _ _ h=>h)) (by rw [List.length_take,List.length_drop];have:=HM.out;omega) (by omega));have oO:Hid (ai w5 q 57 #[.slice none 0 0,.slice none 0 0]):=aa (wS.chg fQ (fun h=>h));have kw:Hid (Rd w5 (From (w3.alloc (.cells #[.slice A3 s c,.slice A2 mm mm] 24)).heap.size) 1 K kn (aK key)):=aa (lH.chg fQ (fun _ _ h=>h));have xH:Hid (Below w.heap.size w w5):=aa (Qw.out.trans (fQ.below_of Qw.size (fun _ _ h=>h)));clear y2 k1' Su k1d;go_wp2_with (go_at_call 23;go_loud (refine jy.mono ?_);rintro e w6 ⟨V,vn,vc,rfl,hv1,hv2,hv3,hv4,hv5⟩;have HV:=aa (And.intro hv1 (And.intro hv2 (And.intro hv3.out hv4)));have lg:=aa hv5;have rQ:ai w6 q 57 #[.slice none 0 0,.slice none 0 0]:=oO.out.below hv5;have yt:=aa rQ;have z60:w6.cell? ⟨q,0,none⟩=some (.slice none 0 0):=rQ.cell 0;have z61:w6.cell? ⟨q,1,none⟩=some (.slice none 0 0):=rQ.cell 1;have Nn:=rQ.frozen 0;have Kt:=rQ.frozen 1;clear hv1 hv2 hv3 hv4 hv5 rQ)
        refine bodyPost_ret (v:= .tuple #[.agg #[.slice K kn kc,.slice V vn vc],.int .i64 ((P:Int)+(mm:Int)+(l:Int)),.int .i64 0]) (by simp [results,results161,go_sem,z60,z61]) rfl ?_;rw [HR.out];unfold kK;rw [CK.out,HP.out];have hcs:ag (fun b=>b=q) w6 ((w6.setCell ⟨q,0,none⟩ (.slice K kn kc)).setCell ⟨q,1,none⟩ (.slice V vn vc)):=((ag.refl (fun b=>b=q) w6).setCell (p:=⟨q,0,none⟩) (fun _=>rfl) _).setCell (p:=⟨q,1,none⟩) (fun _=>rfl) _;have kF:Below w.heap.size w w6:=xH.out.trans (lg.mono xH.size)
        refine⟨K,kn,kc,V,vn,vc,by simp only [Int.natCast_add],fun _=>⟨?_,?_⟩,kF.trans (hcs.below_of kF.size (fun b hb e=>by have:=HQ.out;have e:b=q:=e;omega))⟩
        ·have h1:SB w6 (fun b=>q<b) (.slice K kn kc) key:=(SB.mk Rq.1 Rq.2 xZ (kw.below lg)).weak (fun b hb=>by have h2:(w3.alloc (.cells #[.slice A3 s c,.slice A2 mm mm] 24)).heap.size≤b:=hb;rw [World.size_alloc] at h2;have h3:=Sq.out.lt;omega)
         exact(h1.chg hcs (fun b hb e=>by have hb:q<b:=hb;have e:b=q:=e;omega)).weak (fun b hb=>by have hb:q<b:=hb;show w.heap.size≤b;have:=HQ.out;omega)
        ·have h1:SB w6 (fun b=>q<b) (.slice V vn vc) ((b.drop (P+mm)).take l):=(SB.mk HV.1 HV.2.1 HV.2.2.1 HV.2.2.2).weak (fun b hb=>by have h2:w5.heap.size≤b:=hb.1;have h3:=oO.out.lt;omega)
         exact(h1.chg hcs (fun b hb e=>by have hb:q<b:=hb;have e:b=q:=e;omega)).weak (fun b hb=>by have hb:q<b:=hb;show w.heap.size≤b;have:=HQ.out;omega)
     ·have HP:Hid (cZ prev b p s mm l P=⟨[],[],p,52⟩):=aa (by unfold cZ;rw [if_neg F8.out,if_neg zl.out,if_neg TR.out,←Sr.out,if_pos (by rw [←V7.out];exact k1)]);have k1':((cm:Int)==(s:Int))=false:=by rw [beq_eq_false_iff_ne];omega
      have Su:((cm:Int) !=(s:Int))=true:=by simp;omega
      have k1d:decide ((cm:Int)=(s:Int))=false:=decide_eq_false (by omega);go_wp2_with (go_at_call 145;go_loud (refine Qy.mono ?_);rintro e w5 ⟨rfl,q5,jg⟩;have fQ:Hid (ag Nil w4 w5):=aa (by rw [jg];exact(ag.refl Nil w4).drewN _);have z90:w5.cell? ⟨q+1,0,none⟩=some (.slice none 0 0):=(Ps.out.chg fQ (fun h=>h)).cell 0;have z91:w5.cell? ⟨q+1,1,none⟩=some (.slice none 0 0):=(Ps.out.chg fQ (fun h=>h)).cell 1;have z60:w5.cell? ⟨q,0,none⟩=some (.slice none 0 0):=(wS.out.chg fQ (fun h=>h)).cell 0;have z61:w5.cell? ⟨q,1,none⟩=some (.slice none 0 0):=(wS.out.chg fQ (fun h=>h)).cell 1;have Nn:=(wS.out.chg fQ (fun h=>h)).frozen 0;have Kt:=(wS.out.chg fQ (fun h=>h)).frozen 1;clear jg)
      refine bodyPost_ret (v:= .tuple #[.agg #[.slice none 0 0,.slice none 0 0],.int .i64 p,.int .i64 52]) (by simp [results,results161,go_sem,z60,z61]) rfl ?_;rw [HR.out]
      exact Kn 52 _ (by decide) HP (((fQ.mono (T:=fun b=>b=q) (fun _ _ h=>h.elim)).setCell (p:=⟨q,0,none⟩) (fun _=>rfl) _).setCell (p:=⟨q,1,none⟩) (fun _=>rfl) _)
 ·intro v11 v12 v13 v14 v15 v30 v31 v32 v33 v34 v35 v36 v37 v38 v39 v40 v41 v42 v43 v44 v45 v46 v47 v48 v49 i xn xe w2 hi he0 he XU hxe NB hc;have HP:Hid (pread prev b p=⟨[],[],xn,xe⟩):=aa (by rw [XU,hxe];exact Ip prev b p i hi he0 he);have zk:Hid (xe≠0):=aa (by rw [hxe];exact he);have HC:=aa hc;have z60:w2.cell? ⟨q,0,none⟩=some (.slice none 0 0):=NB.cell 0;have z61:w2.cell? ⟨q,1,none⟩=some (.slice none 0 0):=NB.cell 1;clear hi he0 he XU hxe NB hc;go_wp2;refine bodyPost_ret (v:= .tuple #[.agg #[.slice none 0 0,.slice none 0 0],.int .i64 xn,.int .i64 xe]) (by simp [results,results161,go_sem,z60,z61]) rfl ?_;rw [HR.out];unfold kK;rw [HP.out];exact⟨_,_,_,_,_,_,rfl,fun h=>absurd h zk,HB1.out.trans (HC.below_of (B:=w.heap.size) HB1.size (fun b hb e=>by have:=HQ.out;rcases e with e|e<;>omega))⟩
end
section
open Go.Proofs.Tryz
open Go.RowKit
def eO (e:Int) (p:Nat):List PanicEntry:= [{v:= .iface 260 (.agg #[.int .i64 e,.int .i64 p]),recovered:=false}]
theorem oM:eighth []= []:=by unfold eighth;rfl
theorem r9:∀(k:Nat) (l:List Nat) (a:Nat),l.length≤k→eighth (l++ [a])=if l.length%8=0 then eighth l++ [a] else eighth l:=by
 intro k
 induction k with
 |zero=>
  intro l a h;have:l= []:=List.eq_nil_of_length_eq_zero (by omega);subst this
  simp [eighth]
 |succ k ih=>
  intro l a h
  cases l with
  |nil=>simp [eighth]
  |cons x r=>
   rw [List.cons_append];conv=>lhs;unfold eighth
   conv=>rhs;unfold eighth
   rw [List.length_cons] at h⊢
   by_cases h7:7≤r.length
   ·rw [List.drop_append_of_le_length h7,ih _ _ (by rw [List.length_drop];omega),List.length_drop]
    by_cases h8:(r.length-7)%8=0
    ·rw [if_pos h8,if_pos (by omega),List.cons_append]
    ·rw [if_neg h8,if_neg (by omega)]
   ·rw [List.drop_eq_nil_of_le (by rw [List.length_append,List.length_singleton];omega),List.drop_eq_nil_of_le (by omega),if_neg (by omega)]
theorem kJ (l:List Nat):∀k,l.length≤k→(eighth l).length≤l.length:=by
 intro k
 induction k generalizing l with
 |zero=>intro h;have:l= []:=List.eq_nil_of_length_eq_zero (by omega);subst this;simp [eighth]
 |succ k ih=>
  intro h
  cases l with
  |nil=>simp [eighth]
  |cons x r=>
   unfold eighth;rw [List.length_cons,List.length_cons];rw [List.length_cons] at h;have:=ih (r.drop 7) (by rw [List.length_drop];omega);rw [List.length_drop] at this;omega
theorem Dc:∀(k:Nat) (l:List Nat),l.length≤k→∀a∈eighth l,a∈l:=by
 intro k
 induction k with
 |zero=>intro l h a ha;have:l= []:=List.eq_nil_of_length_eq_zero (by omega);subst this;rw [oM] at ha;exact ha
 |succ k ih=>
  intro l h a ha
  cases l with
  |nil=>rw [oM] at ha;exact ha
  |cons x r=>
   unfold eighth at ha;rw [List.length_cons] at h
   rcases List.mem_cons.1 ha with e|e
   ·rw [e];exact List.mem_cons_self
   ·exact List.mem_cons_of_mem _ (List.mem_of_mem_drop (ih _ (by rw [List.length_drop];omega) a e))
def Al (l:List Nat):List Value:=l.map fun a=> .int .i64 (a:Nat)
structure BR (w:World) (base q:Nat) (bA:Option Addr) (bn bc n:Nat) (l:List aH) (ats:List Nat) (p:Nat) (lv rv:Value):Prop where
 blk:ai w q 265 #[.slice bA bn bc,.int .i64 n,.int .i64 l.length,.int .i64 p,lv,rv]
 lst:l= []→lv= .slice none 0 0
 key:SB w (fun b=>base≤b∧rv.ownBlock≠some b∧b≠q) lv (aD l)
 own:w.ownsRow base 3 1 rv (eighth ats).length (Al (eighth ats))
 ne:rv.ownBlock≠some q
theorem BR.chg {S:Nat→Prop} {w w':World} {base q:Nat} {bA:Option Addr} {bn bc n:Nat} {l:List aH} {ats:List Nat} {p:Nat} {lv rv:Value} (h:BR w base q bA bn bc n l ats p lv rv) (hc:ag S w w') (h1:∀b,base≤b→b<w.heap.size→¬S b) (hq:base≤q):BR w' base q bA bn bc n l ats p lv rv:=
 ⟨h.blk.chg hc (h1 q hq h.blk.lt),h.lst,(h.key.lt.chg hc (fun b hb=>h1 b hb.1.1 hb.2)).weak (fun b hb=>hb.1),aF h.own hc (fun g hg=>h1 g (ah h.own g hg).1 (ah h.own g hg).2),h.ne⟩
theorem Kl (F:Nat→Prop) (A:Option Addr) (n c:Nat) (b:List UInt8) (w:World) (h:Rd w F 1 A n (aK b)) (hn:n=b.length) (hn2:n≤1152921504606) (he:(aj b 0).2.2=0) (h1:1≤(aj b 0).1) (h64:(aj b 0).1≤64):
  Calls prog 137 #[.slice A n c] w fun e w'=>∃q,e= .returned (.pointer (some ⟨q,0,none⟩))∧w.heap.size≤q∧BR w' w.heap.size q A n c (aj b 0).1 [] [] (aj b 0).2.1 (.slice none 0 0) (.slice none 0 0)∧Below w.heap.size w w':=by
 have HV:=aa (jU F A n c 0 b w h hn (Nat.zero_le _) hn2);obtain⟨x,hx⟩:∃x,x=(aj b 0).1:=⟨_,rfl⟩;obtain⟨p,hp⟩:∃p,p=(aj b 0).2.1:=⟨_,rfl⟩;rw [←hx,←hp,he] at HV;rw [←hx] at h1 h64⊢;rw [←hp];obtain⟨R,hR⟩:∃R:Ending→World→Prop,R=fun e w'=>∃q,e= .returned (.pointer (some ⟨q,0,none⟩))∧w.heap.size≤q∧BR w' w.heap.size q A n c x [] [] p (.slice none 0 0) (.slice none 0 0)∧Below w.heap.size w w':=⟨_,rfl⟩;have HR:=aa hR;rw [←hR];have h0:((x:Int)==0)=false:=by rw [beq_eq_false_iff_ne];omega
 have h0':¬((x:Int)=0):=by omega
 have h2':¬((64:Int)<(x:Int)):=by omega
 clear hR hx hp h hn he;go_enter func137,ntmps137
 go_wp2_with (go_at_call 160;go_loud (refine HV.mono ?_);rintro e w2 ⟨rfl,hC2⟩;have bI:=aa hC2;clear hC2)
 rw [HR.out];refine⟨_,rfl,bI.size,⟨ai.new _ _ _,fun _=>rfl,SB.nil _ _,by rw [oM];exact World.ownsRow_nil _ _ _ _,by simp [Value.ownBlock]⟩,bI.alloc bI.size _⟩
theorem Gh (F:Nat→Prop) (A:Option Addr) (n c:Nat) (b:List UInt8) (w:World) (h:Rd w F 1 A n (aK b)) (hn:n=b.length) (hn2:n≤1152921504606) (he:(aj b 0).2.2≠0):
  Calls prog 137 #[.slice A n c] w fun e w'=>e= .panicked (eO (aj b 0).2.2 (aj b 0).2.1)∧Below w.heap.size w w':=by
 have HV:=aa (jU F A n c 0 b w h hn (Nat.zero_le _) hn2);obtain⟨x,hx⟩:∃x,x=(aj b 0).1:=⟨_,rfl⟩;obtain⟨p,hp⟩:∃p,p=(aj b 0).2.1:=⟨_,rfl⟩;obtain⟨er,jf⟩:∃er,er=(aj b 0).2.2:=⟨_,rfl⟩;rw [←hx,←hp,←jf] at HV;rw [←jf] at he⊢;rw [←hp];obtain⟨R,hR⟩:∃R:Ending→World→Prop,R=fun e w'=>e= .panicked (eO er p)∧Below w.heap.size w w':=⟨_,rfl⟩;have HR:=aa hR;rw [←hR];have h0:(er==0)=false:=by rw [beq_eq_false_iff_ne];exact he
 clear hR hx hp jf h hn;go_enter func137,ntmps137
 go_wp2_with (go_at_call 160;go_loud (refine HV.mono ?_);rintro e w2 ⟨rfl,hC2⟩;have bI:=aa hC2;clear hC2)
 refine⟨rfl,?_⟩;rw [HR.out];exact⟨rfl,bI⟩
theorem De (F:Nat→Prop) (A:Option Addr) (n c:Nat) (b:List UInt8) (w:World) (h:Rd w F 1 A n (aK b)) (hn:n=b.length) (hn2:n≤1152921504606) (he:(aj b 0).2.2=0) (h1:(aj b 0).1=0):
  Calls prog 137 #[.slice A n c] w fun e w'=>e= .panicked (eO 61 0)∧Below w.heap.size w w':=by
 have HV:=aa (jU F A n c 0 b w h hn (Nat.zero_le _) hn2);obtain⟨x,hx⟩:∃x,x=(aj b 0).1:=⟨_,rfl⟩;obtain⟨p,hp⟩:∃p,p=(aj b 0).2.1:=⟨_,rfl⟩;rw [←hx,←hp,he] at HV;rw [←hx] at h1;obtain⟨R,hR⟩:∃R:Ending→World→Prop,R=fun e w'=>e= .panicked (eO 61 0)∧Below w.heap.size w w':=⟨_,rfl⟩;have HR:=aa hR;rw [←hR]
 (subst h1)
 clear hR hx hp h hn he;go_enter func137,ntmps137
 go_wp2_with (go_at_call 160;go_loud (refine HV.mono ?_);rintro e w2 ⟨rfl,hC2⟩;have bI:=aa hC2;clear hC2)
 refine⟨rfl,?_⟩;rw [HR.out];exact⟨rfl,bI⟩
theorem Df (F:Nat→Prop) (A:Option Addr) (n c:Nat) (b:List UInt8) (w:World) (h:Rd w F 1 A n (aK b)) (hn:n=b.length) (hn2:n≤1152921504606) (he:(aj b 0).2.2=0) (h1:64<(aj b 0).1):
  Calls prog 137 #[.slice A n c] w fun e w'=>e= .panicked (eO 61 0)∧Below w.heap.size w w':=by
 have HV:=aa (jU F A n c 0 b w h hn (Nat.zero_le _) hn2);obtain⟨x,hx⟩:∃x,x=(aj b 0).1:=⟨_,rfl⟩;obtain⟨p,hp⟩:∃p,p=(aj b 0).2.1:=⟨_,rfl⟩;rw [←hx,←hp,he] at HV;rw [←hx] at h1;obtain⟨R,hR⟩:∃R:Ending→World→Prop,R=fun e w'=>e= .panicked (eO 61 0)∧Below w.heap.size w w':=⟨_,rfl⟩;have HR:=aa hR;rw [←hR]
 (have h0:((x:Int)==0)=false:=(by rw [beq_eq_false_iff_ne];omega);have h0':¬((x:Int)=0):=(by omega);have h2':(64:Int)<(x:Int):=(by omega))
 clear hR hx hp h hn he;go_enter func137,ntmps137
 go_wp2_with (go_at_call 160;go_loud (refine HV.mono ?_);rintro e w2 ⟨rfl,hC2⟩;have bI:=aa hC2;clear hC2)
 refine⟨rfl,?_⟩;rw [HR.out];exact⟨rfl,bI⟩
end
end Go.Proofs.YtbjgeidjmhialaaGreatDoor
