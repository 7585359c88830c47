/- Part 19. -/
import Derived.Test.YtbjgeidjmhialaaGreatDoorLa18
import Derived.Defers
import Derived.Recover
namespace Go.Proofs.YtbjgeidjmhialaaGreatDoor
set_option maxRecDepth 100000
set_option maxHeartbeats 8000000
section
open Go.Proofs.Tryz
open Go.RowKit
open Go.Lib (compareBytes)
theorem Kj {b:List UInt8} {B:NU} (h0:(aj b 0).2.2=0) (h1:1≤(aj b 0).1) (h2:(aj b 0).1≤64) (hB:bM b (aj b 0).1 [] [] (aj b 0).2.1=B):
  aB b=if B.err≠0 then([],B.err,B.place) else if stand b ((eighth B.ats).flatMap two) B.at_<((eighth B.ats).flatMap two).length then([],62,B.at_+stand b ((eighth B.ats).flatMap two) B.at_) else if B.at_+((eighth B.ats).flatMap two).length<b.length then([],63,B.at_+((eighth B.ats).flatMap two).length) else(B.ents,0,0):=by
 unfold aB;rw [if_neg (fun h=>h h0),if_neg (by omega),hB]
theorem Kk (b:List UInt8) (m:Nat) (l:List aH) (ats:List Nat) (p:Nat):bM b (m+1) l ats p=if(pread (aQ l) b p).err≠0 then⟨l,ats,p,(pread (aQ l) b p).err,(pread (aQ l) b p).next⟩
  else if 0<l.length∧0≤compareBytes (aD l) (pread (aQ l) b p).key then⟨l,ats,p,51,p⟩
  else bM b m (l++ [((pread (aQ l) b p).key,(pread (aQ l) b p).val)]) (ats++ [p]) (pread (aQ l) b p).next:=rfl
theorem uy (b:List UInt8):∀(ws:List UInt8) (p:Nat),stand b ws p≤ws.length
 | [],_=>Nat.le_refl _
 |c::r,p=>by
  unfold stand;have:=uy b r (p+1);split<;>simp<;>omega
structure uz (gl:Nat) (b:List UInt8) (w:World) (e:Ending) (w':World):Prop where
 chg:ag (fun g=>g=gl) w w'
 bad:(aB b).2.1≠0→e= .panicked (eO (aB b).2.1 (aB b).2.2)
 ok:(aB b).2.1=0→e= .returned (.tuple #[])∧∃A n c,ai w' gl 37 #[.slice A n c]∧n≤c∧c≤maxLen∧bO w' (From w.heap.size) A n (aB b).1
structure Lp (gl q:Nat) (bA:Option Addr) (bn bc x p0:Nat) (b:List UInt8) (w0:World) (l:List aH) (ats:List Nat) (p:Nat) (lv rv out:Value) (us:List Value) (w:World):Prop where
 br:BR w w0.heap.size q bA bn bc x l ats p lv rv
 er:C9 w w0.heap.size q rv out us l
 lva:SB w (fun g=>w0.heap.size≤g∧rv.ownBlock≠some g∧g≠q∧out.ownBlock≠some g) lv (aD l)
 box:ai w gl 37 #[out]
 chg:ag (fun g=>g=gl) w0 w
 rise:bu l
 alen:ats.length=l.length
 ple:p≤bn
 llx:l.length≤x
 eq:bM b x [] [] p0=bM b (x-l.length) l ats p
 aple:∀a∈ats,a≤bn
theorem yl (F:Nat→Prop) (gb gl:Nat) (bA:Option Addr) (bn bc:Nat) (b:List UInt8) (w:World) (hB:ai w gb 24 #[.slice bA bn bc]) (h:Rd w F 1 bA bn (aK b)) (hn:bn=b.length) (hn2:bn≤1152921504606) (ec:Int) (ep:Nat) (he:aB b=([],ec,ep)) (hne:ec≠0)
  (hb:Calls prog 137 #[.slice bA bn bc] w fun e w'=>e= .panicked (eO ec ep)∧Below w.heap.size w w'):
  Calls prog 136 #[.pointer (some ⟨gb,0,none⟩),.pointer (some ⟨gl,0,none⟩)] w (uz gl b w):=by
 refine letter fun R HR=> ?_;have HB:=aa hb;have HE:=aa he;have z0:w.cell? ⟨gb,0,none⟩=some (.slice bA bn bc):=hB.cell 0;clear hB h hn hb he;go_enter func136,ntmps136
 go_wp2_with (go_at_call 137;go_loud (refine HB.mono ?_);rintro e w2 ⟨rfl,hC2⟩;have bI:=aa hC2;clear hC2)
 refine⟨rfl,?_⟩;rw [HR.out]
 refine⟨ag.of_below bI,fun _=> ?_,fun h=> ?_⟩
 ·rw [HE.out]
 ·rw [HE.out] at h;exact absurd h hne
theorem Rh (F:Nat→Prop) (gb gl:Nat) (bA:Option Addr) (bn bc:Nat) (b:List UInt8) (w:World) (hB:ai w gb 24 #[.slice bA bn bc]) (hL:ai w gl 37 #[.slice none 0 0]) (h:Rd w F 1 bA bn (aK b)) (hn:bn=b.length) (hbc:bn≤bc) (hn2:bn≤1152921504606) (hF:∀g,F g→g<w.heap.size∧g≠gl)
  (h0:(aj b 0).2.2=0) (h1:1≤(aj b 0).1) (h2:(aj b 0).1≤64):
  Calls prog 136 #[.pointer (some ⟨gb,0,none⟩),.pointer (some ⟨gl,0,none⟩)] w (uz gl b w):=by
 refine letter fun R HR=> ?_;have HBG:=aa (Kl F bA bn bc b w h hn hn2 h0 h1 h2);have Km:=aa (fun(B:NU) (hB:bM b (aj b 0).1 [] [] (aj b 0).2.1=B)=>Kj h0 h1 h2 hB);have HV:=aa (fV b 0 (Nat.zero_le _)).2;obtain⟨x,hx⟩:∃x,x=(aj b 0).1:=⟨_,rfl⟩;obtain⟨p0,hp0⟩:∃p0,p0=(aj b 0).2.1:=⟨_,rfl⟩;rw [←hx,←hp0] at HBG Km;rw [←hp0] at HV;rw [←hx] at h1 h2;have HH:=aa h;have HN:=aa hn;have HF:=aa hF;have HL:=aa hL;have z0:w.cell? ⟨gb,0,none⟩=some (.slice bA bn bc):=hB.cell 0;have hgl:=hL.lt;clear hB hL h hn hF h0 hx hp0;go_enter func136,ntmps136
 go_wp2_with (go_at_call 137;go_loud (refine HBG.mono ?_);rintro e w1 ⟨q,rfl,hq,hbr,hb1⟩;have HQ:=aa hq;have uB:=aa hbr;have HB1:=aa hb1;clear hq hbr hb1)
 clear z0
 go_loopg [] x (fun g' wz=>∃(l:List aH) (ats:List Nat) (p:Nat) (lv rv out:Value) (us:List Value),g'=x-l.length∧Lp gl q bA bn bc x p0 b w l ats p lv rv out us wz)
 case atStart=>exact⟨[],[],p0,.slice none 0 0,.slice none 0 0,.slice none 0 0,[],rfl,uB,C9.nil _ _ _ _,SB.nil _ _,HL.below HB1,ag.of_below HB1,lX,rfl,by have h1:=HV.out;have h2:=HN.out;omega,Nat.zero_le _,rfl,fun a ha=>by simp at ha⟩
 case round=>
  obtain⟨l,ats,p,lv,rv,out,us,hg,hm⟩:=hrel;have HG:=aa hg;have HM:=aa hm;have Yq:=hm.llx;obtain⟨ln,hln⟩:∃ln,ln=l.length:=⟨_,rfl⟩;have jv:=aa hln;rw [←hln] at Yq;have y2:wr.cell? ⟨q,2,none⟩=some (.int .i64 ln):=(hm.br.blk.cell 2).trans (by rw [hln];rfl);have y1:wr.cell? ⟨q,1,none⟩=some (.int .i64 x):=hm.br.blk.cell 1;clear hg hm hln;go_upto_region 1 with fail
  go_quiet (fail);obtain⟨W,hW⟩:∃W,W=wr.drewN nq:=⟨_,rfl⟩;rw [←hW];have NV:Hid (ag Nil wr W):=aa (by rw [hW];exact(ag.refl Nil wr).drewN _);have HWZ:Hid (W.heap.size=wr.heap.size):=aa (by rw [hW];rfl);clear y1 y2 hW;have Da:Hid (BR W w.heap.size q bA bn bc x l ats p lv rv):=aa (HM.br.chg NV (fun _ _ _ h=>h) HQ);have ek:Hid (Rd W F 1 bA bn (aK b)):=aa ((HH.chg HM.chg (fun g hg e=>(HF g hg).2 e)).chg NV (fun _ _ h=>h))
  by_cases hlt:ln<x
  ·obtain⟨r,hr⟩:∃r,r=pread (aQ l) b p:=⟨_,rfl⟩;have HRR:=aa hr;have zm:Hid (∀k,Calls prog 138 #[.pointer (some ⟨q,0,none⟩)] (W.drewN k) (fun e w'=>∃k,rZ w.heap.size q bA bn bc x b l ats p rv (W.drewN k) e w')):=aa (fun k=>(Gf F w.heap.size q bA bn bc x b l ats p lv rv (W.drewN k) (Da.chg ((ag.refl Nil W).drewN k) (fun _ _ _ h=>h) HQ) (ek.chg ((ag.refl Nil W).drewN k) (fun _ _ h=>h)) HN hbc (fun g hg=>(HF g hg).1) HQ HM.rise HM.alen (by have:=jv.out;omega) HM.ple hn2).mono (fun e w' h=>⟨k,h⟩))
   have E7:Hid (bM b x [] [] p0=if r.err≠0 then⟨l,ats,p,r.err,r.next⟩ else if 0<l.length∧0≤compareBytes (aD l) r.key then⟨l,ats,p,51,p⟩ else bM b (x-(l.length+1)) (l++ [(r.key,r.val)]) (ats++ [p]) r.next):=aa (by
    rw [HM.out.eq,show x-l.length=(x-(l.length+1))+1 by have:=jv.out;omega,Kk,hr])
   clear hr;obtain⟨oA,oc,hov,_,_⟩:=ay HM.er.own;have iC:Hid (ai W gl 37 #[out]):=aa (HM.box.chg NV (fun h=>h));have Yr:q<W.heap.size:=Da.out.blk.lt;have Kn:Hid (w.heap.size≤W.heap.size):=aa (by have h1:=HM.out.chg.size;have h2:=HWZ.out;omega);have oL:Hid (ag (fun g=>g=gl) w W):=aa (HM.chg.trans NV (fun _ _ h=>h.elim))
   have PAN:Hid (∀(ec:Int) (ep:Nat) (w':World),(∃k,rZ w.heap.size q bA bn bc x b l ats p rv (W.drewN k) (.panicked (eO ec ep)) w')→aB b=([],ec,ep)→ec≠0→uz gl b w (.panicked (eO ec ep)) w'):=aa (fun ec ep w' h he hne=>by
    obtain⟨k,h⟩:=h;refine⟨(oL.drewN k).trans (h.chg.mono (T:=fun g=>g=gl∨w.heap.size≤g) (fun g _ e=> ?_)) (fun g hg e=>by rcases e with e|e;exact e;omega),fun _=>by rw [he],fun h=>by rw [he] at h;exact absurd h hne⟩
    rcases e with e|e
    ·exact .inr (by have:=HQ.out;omega)
    ·exact .inr (ah Da.own g e).1)
   by_cases e0:r.err=0
   ·by_cases c0:0<l.length∧0≤compareBytes (aD l) r.key
    ·have Db:Hid (aB b=([],51,p)):=aa (by rw [Km.out ⟨l,ats,p,51,p⟩ (by rw [E7.out,if_neg (fun h=>h e0),if_pos c0]),if_pos (by simp)]);have uf:=aa c0;have pI:=aa e0;clear c0 e0;go_upto_region 2 with fail
     refine E6 gb gl q out (fun e w'=>∃k,rZ w.heap.size q bA bn bc x b l ats p rv (W.drewN k) e w') (eO 51 p) W _ (aa (fun _ _ _ _ h=>h)) iC zm (aa (fun e w' h=>by obtain⟨k,h⟩:=h;exact h.ord (by rw [←HRR.out];exact pI) (by rw [←HRR.out];exact uf))) ?_;intro t w' h;refine⟨rfl,?_⟩;rw [HR.out]
     exact PAN.out 51 p w' h Db (by decide)
    ·have uf:=aa c0;have pI:=aa e0;have Yt:Hid (bM b x [] [] p0=bM b (x-(l.length+1)) (l++ [(r.key,r.val)]) (ats++ [p]) r.next):=aa (by rw [E7.out,if_neg (fun h=>h e0),if_neg c0]);have hpo:=lY (prev:=aQ l) (b:=b) (p:=p) (by have h1:=HM.out.ple;have h2:=HN.out;omega) (by rw [←HRR.out];exact e0);rw [←HRR.out] at hpo;have Qc:=aa hpo;clear c0 e0 hpo;subst hov;go_upto_region 2 with fail
     refine Re gb gl q w.heap.size l.length oc oA us (fun e w'=>∃k,rZ w.heap.size q bA bn bc x b l ats p rv (W.drewN k) e w') (fun K kn kc V vn vc w'=>∃ym rv',BR w' w.heap.size q bA bn bc x (l++ [(r.key,r.val)]) (ats++ [p]) r.next ym rv'∧SB w' (fun g=>W.heap.size≤g∧rv'.ownBlock≠some g) ym r.key∧SB w' (fun g=>W.heap.size≤g∧rv'.ownBlock≠some g) (.slice K kn kc) r.key∧SB w' (fun g=>W.heap.size≤g∧rv'.ownBlock≠some g) (.slice V vn vc) r.val∧(∀g,rv'.ownBlock=some g→rv.ownBlock=some g∨W.heap.size≤g)∧ag (fun g=>g=q∨rv.ownBlock=some g) W w') W _ (aa (fun _ _ _ _ h=>h)) iC zm (aa (fun e w' h=> ?_)) (aa (fun K kn kc V vn vc w' h=> ?_)) (by have:=jv.out;omega) ?_
     ·obtain⟨k,h⟩:=h;obtain⟨K,kn,kc,V,vn,vc,ym,rv',he,h3,h4,h5,h6,h7⟩:=h.ok (by rw [←HRR.out];exact pI) (by rw [←HRR.out];exact uf);rw [←HRR.out] at h3 h4 h5 h6
      exact⟨K,kn,kc,V,vn,vc,he,ym,rv',h3,h4,h5,h6,h7,((ag.refl (fun g=>g=q∨rv.ownBlock=some g) W).drewN k).trans h.chg (fun _ _ h=>h)⟩
     ·obtain⟨ym,rv',h3,h4,h5,h6,h7,h8⟩:=h;have e2:=(HM.out.er.chg NV (fun _ _ _ h=>h)).step h8 h7;refine⟨e2.own,iC.chg h8 (fun e=> ?_),by have h1:=h8.size;have h2:=Kn.out;omega,fun e=>by have:=(ah HM.er.own gl e).1;omega⟩
      rcases e with e|e
      ·have:=HQ.out;omega
      ·have:=(ah Da.own gl e).1;omega
     ·intro v14 v15 v16 v17 v18 K kn kc V vn vc xx w2 wa w3 hX lG hown hgr hat;obtain⟨ym,rv',h3,h4,h5,h6,h7,h8⟩:=hX;have e2:=(HM.out.er.chg NV (fun _ _ _ h=>h)).step h8 h7;have ea:=e2.chg (ag.of_below (S:=Nil) lG) (fun _ _ _ h=>h);have UG:=h3.chg (ag.of_below (S:=Nil) lG) (fun _ _ _ h=>h) HQ;have hol:∀g,(Value.slice oA l.length oc).ownBlock=some g→g<W.heap.size:=fun g hg=>by have h1:=(ah HM.er.own g hg).2;have h2:=HWZ.out;omega
      have hset:∀g,(W.heap.size≤g∧rv'.ownBlock≠some g)→(w.heap.size≤g∧g≠q∧rv'.ownBlock≠some g∧(Value.slice oA l.length oc).ownBlock≠some g):=fun g hg=>⟨by have:=Kn.out;omega,by omega,hg.2,fun e=>by have:=hol g e;omega⟩;have e3:=ea.push (e:=(r.key,r.val)) (by have h1:=h8.size;have h2:=lG.size;omega) (fun g hg=>(ah UG.own g hg).2) hown hgr hat ((h5.below lG).weak hset) ((h6.below lG).weak hset);have hs4:ag (fun g=>g=gl) w3 (w3.setCell ⟨gl,0,none⟩ xx):=(ag.refl (fun g=>g=gl) w3).setCell (p:=⟨gl,0,none⟩) (fun _=>rfl) _;have e4:=e3.chg hs4 (fun g hg _ e=>by have e:g=gl:=e;omega)
      have hlv:SB w3 (fun g=>W.heap.size≤g∧rv'.ownBlock≠some g∧xx.ownBlock≠some g) ym r.key:=by
       refine(h4.lt.below lG).next3 (ag.of_grown hgr) (fun g _ hg e=>by have h1:=hol g e;have h2:=hg.1.1;omega) (fun g hl hg=>⟨hg.1.1,hg.1.2,fun e=> ?_⟩)
       rcases hat with h|h
       ·rw [h] at e;have h1:=hol g e;have h2:=hg.1.1;omega
       ·rw [h] at e;injection e with e;omega
      have Ri:=hlv.chg hs4 (fun g hg e=>by have e:g=gl:=e;have h1:=hg.1;have h2:=Kn.out;omega);have hbq:ai w3 q 265 _:=UG.blk.chg (ag.of_grown hgr) (fun e=>(e2.ne q e).1 rfl)
      have UH:ag (fun g=>g=gl) w w3:=by
       refine((oL.out.trans (h8.mono (T:=fun g=>w.heap.size≤g) (fun g _ e=> ?_)) (fun g hg e=>by omega)).then lG).trans ((ag.of_grown hgr).mono (T:=fun g=>w.heap.size≤g) (fun g _ e=>(ah HM.er.own g e).1)) (fun g hg e=>by omega)
       rcases e with e|e
       ·have:=HQ.out;omega
       ·exact(ah Da.own g e).1
      have zF:ai (w3.setCell ⟨gl,0,none⟩ xx) gl 37 #[xx]:=by
       have h1:ai w2 gl 37 #[.slice oA l.length oc]:=iC.out.chg h8 (fun e=>by
        rcases e with e|e
        ·have:=HQ.out;omega
        ·have:=(ah Da.own gl e).1;omega)
       exact((h1.below lG).chg (ag.of_grown hgr) (fun e=>by have:=(ah HM.er.own gl e).1;omega)).set_ 0 xx
      have REL:Hid (Lp gl q bA bn bc x p0 b w (l++ [(r.key,r.val)]) (ats++ [p]) r.next ym rv' xx (us++ [.slice K kn kc,.slice V vn vc]) (w3.setCell ⟨gl,0,none⟩ xx)):=aa (by
       refine⟨⟨hbq.chg hs4 (fun e=>by have e:q=gl:=e;have:=HQ.out;omega),fun h=>by simp at h,?_,?_,h3.ne⟩,e4,?_,zF,UH.trans hs4 (fun _ _ h=>h),?_,by simp [HM.out.alen],?_,by simp;have:=jv.out;omega,?_,?_⟩
       ·rw [gG]
        exact Ri.weak (fun g hg=>⟨by have:=Kn.out;omega,hg.2.1,by have:=hg.1;omega⟩)
       ·exact aF (aF UG.own (ag.of_grown hgr) (fun g hg e=>(e2.ne g e).2 hg)) hs4 (fun g hg e=>by have e:g=gl:=e;have:=(ah UG.own g hg).1;omega)
       ·rw [gG]
        exact Ri.weak (fun g hg=>⟨by have:=Kn.out;omega,hg.2.1,by have:=hg.1;omega,hg.2.2⟩)
       ·refine uC HM.rise (mJ Qc.k1 Qc.k2 Qc.v) (fun h0=> ?_)
        rcases Int.lt_or_le (compareBytes (aD l) r.key) 0 with h|h
        ·exact h
        ·exact absurd ⟨h0,h⟩ uf
       ·have h1:=Qc.out.next;have h2:=HN.out;omega
       ·rw [Yt.out];simp
       ·intro a ha
        rcases List.mem_append.1 ha with ha|ha
        ·exact HM.aple a ha
        ·rw [List.mem_singleton] at ha;rw [ha];exact HM.ple)
      clear h3 h4 h5 h6 h7 h8 e2 ea UG hol hset e3 hs4 e4 hlv Ri hbq UH zF lG hown hgr hat;go_wp2
      go_roundg (x-(l.length+1))
      case measure=>have h1:=HG.out;have h2:=jv.out;omega
      case rel=>exact⟨_,_,_,_,_,_,_,by simp,REL.out⟩
   ·have Db:Hid (aB b=([],r.err,r.next)):=aa (by rw [Km.out ⟨l,ats,p,r.err,r.next⟩ (by rw [E7.out,if_pos e0]),if_pos e0]);have pI:=aa e0;clear e0;go_upto_region 2 with fail
    refine E6 gb gl q out (fun e w'=>∃k,rZ w.heap.size q bA bn bc x b l ats p rv (W.drewN k) e w') (eO r.err r.next) W _ (aa (fun _ _ _ _ h=>h)) iC zm (aa (fun e w' h=>by obtain⟨k,h⟩:=h;rw [HRR.out];exact h.bad (by rw [←HRR.out];exact pI))) ?_;intro t w' h;refine⟨rfl,?_⟩;rw [HR.out]
    exact PAN.out _ _ w' h Db pI
  ·have hle:ln=x:=by omega
   have iC:Hid (ai W gl 37 #[out]):=aa (HM.box.chg NV (fun h=>h));have oL:Hid (ag (fun g=>g=gl) w W):=aa (HM.chg.trans NV (fun _ _ h=>h.elim));have E7:Hid (bM b x [] [] p0=⟨l,ats,p,0,0⟩):=aa (by rw [HM.out.eq,show x-l.length=0 by have:=jv.out;omega];rfl);obtain⟨ws,hws⟩:∃ws,ws=(eighth ats).flatMap two:=⟨_,rfl⟩;have Db:Hid (aB b=if stand b ws p<ws.length then([],62,p+stand b ws p) else if p+ws.length<b.length then([],63,p+ws.length) else(l,0,0)):=aa (by rw [Km.out _ E7.out,if_neg (fun h=>h rfl),hws]);have Gg:=aa (Ko F w.heap.size q bA bn bc x b l ats p lv rv W Da ek HN (fun g hg=>(HF g hg).1) HQ HM.ple hn2 (by have h1:=kJ ats _ (Nat.le_refl _);have h2:=HM.out.alen;have h3:=jv.out;omega) (fun a ha=>by have:=HM.out.aple a ha;omega));rw [←hws] at Gg;have Yu:Hid (∀e w',UI q b ws p W e w'→ag (fun g=>g=gl) w w'):=aa (fun e w' h=>oL.out.trans (h.chg.mono (T:=fun g=>w.heap.size≤g) (fun g _ e=>by have e:g=q:=e;have:=HQ.out;omega)) (fun g hg e=>by omega));have HSL:=aa (uy b ws p);clear hws
   by_cases c1:stand b ws p<ws.length
   ·have HB3:Hid (aB b=([],62,p+stand b ws p)):=aa (by rw [Db.out,if_pos c1]);have ib:=aa c1;clear c1;go_wp2_with (go_at_call 139;go_loud (refine Gg.mono ?_);intro e w2 hE;obtain rfl:=hE.bad ib;have uD:=aa (Yu.out _ w2 hE);clear hE)
    refine⟨rfl,?_⟩;rw [HR.out]
    exact⟨uD,fun _=>by rw [HB3.out],fun h=>by rw [HB3.out] at h;exact absurd h (by simp)⟩
   ·have Qb:Hid (stand b ws p=ws.length):=aa (by have:=HSL.out;omega)
    by_cases c2:p+ws.length<b.length
    ·have HB3:Hid (aB b=([],63,p+ws.length)):=aa (by rw [Db.out,if_neg c1,if_pos c2]);have bI:=aa c2;clear c1 c2;go_wp2_with (go_at_call 139;go_loud (refine Gg.mono ?_);intro e w2 hE;obtain rfl:=hE.rest Qb bI;have uD:=aa (Yu.out _ w2 hE);clear hE)
     refine⟨rfl,?_⟩;rw [HR.out]
     exact⟨uD,fun _=>by rw [HB3.out],fun h=>by rw [HB3.out] at h;exact absurd h (by simp)⟩
    ·have HB3:Hid (aB b=(l,0,0)):=aa (by rw [Db.out,if_neg c1,if_neg c2]);have bI:=aa c2;clear c1 c2;go_wp2_with (go_at_call 139;go_loud (refine Gg.mono ?_);intro e w2 hE;obtain rfl:=hE.ok Qb bI;have uD:=aa (Yu.out _ w2 hE);have HCQ:=aa hE.chg;clear hE)
     go_end0
     rw [HR.out];refine⟨uD,fun h=>by rw [HB3.out] at h;exact absurd rfl h,fun _=>⟨rfl,?_⟩⟩;have e2:=(HM.out.er.chg NV (fun _ _ _ h=>h)).step (rv':=rv) (HCQ.mono (fun g _ e=> .inl e)) (fun g hg=> .inl hg);obtain⟨oA,oc,hov,h1,h2⟩:=ay e2.own;subst hov;refine⟨oA,l.length,oc,iC.chg HCQ (fun e=>by have e:gl=q:=e;have:=HQ.out;omega),h1,h2,?_⟩;rw [HB3.out];exact e2.ents rfl
end
section
open Go.Proofs.Tryz
open Go.RowKit
theorem yn (v:Value) (w:World):(Instr.typeAssert (.iface 260 v) 20 260 false).run prog w= .ok v w:=by kernel_rfl
theorem sQ (q:Nat) (x y e:Int) (p:Nat) (w:World) (h:ai w q 260 #[.int .i64 x,.int .i64 y]):
  CallsD prog 159 #[.pointer (some ⟨q,0,none⟩)] (.panicking (eO e p)) w fun en u' w'=>
   en= .returned (.tuple #[])∧u'= .panicking [{v:= .iface 260 (.agg #[.int .i64 e,.int .i64 p]),recovered:=true}]∧w'=(w.setCell ⟨q,0,none⟩ (.int .i64 e)).setCell ⟨q,1,none⟩ (.int .i64 p):=by
 have z0:w.cell? ⟨q,0,none⟩=some (.int .i64 x):=h.cell 0;have z1:w.cell? ⟨q,1,none⟩=some (.int .i64 y):=h.cell 1;have Nn:=h.frozen 0;have Kt:=h.frozen 1;have hta:=yn;obtain⟨R,hR⟩:∃R:Ending→FrameMode→World→Prop,R=fun en u' w'=>en= .returned (.tuple #[])∧u'= .panicking [{v:= .iface 260 (.agg #[.int .i64 e,.int .i64 p]),recovered:=true}]∧w'=(w.setCell ⟨q,0,none⟩ (.int .i64 e)).setCell ⟨q,1,none⟩ (.int .i64 p):=⟨_,rfl⟩;have HR:=aa hR;rw [←hR];clear hR h;refine callsD_of_wpS func159 rfl fun c₀ cs hu=> ?_;apply wpS_seq;apply wpS_region;simp [wpOpsS,go_sem,recoverD,hu,eO,ntmps159,Exit.thenS];refine wpS_of_wp ?_;simp only [Array.replicate_succ,Array.replicate_zero,List.push_toArray,List.nil_append,List.append_toArray,List.cons_append,List.setIfInBounds_toArray,List.set_cons_zero,List.set_cons_succ];clear hu;go_wp2;refine⟨rfl,_,rfl,.tuple #[],by simp [results,results159],?_⟩;rw [HR.out];exact⟨rfl,rfl,rfl⟩
theorem Di (q:Nat) (w:World):
  CallsD prog 159 #[.pointer (some ⟨q,0,none⟩)] .returning w fun en u' w'=>en= .returned (.tuple #[])∧u'= .returning∧w'=w:=by
 obtain⟨R,hR⟩:∃R:Ending→FrameMode→World→Prop,R=fun en u' w'=>en= .returned (.tuple #[])∧u'= .returning∧w'=w:=⟨_,rfl⟩;have HR:=aa hR;rw [←hR];clear hR;refine callsD_of_wpS func159 rfl fun c₀ cs hu=> ?_;apply wpS_seq;apply wpS_region;simp [wpOpsS,go_sem,recoverD,hu,ntmps159,Exit.thenS];refine wpS_of_wp ?_;simp only [Array.replicate_succ,Array.replicate_zero,List.push_toArray,List.nil_append,List.append_toArray,List.cons_append,List.setIfInBounds_toArray,List.set_cons_zero,List.set_cons_succ];have HU:=aa hu;clear hu;go_wp2
 refine⟨rfl,.returning,?_,.tuple #[],by simp [results,results159],?_⟩
 ·have:=HU.out;cases c₀;simp_all
 ·rw [HR.out];exact⟨rfl,rfl,rfl⟩
theorem si {b:List UInt8} (h:(aB b).2.1=0):(aB b).2.2=0:=by
 unfold aB at h⊢
 split at h
 ·rename_i h1;exact absurd h h1
 ·rename_i h1;rw [if_neg h1]
  split at h
  ·simp at h
  ·rename_i h2;rw [if_neg h2]
   split at h
   ·rename_i h3;exact absurd h h3
   ·rename_i h3;rw [if_neg h3]
    split at h
    ·simp at h
    ·rename_i h4;rw [if_neg h4]
     split at h
     ·simp at h
     ·rename_i h5;rw [if_neg h5]
structure Dj (gl:Nat) (b:List UInt8) (w:World) (e:Ending) (w':World):Prop where
 ret:e= .returned (.agg #[.int .i64 (aB b).2.1,.int .i64 ((aB b).2.2:Nat)])
 chg:ag (fun g=>g=gl) w w'
 ok:(aB b).2.1=0→∃A n c,ai w' gl 37 #[.slice A n c]∧n≤c∧c≤maxLen∧bO w' (From w.heap.size) A n (aB b).1
theorem Gm (gb gl:Nat) (b:List UInt8) (w:World) (hgl:gl<w.heap.size) (hc:∀w',Below w.heap.size w w'→Calls prog 136 #[.pointer (some ⟨gb,0,none⟩),.pointer (some ⟨gl,0,none⟩)] w' (uz gl b w')) (he:(aB b).2.1≠0):
  Calls prog 135 #[.func (.func 136) #[] #[.pointer (some ⟨gb,0,none⟩),.pointer (some ⟨gl,0,none⟩)]] w (Dj gl b w):=by
 refine letter fun R HR=> ?_;obtain⟨q,hq⟩:∃q,q=w.heap.size:=⟨_,rfl⟩;obtain⟨w1,hw1⟩:∃W,W=w.alloc (.cells #[.int .i64 0,.int .i64 0] 260):=⟨_,rfl⟩;have HB1:Hid (Below w.heap.size w w1):=aa (by rw [hw1];exact(Below.refl _ _).alloc (Nat.le_refl _) _);have lL:Hid (ai w1 q 260 #[.int .i64 0,.int .i64 0]):=aa (by rw [hw1,hq];exact ai.new _ _ _);have HC:=aa (hc w1 HB1);have HQ:=aa hq;have HE:=aa he;have Qe:∀(fn:Fn) (first cap:Array Value) (w:World),(Instr.makeFunc fn first cap).run prog w= .ok (.func fn first cap) w:=fun _ _ _ _=>rfl;clear hc he;go_enter_defers func135,ntmps135
 go_upto_region 2 with fail
 rw [←hw1];simp only [←hq];clear hw1 hq;go_wp2_with (go_at_call 136;go_loud (refine HC.mono ?_);intro e w2 hE;obtain rfl:=hE.bad HE;have uD:=aa hE.chg;clear hE)
 have hk2:ai w2 q 260 #[.int .i64 0,.int .i64 0]:=lL.out.chg uD (fun e=>by have e:q=gl:=e;have:=HQ.out;omega);refine leaves_cons (f:=159) (args:= #[.pointer (some ⟨q,0,none⟩)]) (by simp) (by simp [go_sem]) ?_;refine(sQ q 0 0 (aB b).2.1 (aB b).2.2 _ hk2).mono ?_;rintro e u' w'' ⟨rfl,rfl,rfl⟩;have hk3:=(hk2.set_ 0 (.int .i64 (aB b).2.1)).set_ 1 (.int .i64 ((aB b).2.2:Nat));have v0:((w2.setCell ⟨q,0,none⟩ (.int .i64 (aB b).2.1)).setCell ⟨q,1,none⟩ (.int .i64 ((aB b).2.2:Nat))).cell? ⟨q,0,none⟩=some (.int .i64 (aB b).2.1):=hk3.cell 0;have v1:((w2.setCell ⟨q,0,none⟩ (.int .i64 (aB b).2.1)).setCell ⟨q,1,none⟩ (.int .i64 ((aB b).2.2:Nat))).cell? ⟨q,1,none⟩=some (.int .i64 ((aB b).2.2:Nat)):=hk3.cell 1;have hch:ag (fun g=>g=gl) w ((w2.setCell ⟨q,0,none⟩ (.int .i64 (aB b).2.1)).setCell ⟨q,1,none⟩ (.int .i64 ((aB b).2.2:Nat))):=(((ag.of_below HB1).trans uD (fun _ _ h=>h)).setCell (p:=⟨q,0,none⟩) (fun h=>absurd h (by have:=HQ.out;simp only [];omega)) _).setCell (p:=⟨q,1,none⟩) (fun h=>absurd h (by have:=HQ.out;simp only [];omega)) _
 have hfin:R (.returned (.agg #[.int .i64 (aB b).2.1,.int .i64 ((aB b).2.2:Nat)])) ((w2.setCell ⟨q,0,none⟩ (.int .i64 (aB b).2.1)).setCell ⟨q,1,none⟩ (.int .i64 ((aB b).2.2:Nat))):=by
  rw [HR.out];exact⟨rfl,hch,fun h=>absurd h HE⟩
 obtain⟨W3,hW3⟩:∃W,W=((w2.setCell ⟨q,0,none⟩ (.int .i64 (aB b).2.1)).setCell ⟨q,1,none⟩ (.int .i64 ((aB b).2.2:Nat))):=⟨_,rfl⟩;rw [←hW3] at v0 v1 hfin⊢;simp [Leaves,settle,results,results135,go_sem,v0,v1,hfin]
theorem Ku (gb gl:Nat) (b:List UInt8) (w:World) (hgl:gl<w.heap.size) (hc:∀w',Below w.heap.size w w'→Calls prog 136 #[.pointer (some ⟨gb,0,none⟩),.pointer (some ⟨gl,0,none⟩)] w' (uz gl b w')) (he:(aB b).2.1=0):
  Calls prog 135 #[.func (.func 136) #[] #[.pointer (some ⟨gb,0,none⟩),.pointer (some ⟨gl,0,none⟩)]] w (Dj gl b w):=by
 refine letter fun R HR=> ?_;obtain⟨q,hq⟩:∃q,q=w.heap.size:=⟨_,rfl⟩;obtain⟨w1,hw1⟩:∃W,W=w.alloc (.cells #[.int .i64 0,.int .i64 0] 260):=⟨_,rfl⟩;have HB1:Hid (Below w.heap.size w w1):=aa (by rw [hw1];exact(Below.refl _ _).alloc (Nat.le_refl _) _);have lL:Hid (ai w1 q 260 #[.int .i64 0,.int .i64 0]):=aa (by rw [hw1,hq];exact ai.new _ _ _);have HC:=aa (hc w1 HB1);have HQ:=aa hq;have HE:=aa he;have Qe:∀(fn:Fn) (first cap:Array Value) (w:World),(Instr.makeFunc fn first cap).run prog w= .ok (.func fn first cap) w:=fun _ _ _ _=>rfl;clear hc he;go_enter_defers func135,ntmps135
 go_upto_region 2 with fail
 rw [←hw1];simp only [←hq];clear hw1 hq;have wE:Hid ((aB b).2.2=0):=aa (si HE);go_wp2_with (go_at_call 136;go_loud (refine HC.mono ?_);intro e w2 hE;obtain⟨rfl,hx⟩:=hE.ok HE;have HX:=aa hx;have uD:=aa hE.chg;clear hE hx)
 have hk2:ai w2 q 260 #[.int .i64 0,.int .i64 0]:=lL.out.chg uD (fun e=>by have e:q=gl:=e;have:=HQ.out;omega);refine leaves_cons (f:=159) (args:= #[.pointer (some ⟨q,0,none⟩)]) (by simp) (by simp [go_sem]) ?_;refine(Di q _).mono ?_;rintro e u' w'' ⟨rfl,rfl,rfl⟩;have v0:w''.cell? ⟨q,0,none⟩=some (.int .i64 0):=hk2.cell 0;have v1:w''.cell? ⟨q,1,none⟩=some (.int .i64 0):=hk2.cell 1
 have hfin:R (.returned (.agg #[.int .i64 0,.int .i64 0])) w'':=by
  rw [HR.out];refine⟨by rw [HE.out,wE.out];rfl,(ag.of_below HB1).trans uD (fun _ _ h=>h),fun _=> ?_⟩;obtain⟨A,n,c,h1,h2,h3,h4⟩:=HX.out;exact⟨A,n,c,h1,h2,h3,h4.weak (fun g hg=>by have h5:w1.heap.size≤g:=hg;have h6:=HB1.out.size;show w.heap.size≤g;omega)⟩
 simp [Leaves,settle,results,results135,go_sem,v0,v1,hfin]
theorem Gj (gb gl:Nat) (b:List UInt8) (w:World) (hgl:gl<w.heap.size) (hc:∀w',Below w.heap.size w w'→Calls prog 136 #[.pointer (some ⟨gb,0,none⟩),.pointer (some ⟨gl,0,none⟩)] w' (uz gl b w')):
  Calls prog 135 #[.func (.func 136) #[] #[.pointer (some ⟨gb,0,none⟩),.pointer (some ⟨gl,0,none⟩)]] w (Dj gl b w):=by
 by_cases he:(aB b).2.1=0
 ·exact Ku gb gl b w hgl hc he
 ·exact Gm gb gl b w hgl hc he
end
section
open Go.Proofs.Tryz
open Go.RowKit
theorem below_drewN {B:Nat} {w w':World} (h:Below B w w') (n:Nat):Below B w (w'.drewN n):=⟨h.os,h.tape,h.output,h.size,h.block⟩
def Rk (b:List UInt8) (w:World) (e:Ending) (w':World):Prop:=
 ∃A n c,e= .returned (.tuple #[.slice A n c,.int .i64 (aB b).2.1,.int .i64 ((aB b).2.2:Nat)])∧n≤c∧c≤maxLen∧bO w' (From w.heap.size) A n (aB b).1∧Below w.heap.size w w'
theorem Rl (F:Nat→Prop) (gb gl:Nat) (bA:Option Addr) (bn bc:Nat) (b:List UInt8) (w:World) (hB:ai w gb 24 #[.slice bA bn bc]) (hL:ai w gl 37 #[.slice none 0 0]) (h:Rd w F 1 bA bn (aK b)) (hn:bn=b.length) (hbc:bn≤bc) (hn2:bn≤1152921504606) (hF:∀g,F g→g<w.heap.size∧g≠gl):
  Calls prog 136 #[.pointer (some ⟨gb,0,none⟩),.pointer (some ⟨gl,0,none⟩)] w (uz gl b w):=by
 by_cases h0:(aj b 0).2.2=0
 ·by_cases h1:(aj b 0).1=0
  ·exact yl F gb gl bA bn bc b w hB h hn hn2 61 0 (by unfold aB;rw [if_neg (fun h=>h h0),if_pos (.inl h1)]) (by decide) (De F bA bn bc b w h hn hn2 h0 h1)
  ·by_cases h2:64<(aj b 0).1
   ·exact yl F gb gl bA bn bc b w hB h hn hn2 61 0 (by unfold aB;rw [if_neg (fun h=>h h0),if_pos (.inr h2)]) (by decide) (Df F bA bn bc b w h hn hn2 h0 h2)
   ·exact Rh F gb gl bA bn bc b w hB hL h hn hbc hn2 hF h0 (by omega) (by omega)
 ·exact yl F gb gl bA bn bc b w hB h hn hn2 _ _ (by unfold aB;rw [if_pos h0]) h0 (Gh F bA bn bc b w h hn hn2 h0)
theorem Gi (F:Nat→Prop) (bA:Option Addr) (bn bc:Nat) (b:List UInt8) (w:World) (h:Rd w F 1 bA bn (aK b)) (hn:bn=b.length) (hbc:bn≤bc) (hn2:bn≤1152921504606) (hF:∀g,F g→g<w.heap.size):
  Calls prog 105 #[.slice bA bn bc] w (Rk b w):=by
 refine letter fun R HR=> ?_;obtain⟨gb,hgb⟩:∃gb,gb=w.heap.size:=⟨_,rfl⟩;obtain⟨w1,hw1⟩:∃W,W=(w.alloc (.cells #[.slice bA bn bc] 24)).alloc (.cells #[.slice none 0 0] 37):=⟨_,rfl⟩;have HB1:Hid (Below w.heap.size w w1):=aa (by rw [hw1];exact((Below.refl _ _).alloc (Nat.le_refl _) _).alloc (by simp) _);have UT:Hid (ai w1 gb 24 #[.slice bA bn bc]):=aa (by rw [hw1,hgb];exact(ai.new _ _ _).alloc _);have Dh:Hid (ai w1 (gb+1) 37 #[.slice none 0 0]):=aa (by rw [hw1,hgb];have:=ai.new (w.alloc (.cells #[.slice bA bn bc] 24)) 37 #[.slice none 0 0];rwa [World.size_alloc] at this);have UQ:=aa hgb;have HT:=aa (Gj gb (gb+1) b w1 Dh.lt (fun w' hb=>Rl F gb (gb+1) bA bn bc b w' (UT.below hb) (Dh.below hb) ((h.below HB1).below hb) hn hbc hn2 (fun g hg=>⟨by have h1:=hF g hg;have h2:=HB1.out.size;have h3:=hb.size;omega,by have h1:=hF g hg;omega⟩)));have Qe:∀(fn:Fn) (first cap:Array Value) (w:World),(Instr.makeFunc fn first cap).run prog w= .ok (.func fn first cap) w:=fun _ _ _ _=>rfl;obtain⟨er,jf⟩:∃er,er=(aB b).2.1:=⟨_,rfl⟩;obtain⟨pl,hpl⟩:∃pl,pl=(aB b).2.2:=⟨_,rfl⟩;have jR:=aa jf;have wE:=aa hpl;clear h hn hF jf hpl;go_enter func105,ntmps105
 go_upto_region 2 with fail
 rw [←hw1];simp only [←hgb];clear hw1 hgb;go_upto_region 3 with(go_at_call 135;go_loud (refine HT.mono ?_);intro e w2 hE;obtain rfl:=hE.ret;rw [←jR.out,←wE.out];have HC:=aa hE.chg;have HO:=aa hE.ok;clear hE)
 obtain⟨q6,TW⟩:∃q6,q6=w2.heap.size:=⟨_,rfl⟩;obtain⟨w3,hw3⟩:∃W,W=w2.alloc (.cells #[.int .i64 er,.int .i64 pl] 260):=⟨_,rfl⟩;rw [←hw3,←TW];have HB3:Hid (Below w2.heap.size w2 w3):=aa (by rw [hw3];exact(Below.refl _ _).alloc (Nat.le_refl _) _);have jw:Hid (ai w3 q6 260 #[.int .i64 er,.int .i64 pl]):=aa (by rw [hw3,TW];exact ai.new _ _ _);have hch:Below w.heap.size w w2:=HB1.out.trans (HC.below_of HB1.size (fun g hg e=>by have e:g=gb+1:=e;have:=UQ.out;omega));have oL:Hid (Below w.heap.size w w3):=aa (hch.trans (HB3.mono hch.size));have y0:w3.cell? ⟨q6,0,none⟩=some (.int .i64 er):=jw.out.cell 0;have y1:w3.cell? ⟨q6,1,none⟩=some (.int .i64 pl):=jw.out.cell 1;clear hw3 TW hch
 by_cases e0:er=0
 ·have pI:Hid ((aB b).2.1=0):=aa (by rw [←jR.out];exact e0);obtain⟨A,n,c,h1,h2,h3,h4⟩:=HO.out pI;have HP0:Hid ((aB b).2.2=0):=aa (si pI);have z5:w3.cell? ⟨gb+1,0,none⟩=some (.slice A n c):=(h1.below HB3).cell 0;have H4:=aa (And.intro h2 (And.intro h3 (h4.below HB3)));clear h1 h2 h3 h4;subst e0;go_wp2;go_ret3
  rw [HR.out]
  refine⟨A,n,c,by rw [pI.out,HP0.out];rfl,H4.1,H4.2.1,H4.2.2.weak (fun g hg=>by have h5:w1.heap.size≤g:=hg;have h6:=HB1.out.size;show w.heap.size≤g;omega),oL⟩
 ·have YG:(er==0)=false:=by rw [beq_eq_false_iff_ne];exact e0
  have pI:Hid ((aB b).2.1≠0):=aa (by rw [←jR.out];exact e0);go_wp2;go_quiet (fail);go_wp2;go_ret3
  rw [HR.out];refine⟨none,0,0,by rw [←jR.out,←wE.out];rfl,Nat.le_refl _,by simp [maxLen],by rw [Gl pI.out];exact bO.nil _ _ _,below_drewN oL _⟩
end
section
open Go.Proofs.Tryz
open Go.RowKit
def OE (l:List Nat):List Value:=l.map fun(x:Nat)=> .int .u64 (x:Int)
theorem GM (F:Nat→Prop) (base:Nat) (A:Option Addr) (n c:Nat) (l:List Nat) (w:World) (h:Rd w F 1 A n (OE l)) (hF:∀b,F b→b<base) (hb:base≤w.heap.size) (hl:∀x∈l,x<18446744073709551616) (hn:n≤1000):
  Calls prog 154 #[.slice A n c] w (AX w base (l.flatMap aG)):=by
 have HR:=aa h;have HL:=aa hl;have HF:=aa hF;have HB:=aa hb;have HN:Hid (n=l.length):=aa (by have:=h.1;simp [OE] at this;omega);clear h hl hF hb;refine letter fun R HRR=> ?_;go_enter func154,ntmps154
 go_wp2
 go_loopg [8,3] n (fun g' iv RN wz=>∃i:Nat,g'=n-i∧i≤n∧iv= .int .i64 i∧Ow wz base RN ((l.take i).flatMap aG)∧ag (From base) w wz∧((l.take i).flatMap aG).length≤10*i)
 case atStart=>exact⟨0,by omega,by omega,rfl,Ow.nil _ _,ag.refl _ _,by simp⟩
 case round=>
  obtain⟨i,hg,hi,rfl,how,hc,hlen⟩:=hrel;have HG:=aa hg;have HO:=aa how;have HC:=aa hc;have jv:=aa hlen;clear hg how hc hlen
  by_cases hlt:i<n
  ·have hlt':(i:Int)<(n:Int):=by omega
   obtain⟨b,o,u,rfl,_,hx,hcell⟩:=(HR.out.chg HC (fun b hb e=>by have:=HF.out b hb;have e:base≤b:=e;omega)).at_ hlt
   obtain⟨x,hx2,rfl⟩:∃x:Nat,l[i]? =some x∧u= .int .u64 (x:Int):=by
    simp only [OE,List.getElem?_map,Option.map_eq_some_iff] at hx;obtain⟨x,a,e⟩:=hx;exact⟨x,a,e.symm⟩
   have HX:=aa hx2;have ah4:=HL.out x (List.mem_of_getElem? hx2);clear hx hx2;go_wp2_with (go_at_call 170;go_loud (refine(Cv base x u3 ((l.take i).flatMap aG) wr HO (by have:=jv.out;omega) ah4 (Nat.le_trans HB HC.size)).mono ?_);rintro e w2 ⟨v2,rfl,ho2,hc2⟩;have iV:=aa ho2;have bI:=aa hc2;clear ho2 hc2)
   go_roundg (n-(i+1))
   case measure=>have:=HG.out;omega
   case rel=>
    have h1:=kQ x 9 (by omega);have h2:=jv.out;have e:(l.take (i+1)).flatMap aG=(l.take i).flatMap aG++aG x:=by rw [List.take_add_one,HX.out,List.flatMap_append];simp
    exact⟨i+1,rfl,by omega,by go_num,by rw [e];exact iV,HC.out.trans bI (fun _ _ h=>h),by rw [e,List.length_append];omega⟩
  ·have hin:i=n:=by omega
   subst hin;go_wp2;rw [HRR.out];have h1:=HO.out;rw [List.take_of_length_le (by have:=HN.out;omega)] at h1;exact⟨_,rfl,h1,HC⟩
end
end Go.Proofs.YtbjgeidjmhialaaGreatDoor
