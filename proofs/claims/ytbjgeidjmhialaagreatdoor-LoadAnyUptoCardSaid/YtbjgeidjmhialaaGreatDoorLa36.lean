/- Part 36. -/
import Derived.Test.YtbjgeidjmhialaaGreatDoorLa35
namespace Go.Proofs.YtbjgeidjmhialaaGreatDoor
set_option maxRecDepth 100000
set_option maxHeartbeats 8000000
section
open Go.Proofs.Tryz
open Go.RowKit Go.Maps
open Go.Lib (compareBytes)
theorem pR (F:Nat→Prop) (p:Nat) (nodes root:Int) (sl:List bB) (id:Int) (x:Nd) (w:World) (h:gm w F p nodes sl root) (h1:1≤id) (hn:sl.length≤65536) (hs:∃s,sl[id.toNat-1]? =some s∧s.2=x∧Small s.2):
  Calls prog 33 #[.pointer (some ⟨p,0,none⟩),.int .i64 id] w (Fg w x):=by
 obtain⟨s,hs,rfl,hsm⟩:=hs;exact Oe F p nodes root sl id s w h h1 (by have:=(List.getElem?_eq_some_iff.1 hs).1;omega) hn hs hsm
theorem jX {w:World} {b n:Nat} {f:Int→Int} {k:Int} (h:bF w b n f) (h1: -9223372036854775808≤k) (h2:k≤9223372036854775807) (h0:f k=0):(Instr.lookup 107 (.map (some b)) (.int .i64 k) false).run prog w= .ok (.int .i64 0) w:=by
 have:=h.look h1 h2;rw [h0] at this;exact this
def iw (d:Nat) (X:Nat→Nd) (j:Nat):Lk:=((d:Int)+(j:Int)+1,bQ (fun i=>(X i).high) j,X j)
theorem pU (d i:Nat) (f0:Int→Int):(fun j=>if j=(d:Int)+(i:Int)+1 then(1:Int) else(if(d:Int)+1≤j∧j≤(d:Int)+(i:Int) then 1 else f0 j))=fun k=>if(d:Int)+1≤k∧k≤(d:Int)+((i+1:Nat):Int) then 1 else f0 k:=by
 funext j
 by_cases h1:j=(d:Int)+(i:Int)+1
 ·rw [if_pos h1,if_pos (by omega)]
 ·rw [if_neg h1]
  by_cases h2:(d:Int)+1≤j∧j≤(d:Int)+(i:Int)
  ·rw [if_pos h2,if_pos (by omega)]
  ·rw [if_neg h2,if_neg (by omega)]
structure U1 (sl:List bB) (nd lf:Int) (inn:Nat) (lev d M:Nat) (X:Nat→Nd):Prop where
 at_:∀j,j<M→∃s,sl[d+j]? =some s∧s.2=X j∧Small s.2
 fine:∀j,j<M→Fine nd lf inn (X j)
 lev:∀j,j<M→(X j).lev=(lev:Int)
 right:∀j,j<M→(X j).right=if j+1<M then(d:Int)+(j:Int)+1+1 else 0
 low:∀j,j<M→KL (bQ (fun i=>(X i).high) j) (X j)
theorem Gt (F:Nat→Prop) (p mb cnt:Nat) (nodes root:Int) (sl:List bB) (nd lf fl bl:Int) (inn lev d M:Nat) (X:Nat→Nd) (f0:Int→Int) (w:World) (hx:gm w F p nodes sl root) (hn:sl.length≤65536) (hF:¬F mb) (hc':aY nd lf inn fl bl)
  (hlv:U1 sl nd lf inn lev d M X) (hM:1≤M) (ai6:lev≤32) (hm:bF w mb cnt f0) (hcnt:cnt≤1000000) (hf0:∀j,j<M→f0 ((d:Int)+(j:Int)+1)=0):
  Calls prog 54 #[.pointer (some ⟨p,0,none⟩),.agg #[.int .i64 nd,.int .i64 lf,.int .i64 inn,.int .i64 fl,.int .i64 bl],.int .i64 ((d:Int)+1),.int .i64 lev,.map (some mb)] w fun e w'=>∃A c,e= .returned (.slice A M c)∧M≤c∧c≤maxLen∧sD w' (From w.heap.size) A M ((List.range M).map (iw d X))∧
   bF w' mb (cnt+M) (fun k=>if(d:Int)+1≤k∧k≤(d:Int)+(M:Int) then 1 else f0 k)∧ag (jK mb) w w':=by
 have HX:=aa hx;have jr:=aa hlv;have HC:=aa hc';have JU:=aa hf0;have tK:=aa hn;have YJ:Hid (∀b,F b→¬jK mb b):=aa (fun b hb e=>hF ((show b=mb from e)▸hb))
 have hdM:d+M≤65536:=by
  obtain⟨s,hs,_⟩:=hlv.at_ (M-1) (by omega);have:=(List.getElem?_eq_some_iff.1 hs).1;omega
 have hbx:Below w.heap.size w (w.alloc (.cells #[.int .i64 nd,.int .i64 lf,.int .i64 inn,.int .i64 fl,.int .i64 bl] 23)):=(Below.refl _ _).alloc (Nat.le_refl _) _;have Rq:Hid (ai (w.alloc (.cells #[.int .i64 nd,.int .i64 lf,.int .i64 inn,.int .i64 fl,.int .i64 bl] 23)) w.heap.size 23 #[.int .i64 nd,.int .i64 lf,.int .i64 inn,.int .i64 fl,.int .i64 bl]):=aa (ai.new w _ _);have iC:=aa hbx;have Qg:=aa (hm.below hbx);have hmb:=hm.lt;clear hx hlv hc' hf0 hm hbx hn;go_enter func54,ntmps54
 go_wp2;go_step3
 go_wp2;go_step3
 go_wp2
 go_loopg [11,12,13] M (fun g' out low id wr=>∃(i:Nat) (lA:Option Addr) (ln lc:Nat) (us:List Value),g'=M-i∧i<M∧id= .int .i64 ((d:Int)+(i:Int)+1)∧low= .slice lA ln lc∧Bt wr (fun b=>w.heap.size+1≤b∧out.ownBlock≠some b) lA ln lc (bQ (fun i=>(X i).high) i)∧Ch wr (w.heap.size+1) out i us (iw d X)∧
  bF wr mb (cnt+i) (fun k=>if(d:Int)+1≤k∧k≤(d:Int)+(i:Int) then 1 else f0 k)∧ai wr w.heap.size 23 #[.int .i64 nd,.int .i64 lf,.int .i64 inn,.int .i64 fl,.int .i64 bl]∧ag (jK mb) w wr)
 case atStart=>
  have e:(fun k=>if(d:Int)+1≤k∧k≤(d:Int)+((0:Nat):Int) then(1:Int) else f0 k)=f0:=by funext k;rw [if_neg (by omega)]
  refine⟨0,none,0,0,[],by omega,by omega,by simp,rfl,Bt.nil _ _,Ch.nil _ _ _,?_,Rq,ag.of_below iC⟩
  rw [e];exact Qg
 case round=>
  obtain⟨i,lA,ln,lc,us,hg,hi,rfl,rfl,hlow,hch,hm,hkc,hcg⟩:=hrel;have HG:=aa hg;have Rs:=aa hlow;have oL:=aa hch;have HM:=aa hm;have Og:=aa hkc;have Xv:=aa hcg;have hws:w.heap.size+1≤wr.heap.size:=hkc.lt
  rename World=>wr
  clear hg hlow hch hm hkc hcg Qg Rq iC;have hid:((d:Int)+(i:Int)+1).toNat-1=d+i:=by omega
  obtain⟨x,jY⟩:∃Y,Y=X i:=⟨_,rfl⟩;have HAT:Hid (∃s,sl[d+i]? =some s∧s.2=x∧Small s.2):=aa (by rw [jY];exact jr.at_ i hi);have Oh:Hid (Fine nd lf inn x):=aa (by rw [jY];exact jr.fine i hi);have Fa:Hid (x.right=if i+1<M then(d:Int)+(i:Int)+1+1 else 0):=aa (by rw [jY];exact jr.right i hi);have YK:Hid (KL (bQ (fun i=>(X i).high) i) x):=aa (by rw [jY];exact jr.low i hi);have U2:Hid (iw d X i=((d:Int)+(i:Int)+1,bQ (fun i=>(X i).high) i,x)):=aa (by rw [jY];rfl);have Rf:=aa jY;have e7:(x.lev==(lev:Int))=true:=by rw [jY,jr.out.lev i hi];simp
  clear jY
  by_cases hl0:ln=0
  ·have hp0:¬(0:Int)<(ln:Int):=by omega
   clear hl0;go_upto_region 13 with(first|(go_at_call 33;go_loud (refine(pR F p nodes root sl ((d:Int)+(i:Int)+1) x wr (HX.chg Xv YJ) (by omega) tK (by rw [hid];exact HAT)).mono ?_);rintro e w1 ⟨hA,hn',hc,kA,kn,kc,vA,vn,vc,dA,dn,dc,rfl,hv1,hb1⟩;have hz1:=hb1.size;have hb2:Below wr.heap.size wr (w1.alloc (.cells #[.int .i64 x.lev,.slice hA hn' hc,.int .i64 x.right,.slice kA kn kc,.slice vA vn vc,.slice dA dn dc] 104)):=hb1.alloc hz1 _;have HB2:=aa hb2;have CE:Hid (ni (w1.alloc (.cells #[.int .i64 x.lev,.slice hA hn' hc,.int .i64 x.right,.slice kA kn kc,.slice vA vn vc,.slice dA dn dc] 104)) (From wr.heap.size) x hA kA vA dA hn' hc kn kc vn vc dn dc):=aa (hv1.below ((Below.refl _ _).alloc (Nat.le_refl _) _));have iH:Hid (ai (w1.alloc (.cells #[.int .i64 x.lev,.slice hA hn' hc,.int .i64 x.right,.slice kA kn kc,.slice vA vn vc,.slice dA dn dc] 104)) w1.heap.size 104 #[.int .i64 x.lev,.slice hA hn' hc,.int .i64 x.right,.slice kA kn kc,.slice vA vn vc,.slice dA dn dc]):=aa (ai.new _ _ _);have hl2:(Instr.lookup 107 (.map (some mb)) (.int .i64 ((d:Int)+(i:Int)+1)) false).run prog (w1.alloc (.cells #[.int .i64 x.lev,.slice hA hn' hc,.int .i64 x.right,.slice kA kn kc,.slice vA vn vc,.slice dA dn dc] 104))= .ok (.int .i64 0) (w1.alloc (.cells #[.int .i64 x.lev,.slice hA hn' hc,.int .i64 x.right,.slice kA kn kc,.slice vA vn vc,.slice dA dn dc] 104)):=jX (HM.below hb2) (by omega) (by omega) (by rw [if_neg (by omega)];exact JU i hi);obtain⟨y0,y1,y2,y3,y4⟩:=fK (Og.below hb2);obtain⟨z0,z1,z2,z3,z4,z5⟩:=ed iH;clear hv1 hb1 hb2)|(go_at_call 52;refine(eH _ _ _).mono ?_;rintro e w' ⟨rfl,rfl⟩)|(go_at_call 77;go_loud (refine(uI (From wr.heap.size) x hA kA vA dA hn' hc kn kc vn vc dn dc nd lf fl bl inn _ CE Oh HC).mono ?_);rintro e w3 ⟨rfl,hb3⟩;have HB3:=aa hb3;clear hb3 y0 y1 y2 y3 y4 z0 z1 z2 z3 z4 z5 hl2))
   obtain⟨q,hqq⟩:∃Y,Y=w1.heap.size:=⟨_,rfl⟩;rw [←hqq];have ek:Hid (Below wr.heap.size wr w3):=aa (HB2.out.trans (HB3.mono (by simp;omega)));have jw:Hid (ai w3 q 104 #[.int .i64 x.lev,.slice hA hn' hc,.int .i64 x.right,.slice kA kn kc,.slice vA vn vc,.slice dA dn dc]):=aa (by rw [hqq];exact iH.below HB3);have hrow:∀b,wr.heap.size≤b→u11.ownBlock≠some b:=fun b hb e=>by have:=(ah oL.own b e).2;omega
   have U6:Hid (ni w3 (fun b=>w.heap.size+1≤b∧u11.ownBlock≠some b) x hA kA vA dA hn' hc kn kc vn vc dn dc):=aa ((CE.below HB3).weak (fun b hb=>⟨Nat.le_trans hws hb,hrow b hb⟩));have U7:=aa (Rs.below ek);have Rt:=aa (oL.below ek);have Nq:=aa (HM.below ek);have xw:=aa (Og.below ek);have JI:=aa (Xv.then ek);have hq:w.heap.size+1≤q:=by omega
   have hqo:u11.ownBlock≠some q:=hrow q (by omega);have hz3:=ek.out.size;clear HB2 CE iH HB3 hqq hrow hz1;go_upto_region 13 with fail
   refine KM mb (cnt+i) ((d:Int)+(i:Int)+1) _ w3 _ Nq (by rw [if_neg (by omega)];exact JU i hi) (by omega) (by omega) (by omega) ?_;intro v83 v84 v85 v86 w4 Nr hc4;have mM:=aa Nr;have lH:=aa (jw.chg hc4 (fun h=>by have h:q=mb:=h;omega));have KN:=aa ((U6.chg hc4 (fun b hb h=>by have h:b=mb:=h;have:=hb.1;omega)));have Ru:=aa ((U7.chg hc4 (fun b hb h=>by have h:b=mb:=h;have:=hb.1;omega)));have Rv:=aa (Rt.chg hc4 (fun b hb h=>by have h:b=mb:=h;omega));have YL:=aa (xw.chg hc4 (fun h=>by have h:w.heap.size=mb:=h;omega));have F4:=aa (JI.out.trans hc4 (fun _ _ h=>h));have hz4:w3.heap.size≤w4.heap.size:=hc4.size;clear Nr hc4;go_upto_region 14 with fail
   refine KO (w.heap.size+1) i q ((d:Int)+(i:Int)+1) _ x u11 us (iw d X) lA hA kA vA dA ln lc hn' hc kn kc vn vc dn dc w4 _ lH KN Ru Rv U2 (by omega) (by omega) hq hqo ?_;intro kL v87 Fh v89 Fj v91 Fp v93 lh w5 yu hk5 U8 hb5;have Dp:=aa yu;have kw:=aa hk5;have YM:=aa U8;have je:ag (fun b=>w.heap.size+1≤b) w4 w5:=ag.of_below_ hb5 (fun b _ h=>h);have sU:=aa (mM.chg je (fun h=>by have h:w.heap.size+1≤mb:=h;omega));have Gu:=aa (F4.out.trans je (fun b hb h=>by have h:w.heap.size+1≤b:=h;omega));have YN:=aa (YL.chg je (fun h=>by have h:w.heap.size+1≤w.heap.size:=h;omega));have Rw:w4.heap.size≤w5.heap.size:=hb5.size;obtain⟨z0,z1,z2,z3,z4,z5⟩:=ed kw;clear yu hk5 U8 hb5 je
   by_cases hlast:i+1<M
   ·have hr:x.right=(d:Int)+(i:Int)+1+1:=by rw [Fa.out,if_pos hlast]
    have hr0:(x.right==0)=false:=by rw [hr];simp;omega
    have HR:=aa hr;clear hr;go_upto_region 16 with fail
    refine Fq q x hA hn' hc _ _ _ w5 _ (by exact aa (fun _ _ _ _ h=>h)) kw ?_;intro Ns Nt wJ wK wL wM;go_wp2
    go_roundg (M-(i+1))
    case measure=>have:=HG.out;omega
    case rel=>
     have hbd:Below w5.heap.size w5 w5.drew:=(Below.refl _ _).drew;have ef:(fun j=>if j=(d:Int)+(i:Int)+1 then(1:Int) else(if(d:Int)+1≤j∧j≤(d:Int)+(i:Int) then 1 else f0 j))=fun k=>if(d:Int)+1≤k∧k≤(d:Int)+((i+1:Nat):Int) then 1 else f0 k:=pU d i f0;have Jw:bF w5.drew mb (cnt+(i+1)) (fun j=>if j=(d:Int)+(i:Int)+1 then(1:Int) else(if(d:Int)+1≤j∧j≤(d:Int)+(i:Int) then 1 else f0 j)):=sU.out.below hbd;rw [ef] at Jw
     have YO:Bt w5.drew (fun b=>w.heap.size+1≤b∧kL.ownBlock≠some b) hA hn' hc (bQ (fun i=>(X i).high) (i+1)):=by
      have el:bQ (fun i=>(X i).high) (i+1)=x.high:=by rw [Rf.out];simp [bQ]
      rw [el];exact YM.below hbd
     exact⟨i+1,hA,hn',hc,lh,rfl,hlast,congrArg (Value.int .i64) (by rw [HR.out];omega),rfl,YO,Dp.below hbd,Jw,YN.below hbd,Gu.then hbd⟩
   ·have hr0:(x.right==0)=true:=by rw [Fa.out,if_neg hlast];rfl
    have hiM:M=i+1:=by omega
    obtain⟨A,c,rfl,a1,a2⟩:=ay Dp.own;go_wp2_with fail
    simp only [Exit.noGoto];go_ret
    have ef:(fun j=>if j=(d:Int)+(i:Int)+1 then(1:Int) else(if(d:Int)+1≤j∧j≤(d:Int)+(i:Int) then 1 else f0 j))=fun k=>if(d:Int)+1≤k∧k≤(d:Int)+((i+1:Nat):Int) then 1 else f0 k:=pU d i f0;have Jw:bF w5 mb (cnt+(i+1)) (fun j=>if j=(d:Int)+(i:Int)+1 then(1:Int) else(if(d:Int)+1≤j∧j≤(d:Int)+(i:Int) then 1 else f0 j)):=sU.out;rw [ef] at Jw;subst hiM
    exact⟨A,c,rfl,a1,a2,Dp.links.weak (fun b hb=>by simp only [From] at hb⊢;omega),Jw,Gu⟩
  ·have hp0:(0:Int)<(ln:Int):=by omega
   have hlo:bQ (fun i=>(X i).high) i≠ []:=fun e=>hl0 (by have:=Rs.out.len;rw [e] at this;exact this);have U9:=aa (YK hlo);clear hlo;go_upto_region 11 with(first|(go_at_call 33;go_loud (refine(pR F p nodes root sl ((d:Int)+(i:Int)+1) x wr (HX.chg Xv YJ) (by omega) tK (by rw [hid];exact HAT)).mono ?_);rintro e w1 ⟨hA,hn',hc,kA,kn,kc,vA,vn,vc,dA,dn,dc,rfl,hv1,hb1⟩;have hz1:=hb1.size;have hb2:Below wr.heap.size wr (w1.alloc (.cells #[.int .i64 x.lev,.slice hA hn' hc,.int .i64 x.right,.slice kA kn kc,.slice vA vn vc,.slice dA dn dc] 104)):=hb1.alloc hz1 _;have HB2:=aa hb2;have CE:Hid (ni (w1.alloc (.cells #[.int .i64 x.lev,.slice hA hn' hc,.int .i64 x.right,.slice kA kn kc,.slice vA vn vc,.slice dA dn dc] 104)) (From wr.heap.size) x hA kA vA dA hn' hc kn kc vn vc dn dc):=aa (hv1.below ((Below.refl _ _).alloc (Nat.le_refl _) _));have iH:Hid (ai (w1.alloc (.cells #[.int .i64 x.lev,.slice hA hn' hc,.int .i64 x.right,.slice kA kn kc,.slice vA vn vc,.slice dA dn dc] 104)) w1.heap.size 104 #[.int .i64 x.lev,.slice hA hn' hc,.int .i64 x.right,.slice kA kn kc,.slice vA vn vc,.slice dA dn dc]):=aa (ai.new _ _ _);have hl2:(Instr.lookup 107 (.map (some mb)) (.int .i64 ((d:Int)+(i:Int)+1)) false).run prog (w1.alloc (.cells #[.int .i64 x.lev,.slice hA hn' hc,.int .i64 x.right,.slice kA kn kc,.slice vA vn vc,.slice dA dn dc] 104))= .ok (.int .i64 0) (w1.alloc (.cells #[.int .i64 x.lev,.slice hA hn' hc,.int .i64 x.right,.slice kA kn kc,.slice vA vn vc,.slice dA dn dc] 104)):=jX (HM.below hb2) (by omega) (by omega) (by rw [if_neg (by omega)];exact JU i hi);obtain⟨y0,y1,y2,y3,y4⟩:=fK (Og.below hb2);obtain⟨z0,z1,z2,z3,z4,z5⟩:=ed iH;clear hv1 hb1 hb2)|(go_at_call 52;refine(eH _ _ _).mono ?_;rintro e w' ⟨rfl,rfl⟩)|(go_at_call 77;go_loud (refine(uI (From wr.heap.size) x hA kA vA dA hn' hc kn kc vn vc dn dc nd lf fl bl inn _ CE Oh HC).mono ?_);rintro e w3 ⟨rfl,hb3⟩;have HB3:=aa hb3;clear hb3 y0 y1 y2 y3 y4 z0 z1 z2 z3 z4 z5 hl2))
   obtain⟨q,hqq⟩:∃Y,Y=w1.heap.size:=⟨_,rfl⟩;rw [←hqq];have ek:Hid (Below wr.heap.size wr w3):=aa (HB2.out.trans (HB3.mono (by simp;omega)));have jw:Hid (ai w3 q 104 #[.int .i64 x.lev,.slice hA hn' hc,.int .i64 x.right,.slice kA kn kc,.slice vA vn vc,.slice dA dn dc]):=aa (by rw [hqq];exact iH.below HB3);have hrow:∀b,wr.heap.size≤b→u11.ownBlock≠some b:=fun b hb e=>by have:=(ah oL.own b e).2;omega
   have U6:Hid (ni w3 (fun b=>w.heap.size+1≤b∧u11.ownBlock≠some b) x hA kA vA dA hn' hc kn kc vn vc dn dc):=aa ((CE.below HB3).weak (fun b hb=>⟨Nat.le_trans hws hb,hrow b hb⟩));have U7:=aa (Rs.below ek);have Rt:=aa (oL.below ek);have Nq:=aa (HM.below ek);have xw:=aa (Og.below ek);have JI:=aa (Xv.then ek);have hq:w.heap.size+1≤q:=by omega
   have hqo:u11.ownBlock≠some q:=hrow q (by omega);have hz3:=ek.out.size;clear HB2 CE iH HB3 hqq hrow hz1;refine Rp _ q ((d:Int)+(i:Int)+1) _ x lA hA kA vA dA ln lc hn' hc kn kc vn vc dn dc w3 _ jw U6 U7 U9.1 ?_;intro v51 v52 v53 v54 v55 v56 v57 v58 v59 v60 v61 v62 v63 v64 v65 v66 v67;go_upto_region 12 with fail
   refine Od _ q ((d:Int)+(i:Int)+1) _ x lA hA kA vA dA ln lc hn' hc kn kc vn vc dn dc w3 _ jw U6 U7 U9.2 ?_;intro v68 v69 v70 v71 v72 v73 v74 v75 v76 v77 v78 v79 v80 v81 v82;go_upto_region 13 with fail
   refine KM mb (cnt+i) ((d:Int)+(i:Int)+1) _ w3 _ Nq (by rw [if_neg (by omega)];exact JU i hi) (by omega) (by omega) (by omega) ?_;intro v83 v84 v85 v86 w4 Nr hc4;have mM:=aa Nr;have lH:=aa (jw.chg hc4 (fun h=>by have h:q=mb:=h;omega));have KN:=aa ((U6.chg hc4 (fun b hb h=>by have h:b=mb:=h;have:=hb.1;omega)));have Ru:=aa ((U7.chg hc4 (fun b hb h=>by have h:b=mb:=h;have:=hb.1;omega)));have Rv:=aa (Rt.chg hc4 (fun b hb h=>by have h:b=mb:=h;omega));have YL:=aa (xw.chg hc4 (fun h=>by have h:w.heap.size=mb:=h;omega));have F4:=aa (JI.out.trans hc4 (fun _ _ h=>h));have hz4:w3.heap.size≤w4.heap.size:=hc4.size;clear Nr hc4;go_upto_region 14 with fail
   refine KO (w.heap.size+1) i q ((d:Int)+(i:Int)+1) _ x u11 us (iw d X) lA hA kA vA dA ln lc hn' hc kn kc vn vc dn dc w4 _ lH KN Ru Rv U2 (by omega) (by omega) hq hqo ?_;intro kL v87 Fh v89 Fj v91 Fp v93 lh w5 yu hk5 U8 hb5;have Dp:=aa yu;have kw:=aa hk5;have YM:=aa U8;have je:ag (fun b=>w.heap.size+1≤b) w4 w5:=ag.of_below_ hb5 (fun b _ h=>h);have sU:=aa (mM.chg je (fun h=>by have h:w.heap.size+1≤mb:=h;omega));have Gu:=aa (F4.out.trans je (fun b hb h=>by have h:w.heap.size+1≤b:=h;omega));have YN:=aa (YL.chg je (fun h=>by have h:w.heap.size+1≤w.heap.size:=h;omega));have Rw:w4.heap.size≤w5.heap.size:=hb5.size;obtain⟨z0,z1,z2,z3,z4,z5⟩:=ed kw;clear yu hk5 U8 hb5 je
   by_cases hlast:i+1<M
   ·have hr:x.right=(d:Int)+(i:Int)+1+1:=by rw [Fa.out,if_pos hlast]
    have hr0:(x.right==0)=false:=by rw [hr];simp;omega
    have HR:=aa hr;clear hr;go_upto_region 16 with fail
    refine Fq q x hA hn' hc _ _ _ w5 _ (by exact aa (fun _ _ _ _ h=>h)) kw ?_;intro Ns Nt wJ wK wL wM;go_wp2
    go_roundg (M-(i+1))
    case measure=>have:=HG.out;omega
    case rel=>
     have hbd:Below w5.heap.size w5 w5.drew:=(Below.refl _ _).drew;have ef:(fun j=>if j=(d:Int)+(i:Int)+1 then(1:Int) else(if(d:Int)+1≤j∧j≤(d:Int)+(i:Int) then 1 else f0 j))=fun k=>if(d:Int)+1≤k∧k≤(d:Int)+((i+1:Nat):Int) then 1 else f0 k:=pU d i f0;have Jw:bF w5.drew mb (cnt+(i+1)) (fun j=>if j=(d:Int)+(i:Int)+1 then(1:Int) else(if(d:Int)+1≤j∧j≤(d:Int)+(i:Int) then 1 else f0 j)):=sU.out.below hbd;rw [ef] at Jw
     have YO:Bt w5.drew (fun b=>w.heap.size+1≤b∧kL.ownBlock≠some b) hA hn' hc (bQ (fun i=>(X i).high) (i+1)):=by
      have el:bQ (fun i=>(X i).high) (i+1)=x.high:=by rw [Rf.out];simp [bQ]
      rw [el];exact YM.below hbd
     exact⟨i+1,hA,hn',hc,lh,rfl,hlast,congrArg (Value.int .i64) (by rw [HR.out];omega),rfl,YO,Dp.below hbd,Jw,YN.below hbd,Gu.then hbd⟩
   ·have hr0:(x.right==0)=true:=by rw [Fa.out,if_neg hlast];rfl
    have hiM:M=i+1:=by omega
    obtain⟨A,c,rfl,a1,a2⟩:=ay Dp.own;go_wp2_with fail
    simp only [Exit.noGoto];go_ret
    have ef:(fun j=>if j=(d:Int)+(i:Int)+1 then(1:Int) else(if(d:Int)+1≤j∧j≤(d:Int)+(i:Int) then 1 else f0 j))=fun k=>if(d:Int)+1≤k∧k≤(d:Int)+((i+1:Nat):Int) then 1 else f0 k:=pU d i f0;have Jw:bF w5 mb (cnt+(i+1)) (fun j=>if j=(d:Int)+(i:Int)+1 then(1:Int) else(if(d:Int)+1≤j∧j≤(d:Int)+(i:Int) then 1 else f0 j)):=sU.out;rw [ef] at Jw;subst hiM;exact⟨A,c,rfl,a1,a2,Dp.links.weak (fun b hb=>by simp only [From] at hb⊢;omega),Jw,Gu⟩
end
section
open Go.Proofs.Tryz
open Go.RowKit Go.Maps
open Go.Lib (compareBytes)
theorem sV (F G:Nat→Prop) (A B:Option Addr) (n c m d:Nat) (bs:List UInt8) (w:World) (h:Bt w F A n c bs) (k:Bt w G B m d bs):
  Calls prog 78 #[.slice A n c,.slice B m d] w fun e w'=>e= .returned (.bool true)∧w=w':=by
 have q1:=dR w F A n c bs h.2.2.2 h.len;have q2:=dR w G B m d bs k.2.2.2 k.len;clear h k;go_enter func78,ntmps78
 go_wp2;go_ret
 exact⟨rfl,rfl⟩
noncomputable def Vg:Code:=aP (f55.body.bind (aA 16))
theorem xy (D G:Nat→Prop) (A:Option Addr) (n c q j:Nat) (id:Int) (low:List UInt8) (l:List Lk) (k:Lk) (lA:Option Addr) (ln lc:Nat) (w:World) {u0 u2 u3 u4 u5 u6 u7 u10 u11 u13 bN bq u16 u17 bC bD u20 u21 u22 u23 u24 u25 u26 u27 u28 u29 u30 u31 u32 u33 u34 u35 u36 u37 u38 dh u40 bX u42 bY u44 u45 u46 di u48 u49 bV u51 u52 u53 bW u55 dz dB u58 u59 u60 dH dG u63 u64 dO u66 dU u68 u69 u70 dV u72 u73 dP u75:Value} (Q:Exit→Act→World→Prop) (nC:Hid (∀c t (a:Act) w,Q (.panic c) ⟨t,a.defers⟩ w→Q (.panic c) a w))
  (HL:Hid (sD w D A n l)) (hj:j<n) (hn:n≤1000000) (HK:Hid (l[j]? =some k)) (hlow:k.2.1=low) (HB:Hid (Bt w G lA ln lc low)) (hq:w.cell? ⟨q,0,none⟩=some (.int .i64 id))
  (au:∀(v58 v59 v60 v61 v62 v63 v64 v65 v66 v67 v68 v69 v70 v71 v72 v73:Value) (w':World),Below w.heap.size w w'→Q .normal ⟨(u0:: .slice A n c::u2::u3::u4::u5::u6::u7:: .pointer (some ⟨q,0,none⟩):: .slice lA ln lc::u10::u11:: .int .i64 ((j:Int)+1)::u13::bN::bq::u16::u17::bC::bD::u20::u21::u22::u23::u24::u25::u26::u27::u28::u29::u30::u31::u32::u33::u34::u35::u36::u37::u38::dh::u40::bX::u42::bY::u44::u45::u46::di::u48::u49::bV::u51::u52::u53::bW::u55::dz::dB::v58::v59::v60::v61::v62::v63::v64::v65::v66::v67::v68::v69::v70::v71::v72::v73::dP::u75:: []).toArray,[]⟩ w'):
  Code.wp prog Vg Q ⟨(u0:: .slice A n c::u2::u3::u4::u5::u6::u7:: .pointer (some ⟨q,0,none⟩):: .slice lA ln lc::u10::u11:: .int .i64 ((j:Int)+1)::u13::bN::bq::u16::u17::bC::bD::u20::u21::u22::u23::u24::u25::u26::u27::u28::u29::u30::u31::u32::u33::u34::u35::u36::u37::u38::dh::u40::bX::u42::bY::u44::u45::u46::di::u48::u49::bV::u51::u52::u53::bW::u55::dz::dB::u58::u59::u60::dH::dG::u63::u64::dO::u66::dU::u68::u69::u70::dV::u72::u73::dP::u75:: []).toArray,[]⟩ w:=by
 obtain⟨b,o,k',lB,hA,kA,vA,dA,lm,ld,hn',hc,kn,kc,vn,vc,dn,dc,rfl,_,hk',c0,c1,_,_,_,_,_,_,hb,_⟩:=HL.out.at_ hj;have hkk:k'=k:=by rw [HK.out] at hk';injection hk' with hk';exact hk'.symm
 subst hkk;subst hlow;have q8:=aa hb;have dF:=aa au;have h1:max ((j:Int)+1) 1=(j:Int)+1:=by omega
 have h2:=IntWalk.i64_in (j:Int) (by omega);have h5:(j:Int)<(n:Int):=by omega
 have h6:(0:Int)<(j:Int)+1:=by omega
 have S0:w.drew.cell? ⟨b,o+j*8+1,none⟩=some (.slice lB lm ld)∧w.drew.cell? ⟨q,0,none⟩=some (.int .i64 id):=⟨c1,hq⟩;have HB1:=aa (q8.below (Below.refl w.heap.size w).drew);have HB2:=aa (HB.below (Below.refl w.heap.size w).drew);clear au c0 c1 hk' hb hq;conv=>arg 2;whnf
 refine aX (fun w'=>w'.cell? ⟨b,o+j*8+1,none⟩=some (.slice lB lm ld)∧w'.cell? ⟨q,0,none⟩=some (.int .i64 id)) (by kernel_rfl) ?_;refine vT 0 S0 ?_;refine vT 1 S0 ?_;refine vT 2 S0 ?_;refine vT 3 S0 ?_;refine vT 4 S0 ?_;refine vT 5 S0 ?_;refine vT 6 S0 ?_;refine vT 7 S0 ?_;refine vT 8 S0 ?_;refine vT 10 S0 ?_;refine vT 13 S0 ?_;refine vT 9 S0 ?_;refine vT 14 S0 ?_;refine aR (i:=11) (by kernel_rfl) rfl (fun K hK=> ?_);go_simp
 refine(sV D G lB lA lm ld ln lc _ _ HB1 HB2).mono ?_;rintro e w' ⟨rfl,rfl⟩;refine hK.out _ _ S0 ?_;clear hK K;try simp only [aL,aN,aZ,aC]
 refine vT 12 S0 ?_;refine aR (i:=15) (by kernel_rfl) rfl (fun K hK=> ?_);go_simp
 refine(eH _ _ _).mono ?_;rintro e w' ⟨rfl,rfl⟩;refine hK.out _ _ S0 ?_;clear hK K;try simp only [aL,aN,aZ,aC]
 refine bP (by kernel_rfl) ?_ _;exact dF _ _ _ _ _ _ _ _ _ _ _ _ _ _ _ _ _ (Below.refl _ _).drew
end
section
open Go.Proofs.Tryz
open Go.RowKit Go.Maps
open Go.Lib (compareBytes)
def KQ (m dd:Nat) (Xd:Nat→Nd) (oP:List UInt8) (x:Nd):Prop:=∀(c:Nat) (kid:Int),x.kids[c]? =some kid→∃j,j<m∧kid=(dd:Int)+(j:Int)+1∧(c=0→oP=bQ (fun t=>(Xd t).high) j)∧(c≠0→x.keys[c-1]? =some (bQ (fun t=>(Xd t).high) j))
theorem kM {d M j:Nat} {X:Nat→Nd} (h:j<M):((List.range M).map (iw d X))[j]? =some (iw d X j):=by rw [List.getElem?_map,List.getElem?_range h];rfl
noncomputable def Rz:Code:=aP (f55.body.bind (fC 4))
theorem Dq (G E:Nat→Prop) (B:Option Addr) (m e0 mb cnt q dd:Nat) (id:Int) (oP:List UInt8) (x:Nd) (Xd:Nat→Nd) (lA hA kA vA dA:Option Addr) (ln lc hn hc kn kc vn vc dn dc:Nat) (w:World) {u0 u2 u3 u5 u6 u7 u10 u11 u12 u13 bN bq u16 u17 bC bD u20 u21 u22 u23 u24 u25 u26 u27 u28 u29 u30 u31 u32 u33 u34 u35 u36 u37 bX u42 bY u44 u45 u46 di u48 u49 bV u51 u52 u53 bW u55 dz dB u58 u59 u60 dH dG u63 u64 dO u66 dU u68 u69 u70 dV u72 u73 dP u75:Value} (Q:Exit→Act→World→Prop) (nC:Hid (∀c t (a:Act) w,Q (.panic c) ⟨t,a.defers⟩ w→Q (.panic c) a w))
  (HD:Hid (sD w G B m ((List.range m).map (iw dd Xd)))) (HK:Hid (KQ m dd Xd oP x)) (HQ:Hid (ai w q 106 #[.int .i64 id,.slice lA ln lc,.int .i64 x.lev,.slice hA hn hc,.int .i64 x.right,.slice kA kn kc,.slice vA vn vc,.slice dA dn dc]))
  (HL:Hid (Bt w E lA ln lc oP)) (HV:Hid (ni w E x hA kA vA dA hn hc kn kc vn vc dn dc)) (HM:Hid (bF w mb cnt (fun k=>if(dd:Int)+1≤k∧k≤(dd:Int)+(m:Int) then k-(dd:Int) else 0))) (hm:m≤100000) (hdd:dd≤100000) (hdn:dn≤1000)
  (au:∀(v9 v10 v11 v12 v40 v41 v42 v43 v44 v45 v46 v47 v48 v49 v50 v51 v52 v53 v54 v55 v56 v57 v58 v59 v60 v61 v62 v63 v64 v65 v66 v67 v68 v69 v70 v71 v72 v73 v74:Value) (w':World),Below w.heap.size w w'→Q (.exit 4) ⟨(u0:: .slice B m e0::u2::u3:: .map (some mb)::u5::u6::u7:: .pointer (some ⟨q,0,none⟩)::v9::v10::v11::v12::u13::bN::bq::u16::u17::bC::bD::u20::u21::u22::u23::u24::u25::u26::u27::u28::u29::u30::u31::u32::u33::u34::u35::u36::u37:: .slice dA dn dc:: .int .i64 dn::v40::v41::v42::v43::v44::v45::v46::v47::v48::v49::v50::v51::v52::v53::v54::v55::v56::v57::v58::v59::v60::v61::v62::v63::v64::v65::v66::v67::v68::v69::v70::v71::v72::v73::v74::u75:: []).toArray,[]⟩ w'):
  Code.wp prog Rz Q ⟨(u0:: .slice B m e0::u2::u3:: .map (some mb)::u5::u6::u7:: .pointer (some ⟨q,0,none⟩):: .slice lA ln lc::u10::u11::u12::u13::bN::bq::u16::u17::bC::bD::u20::u21::u22::u23::u24::u25::u26::u27::u28::u29::u30::u31::u32::u33::u34::u35::u36::u37:: .slice dA dn dc:: .int .i64 dn:: .int .i64 0::bX::u42::bY::u44::u45::u46::di::u48::u49::bV::u51::u52::u53::bW::u55::dz::dB::u58::u59::u60::dH::dG::u63::u64::dO::u66::dU::u68::u69::u70::dV::u72::u73::dP::u75:: []).toArray,[]⟩ w:=by
 have dF:=aa au;clear au;conv=>arg 2;whnf
 go_loopg [9,40] dn (fun g' YQ iv wr=>∃(c:Nat) (Xx:Option Addr) (Xy Xz:Nat),g'=dn-c∧c≤dn∧iv= .int .i64 c∧YQ= .slice Xx Xy Xz∧Hid (c=0→Bt wr E Xx Xy Xz oP)∧Below w.heap.size w wr)
 case atStart=>exact⟨0,lA,ln,lc,by omega,by omega,rfl,rfl,aa (fun _=>HL),Below.refl _ _⟩
 case round=>
  obtain⟨c,Xx,Xy,Xz,hg,hc0,rfl,rfl,hlow,hb⟩:=hrel;have HG:=aa hg;have HLW:=aa hlow.out;have HB:=aa hb
  rename World=>wr
  clear hg hlow hb
  by_cases hlt:c<dn
  ·have hlt':(c:Int)<(dn:Int):=by omega
   obtain⟨b,o,kid,rfl,_,he,c1'⟩:=HV.out.d.at_ (k:=c) hlt;have c1:=ak HB c1';obtain⟨j,hj,oQ,hk0,hk1⟩:=HK.out c kid he;have YR:=aa hk0;have YS:=aa hk1
   have hl:(Instr.lookup 107 (.map (some mb)) (.int .i64 kid) false).run prog wr= .ok (.int .i64 ((j:Int)+1)) wr:=by
    have:=(HM.out.below HB).look (k:=kid) (by omega) (by omega);have e:(if(dd:Int)+1≤kid∧kid≤(dd:Int)+(m:Int) then kid-(dd:Int) else 0)=(j:Int)+1:=by rw [if_pos (by omega)];omega
    rw [e] at this;exact this
   have Qh:=aa (HQ.below HB);have x0:=Qh.out.cell 0;have x5:=Qh.out.cell 5;have Vb:Hid (((List.range m).map (iw dd Xd))[j]? =some (iw dd Xd j)):=aa (kM hj);clear c1' he hk0 hk1 oQ
   by_cases h0:c=0
   ·subst h0;rw [Nat.add_zero] at c1;have hp0:¬(0:Int)<((0:Nat):Int):=by omega
    have Nl:=aa (HLW rfl);have HJJ:=aa (YR rfl).symm;clear YR YS;go_upto_region 16 with fail
    refine xy G E B m e0 q j id oP _ (iw dd Xd j) Xx Xy Xz wr _ (by exact aa (fun c t a w h=>nC c t a w h)) (aa (HD.below HB)) hj (by omega) Vb HJJ Nl x0 ?_;intro v58 v59 v60 v61 v62 v63 v64 v65 v66 v67 v68 v69 v70 v71 v72 v73 w' hb';have Vf:=aa (HB.out.trans (hb'.mono HB.size));clear hb';go_wp2
    go_roundg (dn-(0+1))
    case measure=>have:=HG.out;omega
    case rel=>exact⟨0+1,_,_,_,rfl,by omega,by go_num,rfl,aa (fun h=>absurd h (by omega)),Vf⟩
   ·have hp0:(0:Int)<(c:Int):=by omega
    have hkey:=YS.out h0;have hck:c-1<kn:=by rw [HV.out.k.len];exact(List.getElem?_eq_some_iff.1 hkey).1
    obtain⟨b2,o2,Ak,nk,ck,t,rfl,_,ht,d1',q1,q2,q3,q4⟩:=HV.out.k.at_ (k:=c-1) hck;have htt:t=bQ (fun t=>(Xd t).high) j:=by rw [ht] at hkey;injection hkey
    have d1:=ak HB d1';have Nl:Hid (Bt wr E Ak nk ck t):=aa ⟨q1,q2,q3,q4.below HB⟩;have hw1:=IntWalk.i64_in ((c:Int)-1) (by omega);have hw2:0≤(c:Int)-1:=by omega
    have hw3:(c:Int)-1<(kn:Int):=by omega
    have hw4:((c:Int)-1).toNat=c-1:=by omega
    have Qi:=aa htt;clear hkey ht d1' q1 q2 q3 q4 YR YS htt;go_upto_region 16 with fail
    refine xy G E B m e0 q j id t _ (iw dd Xd j) Ak nk ck wr _ (by exact aa (fun c t a w h=>nC c t a w h)) (aa (HD.below HB)) hj (by omega) Vb Qi.out.symm Nl x0 ?_;intro v58 v59 v60 v61 v62 v63 v64 v65 v66 v67 v68 v69 v70 v71 v72 v73 w' hb';have Vf:=aa (HB.out.trans (hb'.mono HB.size));clear hb';go_wp2
    go_roundg (dn-(c+1))
    case measure=>have:=HG.out;omega
    case rel=>exact⟨c+1,_,_,_,rfl,by omega,by go_num,rfl,aa (fun h=>absurd h (by omega)),Vf⟩
  ·have hlt':¬(c:Int)<(dn:Int):=by omega
   obtain rfl:c=dn:=by omega
   go_wp2;exact dF _ _ _ _ _ _ _ _ _ _ _ _ _ _ _ _ _ _ _ _ _ _ _ _ _ _ _ _ _ _ _ _ _ _ _ _ _ _ _ _ HB
end
section
open Go.Proofs.Tryz
open Go.RowKit Go.Maps
open Go.Lib (compareBytes)
def KP (Mu Md dd:Nat) (Xu Xd:Nat→Nd):Prop:=∀i,i<Mu→KQ Md dd Xd (bQ (fun t=>(Xu t).high) i) (Xu i)
theorem yw (D G:Nat→Prop) (A B:Option Addr) (n c m e0 du dd:Nat) (Xu Xd:Nat→Nd) (w:World) (hu:sD w D A n ((List.range n).map (iw du Xu))) (hd:sD w G B m ((List.range m).map (iw dd Xd))) (hk:KP n m dd Xu Xd) (hn:n≤100000) (hm:m≤100000) (hdd:dd≤100000)
  (hkl:∀i,i<n→(Xu i).kids.length≤1000):
  Calls prog 55 #[.slice A n c,.slice B m e0] w fun e w'=>e= .returned (.tuple #[])∧Below w.heap.size w w':=by
 have HU:=aa hu;have HD:=aa hd;have HK:=aa hk;have Dh:=aa hkl;have hmm:= @run_makeMap prog;have HB0:Hid (Below w.heap.size w (w.alloc (.map #[] 0))):=aa ((Below.refl _ _).alloc (Nat.le_refl _) _);have Qg:=aa (bF.made w);clear hu hd hk hkl;go_enter func55,ntmps55
 go_wp2
 go_loopg [16] m (fun g' iv wr=>∃i:Nat,g'=m-i∧i≤m∧iv= .int .i64 i∧bF wr w.heap.size i (fun k=>if(dd:Int)+1≤k∧k≤(dd:Int)+(i:Int) then k-(dd:Int) else 0)∧Below w.heap.size w wr)
 case atStart=>
  have e:(fun k=>if(dd:Int)+1≤k∧k≤(dd:Int)+((0:Nat):Int) then k-(dd:Int) else 0)=fun _=>0:=by funext k;rw [if_neg (by omega)]
  refine⟨0,by omega,by omega,rfl,?_,HB0⟩
  rw [e];exact Qg
 case round=>
  obtain⟨i,hg,hi,rfl,hmp,hb⟩:=hrel;have HG:=aa hg;have HM:=aa hmp;have HB:=aa hb
  rename World=>wr
  clear hg hmp hb Qg HB0
  by_cases hlt:i<m
  ·have hlt':(i:Int)<(m:Int):=by omega
   obtain⟨b,o,k,lB,hA,kA,vA,dA,lm,ld,hn',hc,kn,kc,vn,vc,dn,dc,rfl,_,hk',c0,c1,c2,c3,c4,c5,c6,c7,hb,_⟩:=(HD.out.below HB).at_ hlt;have hkk:k=iw dd Xd i:=by rw [kM hlt] at hk';injection hk' with hk';exact hk'.symm
   have hk1:k.1=(dd:Int)+(i:Int)+1:=by rw [hkk];rfl
   rw [hk1] at c0;have cb:∀t v,wr.cell? ⟨b,o+i*8+t,none⟩=some v→True:=fun _ _ _=>trivial;clear cb hk' hkk hk1 hb;have hw1:=IntWalk.i64_in ((i:Int)+1) (by omega);obtain⟨wx,hwx⟩:∃W,W=wr.alloc (.cells #[.int .i64 ((dd:Int)+(i:Int)+1),.slice lB lm ld,.int .i64 k.2.2.lev,.slice hA hn' hc,.int .i64 k.2.2.right,.slice kA kn kc,.slice vA vn vc,.slice dA dn dc] 106):=⟨_,rfl⟩;have iC:Hid (Below wr.heap.size wr wx):=aa (by rw [hwx];exact(Below.refl _ _).alloc (Nat.le_refl _) _);have HMX:=aa (HM.below iC);go_upto_region 4 with fail
   rw [←hwx];have x0:wx.cell? ⟨wr.heap.size,0,none⟩=some (.int .i64 ((dd:Int)+(i:Int)+1)):=by rw [hwx];simp
   clear hwx c0 c1 c2 c3 c4 c5 c6 c7;go_wp2_with (at_mapUpdate;go_loud (refine dw rfl _ _ _ rfl rfl HMX (by unfold maxLen;omega) ((dd:Int)+(i:Int)+1) ((i:Int)+1) rfl rfl (by omega) (by omega) (by omega) (by omega) ?_);intro w1 hm1 hc1;have Oj:=aa hm1;have ib:=aa hc1;clear hm1 hc1)
   go_roundg (m-(i+1))
   case measure=>have:=HG.out;omega
   case rel=>
    have ef:(fun j=>if j=(dd:Int)+(i:Int)+1 then(i:Int)+1 else(if(dd:Int)+1≤j∧j≤(dd:Int)+(i:Int) then j-(dd:Int) else 0))=fun k=>if(dd:Int)+1≤k∧k≤(dd:Int)+((i+1:Nat):Int) then k-(dd:Int) else 0:=by
     funext j
     by_cases h1:j=(dd:Int)+(i:Int)+1
     ·rw [if_pos h1,if_pos (by omega)];omega
     ·rw [if_neg h1]
      by_cases h2:(dd:Int)+1≤j∧j≤(dd:Int)+(i:Int)
      ·rw [if_pos h2,if_pos (by omega)]
      ·rw [if_neg h2,if_neg (by omega)]
    have hm2:bF w1 w.heap.size (i+1) (fun j=>if j=(dd:Int)+(i:Int)+1 then(i:Int)+1 else(if(dd:Int)+1≤j∧j≤(dd:Int)+(i:Int) then j-(dd:Int) else 0)):=Oj.out;rw [ef] at hm2;have hsz:=HB.out.size
    exact⟨i+1,rfl,by omega,by go_num,hm2,(HB.out.trans (iC.mono hsz)).trans (ib.below_of (Nat.le_trans hsz iC.size) (fun b hb h=>by have h:b=w.heap.size:=h;omega))⟩
  ·have hlt':¬(i:Int)<(m:Int):=by omega
   have him:i=m:=by omega
   subst him;go_wp2
   go_loopg [29] n (fun g' iv wz=>∃t:Nat,g'=n-t∧t≤n∧iv= .int .i64 t∧Below wr.heap.size wr wz)
   case atStart=>exact⟨0,by omega,by omega,rfl,Below.refl _ _⟩
   case round=>
    obtain⟨t,hg2,ht,rfl,hbz⟩:=hrel;have wF:=aa hg2;have kD:=aa hbz
    rename World=>wz
    clear hg2 hbz
    by_cases htl:t<n
    ·have YP:(t:Int)<(n:Int):=by omega
     have ek:Hid (Below w.heap.size w wz):=aa (HB.out.trans (kD.mono HB.size));obtain⟨b,o,⟨id,oP,x⟩,lB,hA,kA,vA,dA,lm,ld,hn',hc,kn,kc,vn,vc,dn,dc,rfl,_,hk',c0,c1,c2,c3,c4,c5,c6,c7,hb,hv⟩:=(HU.out.below ek).at_ htl;have hkk:(id,oP,x)=iw du Xu t:=by rw [List.getElem?_map,List.getElem?_range htl] at hk';injection hk' with hk';exact hk'.symm
     dsimp only at c0 c2 c4 hb hv;have jY:x=Xu t:=congrArg (fun k:Lk=>k.2.2) hkk;have hll:oP=bQ (fun t=>(Xu t).high) t:=congrArg (fun k:Lk=>k.2.1) hkk;have hko:KQ i dd Xd oP x:=by rw [jY,hll];exact HK t htl
     have hdn:dn≤1000:=by rw [hv.d.len,jY];exact Dh t htl
     obtain⟨wx,hwx⟩:∃W,W=wz.alloc (.cells #[.int .i64 id,.slice lB lm ld,.int .i64 x.lev,.slice hA hn' hc,.int .i64 x.right,.slice kA kn kc,.slice vA vn vc,.slice dA dn dc] 106):=⟨_,rfl⟩;have iC:Hid (Below wz.heap.size wz wx):=aa (by rw [hwx];exact(Below.refl _ _).alloc (Nat.le_refl _) _);have Fu:Hid (ai wx wz.heap.size 106 #[.int .i64 id,.slice lB lm ld,.int .i64 x.lev,.slice hA hn' hc,.int .i64 x.right,.slice kA kn kc,.slice vA vn vc,.slice dA dn dc]):=aa (by rw [hwx];exact ai.new _ _ _);have HLX:=aa (hb.below iC);have HVX:=aa (hv.below iC);have Xw:=aa hko;clear hk' hkk jY hll hb hv hko;go_upto_region 9 with fail
     rw [←hwx];clear hwx c0 c1 c2 c3 c4 c5 c6 c7;have x1:wx.cell? ⟨wz.heap.size,1,none⟩=some (.slice lB lm ld):=Fu.out.cell 1;have x7:wx.cell? ⟨wz.heap.size,7,none⟩=some (.slice dA dn dc):=Fu.out.cell 7;go_wp2_with fail
     refine Dq G D B i e0 w.heap.size i wz.heap.size dd id oP x Xd lB hA kA vA dA lm ld hn' hc kn kc vn vc dn dc wx _ (by exact aa (fun _ _ _ _ h=>h)) (aa (HD.below (ek.out.trans (iC.mono ek.size)))) Xw Fu HLX HVX (aa (HM.below (kD.out.trans (iC.mono kD.size)))) hm hdd hdn ?_;intro v9 v10 v11 v12 v40 v41 v42 v43 v44 v45 v46 v47 v48 v49 v50 v51 v52 v53 v54 v55 v56 v57 v58 v59 v60 v61 v62 v63 v64 v65 v66 v67 v68 v69 v70 v71 v72 v73 v74 w9 wI;have xm:Hid (Below wr.heap.size wr w9):=aa ((kD.out.trans (iC.mono kD.size)).trans (wI.mono (Nat.le_trans kD.size iC.size)));clear wI;go_wp2
     go_roundg (n-(t+1))
     case measure=>have:=wF.out;omega
     case rel=>exact⟨t+1,rfl,by omega,by go_num,xm⟩
    ·have YP:¬(t:Int)<(n:Int):=by omega
     go_wp2;first|go_end0|skip
     exact⟨rfl,HB.out.trans (kD.mono HB.size)⟩
end
end Go.Proofs.YtbjgeidjmhialaaGreatDoor
