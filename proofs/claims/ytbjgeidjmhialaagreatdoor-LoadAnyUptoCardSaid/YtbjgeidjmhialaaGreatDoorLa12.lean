/- Part 12. -/
import Derived.Test.YtbjgeidjmhialaaGreatDoorLa11
namespace Go.Proofs.YtbjgeidjmhialaaGreatDoor
set_option maxRecDepth 100000
set_option maxHeartbeats 8000000
section
open Go.Proofs.Tryz
open Go.RowKit
open Go.Lib (compareBytes)
structure rZ (base q:Nat) (bA:Option Addr) (bn bc n:Nat) (b:List UInt8) (l:List aH) (ats:List Nat) (p:Nat) (rv:Value) (w:World) (e:Ending) (w':World):Prop where
 chg:ag (fun g=>g=q∨rv.ownBlock=some g) w w'
 bad:(pread (aQ l) b p).err≠0→e= .panicked (eO (pread (aQ l) b p).err (pread (aQ l) b p).next)
 ord:(pread (aQ l) b p).err=0→(0<l.length∧0≤compareBytes (aD l) (pread (aQ l) b p).key)→e= .panicked (eO 51 p)
 ok:(pread (aQ l) b p).err=0→¬(0<l.length∧0≤compareBytes (aD l) (pread (aQ l) b p).key)→∃K kn kc V vn vc ym rv',e= .returned (.agg #[.slice K kn kc,.slice V vn vc])∧
  BR w' base q bA bn bc n (l++ [((pread (aQ l) b p).key,(pread (aQ l) b p).val)]) (ats++ [p]) (pread (aQ l) b p).next ym rv'∧SB w' (fun g=>w.heap.size≤g∧rv'.ownBlock≠some g) ym (pread (aQ l) b p).key∧
  SB w' (fun g=>w.heap.size≤g∧rv'.ownBlock≠some g) (.slice K kn kc) (pread (aQ l) b p).key∧SB w' (fun g=>w.heap.size≤g∧rv'.ownBlock≠some g) (.slice V vn vc) (pread (aQ l) b p).val∧
  (∀g,rv'.ownBlock=some g→rv.ownBlock=some g∨w.heap.size≤g)
theorem Gn {l:List aH} (h:l.length%8=0):aQ l= []:=by unfold aQ;rw [if_pos h]
theorem Gp {l:List aH} (h:¬l.length%8=0):aQ l=aD l:=by unfold aQ;rw [if_neg h]
theorem NZ (F:Nat→Prop) (base q:Nat) (bA:Option Addr) (bn bc n:Nat) (b:List UInt8) (l:List aH) (ats:List Nat) (p:Nat) (lv rv:Value) (w:World) (h:BR w base q bA bn bc n l ats p lv rv) (hb:Rd w F 1 bA bn (aK b)) (hbn:bn=b.length) (hbc:bn≤bc) (hF:∀g,F g→g<base) (hq:base≤q) (hr:bu l) (ha:ats.length=l.length) (hl:l.length≤63) (hp:p≤bn) (hm:bn≤1152921504606) (hre:l.length%8=0):
  Calls prog 138 #[.pointer (some ⟨q,0,none⟩)] w (rZ base q bA bn bc n b l ats p rv w):=by
 refine letter fun R HR=> ?_;obtain⟨ln,hln⟩:∃ln,ln=l.length:=⟨_,rfl⟩;have jv:=aa hln;rw [←hln] at hre hl;have z2:w.cell? ⟨q,2,none⟩=some (.int .i64 ln):=(h.blk.cell 2).trans (by rw [hln];rfl);obtain⟨lA,Cz,lc,hlv,k1,k2,k3,k4⟩:=h.key;subst hlv;have z4:w.cell? ⟨q,4,none⟩=some (.slice lA Cz lc):=h.blk.cell 4;have YH:((ln:Int)%8==0)=true:=by rw [beq_iff_eq];omega
 have UU:(ln:Int)%8=0:=by omega
 obtain⟨rn,hrn⟩:∃rn,rn=(eighth ats).length:=⟨_,rfl⟩;have UJ:=aa hrn;have UV:rn≤63:=by have:=kJ ats _ (Nat.le_refl _);omega
 obtain⟨rA,rc,UK⟩:∃rA rc,rv= .slice rA rn rc:=by obtain⟨A,c,e,_,_⟩:=ay h.own;exact⟨A,c,by rw [e,hrn]⟩
 subst UK;have HH:=aa h;have ER:=aa hb;have xk:=aa hbn;have HF:=aa hF;have Fa:=aa hr;have HAT:=aa ha;have jw:=aa k3;have lH:=aa k4;have Gq:=h.blk.lt;have YI:Hid (aQ l= []):=aa (Gn (by rw [←hln];exact hre));clear h hb hbn hF hr ha hln k3 k4 hrn;go_enter func138,ntmps138
 go_upto_region 5 with fail
 obtain⟨q2,hq2⟩:∃q2,q2=w.heap.size:=⟨_,rfl⟩;obtain⟨wa,lG⟩:∃W,W=w.alloc (.cells #[.slice none 0 0,.slice none 0 0] 57):=⟨_,rfl⟩;simp only [←lG,←hq2];have sS:=aa hq2;have kY:Hid (Below w.heap.size w wa):=aa (by rw [lG];exact(Below.refl _ _).alloc (Nat.le_refl _) _);have wD:Hid (ai wa q2 57 #[.slice none 0 0,.slice none 0 0]):=aa (by rw [lG,hq2];exact ai.new _ _ _);clear lG hq2 z2 z4;refine NW base q p rA rn rc (Al (eighth ats)) _ _ _ _ wa _ (aa (fun _ _ _ _ h=>h)) (aa (HH.blk.below kY)) (aa (own_below (by have:=HH.out.own;rw [←UJ.out] at this;exact this) kY)) HH.ne (by omega) (by have:=kY.out.size;omega) ?_;intro v19 v20 v21 v22 v23 v24 v25 v26 v27 v28 v29 v30 v31 x wb wc hbw hown hgr hat;obtain⟨w5,jg⟩:∃W,W=wc.setCell ⟨q,5,none⟩ x:=⟨_,rfl⟩;rw [←jg];have ek:=aa hbw
 have xq:Hid (ag (fun g=>g=q∨(Value.slice rA rn rc).ownBlock=some g) w w5):=aa (by
  rw [jg];refine((ag.of_below (kY.out.trans (hbw.mono kY.size))).trans ((ag.of_grown hgr).mono (T:=fun g=>g=q∨(Value.slice rA rn rc).ownBlock=some g) (fun g _ e=> .inr e)) (fun _ _ h=>h)).setCell (p:=⟨q,5,none⟩) (fun _=> .inl rfl) _)
 have HX:Hid (∀g,x.ownBlock=some g→(Value.slice rA rn rc).ownBlock=some g∨wa.heap.size≤g):=aa (fun g hg=>by
  rcases hat with e|e
  ·exact .inl (e▸hg)
  ·right;rw [e] at hg;injection hg with hg;have h1:=hbw.size;omega)
 have TX:Hid (w.heap.size<wa.heap.size):=aa (by have h1:=wD.out.lt;have h2:=sS.out;omega)
 have Kv:Hid (x.ownBlock≠some q):=aa (fun e=>by
  rcases HX.out q e with e|e
  ·exact HH.ne e
  ·have:=TX.out;omega)
 have oO:Hid (ai w5 q 265 #[.slice bA bn bc,.int .i64 n,.int .i64 ln,.int .i64 p,.slice lA Cz lc,x]):=aa (by
  rw [jg];have h1:=((HH.blk.below (kY.out.trans (hbw.mono kY.size))).chg (ag.of_grown hgr) HH.ne).set_ 5 x;rw [←jv.out] at h1;exact h1)
 have Rm:Hid (w5.ownsRow base 3 1 x (eighth (ats++ [p])).length (Al (eighth (ats++ [p])))):=aa (by
  rw [jg,r9 _ ats p (Nat.le_refl _),if_pos (by have:=HAT.out;have:=jv.out;omega),List.length_append,List.length_singleton,←UJ.out];have h1:=aF hown ((ag.refl (fun g=>g=q) wc).setCell (p:=⟨q,5,none⟩) (fun _=>rfl) x) (fun g hg e=>Kv (by rw [hg,e]));simpa [Al] using h1)
 have Np:Hid (SB w5 (fun g=>base≤g∧g<w.heap.size∧x.ownBlock≠some g∧g≠q) (.slice lA Cz lc) (aD l)):=aa (by
  have h1:=(SB.mk k1 k2 jw lH).lt;refine(h1.chg xq (fun g hg e=>by rcases e with e|e;exact hg.1.2.2 e;exact hg.1.2.1 e)).weak (fun g hg=>⟨hg.1.1,hg.2,fun e=> ?_,hg.1.2.2⟩)
  rcases HX.out g e with e|e
  ·exact hg.1.2.1 e
  ·have h1:=hg.2;have h2:=TX.out;omega)
 have fO:Hid (Rd w5 F 1 bA bn (aK b)):=aa (ER.chg xq (fun g hg e=>by
  have h1:=HF.out g hg
  rcases e with e|e
  ·omega
  ·have:=(ah HH.own g e).1;omega))
 have Dk:Hid (ai w5 q2 57 #[.slice none 0 0,.slice none 0 0]):=aa (by
  rw [jg];refine(((wD.below hbw).chg (ag.of_grown hgr) (fun e=> ?_)).far (p:=⟨q,5,none⟩) (by show¬q2=q;have:=sS.out;omega) _);have h1:=(ah HH.own q2 e).2;have h2:=sS.out;omega)
 clear hbw hown hgr hat jg;go_upto_region 6 with fail
 refine E9 F q p none bA 0 0 bn bc [] b _ _ _ _ w5 _ (aa (fun _ _ _ _ h=>h)) oO (aa (Rd.none_ _ _ _ _)) (aa rfl) (Nat.le_refl _) fO xk hbc hp (by omega) hm (by simp [maxLen]) (aa (fun g hg=>by have h1:=HF.out g hg;have h2:=xq.out.size;omega)) ?_;intro v32 v33 v34 v35 v36 v37 v38 v39 v40 v41 v42 v43 v44 v45 x5 K kn kc V vn vc w6 hx5 hk5 Fe hb6;obtain⟨r,hr⟩:∃r,r=pread [] b p:=⟨_,rfl⟩;have pq:Hid (pread (aQ l) b p=r):=aa (by rw [YI.out,hr]);rw [←hr] at Fe⊢;obtain⟨er,jf⟩:∃er,er=r.err:=⟨_,rfl⟩;obtain⟨nx,hnx⟩:∃nx,nx=r.next:=⟨_,rfl⟩;obtain⟨ky,Dl⟩:∃ky,ky=r.key:=⟨_,rfl⟩;obtain⟨va,hva⟩:∃va,va=r.val:=⟨_,rfl⟩;have Qc:Hid (r.err=0→yo [] b r):=aa (fun h0=>by rw [hr] at h0⊢;exact lY (by have:=xk.out;omega) h0);rw [←jf,←Dl,←hva] at Fe;rw [←jf,←hnx];have jR:=aa jf;have zm:=aa hnx;have N7:=aa Fe;have oN:=aa hx5;have lg:=aa hb6;have iW:Hid (ag (fun g=>g=q∨(Value.slice rA rn rc).ownBlock=some g) w w6):=aa (xq.then hb6);have yt:Hid (ai w6 q 265 #[.slice bA bn bc,.int .i64 n,.int .i64 ln,.int .i64 p,.slice lA Cz lc,x]):=aa (oO.below hb6);have N8:Hid (ai w6 q2 57 #[.slice none 0 0,.slice none 0 0]):=aa (Dk.below hb6);have Kw:=aa hk5;have UW:=aa (Np.below hb6);have N9:=aa (own_below Rm hb6);have lu:=aa Dl;have Oa:=aa hva;clear hr jf hnx Dl hva Fe hx5 hk5 hb6
 by_cases e0:er=0
 ·subst e0;obtain⟨CB,Ky⟩:∃CB,CB=Value.slice lA Cz lc:=⟨_,rfl⟩;have Ff:Hid (ai w6 q 265 #[.slice bA bn bc,.int .i64 n,.int .i64 ln,.int .i64 p,CB,x]):=aa (by rw [Ky];exact yt);clear Ky;have EW:=aa (Qc jR.out.symm);have hq9:=yt.out.cell 4;have z4:w6.cell? ⟨q,4,none⟩=some (.slice lA Cz lc):=hq9;have y0:w6.cell? ⟨x5,0,none⟩=some (.slice K kn kc):=Kw.out.cell 0;clear hq9
  by_cases l0:l= []
  ·have hl0:=HH.out.lst l0;injection hl0 with e1 e2 e3
   subst e1;subst e2;subst e3;have hneq:=fun w'=>run_neq_slice_nil_any (P:=prog) w' 24 5 none 0 0 0 0 underlying24;have Dm:Hid (¬(0<l.length∧0≤compareBytes (aD l) ky)):=aa (fun h=>by rw [l0] at h;exact absurd h.1 (by simp));clear l0;go_upto_region 9 with fail
   go_quiet (fail);obtain⟨w7,hw7⟩:∃W,W=w6.drewN nq:=⟨_,rfl⟩;rw [←hw7];clear z4 y0 hneq;have iE:Hid (ag Nil w6 w7):=aa (by rw [hw7];exact(ag.refl Nil w6).drewN _);have lZ:Hid (ai w7 q 265 #[.slice bA bn bc,.int .i64 n,.int .i64 ln,.int .i64 p,CB,x]):=aa (Ff.chg iE (fun h=>h));have Kz:Hid (ai w7 q2 57 #[.slice none 0 0,.slice none 0 0]):=aa (N8.chg iE (fun h=>h));have KA:Hid (ai w7 x5 57 #[.slice K kn kc,.slice V vn vc]):=aa (Kw.chg iE (fun h=>h));have KB:=aa (aF N9 iE (fun _ _ h=>h));have Ap:Hid (SB w7 (fun g=>w5.heap.size≤g∧g≠x5) (.slice K kn kc) ky∧SB w7 (fun g=>w5.heap.size≤g∧g≠x5) (.slice V vn vc) va):=aa ⟨(N7 rfl).1.chg iE (fun _ _ h=>h),(N7 rfl).2.chg iE (fun _ _ h=>h)⟩;have KC:Hid (ag (fun g=>g=q∨(Value.slice rA rn rc).ownBlock=some g) w w7):=aa (iW.out.trans iE (fun _ _ h=>h.elim));have z2:w7.cell? ⟨q,2,none⟩=some (.int .i64 ln):=lZ.out.cell 2;have z3:w7.cell? ⟨q,3,none⟩=some (.int .i64 p):=lZ.out.cell 3;have Do:=lZ.out.frozen 2;have TV:=lZ.out.frozen 3;clear hw7;go_upto_region 13 with fail
   obtain⟨w8,hw8⟩:∃W,W=(w7.setCell ⟨q,2,none⟩ (.int .i64 ((ln:Int)+1))).setCell ⟨q,3,none⟩ (.int .i64 nx):=⟨_,rfl⟩;rw [←hw8];have uG:Hid (ag (fun g=>g=q) w7 w8):=aa (by rw [hw8];exact((ag.refl (fun g=>g=q) w7).setCell (p:=⟨q,2,none⟩) (fun _=>rfl) _).setCell (p:=⟨q,3,none⟩) (fun _=>rfl) _);have pO:Hid (ai w8 q 265 #[.slice bA bn bc,.int .i64 n,.int .i64 ((ln:Int)+1),.int .i64 nx,CB,x]):=aa (by rw [hw8];exact(lZ.set_ 2 _).set_ 3 _);have Xt:q<w5.heap.size:=oO.out.lt;have UX:q2<w5.heap.size:=Dk.out.lt;have hqq:q<q2:=by have:=sS.out;omega
   have KD:Hid (ai w8 q2 57 #[.slice none 0 0,.slice none 0 0]):=aa (Kz.chg uG (fun e=>by have e:q2=q:=e;omega));have Aq:Hid (ai w8 x5 57 #[.slice K kn kc,.slice V vn vc]):=aa (KA.chg uG (fun e=>by have e:x5=q:=e;have:=oN.out;omega));have KE:=aa (aF KB uG (fun g hg e=>by have e:g=q:=e;exact Kv (by rw [hg,e])));have l5:Hid (SB w8 (fun g=>w5.heap.size≤g∧g≠x5) (.slice K kn kc) ky∧SB w8 (fun g=>w5.heap.size≤g∧g≠x5) (.slice V vn vc) va):=aa ⟨Ap.1.chg uG (fun g hg e=>by have e:g=q:=e;have:=hg.1;omega),Ap.2.chg uG (fun g hg e=>by have e:g=q:=e;have:=hg.1;omega)⟩;have jy:=aa (dm K kn kc _ ky w8 l5.1.parts.2.2.2 l5.1.parts.2.2.1 (by have h1:=l5.out.1.parts.2.2.1;have h2:=EW.out.k2;have h3:=lu.out;rw [←h3] at h2;omega));have y0:w8.cell? ⟨x5,0,none⟩=some (.slice K kn kc):=Aq.out.cell 0;clear z2 z3 Do TV hw8;go_upto_region 14 with(go_at_call 23;go_loud (refine jy.mono ?_);rintro e w9 ⟨L,Ar,Au,rfl,hv1,hv2,hv3,hv4,hv5⟩;have HL:Hid (SB w9 (From w8.heap.size) (.slice L Ar Au) ky):=aa ((SB.mk hv1 hv2 hv3.out hv4).weak (fun g hg=>hg.1));have xm:=aa hv5;have z4:w9.cell? ⟨q,4,none⟩=some CB:=(pO.out.below hv5).cell 4;have UY:=(pO.out.below hv5).frozen 4;clear hv1 hv2 hv3 hv4 hv5)
   obtain⟨jV,l6⟩:∃W,W=w9.setCell ⟨q,4,none⟩ (.slice L Ar Au):=⟨_,rfl⟩;rw [←l6];have jW:Hid (ag (fun g=>g=q) w8 jV):=aa (by rw [l6];exact((ag.of_below (S:=fun g=>g=q) xm).setCell (p:=⟨q,4,none⟩) (fun _=>rfl) _));have Aw:Hid (ai jV q 265 #[.slice bA bn bc,.int .i64 n,.int .i64 ((ln:Int)+1),.int .i64 nx,.slice L Ar Au,x]):=aa (by rw [l6];exact(pO.below xm).set_ 4 _);have Ay:Hid (SB jV (From w8.heap.size) (.slice L Ar Au) ky):=aa (by rw [l6];exact HL.chg (ag.set1 w9 q 4 _) (fun g hg e=>by have e:g=q:=e;have h1:w8.heap.size≤g:=hg;have h2:=pO.out.lt;omega));have gB:=KD.out.chg jW (fun e=>by have e:q2=q:=e;omega);have l7:=Aq.out.chg jW (fun e=>by have e:x5=q:=e;have:=oN.out;omega);have y0':jV.cell? ⟨x5,0,none⟩=some (.slice K kn kc):=l7.cell 0;have y1':jV.cell? ⟨x5,1,none⟩=some (.slice V vn vc):=l7.cell 1;have u0:jV.cell? ⟨q2,0,none⟩=some (.slice none 0 0):=gB.cell 0;have u1:jV.cell? ⟨q2,1,none⟩=some (.slice none 0 0):=gB.cell 1;have uf0:=gB.frozen 0;have uf1:=gB.frozen 1;have Az:=aa gB;clear y0 z4 UY gB l7 l6;go_wp2;have AA:=(Az.out.set_ 0 (.slice K kn kc)).set_ 1 (.slice V vn vc);have v0:((jV.setCell ⟨q2,0,none⟩ (.slice K kn kc)).setCell ⟨q2,1,none⟩ (.slice V vn vc)).cell? ⟨q2,0,none⟩=some (.slice K kn kc):=AA.cell 0;have v1:((jV.setCell ⟨q2,0,none⟩ (.slice K kn kc)).setCell ⟨q2,1,none⟩ (.slice V vn vc)).cell? ⟨q2,1,none⟩=some (.slice V vn vc):=AA.cell 1;have iI:ag (fun g=>g=q2) jV ((jV.setCell ⟨q2,0,none⟩ (.slice K kn kc)).setCell ⟨q2,1,none⟩ (.slice V vn vc)):=((ag.refl (fun g=>g=q2) jV).setCell (p:=⟨q2,0,none⟩) (fun _=>rfl) _).setCell (p:=⟨q2,1,none⟩) (fun _=>rfl) _;refine bodyPost_ret (v:= .agg #[.slice K kn kc,.slice V vn vc]) (by simp [results,results138,go_sem,v0,v1]) rfl ?_;rw [HR.out];obtain⟨w11,KF⟩:∃W,W=(jV.setCell ⟨q2,0,none⟩ (.slice K kn kc)).setCell ⟨q2,1,none⟩ (.slice V vn vc):=⟨_,rfl⟩;rw [←KF] at iI⊢;have hxl:=fun g (hg:x.ownBlock=some g)=>(ah Rm g hg).2
   have KG:x.ownBlock≠some q2:=fun e=>by
    rcases HX.out q2 e with e|e
    ·have h1:=(ah HH.own q2 e).2;have h2:=sS.out;omega
    ·have h1:=wD.out.lt;omega
   have UZ:w5.heap.size≤w8.heap.size:=by have h1:=lg.out.size;have h2:=iE.out.size;have h3:=uG.out.size;omega
   refine⟨((KC.out.trans uG (fun g _ e=> .inl e)).trans jW (fun g _ e=> .inl e)).trans iI (fun g hg e=>by have e:g=q2:=e;have h2:=sS.out;omega),fun h=> ?_,fun _ h=> ?_,fun _ _=>⟨K,kn,kc,V,vn,vc,.slice L Ar Au,x,rfl,⟨?_,?_,?_,?_,Kv⟩,?_,?_,?_,?_⟩⟩
   ·rw [pq.out] at h;exact absurd jR.out.symm h
   ·rw [pq.out,←lu.out] at h;exact absurd h Dm
   ·have h1:=Aw.out.chg iI (fun e=>by have e:q=q2:=e;omega);rw [pq.out,←zm.out,List.length_append,List.length_singleton,←jv.out]
    exact h1
   ·intro h;simp at h
   ·rw [gG,pq.out,←lu.out]
    exact(Ay.chg iI (fun g hg e=>by have e:g=q2:=e;have hg:w8.heap.size≤g:=hg;omega)).weak (fun g hg=>by have hg:w8.heap.size≤g:=hg;exact⟨by have:=xq.out.size;omega,fun e=>by have:=hxl g e;omega,by omega⟩)
   ·exact aF (aF KE jW (fun g hg e=>by have e:g=q:=e;exact Kv (by rw [hg,e]))) iI (fun g hg e=>by have e:g=q2:=e;exact KG (by rw [hg,e]))
   ·rw [pq.out,←lu.out]
    exact(Ay.chg iI (fun g hg e=>by have e:g=q2:=e;have hg:w8.heap.size≤g:=hg;omega)).weak (fun g hg=>by have hg:w8.heap.size≤g:=hg;exact⟨by have:=xq.out.size;omega,fun e=>by have:=hxl g e;omega⟩)
   ·rw [pq.out,←lu.out]
    exact((l5.1.chg jW (fun g hg e=>by have e:g=q:=e;have:=hg.1;omega)).chg iI (fun g hg e=>by have e:g=q2:=e;have:=hg.1;omega)).weak (fun g hg=>⟨by have h1:=hg.1;have h2:=xq.out.size;omega,fun e=>by have h1:=hg.1;have:=hxl g e;omega⟩)
   ·rw [pq.out,←Oa.out]
    exact((l5.2.chg jW (fun g hg e=>by have e:g=q:=e;have:=hg.1;omega)).chg iI (fun g hg e=>by have e:g=q2:=e;have:=hg.1;omega)).weak (fun g hg=>⟨by have h1:=hg.1;have h2:=xq.out.size;omega,fun e=>by have h1:=hg.1;have:=hxl g e;omega⟩)
   ·intro g hg
    rcases HX.out g hg with e|e
    ·exact .inl e
    ·exact .inr (by have:=TX.out;omega)
  ·have hll:0<l.length:=List.length_pos_iff.2 l0
   have hkk:1≤(aD l).length:=by
    obtain⟨e,he,hk⟩:=pP hll;rw [hk];exact(dC Fa he).1
   obtain⟨la,hla⟩:∃la,lA=some la:=by
    have h1:=jw.out;obtain⟨b,o,e,_⟩:=lH.out.2 (by omega);exact⟨_,e⟩
   subst hla;have hneq:=fun w'=>run_neq_slice_nil_any (P:=prog) w' 24 5 (some la) Cz lc 0 0 underlying24;have Jv:Hid (∀w',ag Nil w6 w'→Calls prog 70 #[.slice (some la) Cz lc,.slice K kn kc] w' fun e w''=>e= .returned (.int .i64 (compareBytes (aD l) ky))∧w'=w''):=aa (fun w' hw=>bi _ _ _ _ _ _ _ _ (aD l) ky w' (UW.chg hw (fun _ _ h=>h)).parts.2.2.2 jw ((N7 rfl).1.chg hw (fun _ _ h=>h)).parts.2.2.2 (N7 rfl).1.parts.2.2.1);obtain⟨ce,hce⟩:∃ce,ce=compareBytes (aD l) ky:=⟨_,rfl⟩;rw [←hce] at Jv;have uD:=aa hce;have Rn:=aa hll;clear l0 hll hkk hce;go_upto_region 9 with fail
   go_quiet ((go_at_call 70;exact dZ (Jv _ ((ag.refl Nil w6).drewN _))));obtain⟨w7,hw7⟩:∃W,W=w6.drewN nq:=⟨_,rfl⟩;rw [←hw7];clear z4 y0 hneq
   by_cases hc:0≤ce
   ·have ES:=aa hc;have z3:w7.cell? ⟨q,3,none⟩=some (.int .i64 p):=by rw [hw7];exact yt.cell 3
    have iE:Hid (ag Nil w6 w7):=aa (by rw [hw7];exact(ag.refl Nil w6).drewN _);clear hw7;go_wp2;refine⟨rfl,?_⟩;rw [HR.out]
    refine⟨iW.out.trans iE (fun _ _ h=>h.elim),fun h=> ?_,fun _ _=>rfl,fun _ h=> ?_⟩
    ·rw [pq.out] at h;exact absurd jR.out.symm h
    ·rw [pq.out,←lu.out,←uD.out] at h;exact absurd ⟨Rn,ES⟩ h
   ·have Dm:Hid (¬(0<l.length∧0≤compareBytes (aD l) ky)):=aa (fun h=>by rw [←uD.out] at h;exact hc h.2);have iE:Hid (ag Nil w6 w7):=aa (by rw [hw7];exact(ag.refl Nil w6).drewN _);have lZ:Hid (ai w7 q 265 #[.slice bA bn bc,.int .i64 n,.int .i64 ln,.int .i64 p,CB,x]):=aa (Ff.chg iE (fun h=>h));have Kz:Hid (ai w7 q2 57 #[.slice none 0 0,.slice none 0 0]):=aa (N8.chg iE (fun h=>h));have KA:Hid (ai w7 x5 57 #[.slice K kn kc,.slice V vn vc]):=aa (Kw.chg iE (fun h=>h));have KB:=aa (aF N9 iE (fun _ _ h=>h));have Ap:Hid (SB w7 (fun g=>w5.heap.size≤g∧g≠x5) (.slice K kn kc) ky∧SB w7 (fun g=>w5.heap.size≤g∧g≠x5) (.slice V vn vc) va):=aa ⟨(N7 rfl).1.chg iE (fun _ _ h=>h),(N7 rfl).2.chg iE (fun _ _ h=>h)⟩;have KC:Hid (ag (fun g=>g=q∨(Value.slice rA rn rc).ownBlock=some g) w w7):=aa (iW.out.trans iE (fun _ _ h=>h.elim));have z2:w7.cell? ⟨q,2,none⟩=some (.int .i64 ln):=lZ.out.cell 2;have z3:w7.cell? ⟨q,3,none⟩=some (.int .i64 p):=lZ.out.cell 3;have Do:=lZ.out.frozen 2;have TV:=lZ.out.frozen 3;clear hw7;go_upto_region 13 with fail
    obtain⟨w8,hw8⟩:∃W,W=(w7.setCell ⟨q,2,none⟩ (.int .i64 ((ln:Int)+1))).setCell ⟨q,3,none⟩ (.int .i64 nx):=⟨_,rfl⟩;rw [←hw8];have uG:Hid (ag (fun g=>g=q) w7 w8):=aa (by rw [hw8];exact((ag.refl (fun g=>g=q) w7).setCell (p:=⟨q,2,none⟩) (fun _=>rfl) _).setCell (p:=⟨q,3,none⟩) (fun _=>rfl) _);have pO:Hid (ai w8 q 265 #[.slice bA bn bc,.int .i64 n,.int .i64 ((ln:Int)+1),.int .i64 nx,CB,x]):=aa (by rw [hw8];exact(lZ.set_ 2 _).set_ 3 _);have Xt:q<w5.heap.size:=oO.out.lt;have UX:q2<w5.heap.size:=Dk.out.lt;have hqq:q<q2:=by have:=sS.out;omega
    have KD:Hid (ai w8 q2 57 #[.slice none 0 0,.slice none 0 0]):=aa (Kz.chg uG (fun e=>by have e:q2=q:=e;omega));have Aq:Hid (ai w8 x5 57 #[.slice K kn kc,.slice V vn vc]):=aa (KA.chg uG (fun e=>by have e:x5=q:=e;have:=oN.out;omega));have KE:=aa (aF KB uG (fun g hg e=>by have e:g=q:=e;exact Kv (by rw [hg,e])));have l5:Hid (SB w8 (fun g=>w5.heap.size≤g∧g≠x5) (.slice K kn kc) ky∧SB w8 (fun g=>w5.heap.size≤g∧g≠x5) (.slice V vn vc) va):=aa ⟨Ap.1.chg uG (fun g hg e=>by have e:g=q:=e;have:=hg.1;omega),Ap.2.chg uG (fun g hg e=>by have e:g=q:=e;have:=hg.1;omega)⟩;have jy:=aa (dm K kn kc _ ky w8 l5.1.parts.2.2.2 l5.1.parts.2.2.1 (by have h1:=l5.out.1.parts.2.2.1;have h2:=EW.out.k2;have h3:=lu.out;rw [←h3] at h2;omega));have y0:w8.cell? ⟨x5,0,none⟩=some (.slice K kn kc):=Aq.out.cell 0;clear z2 z3 Do TV hw8;go_upto_region 14 with(go_at_call 23;go_loud (refine jy.mono ?_);rintro e w9 ⟨L,Ar,Au,rfl,hv1,hv2,hv3,hv4,hv5⟩;have HL:Hid (SB w9 (From w8.heap.size) (.slice L Ar Au) ky):=aa ((SB.mk hv1 hv2 hv3.out hv4).weak (fun g hg=>hg.1));have xm:=aa hv5;have z4:w9.cell? ⟨q,4,none⟩=some CB:=(pO.out.below hv5).cell 4;have UY:=(pO.out.below hv5).frozen 4;clear hv1 hv2 hv3 hv4 hv5)
    obtain⟨jV,l6⟩:∃W,W=w9.setCell ⟨q,4,none⟩ (.slice L Ar Au):=⟨_,rfl⟩;rw [←l6];have jW:Hid (ag (fun g=>g=q) w8 jV):=aa (by rw [l6];exact((ag.of_below (S:=fun g=>g=q) xm).setCell (p:=⟨q,4,none⟩) (fun _=>rfl) _));have Aw:Hid (ai jV q 265 #[.slice bA bn bc,.int .i64 n,.int .i64 ((ln:Int)+1),.int .i64 nx,.slice L Ar Au,x]):=aa (by rw [l6];exact(pO.below xm).set_ 4 _);have Ay:Hid (SB jV (From w8.heap.size) (.slice L Ar Au) ky):=aa (by rw [l6];exact HL.chg (ag.set1 w9 q 4 _) (fun g hg e=>by have e:g=q:=e;have h1:w8.heap.size≤g:=hg;have h2:=pO.out.lt;omega));have gB:=KD.out.chg jW (fun e=>by have e:q2=q:=e;omega);have l7:=Aq.out.chg jW (fun e=>by have e:x5=q:=e;have:=oN.out;omega);have y0':jV.cell? ⟨x5,0,none⟩=some (.slice K kn kc):=l7.cell 0;have y1':jV.cell? ⟨x5,1,none⟩=some (.slice V vn vc):=l7.cell 1;have u0:jV.cell? ⟨q2,0,none⟩=some (.slice none 0 0):=gB.cell 0;have u1:jV.cell? ⟨q2,1,none⟩=some (.slice none 0 0):=gB.cell 1;have uf0:=gB.frozen 0;have uf1:=gB.frozen 1;have Az:=aa gB;clear y0 z4 UY gB l7 l6;go_wp2;have AA:=(Az.out.set_ 0 (.slice K kn kc)).set_ 1 (.slice V vn vc);have v0:((jV.setCell ⟨q2,0,none⟩ (.slice K kn kc)).setCell ⟨q2,1,none⟩ (.slice V vn vc)).cell? ⟨q2,0,none⟩=some (.slice K kn kc):=AA.cell 0;have v1:((jV.setCell ⟨q2,0,none⟩ (.slice K kn kc)).setCell ⟨q2,1,none⟩ (.slice V vn vc)).cell? ⟨q2,1,none⟩=some (.slice V vn vc):=AA.cell 1;have iI:ag (fun g=>g=q2) jV ((jV.setCell ⟨q2,0,none⟩ (.slice K kn kc)).setCell ⟨q2,1,none⟩ (.slice V vn vc)):=((ag.refl (fun g=>g=q2) jV).setCell (p:=⟨q2,0,none⟩) (fun _=>rfl) _).setCell (p:=⟨q2,1,none⟩) (fun _=>rfl) _;refine bodyPost_ret (v:= .agg #[.slice K kn kc,.slice V vn vc]) (by simp [results,results138,go_sem,v0,v1]) rfl ?_;rw [HR.out];obtain⟨w11,KF⟩:∃W,W=(jV.setCell ⟨q2,0,none⟩ (.slice K kn kc)).setCell ⟨q2,1,none⟩ (.slice V vn vc):=⟨_,rfl⟩;rw [←KF] at iI⊢;have hxl:=fun g (hg:x.ownBlock=some g)=>(ah Rm g hg).2
    have KG:x.ownBlock≠some q2:=fun e=>by
     rcases HX.out q2 e with e|e
     ·have h1:=(ah HH.own q2 e).2;have h2:=sS.out;omega
     ·have h1:=wD.out.lt;omega
    have UZ:w5.heap.size≤w8.heap.size:=by have h1:=lg.out.size;have h2:=iE.out.size;have h3:=uG.out.size;omega
    refine⟨((KC.out.trans uG (fun g _ e=> .inl e)).trans jW (fun g _ e=> .inl e)).trans iI (fun g hg e=>by have e:g=q2:=e;have h2:=sS.out;omega),fun h=> ?_,fun _ h=> ?_,fun _ _=>⟨K,kn,kc,V,vn,vc,.slice L Ar Au,x,rfl,⟨?_,?_,?_,?_,Kv⟩,?_,?_,?_,?_⟩⟩
    ·rw [pq.out] at h;exact absurd jR.out.symm h
    ·rw [pq.out,←lu.out] at h;exact absurd h Dm
    ·have h1:=Aw.out.chg iI (fun e=>by have e:q=q2:=e;omega);rw [pq.out,←zm.out,List.length_append,List.length_singleton,←jv.out]
     exact h1
    ·intro h;simp at h
    ·rw [gG,pq.out,←lu.out]
     exact(Ay.chg iI (fun g hg e=>by have e:g=q2:=e;have hg:w8.heap.size≤g:=hg;omega)).weak (fun g hg=>by have hg:w8.heap.size≤g:=hg;exact⟨by have:=xq.out.size;omega,fun e=>by have:=hxl g e;omega,by omega⟩)
    ·exact aF (aF KE jW (fun g hg e=>by have e:g=q:=e;exact Kv (by rw [hg,e]))) iI (fun g hg e=>by have e:g=q2:=e;exact KG (by rw [hg,e]))
    ·rw [pq.out,←lu.out]
     exact(Ay.chg iI (fun g hg e=>by have e:g=q2:=e;have hg:w8.heap.size≤g:=hg;omega)).weak (fun g hg=>by have hg:w8.heap.size≤g:=hg;exact⟨by have:=xq.out.size;omega,fun e=>by have:=hxl g e;omega⟩)
    ·rw [pq.out,←lu.out]
     exact((l5.1.chg jW (fun g hg e=>by have e:g=q:=e;have:=hg.1;omega)).chg iI (fun g hg e=>by have e:g=q2:=e;have:=hg.1;omega)).weak (fun g hg=>⟨by have h1:=hg.1;have h2:=xq.out.size;omega,fun e=>by have h1:=hg.1;have:=hxl g e;omega⟩)
    ·rw [pq.out,←Oa.out]
     exact((l5.2.chg jW (fun g hg e=>by have e:g=q:=e;have:=hg.1;omega)).chg iI (fun g hg e=>by have e:g=q2:=e;have:=hg.1;omega)).weak (fun g hg=>⟨by have h1:=hg.1;have h2:=xq.out.size;omega,fun e=>by have h1:=hg.1;have:=hxl g e;omega⟩)
    ·intro g hg
     rcases HX.out g hg with e|e
     ·exact .inl e
     ·exact .inr (by have:=TX.out;omega)
 ·have YG:(er==0)=false:=by rw [beq_eq_false_iff_ne];exact e0
  have pI:Hid (r.err≠0):=aa (by rw [←jR.out];exact e0);go_wp2;refine⟨rfl,?_⟩;rw [HR.out]
  refine⟨iW,fun _=> ?_,fun h=> ?_,fun h=> ?_⟩
  ·rw [pq.out,←jR.out,←zm.out];rfl
  ·rw [pq.out] at h;exact absurd h pI
  ·rw [pq.out] at h;exact absurd h pI
theorem Ob (F:Nat→Prop) (base q:Nat) (bA:Option Addr) (bn bc n:Nat) (b:List UInt8) (l:List aH) (ats:List Nat) (p:Nat) (lv rv:Value) (w:World) (h:BR w base q bA bn bc n l ats p lv rv) (hb:Rd w F 1 bA bn (aK b)) (hbn:bn=b.length) (hbc:bn≤bc) (hF:∀g,F g→g<base) (hq:base≤q) (hr:bu l) (ha:ats.length=l.length) (hl:l.length≤63) (hp:p≤bn) (hm:bn≤1152921504606) (hre:¬l.length%8=0):
  Calls prog 138 #[.pointer (some ⟨q,0,none⟩)] w (rZ base q bA bn bc n b l ats p rv w):=by
 refine letter fun R HR=> ?_;obtain⟨ln,hln⟩:∃ln,ln=l.length:=⟨_,rfl⟩;have jv:=aa hln;rw [←hln] at hre hl;have z2:w.cell? ⟨q,2,none⟩=some (.int .i64 ln):=(h.blk.cell 2).trans (by rw [hln];rfl);obtain⟨lA,Cz,lc,hlv,k1,k2,k3,k4⟩:=h.key;subst hlv;have z4:w.cell? ⟨q,4,none⟩=some (.slice lA Cz lc):=h.blk.cell 4;have YH:((ln:Int)%8==0)=false:=by rw [beq_eq_false_iff_ne];omega
 have UU:¬(ln:Int)%8=0:=by omega
 obtain⟨rn,hrn⟩:∃rn,rn=(eighth ats).length:=⟨_,rfl⟩;have UJ:=aa hrn;have UV:rn≤63:=by have:=kJ ats _ (Nat.le_refl _);omega
 obtain⟨rA,rc,UK⟩:∃rA rc,rv= .slice rA rn rc:=by obtain⟨A,c,e,_,_⟩:=ay h.own;exact⟨A,c,by rw [e,hrn]⟩
 subst UK;have HH:=aa h;have ER:=aa hb;have xk:=aa hbn;have HF:=aa hF;have Fa:=aa hr;have HAT:=aa ha;have jw:=aa k3;have lH:=aa k4;have Gq:=h.blk.lt;have YI:Hid (aQ l=aD l):=aa (Gp (by rw [←hln];exact hre));clear h hb hbn hF hr ha hln k3 k4 hrn;go_enter func138,ntmps138
 go_upto_region 5 with fail
 obtain⟨q2,hq2⟩:∃q2,q2=w.heap.size:=⟨_,rfl⟩;obtain⟨wa,lG⟩:∃W,W=w.alloc (.cells #[.slice none 0 0,.slice none 0 0] 57):=⟨_,rfl⟩;simp only [←lG,←hq2];have sS:=aa hq2;have kY:Hid (Below w.heap.size w wa):=aa (by rw [lG];exact(Below.refl _ _).alloc (Nat.le_refl _) _);have wD:Hid (ai wa q2 57 #[.slice none 0 0,.slice none 0 0]):=aa (by rw [lG,hq2];exact ai.new _ _ _);clear lG hq2 z2 z4;obtain⟨x,hx⟩:∃x,x=Value.slice rA rn rc:=⟨_,rfl⟩;have HXE:=aa hx;have xq:Hid (ag (fun g=>g=q∨(Value.slice rA rn rc).ownBlock=some g) w wa):=aa (ag.of_below kY);have HX:Hid (∀g,x.ownBlock=some g→(Value.slice rA rn rc).ownBlock=some g∨wa.heap.size≤g):=aa (fun g hg=> .inl (hx▸hg));have TX:Hid (w.heap.size<wa.heap.size):=aa (by have h1:=wD.out.lt;have h2:=sS.out;omega);have Kv:Hid (x.ownBlock≠some q):=aa (by rw [hx];exact HH.ne)
 have oO:Hid (ai wa q 265 #[.slice bA bn bc,.int .i64 n,.int .i64 ln,.int .i64 p,.slice lA Cz lc,x]):=aa (by
  have h1:=HH.out.blk.below kY;rw [←jv.out] at h1;rw [hx];exact h1)
 have Rm:Hid (wa.ownsRow base 3 1 x (eighth (ats++ [p])).length (Al (eighth (ats++ [p])))):=aa (by
  rw [r9 _ ats p (Nat.le_refl _),if_neg (by have:=HAT.out;have:=jv.out;omega),hx];exact own_below HH.own kY)
 have Np:Hid (SB wa (fun g=>base≤g∧g<w.heap.size∧x.ownBlock≠some g∧g≠q) (.slice lA Cz lc) (aD l)):=aa (((SB.mk k1 k2 jw lH).lt.below kY).weak (fun g hg=>⟨hg.1.1,hg.2,by rw [hx];exact hg.1.2.1,hg.1.2.2⟩));have fO:Hid (Rd wa F 1 bA bn (aK b)):=aa (ER.below kY);have Dk:=wD;clear hx;obtain⟨w5,jg⟩:∃W,W=wa:=⟨_,rfl⟩;rw [←jg] at xq oO Rm Np fO Dk⊢;clear jg;have Qf:Hid (0<l.length):=aa (by have h1:=jv.out;omega)
 have ai5:Cz≤64:=by
  obtain⟨e,he,hk⟩:=pP Qf;have h1:=(dC Fa he).2.1;have h2:=jw.out;rw [hk] at h2;omega
 go_upto_region 6 with fail
 refine E9 (fun g=>g<w.heap.size) q p lA bA Cz lc bn bc (aD l) b _ _ _ _ w5 _ (aa (fun _ _ _ _ h=>h)) oO (aa (Np.parts.2.2.2.weak (fun g hg=>hg.2.1))) jw k1 (aa (fO.weak (fun g hg=>by have h1:=HF.out g hg;show g<w.heap.size;omega))) xk hbc hp (by omega) hm k2 (aa (fun g hg=>Nat.lt_of_lt_of_le hg xq.size)) ?_;intro v32 v33 v34 v35 v36 v37 v38 v39 v40 v41 v42 v43 v44 v45 x5 K kn kc V vn vc w6 hx5 hk5 Fe hb6;obtain⟨r,hr⟩:∃r,r=pread (aD l) b p:=⟨_,rfl⟩;have pq:Hid (pread (aQ l) b p=r):=aa (by rw [YI.out,hr]);rw [←hr] at Fe⊢;obtain⟨er,jf⟩:∃er,er=r.err:=⟨_,rfl⟩;obtain⟨nx,hnx⟩:∃nx,nx=r.next:=⟨_,rfl⟩;obtain⟨ky,Dl⟩:∃ky,ky=r.key:=⟨_,rfl⟩;obtain⟨va,hva⟩:∃va,va=r.val:=⟨_,rfl⟩;have Qc:Hid (r.err=0→yo (aD l) b r):=aa (fun h0=>by rw [hr] at h0⊢;exact lY (by have:=xk.out;omega) h0);rw [←jf,←Dl,←hva] at Fe;rw [←jf,←hnx];have jR:=aa jf;have zm:=aa hnx;have N7:=aa Fe;have oN:=aa hx5;have lg:=aa hb6;have iW:Hid (ag (fun g=>g=q∨(Value.slice rA rn rc).ownBlock=some g) w w6):=aa (xq.then hb6);have yt:Hid (ai w6 q 265 #[.slice bA bn bc,.int .i64 n,.int .i64 ln,.int .i64 p,.slice lA Cz lc,x]):=aa (oO.below hb6);have N8:Hid (ai w6 q2 57 #[.slice none 0 0,.slice none 0 0]):=aa (Dk.below hb6);have Kw:=aa hk5;have UW:=aa (Np.below hb6);have N9:=aa (own_below Rm hb6);have lu:=aa Dl;have Oa:=aa hva;clear hr jf hnx Dl hva Fe hx5 hk5 hb6
 by_cases e0:er=0
 ·subst e0;obtain⟨CB,Ky⟩:∃CB,CB=Value.slice lA Cz lc:=⟨_,rfl⟩;have Ff:Hid (ai w6 q 265 #[.slice bA bn bc,.int .i64 n,.int .i64 ln,.int .i64 p,CB,x]):=aa (by rw [Ky];exact yt);clear Ky;have EW:=aa (Qc jR.out.symm)
  have Dm:Hid (¬(0<l.length∧0≤compareBytes (aD l) ky)):=aa (fun h=>by
   have hkk:1≤(aD l).length:=by
    obtain⟨e,he,hk⟩:=pP Qf;rw [hk];exact(dC Fa he).1
   have h1:=EW.out.lt (by omega);rw [←lu.out] at h1;have:=h.2;omega)
  go_upto_region 9 with fail
  go_quiet (fail);obtain⟨w7,hw7⟩:∃W,W=w6.drewN nq:=⟨_,rfl⟩;rw [←hw7];have iE:Hid (ag Nil w6 w7):=aa (by rw [hw7];exact(ag.refl Nil w6).drewN _);have lZ:Hid (ai w7 q 265 #[.slice bA bn bc,.int .i64 n,.int .i64 ln,.int .i64 p,CB,x]):=aa (Ff.chg iE (fun h=>h));have Kz:Hid (ai w7 q2 57 #[.slice none 0 0,.slice none 0 0]):=aa (N8.chg iE (fun h=>h));have KA:Hid (ai w7 x5 57 #[.slice K kn kc,.slice V vn vc]):=aa (Kw.chg iE (fun h=>h));have KB:=aa (aF N9 iE (fun _ _ h=>h));have Ap:Hid (SB w7 (fun g=>w5.heap.size≤g∧g≠x5) (.slice K kn kc) ky∧SB w7 (fun g=>w5.heap.size≤g∧g≠x5) (.slice V vn vc) va):=aa ⟨(N7 rfl).1.chg iE (fun _ _ h=>h),(N7 rfl).2.chg iE (fun _ _ h=>h)⟩;have KC:Hid (ag (fun g=>g=q∨(Value.slice rA rn rc).ownBlock=some g) w w7):=aa (iW.out.trans iE (fun _ _ h=>h.elim));have z2:w7.cell? ⟨q,2,none⟩=some (.int .i64 ln):=lZ.out.cell 2;have z3:w7.cell? ⟨q,3,none⟩=some (.int .i64 p):=lZ.out.cell 3;have Do:=lZ.out.frozen 2;have TV:=lZ.out.frozen 3;clear hw7;go_upto_region 13 with fail
  obtain⟨w8,hw8⟩:∃W,W=(w7.setCell ⟨q,2,none⟩ (.int .i64 ((ln:Int)+1))).setCell ⟨q,3,none⟩ (.int .i64 nx):=⟨_,rfl⟩;rw [←hw8];have uG:Hid (ag (fun g=>g=q) w7 w8):=aa (by rw [hw8];exact((ag.refl (fun g=>g=q) w7).setCell (p:=⟨q,2,none⟩) (fun _=>rfl) _).setCell (p:=⟨q,3,none⟩) (fun _=>rfl) _);have pO:Hid (ai w8 q 265 #[.slice bA bn bc,.int .i64 n,.int .i64 ((ln:Int)+1),.int .i64 nx,CB,x]):=aa (by rw [hw8];exact(lZ.set_ 2 _).set_ 3 _);have Xt:q<w5.heap.size:=oO.out.lt;have UX:q2<w5.heap.size:=Dk.out.lt;have hqq:q<q2:=by have:=sS.out;omega
  have KD:Hid (ai w8 q2 57 #[.slice none 0 0,.slice none 0 0]):=aa (Kz.chg uG (fun e=>by have e:q2=q:=e;omega));have Aq:Hid (ai w8 x5 57 #[.slice K kn kc,.slice V vn vc]):=aa (KA.chg uG (fun e=>by have e:x5=q:=e;have:=oN.out;omega));have KE:=aa (aF KB uG (fun g hg e=>by have e:g=q:=e;exact Kv (by rw [hg,e])));have l5:Hid (SB w8 (fun g=>w5.heap.size≤g∧g≠x5) (.slice K kn kc) ky∧SB w8 (fun g=>w5.heap.size≤g∧g≠x5) (.slice V vn vc) va):=aa ⟨Ap.1.chg uG (fun g hg e=>by have e:g=q:=e;have:=hg.1;omega),Ap.2.chg uG (fun g hg e=>by have e:g=q:=e;have:=hg.1;omega)⟩;have jy:=aa (dm K kn kc _ ky w8 l5.1.parts.2.2.2 l5.1.parts.2.2.1 (by have h1:=l5.out.1.parts.2.2.1;have h2:=EW.out.k2;have h3:=lu.out;rw [←h3] at h2;omega));have y0:w8.cell? ⟨x5,0,none⟩=some (.slice K kn kc):=Aq.out.cell 0;clear z2 z3 Do TV hw8;go_upto_region 14 with(go_at_call 23;go_loud (refine jy.mono ?_);rintro e w9 ⟨L,Ar,Au,rfl,hv1,hv2,hv3,hv4,hv5⟩;have HL:Hid (SB w9 (From w8.heap.size) (.slice L Ar Au) ky):=aa ((SB.mk hv1 hv2 hv3.out hv4).weak (fun g hg=>hg.1));have xm:=aa hv5;have z4:w9.cell? ⟨q,4,none⟩=some CB:=(pO.out.below hv5).cell 4;have UY:=(pO.out.below hv5).frozen 4;clear hv1 hv2 hv3 hv4 hv5)
  obtain⟨jV,l6⟩:∃W,W=w9.setCell ⟨q,4,none⟩ (.slice L Ar Au):=⟨_,rfl⟩;rw [←l6];have jW:Hid (ag (fun g=>g=q) w8 jV):=aa (by rw [l6];exact((ag.of_below (S:=fun g=>g=q) xm).setCell (p:=⟨q,4,none⟩) (fun _=>rfl) _));have Aw:Hid (ai jV q 265 #[.slice bA bn bc,.int .i64 n,.int .i64 ((ln:Int)+1),.int .i64 nx,.slice L Ar Au,x]):=aa (by rw [l6];exact(pO.below xm).set_ 4 _);have Ay:Hid (SB jV (From w8.heap.size) (.slice L Ar Au) ky):=aa (by rw [l6];exact HL.chg (ag.set1 w9 q 4 _) (fun g hg e=>by have e:g=q:=e;have h1:w8.heap.size≤g:=hg;have h2:=pO.out.lt;omega));have gB:=KD.out.chg jW (fun e=>by have e:q2=q:=e;omega);have l7:=Aq.out.chg jW (fun e=>by have e:x5=q:=e;have:=oN.out;omega);have y0':jV.cell? ⟨x5,0,none⟩=some (.slice K kn kc):=l7.cell 0;have y1':jV.cell? ⟨x5,1,none⟩=some (.slice V vn vc):=l7.cell 1;have u0:jV.cell? ⟨q2,0,none⟩=some (.slice none 0 0):=gB.cell 0;have u1:jV.cell? ⟨q2,1,none⟩=some (.slice none 0 0):=gB.cell 1;have uf0:=gB.frozen 0;have uf1:=gB.frozen 1;have Az:=aa gB;clear y0 z4 UY gB l7 l6;go_wp2;have AA:=(Az.out.set_ 0 (.slice K kn kc)).set_ 1 (.slice V vn vc);have v0:((jV.setCell ⟨q2,0,none⟩ (.slice K kn kc)).setCell ⟨q2,1,none⟩ (.slice V vn vc)).cell? ⟨q2,0,none⟩=some (.slice K kn kc):=AA.cell 0;have v1:((jV.setCell ⟨q2,0,none⟩ (.slice K kn kc)).setCell ⟨q2,1,none⟩ (.slice V vn vc)).cell? ⟨q2,1,none⟩=some (.slice V vn vc):=AA.cell 1;have iI:ag (fun g=>g=q2) jV ((jV.setCell ⟨q2,0,none⟩ (.slice K kn kc)).setCell ⟨q2,1,none⟩ (.slice V vn vc)):=((ag.refl (fun g=>g=q2) jV).setCell (p:=⟨q2,0,none⟩) (fun _=>rfl) _).setCell (p:=⟨q2,1,none⟩) (fun _=>rfl) _;refine bodyPost_ret (v:= .agg #[.slice K kn kc,.slice V vn vc]) (by simp [results,results138,go_sem,v0,v1]) rfl ?_;rw [HR.out];obtain⟨w11,KF⟩:∃W,W=(jV.setCell ⟨q2,0,none⟩ (.slice K kn kc)).setCell ⟨q2,1,none⟩ (.slice V vn vc):=⟨_,rfl⟩;rw [←KF] at iI⊢;have hxl:=fun g (hg:x.ownBlock=some g)=>(ah Rm g hg).2
  have KG:x.ownBlock≠some q2:=fun e=>by
   rcases HX.out q2 e with e|e
   ·have h1:=(ah HH.own q2 e).2;have h2:=sS.out;omega
   ·have h1:=wD.out.lt;omega
  have UZ:w5.heap.size≤w8.heap.size:=by have h1:=lg.out.size;have h2:=iE.out.size;have h3:=uG.out.size;omega
  refine⟨((KC.out.trans uG (fun g _ e=> .inl e)).trans jW (fun g _ e=> .inl e)).trans iI (fun g hg e=>by have e:g=q2:=e;have h2:=sS.out;omega),fun h=> ?_,fun _ h=> ?_,fun _ _=>⟨K,kn,kc,V,vn,vc,.slice L Ar Au,x,rfl,⟨?_,?_,?_,?_,Kv⟩,?_,?_,?_,?_⟩⟩
  ·rw [pq.out] at h;exact absurd jR.out.symm h
  ·rw [pq.out,←lu.out] at h;exact absurd h Dm
  ·have h1:=Aw.out.chg iI (fun e=>by have e:q=q2:=e;omega);rw [pq.out,←zm.out,List.length_append,List.length_singleton,←jv.out]
   exact h1
  ·intro h;simp at h
  ·rw [gG,pq.out,←lu.out]
   exact(Ay.chg iI (fun g hg e=>by have e:g=q2:=e;have hg:w8.heap.size≤g:=hg;omega)).weak (fun g hg=>by have hg:w8.heap.size≤g:=hg;exact⟨by have:=xq.out.size;omega,fun e=>by have:=hxl g e;omega,by omega⟩)
  ·exact aF (aF KE jW (fun g hg e=>by have e:g=q:=e;exact Kv (by rw [hg,e]))) iI (fun g hg e=>by have e:g=q2:=e;exact KG (by rw [hg,e]))
  ·rw [pq.out,←lu.out]
   exact(Ay.chg iI (fun g hg e=>by have e:g=q2:=e;have hg:w8.heap.size≤g:=hg;omega)).weak (fun g hg=>by have hg:w8.heap.size≤g:=hg;exact⟨by have:=xq.out.size;omega,fun e=>by have:=hxl g e;omega⟩)
  ·rw [pq.out,←lu.out]
   exact((l5.1.chg jW (fun g hg e=>by have e:g=q:=e;have:=hg.1;omega)).chg iI (fun g hg e=>by have e:g=q2:=e;have:=hg.1;omega)).weak (fun g hg=>⟨by have h1:=hg.1;have h2:=xq.out.size;omega,fun e=>by have h1:=hg.1;have:=hxl g e;omega⟩)
  ·rw [pq.out,←Oa.out]
   exact((l5.2.chg jW (fun g hg e=>by have e:g=q:=e;have:=hg.1;omega)).chg iI (fun g hg e=>by have e:g=q2:=e;have:=hg.1;omega)).weak (fun g hg=>⟨by have h1:=hg.1;have h2:=xq.out.size;omega,fun e=>by have h1:=hg.1;have:=hxl g e;omega⟩)
  ·intro g hg
   rcases HX.out g hg with e|e
   ·exact .inl e
   ·exact .inr (by have:=TX.out;omega)
 ·have YG:(er==0)=false:=by rw [beq_eq_false_iff_ne];exact e0
  have pI:Hid (r.err≠0):=aa (by rw [←jR.out];exact e0);go_wp2;refine⟨rfl,?_⟩;rw [HR.out]
  refine⟨iW,fun _=> ?_,fun h=> ?_,fun h=> ?_⟩
  ·rw [pq.out,←jR.out,←zm.out];rfl
  ·rw [pq.out] at h;exact absurd h pI
  ·rw [pq.out] at h;exact absurd h pI
theorem Gf (F:Nat→Prop) (base q:Nat) (bA:Option Addr) (bn bc n:Nat) (b:List UInt8) (l:List aH) (ats:List Nat) (p:Nat) (lv rv:Value) (w:World) (h:BR w base q bA bn bc n l ats p lv rv) (hb:Rd w F 1 bA bn (aK b)) (hbn:bn=b.length) (hbc:bn≤bc) (hF:∀g,F g→g<base) (hq:base≤q) (hr:bu l) (ha:ats.length=l.length) (hl:l.length≤63) (hp:p≤bn) (hm:bn≤1152921504606):
  Calls prog 138 #[.pointer (some ⟨q,0,none⟩)] w (rZ base q bA bn bc n b l ats p rv w):=by
 by_cases hre:l.length%8=0
 ·exact NZ F base q bA bn bc n b l ats p lv rv w h hb hbn hbc hF hq hr ha hl hp hm hre
 ·exact Ob F base q bA bn bc n b l ats p lv rv w h hb hbn hbc hF hq hr ha hl hp hm hre
end
end Go.Proofs.YtbjgeidjmhialaaGreatDoor
