/- Part 14. -/
import Derived.Test.YtepgcjbhabnciaaGreatLe13
namespace Go.Proofs.YtepgcjbhabnciaaGreat
set_option maxRecDepth 100000
set_option maxHeartbeats 8000000
open Go.Proofs.Tryz Go.RowKit
open Go.Lib (compareBytes)
variable {l:List aK}
structure sQ (base q:Nat) (bA:Option Addr) (bn bc n:Nat) (b:List UInt8) (l:List aK) (ats:List Nat) (p:Nat) (rv:Value) (w:World) (e:Ending) (w':World):Prop where
 chg:ag (fun g=>g=q\/rv.ownBlock=some g) w w'
 bad:(pread (aP l) b p).err≠0->e= .panicked (fw (pread (aP l) b p).err (pread (aP l) b p).next)
 ord:(pread (aP l) b p).err=0->(0<l.length/\0<=compareBytes (az l) (pread (aP l) b p).key)->e= .panicked (fw 51 p)
 ok:(pread (aP l) b p).err=0->¬(0<l.length/\0<=compareBytes (az l) (pread (aP l) b p).key)->∃K kn kc V vn vc zS rv',e= .returned (.agg #[.slice K kn kc,.slice V vn vc])/\
  BR w' base q bA bn bc n (l++ [((pread (aP l) b p).key,(pread (aP l) b p).val)]) (ats++ [p]) (pread (aP l) b p).next zS rv'/\SB w' (fun g=>w.heap.size<=g/\rv'.ownBlock≠some g) zS (pread (aP l) b p).key/\
  SB w' (fun g=>w.heap.size<=g/\rv'.ownBlock≠some g) (.slice K kn kc) (pread (aP l) b p).key/\SB w' (fun g=>w.heap.size<=g/\rv'.ownBlock≠some g) (.slice V vn vc) (pread (aP l) b p).val/\
  (∀g,rv'.ownBlock=some g->rv.ownBlock=some g\/w.heap.size<=g)
theorem yN (h:l.length%8=0):aP l= []:=by unfold aP;rw [if_pos h]
theorem yO (h:¬l.length%8=0):aP l=az l:=by unfold aP;rw [if_neg h]
theorem PV (F:Nat->Prop) (base q:Nat) (bA:Option Addr) (bn bc n:Nat) (b:List UInt8) (l:List aK) (ats:List Nat) (p:Nat) (lv rv:Value) (w:World) (h:BR w base q bA bn bc n l ats p lv rv) (hb:Rd w F 1 bA bn (aF b)) (t:bn=b.length) (D:bn<=bc) (z:∀g,F g->g<base) (hq:base<=q) (Q:bH l) (ha:ats.length=l.length) (hl:l.length<=63) (Y:p<=bn) (hm:bn<=1152921504606) (a4:l.length%8=0):
  Calls prog 174 #[.pointer (some ⟨q,0,none⟩)] w (sQ base q bA bn bc n b l ats p rv w):=by
 refine letter fun R HR=> ?_;obtain⟨O,ad⟩:∃O,O=l.length:=⟨_,rfl⟩;have eu:=aa ad;rw [<-ad] at a4 hl;have z2:w.cell? ⟨q,2,none⟩=some (.int .i64 O):=(h.blk.cell 2).trans (by rw [ad];rfl);obtain⟨lA,Ew,lc,ba,k1,k2,k3,k4⟩:=h.key;subst ba;have z4:w.cell? ⟨q,4,none⟩=some (.slice lA Ew lc):=h.blk.cell 4;have bp:((O:Int)%8==0)=true:=by rw [beq_iff_eq];omega
 have YH:(O:Int)%8=0:=by omega
 obtain⟨rn,aE⟩:∃rn,rn=(eighth ats).length:=⟨_,rfl⟩;have YB:=aa aE;have YI:rn<=63:=by have:=lS ats _ (Nat.le_refl _);omega
 obtain⟨rA,rc,YC⟩:∃rA rc,rv= .slice rA rn rc:=by obtain⟨A,c,e,_,_⟩:=au h.own;exact⟨A,c,by rw [e,aE]⟩
 subst YC;have HH:=aa h;have oG:=aa hb;have jN:=aa t;have HF:=aa z;have Lu:=aa Q;have a6:=aa ha;have ma:=aa k3;have tY:=aa k4;have BL:=h.blk.lt;have YJ:Hid (aP l= []):=aa (yN (by rw [<-ad];exact a4));clear h hb t z Q ha ad k3 k4 aE;go_enter func174,ntmps174
 go_upto_region 5 with fail
 obtain⟨d,aq⟩:∃d,d=w.heap.size:=⟨_,rfl⟩;obtain⟨wa,mh⟩:∃W,W=w.alloc (.cells #[.slice none 0 0,.slice none 0 0] 69):=⟨_,rfl⟩;simp only [<-mh,<-aq];have tZ:=aa aq;have iw:Hid (Below w.heap.size w wa):=aa (by rw [mh];exact(Below.refl _ _).alloc (Nat.le_refl _) _);have Eu:Hid (aj wa d 69 #[.slice none 0 0,.slice none 0 0]):=aa (by rw [mh,aq];exact aj.new _ _ _);clear mh aq z2 z4;refine PT base q p rA rn rc (mo (eighth ats)) _ _ _ _ wa _ (aa (fun _ _ _ _ h=>h)) (aa (HH.blk.below iw)) (aa (own_below (by have:=HH.out.own;rw [<-YB.out] at this;exact this) iw)) HH.ne (by omega) (by have:=iw.out.size;omega) ?_;intro bx bB bE bK bL bM bN bO bP bQ bX bY bZ x wb wc ac ar ap a1;obtain⟨E,gq⟩:∃W,W=wc.setCell ⟨q,5,none⟩ x:=⟨_,rfl⟩;rw [<-gq];have d9:=aa ac
 have yP:Hid (ag (fun g=>g=q\/(Value.slice rA rn rc).ownBlock=some g) w E):=aa (by
  rw [gq];refine((ag.of_below (iw.out.trans (ac.mono iw.size))).trans ((ag.of_grown ap).mono (T:=fun g=>g=q\/(Value.slice rA rn rc).ownBlock=some g) (fun g _ e=> .inr e)) (fun _ _ h=>h)).setCell (p:=⟨q,5,none⟩) (fun _=> .inl rfl) _)
 have HX:Hid (∀g,x.ownBlock=some g->(Value.slice rA rn rc).ownBlock=some g\/wa.heap.size<=g):=aa (fun g a=>by
  rcases a1 with e|e
  ·exact .inl (e▸a)
  ·right;rw [e] at a;injection a with a;have f:=ac.size;omega)
 have XV:Hid (w.heap.size<wa.heap.size):=aa (by have f:=Eu.out.lt;have H:=tZ.out;omega)
 have Ms:Hid (x.ownBlock≠some q):=aa (fun e=>by
  rcases HX.out q e with e|e
  ·exact HH.ne e
  ·have:=XV.out;omega)
 have pq:Hid (aj E q 295 #[.slice bA bn bc,.int .i64 n,.int .i64 O,.int .i64 p,.slice lA Ew lc,x]):=aa (by
  rw [gq];have f:=((HH.blk.below (iw.out.trans (ac.mono iw.size))).chg (ag.of_grown ap) HH.ne).set_ 5 x;rw [<-eu.out] at f;exact f)
 have Ut:Hid (E.ownsRow base 3 1 x (eighth (ats++ [p])).length (mo (eighth (ats++ [p])))):=aa (by
  rw [gq,sS _ ats p (Nat.le_refl _),if_pos (by have:=a6.out;have:=eu.out;omega),List.length_append,List.length_singleton,<-YB.out];have f:=aD ar ((ag.refl (fun g=>g=q) wc).setCell (p:=⟨q,5,none⟩) (fun _=>rfl) x) (fun g a e=>Ms (by rw [a,e]));simpa [mo] using f)
 have Pj:Hid (SB E (fun g=>base<=g/\g<w.heap.size/\x.ownBlock≠some g/\g≠q) (.slice lA Ew lc) (az l)):=aa (by
  have f:=(SB.mk k1 k2 ma tY).lt;refine(f.chg yP (fun g a e=>by rcases e with e|e;exact a.1.2.2 e;exact a.1.2.1 e)).weak (fun g a=>⟨a.1.1,a.2,fun e=> ?_,a.1.2.2⟩)
  rcases HX.out g e with e|e
  ·exact a.1.2.1 e
  ·have f:=a.2;have H:=XV.out;omega)
 have eG:Hid (Rd E F 1 bA bn (aF b)):=aa (oG.chg yP (fun g a e=>by
  have f:=HF.out g a
  rcases e with e|e
  ·omega
  ·have:=(ah HH.own g e).1;omega))
 have E5:Hid (aj E d 69 #[.slice none 0 0,.slice none 0 0]):=aa (by
  rw [gq];refine(((Eu.below ac).chg (ag.of_grown ap) (fun e=> ?_)).far (p:=⟨q,5,none⟩) (by show¬d=q;have:=tZ.out;omega) _);have f:=(ah HH.own d e).2;have H:=tZ.out;omega)
 clear ac ar ap a1 gq;go_upto_region 6 with fail
 refine Ih F q p none bA 0 0 bn bc [] b _ _ _ _ E _ (aa (fun _ _ _ _ h=>h)) pq (aa (Rd.none_ _ _ _ _)) (aa rfl) (Nat.le_refl _) eG jN D Y (by omega) hm (by simp [maxLen]) (aa (fun g a=>by have f:=HF.out g a;have H:=yP.out.size;omega)) ?_;intro b0 b1 b2 b3 b4 b5 b6 b7 b8 b9 ca cb cd cf B K k j V y u Z a5 a2 yQ ab;obtain⟨r,Q⟩:∃r,r=pread [] b p:=⟨_,rfl⟩;have N:Hid (pread (aP l) b p=r):=aa (by rw [YJ.out,Q]);rw [<-Q] at yQ|-;obtain⟨er,dU⟩:∃er,er=r.err:=⟨_,rfl⟩;obtain⟨nx,aA⟩:∃nx,nx=r.next:=⟨_,rfl⟩;obtain⟨X,E6⟩:∃X,X=r.key:=⟨_,rfl⟩;obtain⟨va,a0⟩:∃va,va=r.val:=⟨_,rfl⟩;have Ct:Hid (r.err=0->uu [] b r):=aa (fun h0=>by rw [Q] at h0|-;exact jq (by have:=jN.out;omega) h0);rw [<-dU,<-E6,<-a0] at yQ;rw [<-dU,<-aA];have fO:=aa dU;have qb:=aa aA;have PW:=aa yQ;have oI:=aa a5;have fT:=aa ab;have dV:Hid (ag (fun g=>g=q\/(Value.slice rA rn rc).ownBlock=some g) w Z):=aa (yP.then ab);have rP:Hid (aj Z q 295 #[.slice bA bn bc,.int .i64 n,.int .i64 O,.int .i64 p,.slice lA Ew lc,x]):=aa (pq.below ab);have PX:Hid (aj Z d 69 #[.slice none 0 0,.slice none 0 0]):=aa (E5.below ab);have Mt:=aa a2;have YK:=aa (Pj.below ab);have PY:=aa (own_below Ut ab);have mq:=aa E6;have PZ:=aa a0;clear Q dU aA E6 a0 yQ a5 a2 ab
 by_cases e0:er=0
 ·subst e0;obtain⟨Ex,Mv⟩:∃Ex,Ex=Value.slice lA Ew lc:=⟨_,rfl⟩;have Ik:Hid (aj Z q 295 #[.slice bA bn bc,.int .i64 n,.int .i64 O,.int .i64 p,Ex,x]):=aa (by rw [Mv];exact rP);clear Mv;have Ls:=aa (Ct fO.out.symm);have a3:=rP.out.cell 4;have z4:Z.cell? ⟨q,4,none⟩=some (.slice lA Ew lc):=a3;have y0:Z.cell? ⟨B,0,none⟩=some (.slice K k j):=Mt.out.cell 0;clear a3
  by_cases l0:l= []
  ·have a8:=HH.out.lst l0;injection a8 with e1 e2 e3
   subst e1;subst e2;subst e3;have ae:=fun w'=>run_neq_slice_nil_any (P:=prog) w' 24 5 none 0 0 0 0 underlying24;have mM:Hid (¬(0<l.length/\0<=compareBytes (az l) X)):=aa (fun h=>by rw [l0] at h;exact absurd h.1 (by simp));clear l0;go_upto_region 9 with fail
   go_quiet (fail);obtain⟨s,C⟩:∃W,W=Z.drewN nq:=⟨_,rfl⟩;rw [<-C];clear z4 y0 ae;have G:Hid (ag Nil Z s):=aa (by rw [C];exact(ag.refl Nil Z).drewN _);have lT:Hid (aj s q 295 #[.slice bA bn bc,.int .i64 n,.int .i64 O,.int .i64 p,Ex,x]):=aa (Ik.chg G (fun h=>h));have Mw:Hid (aj s d 69 #[.slice none 0 0,.slice none 0 0]):=aa (PX.chg G (fun h=>h));have Mx:Hid (aj s B 69 #[.slice K k j,.slice V y u]):=aa (Mt.chg G (fun h=>h));have My:=aa (aD PY G (fun _ _ h=>h));have CB:Hid (SB s (fun g=>E.heap.size<=g/\g≠B) (.slice K k j) X/\SB s (fun g=>E.heap.size<=g/\g≠B) (.slice V y u) va):=aa ⟨(PW rfl).1.chg G (fun _ _ h=>h),(PW rfl).2.chg G (fun _ _ h=>h)⟩;have MB:Hid (ag (fun g=>g=q\/(Value.slice rA rn rc).ownBlock=some g) w s):=aa (dV.out.trans G (fun _ _ h=>h.elim));have z2:s.cell? ⟨q,2,none⟩=some (.int .i64 O):=lT.out.cell 2;have z3:s.cell? ⟨q,3,none⟩=some (.int .i64 p):=lT.out.cell 3;have yR:=lT.out.frozen 2;have PS:=lT.out.frozen 3;clear C;go_upto_region 13 with fail
   obtain⟨i,J⟩:∃W,W=(s.setCell ⟨q,2,none⟩ (.int .i64 ((O:Int)+1))).setCell ⟨q,3,none⟩ (.int .i64 nx):=⟨_,rfl⟩;rw [<-J];have oJ:Hid (ag (fun g=>g=q) s i):=aa (by rw [J];exact((ag.refl (fun g=>g=q) s).setCell (p:=⟨q,2,none⟩) (fun _=>rfl) _).setCell (p:=⟨q,3,none⟩) (fun _=>rfl) _);have qd:Hid (aj i q 295 #[.slice bA bn bc,.int .i64 n,.int .i64 ((O:Int)+1),.int .i64 nx,Ex,x]):=aa (by rw [J];exact(lT.set_ 2 _).set_ 3 _);have bb:q<E.heap.size:=pq.out.lt;have YL:d<E.heap.size:=E5.out.lt;have be:q<d:=by have:=tZ.out;omega
   have MC:Hid (aj i d 69 #[.slice none 0 0,.slice none 0 0]):=aa (Mw.chg oJ (fun e=>by have e:d=q:=e;omega));have CE:Hid (aj i B 69 #[.slice K k j,.slice V y u]):=aa (Mx.chg oJ (fun e=>by have e:B=q:=e;have:=oI.out;omega));have ME:=aa (aD My oJ (fun g a e=>by have e:g=q:=e;exact Ms (by rw [a,e])));have ny:Hid (SB i (fun g=>E.heap.size<=g/\g≠B) (.slice K k j) X/\SB i (fun g=>E.heap.size<=g/\g≠B) (.slice V y u) va):=aa ⟨CB.1.chg oJ (fun g a e=>by have e:g=q:=e;have:=a.1;omega),CB.2.chg oJ (fun g a e=>by have e:g=q:=e;have:=a.1;omega)⟩;have fC:=aa (dH K k j _ X i ny.1.parts.2.2.2 ny.1.parts.2.2.1 (by have f:=ny.out.1.parts.2.2.1;have H:=Ls.out.k2;have h3:=mq.out;rw [<-h3] at H;omega));have y0:i.cell? ⟨B,0,none⟩=some (.slice K k j):=CE.out.cell 0;clear z2 z3 yR PS J;go_upto_region 14 with(go_at_call 24;go_loud (refine fC.mono ?_);rintro e w9 ⟨L,CF,CG,rfl,al,am,an,ao,I⟩;have HL:Hid (SB w9 (From i.heap.size) (.slice L CF CG) X):=aa ((SB.mk al am an.out ao).weak (fun g a=>a.1));have Ie:=aa I;have z4:w9.cell? ⟨q,4,none⟩=some Ex:=(qd.out.below I).cell 4;have Jm:=(qd.out.below I).frozen 4;clear al am an ao I)
   obtain⟨m,nz⟩:∃W,W=w9.setCell ⟨q,4,none⟩ (.slice L CF CG):=⟨_,rfl⟩;rw [<-nz];have kM:Hid (ag (fun g=>g=q) i m):=aa (by rw [nz];exact((ag.of_below (S:=fun g=>g=q) Ie).setCell (p:=⟨q,4,none⟩) (fun _=>rfl) _));have CJ:Hid (aj m q 295 #[.slice bA bn bc,.int .i64 n,.int .i64 ((O:Int)+1),.int .i64 nx,.slice L CF CG,x]):=aa (by rw [nz];exact(qd.below Ie).set_ 4 _);have CK:Hid (SB m (From i.heap.size) (.slice L CF CG) X):=aa (by rw [nz];exact HL.chg (ag.set1 w9 q 4 _) (fun g a e=>by have e:g=q:=e;have f:i.heap.size<=g:=a;have H:=qd.out.lt;omega));have gI:=MC.out.chg kM (fun e=>by have e:d=q:=e;omega);have nC:=CE.out.chg kM (fun e=>by have e:B=q:=e;have:=oI.out;omega);have bm:m.cell? ⟨B,0,none⟩=some (.slice K k j):=nC.cell 0;have bo:m.cell? ⟨B,1,none⟩=some (.slice V y u):=nC.cell 1;have u0:m.cell? ⟨d,0,none⟩=some (.slice none 0 0):=gI.cell 0;have u1:m.cell? ⟨d,1,none⟩=some (.slice none 0 0):=gI.cell 1;have bh:=gI.frozen 0;have bj:=gI.frozen 1;have CL:=aa gI;clear y0 z4 Jm gI nC nz;go_wp2;have CO:=(CL.out.set_ 0 (.slice K k j)).set_ 1 (.slice V y u);have v0:((m.setCell ⟨d,0,none⟩ (.slice K k j)).setCell ⟨d,1,none⟩ (.slice V y u)).cell? ⟨d,0,none⟩=some (.slice K k j):=CO.cell 0;have v1:((m.setCell ⟨d,0,none⟩ (.slice K k j)).setCell ⟨d,1,none⟩ (.slice V y u)).cell? ⟨d,1,none⟩=some (.slice V y u):=CO.cell 1;have U:ag (fun g=>g=d) m ((m.setCell ⟨d,0,none⟩ (.slice K k j)).setCell ⟨d,1,none⟩ (.slice V y u)):=((ag.refl (fun g=>g=d) m).setCell (p:=⟨d,0,none⟩) (fun _=>rfl) _).setCell (p:=⟨d,1,none⟩) (fun _=>rfl) _;refine bodyPost_ret (v:= .agg #[.slice K k j,.slice V y u]) (by simp [results,results174,go_sem,v0,v1]) rfl ?_;rw [HR.out];obtain⟨P4,MF⟩:∃W,W=(m.setCell ⟨d,0,none⟩ (.slice K k j)).setCell ⟨d,1,none⟩ (.slice V y u):=⟨_,rfl⟩;rw [<-MF] at U|-;have M:=fun g (a:x.ownBlock=some g)=>(ah Ut g a).2
   have MG:x.ownBlock≠some d:=fun e=>by
    rcases HX.out d e with e|e
    ·have f:=(ah HH.own d e).2;have H:=tZ.out;omega
    ·have f:=Eu.out.lt;omega
   have YM:E.heap.size<=i.heap.size:=by have f:=fT.out.size;have H:=G.out.size;have h3:=oJ.out.size;omega
   refine⟨((MB.out.trans oJ (fun g _ e=> .inl e)).trans kM (fun g _ e=> .inl e)).trans U (fun g a e=>by have e:g=d:=e;have H:=tZ.out;omega),fun h=> ?_,fun _ h=> ?_,fun _ _=>⟨K,k,j,V,y,u,.slice L CF CG,x,rfl,⟨?_,?_,?_,?_,Ms⟩,?_,?_,?_,?_⟩⟩
   ·rw [N.out] at h;exact absurd fO.out.symm h
   ·rw [N.out,<-mq.out] at h;exact absurd h mM
   ·have f:=CJ.out.chg U (fun e=>by have e:q=d:=e;omega);rw [N.out,<-qb.out,List.length_append,List.length_singleton,<-eu.out]
    exact f
   ·intro h;simp at h
   ·rw [gN,N.out,<-mq.out]
    exact(CK.chg U (fun g a e=>by have e:g=d:=e;have a:i.heap.size<=g:=a;omega)).weak (fun g a=>by have a:i.heap.size<=g:=a;exact⟨by have:=yP.out.size;omega,fun e=>by have:=M g e;omega,by omega⟩)
   ·exact aD (aD ME kM (fun g a e=>by have e:g=q:=e;exact Ms (by rw [a,e]))) U (fun g a e=>by have e:g=d:=e;exact MG (by rw [a,e]))
   ·rw [N.out,<-mq.out]
    exact(CK.chg U (fun g a e=>by have e:g=d:=e;have a:i.heap.size<=g:=a;omega)).weak (fun g a=>by have a:i.heap.size<=g:=a;exact⟨by have:=yP.out.size;omega,fun e=>by have:=M g e;omega⟩)
   ·rw [N.out,<-mq.out]
    exact((ny.1.chg kM (fun g a e=>by have e:g=q:=e;have:=a.1;omega)).chg U (fun g a e=>by have e:g=d:=e;have:=a.1;omega)).weak (fun g a=>⟨by have f:=a.1;have H:=yP.out.size;omega,fun e=>by have f:=a.1;have:=M g e;omega⟩)
   ·rw [N.out,<-PZ.out]
    exact((ny.2.chg kM (fun g a e=>by have e:g=q:=e;have:=a.1;omega)).chg U (fun g a e=>by have e:g=d:=e;have:=a.1;omega)).weak (fun g a=>⟨by have f:=a.1;have H:=yP.out.size;omega,fun e=>by have f:=a.1;have:=M g e;omega⟩)
   ·intro g a
    rcases HX.out g a with e|e
    ·exact .inl e
    ·exact .inr (by have:=XV.out;omega)
  ·have ax:0<l.length:=List.length_pos_iff.2 l0
   have a7:1<=(az l).length:=by
    obtain⟨e,he,hk⟩:=nD ax;rw [hk];exact(cK Lu he).1
   obtain⟨la,a9⟩:∃la,lA=some la:=by
    have f:=ma.out;obtain⟨b,o,e,_⟩:=tY.out.2 (by omega);exact⟨_,e⟩
   subst a9;have ae:=fun w'=>run_neq_slice_nil_any (P:=prog) w' 24 5 (some la) Ew lc 0 0 underlying24;have zW:Hid (∀w',ag Nil Z w'->Calls prog 56 #[.slice (some la) Ew lc,.slice K k j] w' fun e bk=>e= .returned (.int .i64 (compareBytes (az l) X))/\w'=bk):=aa (fun w' hw=>dE _ _ _ _ _ _ _ _ (az l) X w' (YK.chg hw (fun _ _ h=>h)).parts.2.2.2 ma ((PW rfl).1.chg hw (fun _ _ h=>h)).parts.2.2.2 (PW rfl).1.parts.2.2.1);obtain⟨ce,aw⟩:∃ce,ce=compareBytes (az l) X:=⟨_,rfl⟩;rw [<-aw] at zW;have pU:=aa aw;have xG:=aa ax;clear l0 ax a7 aw;go_upto_region 9 with fail
   go_quiet ((go_at_call 56;exact eU (zW _ ((ag.refl Nil Z).drewN _))));obtain⟨s,C⟩:∃W,W=Z.drewN nq:=⟨_,rfl⟩;rw [<-C];clear z4 y0 ae
   by_cases hc:0<=ce
   ·have E7:=aa hc;have z3:s.cell? ⟨q,3,none⟩=some (.int .i64 p):=by rw [C];exact rP.cell 3
    have G:Hid (ag Nil Z s):=aa (by rw [C];exact(ag.refl Nil Z).drewN _);clear C;go_wp2;refine⟨rfl,?_⟩;rw [HR.out]
    refine⟨dV.out.trans G (fun _ _ h=>h.elim),fun h=> ?_,fun _ _=>rfl,fun _ h=> ?_⟩
    ·rw [N.out] at h;exact absurd fO.out.symm h
    ·rw [N.out,<-mq.out,<-pU.out] at h;exact absurd ⟨xG,E7⟩ h
   ·have mM:Hid (¬(0<l.length/\0<=compareBytes (az l) X)):=aa (fun h=>by rw [<-pU.out] at h;exact hc h.2);have G:Hid (ag Nil Z s):=aa (by rw [C];exact(ag.refl Nil Z).drewN _);have lT:Hid (aj s q 295 #[.slice bA bn bc,.int .i64 n,.int .i64 O,.int .i64 p,Ex,x]):=aa (Ik.chg G (fun h=>h));have Mw:Hid (aj s d 69 #[.slice none 0 0,.slice none 0 0]):=aa (PX.chg G (fun h=>h));have Mx:Hid (aj s B 69 #[.slice K k j,.slice V y u]):=aa (Mt.chg G (fun h=>h));have My:=aa (aD PY G (fun _ _ h=>h));have CB:Hid (SB s (fun g=>E.heap.size<=g/\g≠B) (.slice K k j) X/\SB s (fun g=>E.heap.size<=g/\g≠B) (.slice V y u) va):=aa ⟨(PW rfl).1.chg G (fun _ _ h=>h),(PW rfl).2.chg G (fun _ _ h=>h)⟩;have MB:Hid (ag (fun g=>g=q\/(Value.slice rA rn rc).ownBlock=some g) w s):=aa (dV.out.trans G (fun _ _ h=>h.elim));have z2:s.cell? ⟨q,2,none⟩=some (.int .i64 O):=lT.out.cell 2;have z3:s.cell? ⟨q,3,none⟩=some (.int .i64 p):=lT.out.cell 3;have yR:=lT.out.frozen 2;have PS:=lT.out.frozen 3;clear C;go_upto_region 13 with fail
    obtain⟨i,J⟩:∃W,W=(s.setCell ⟨q,2,none⟩ (.int .i64 ((O:Int)+1))).setCell ⟨q,3,none⟩ (.int .i64 nx):=⟨_,rfl⟩;rw [<-J];have oJ:Hid (ag (fun g=>g=q) s i):=aa (by rw [J];exact((ag.refl (fun g=>g=q) s).setCell (p:=⟨q,2,none⟩) (fun _=>rfl) _).setCell (p:=⟨q,3,none⟩) (fun _=>rfl) _);have qd:Hid (aj i q 295 #[.slice bA bn bc,.int .i64 n,.int .i64 ((O:Int)+1),.int .i64 nx,Ex,x]):=aa (by rw [J];exact(lT.set_ 2 _).set_ 3 _);have bb:q<E.heap.size:=pq.out.lt;have YL:d<E.heap.size:=E5.out.lt;have be:q<d:=by have:=tZ.out;omega
    have MC:Hid (aj i d 69 #[.slice none 0 0,.slice none 0 0]):=aa (Mw.chg oJ (fun e=>by have e:d=q:=e;omega));have CE:Hid (aj i B 69 #[.slice K k j,.slice V y u]):=aa (Mx.chg oJ (fun e=>by have e:B=q:=e;have:=oI.out;omega));have ME:=aa (aD My oJ (fun g a e=>by have e:g=q:=e;exact Ms (by rw [a,e])));have ny:Hid (SB i (fun g=>E.heap.size<=g/\g≠B) (.slice K k j) X/\SB i (fun g=>E.heap.size<=g/\g≠B) (.slice V y u) va):=aa ⟨CB.1.chg oJ (fun g a e=>by have e:g=q:=e;have:=a.1;omega),CB.2.chg oJ (fun g a e=>by have e:g=q:=e;have:=a.1;omega)⟩;have fC:=aa (dH K k j _ X i ny.1.parts.2.2.2 ny.1.parts.2.2.1 (by have f:=ny.out.1.parts.2.2.1;have H:=Ls.out.k2;have h3:=mq.out;rw [<-h3] at H;omega));have y0:i.cell? ⟨B,0,none⟩=some (.slice K k j):=CE.out.cell 0;clear z2 z3 yR PS J;go_upto_region 14 with(go_at_call 24;go_loud (refine fC.mono ?_);rintro e w9 ⟨L,CF,CG,rfl,al,am,an,ao,I⟩;have HL:Hid (SB w9 (From i.heap.size) (.slice L CF CG) X):=aa ((SB.mk al am an.out ao).weak (fun g a=>a.1));have Ie:=aa I;have z4:w9.cell? ⟨q,4,none⟩=some Ex:=(qd.out.below I).cell 4;have Jm:=(qd.out.below I).frozen 4;clear al am an ao I)
    obtain⟨m,nz⟩:∃W,W=w9.setCell ⟨q,4,none⟩ (.slice L CF CG):=⟨_,rfl⟩;rw [<-nz];have kM:Hid (ag (fun g=>g=q) i m):=aa (by rw [nz];exact((ag.of_below (S:=fun g=>g=q) Ie).setCell (p:=⟨q,4,none⟩) (fun _=>rfl) _));have CJ:Hid (aj m q 295 #[.slice bA bn bc,.int .i64 n,.int .i64 ((O:Int)+1),.int .i64 nx,.slice L CF CG,x]):=aa (by rw [nz];exact(qd.below Ie).set_ 4 _);have CK:Hid (SB m (From i.heap.size) (.slice L CF CG) X):=aa (by rw [nz];exact HL.chg (ag.set1 w9 q 4 _) (fun g a e=>by have e:g=q:=e;have f:i.heap.size<=g:=a;have H:=qd.out.lt;omega));have gI:=MC.out.chg kM (fun e=>by have e:d=q:=e;omega);have nC:=CE.out.chg kM (fun e=>by have e:B=q:=e;have:=oI.out;omega);have bm:m.cell? ⟨B,0,none⟩=some (.slice K k j):=nC.cell 0;have bo:m.cell? ⟨B,1,none⟩=some (.slice V y u):=nC.cell 1;have u0:m.cell? ⟨d,0,none⟩=some (.slice none 0 0):=gI.cell 0;have u1:m.cell? ⟨d,1,none⟩=some (.slice none 0 0):=gI.cell 1;have bh:=gI.frozen 0;have bj:=gI.frozen 1;have CL:=aa gI;clear y0 z4 Jm gI nC nz;go_wp2;have CO:=(CL.out.set_ 0 (.slice K k j)).set_ 1 (.slice V y u);have v0:((m.setCell ⟨d,0,none⟩ (.slice K k j)).setCell ⟨d,1,none⟩ (.slice V y u)).cell? ⟨d,0,none⟩=some (.slice K k j):=CO.cell 0;have v1:((m.setCell ⟨d,0,none⟩ (.slice K k j)).setCell ⟨d,1,none⟩ (.slice V y u)).cell? ⟨d,1,none⟩=some (.slice V y u):=CO.cell 1;have U:ag (fun g=>g=d) m ((m.setCell ⟨d,0,none⟩ (.slice K k j)).setCell ⟨d,1,none⟩ (.slice V y u)):=((ag.refl (fun g=>g=d) m).setCell (p:=⟨d,0,none⟩) (fun _=>rfl) _).setCell (p:=⟨d,1,none⟩) (fun _=>rfl) _;refine bodyPost_ret (v:= .agg #[.slice K k j,.slice V y u]) (by simp [results,results174,go_sem,v0,v1]) rfl ?_;rw [HR.out];obtain⟨P4,MF⟩:∃W,W=(m.setCell ⟨d,0,none⟩ (.slice K k j)).setCell ⟨d,1,none⟩ (.slice V y u):=⟨_,rfl⟩;rw [<-MF] at U|-;have M:=fun g (a:x.ownBlock=some g)=>(ah Ut g a).2
    have MG:x.ownBlock≠some d:=fun e=>by
     rcases HX.out d e with e|e
     ·have f:=(ah HH.own d e).2;have H:=tZ.out;omega
     ·have f:=Eu.out.lt;omega
    have YM:E.heap.size<=i.heap.size:=by have f:=fT.out.size;have H:=G.out.size;have h3:=oJ.out.size;omega
    refine⟨((MB.out.trans oJ (fun g _ e=> .inl e)).trans kM (fun g _ e=> .inl e)).trans U (fun g a e=>by have e:g=d:=e;have H:=tZ.out;omega),fun h=> ?_,fun _ h=> ?_,fun _ _=>⟨K,k,j,V,y,u,.slice L CF CG,x,rfl,⟨?_,?_,?_,?_,Ms⟩,?_,?_,?_,?_⟩⟩
    ·rw [N.out] at h;exact absurd fO.out.symm h
    ·rw [N.out,<-mq.out] at h;exact absurd h mM
    ·have f:=CJ.out.chg U (fun e=>by have e:q=d:=e;omega);rw [N.out,<-qb.out,List.length_append,List.length_singleton,<-eu.out]
     exact f
    ·intro h;simp at h
    ·rw [gN,N.out,<-mq.out]
     exact(CK.chg U (fun g a e=>by have e:g=d:=e;have a:i.heap.size<=g:=a;omega)).weak (fun g a=>by have a:i.heap.size<=g:=a;exact⟨by have:=yP.out.size;omega,fun e=>by have:=M g e;omega,by omega⟩)
    ·exact aD (aD ME kM (fun g a e=>by have e:g=q:=e;exact Ms (by rw [a,e]))) U (fun g a e=>by have e:g=d:=e;exact MG (by rw [a,e]))
    ·rw [N.out,<-mq.out]
     exact(CK.chg U (fun g a e=>by have e:g=d:=e;have a:i.heap.size<=g:=a;omega)).weak (fun g a=>by have a:i.heap.size<=g:=a;exact⟨by have:=yP.out.size;omega,fun e=>by have:=M g e;omega⟩)
    ·rw [N.out,<-mq.out]
     exact((ny.1.chg kM (fun g a e=>by have e:g=q:=e;have:=a.1;omega)).chg U (fun g a e=>by have e:g=d:=e;have:=a.1;omega)).weak (fun g a=>⟨by have f:=a.1;have H:=yP.out.size;omega,fun e=>by have f:=a.1;have:=M g e;omega⟩)
    ·rw [N.out,<-PZ.out]
     exact((ny.2.chg kM (fun g a e=>by have e:g=q:=e;have:=a.1;omega)).chg U (fun g a e=>by have e:g=d:=e;have:=a.1;omega)).weak (fun g a=>⟨by have f:=a.1;have H:=yP.out.size;omega,fun e=>by have f:=a.1;have:=M g e;omega⟩)
    ·intro g a
     rcases HX.out g a with e|e
     ·exact .inl e
     ·exact .inr (by have:=XV.out;omega)
 ·have Us:(er==0)=false:=by rw [beq_eq_false_iff_ne];exact e0
  have kK:Hid (r.err≠0):=aa (by rw [<-fO.out];exact e0);go_wp2;refine⟨rfl,?_⟩;rw [HR.out]
  refine⟨dV,fun _=> ?_,fun h=> ?_,fun h=> ?_⟩
  ·rw [N.out,<-fO.out,<-qb.out];rfl
  ·rw [N.out] at h;exact absurd h kK
  ·rw [N.out] at h;exact absurd h kK
theorem P5 (F:Nat->Prop) (base q:Nat) (bA:Option Addr) (bn bc n:Nat) (b:List UInt8) (l:List aK) (ats:List Nat) (p:Nat) (lv rv:Value) (w:World) (h:BR w base q bA bn bc n l ats p lv rv) (hb:Rd w F 1 bA bn (aF b)) (t:bn=b.length) (D:bn<=bc) (z:∀g,F g->g<base) (hq:base<=q) (Q:bH l) (ha:ats.length=l.length) (hl:l.length<=63) (Y:p<=bn) (hm:bn<=1152921504606) (am:¬l.length%8=0):
  Calls prog 174 #[.pointer (some ⟨q,0,none⟩)] w (sQ base q bA bn bc n b l ats p rv w):=by
 refine letter fun R HR=> ?_;obtain⟨s,C⟩:∃s,s=l.length:=⟨_,rfl⟩;have eu:=aa C;rw [<-C] at am hl;have z2:w.cell? ⟨q,2,none⟩=some (.int .i64 s):=(h.blk.cell 2).trans (by rw [C];rfl);obtain⟨lA,Z,lc,ax,k1,k2,k3,k4⟩:=h.key;subst ax;have z4:w.cell? ⟨q,4,none⟩=some (.slice lA Z lc):=h.blk.cell 4;have aE:((s:Int)%8==0)=false:=by rw [beq_eq_false_iff_ne];omega
 have YH:¬(s:Int)%8=0:=by omega
 obtain⟨O,ac⟩:∃O,O=(eighth ats).length:=⟨_,rfl⟩;have YB:=aa ac;have YI:O<=63:=by have:=lS ats _ (Nat.le_refl _);omega
 obtain⟨rA,rc,YC⟩:∃rA rc,rv= .slice rA O rc:=by obtain⟨A,c,e,_,_⟩:=au h.own;exact⟨A,c,by rw [e,ac]⟩
 subst YC;have HH:=aa h;have oG:=aa hb;have jN:=aa t;have HF:=aa z;have Lu:=aa Q;have aw:=aa ha;have ma:=aa k3;have tY:=aa k4;have BL:=h.blk.lt;have YJ:Hid (aP l=az l):=aa (yO (by rw [<-C];exact am));clear h hb t z Q ha C k3 k4 ac;go_enter func174,ntmps174
 go_upto_region 5 with fail
 obtain⟨d,I⟩:∃d,d=w.heap.size:=⟨_,rfl⟩;obtain⟨wa,mh⟩:∃W,W=w.alloc (.cells #[.slice none 0 0,.slice none 0 0] 69):=⟨_,rfl⟩;simp only [<-mh,<-I];have tZ:=aa I;have iw:Hid (Below w.heap.size w wa):=aa (by rw [mh];exact(Below.refl _ _).alloc (Nat.le_refl _) _);have Eu:Hid (aj wa d 69 #[.slice none 0 0,.slice none 0 0]):=aa (by rw [mh,I];exact aj.new _ _ _);clear mh I z2 z4;obtain⟨x,hx⟩:∃x,x=Value.slice rA O rc:=⟨_,rfl⟩;have aA:=aa hx;have yP:Hid (ag (fun g=>g=q\/(Value.slice rA O rc).ownBlock=some g) w wa):=aa (ag.of_below iw);have HX:Hid (∀g,x.ownBlock=some g->(Value.slice rA O rc).ownBlock=some g\/wa.heap.size<=g):=aa (fun g a=> .inl (hx▸a));have XV:Hid (w.heap.size<wa.heap.size):=aa (by have f:=Eu.out.lt;have G:=tZ.out;omega);have Ms:Hid (x.ownBlock≠some q):=aa (by rw [hx];exact HH.ne)
 have pq:Hid (aj wa q 295 #[.slice bA bn bc,.int .i64 n,.int .i64 s,.int .i64 p,.slice lA Z lc,x]):=aa (by
  have f:=HH.out.blk.below iw;rw [<-eu.out] at f;rw [hx];exact f)
 have Ut:Hid (wa.ownsRow base 3 1 x (eighth (ats++ [p])).length (mo (eighth (ats++ [p])))):=aa (by
  rw [sS _ ats p (Nat.le_refl _),if_neg (by have:=aw.out;have:=eu.out;omega),hx];exact own_below HH.own iw)
 have Pj:Hid (SB wa (fun g=>base<=g/\g<w.heap.size/\x.ownBlock≠some g/\g≠q) (.slice lA Z lc) (az l)):=aa (((SB.mk k1 k2 ma tY).lt.below iw).weak (fun g a=>⟨a.1.1,a.2,by rw [hx];exact a.1.2.1,a.1.2.2⟩));have eG:Hid (Rd wa F 1 bA bn (aF b)):=aa (oG.below iw);have E5:=Eu;clear hx;obtain⟨X,gq⟩:∃W,W=wa:=⟨_,rfl⟩;rw [<-gq] at yP pq Ut Pj eG E5|-;clear gq;have Ti:Hid (0<l.length):=aa (by have f:=eu.out;omega)
 have a0:Z<=64:=by
  obtain⟨e,he,hk⟩:=nD Ti;have f:=(cK Lu he).2.1;have G:=ma.out;rw [hk] at G;omega
 go_upto_region 6 with fail
 refine Ih (fun g=>g<w.heap.size) q p lA bA Z lc bn bc (az l) b _ _ _ _ X _ (aa (fun _ _ _ _ h=>h)) pq (aa (Pj.parts.2.2.2.weak (fun g a=>a.2.1))) ma k1 (aa (eG.weak (fun g a=>by have f:=HF.out g a;show g<w.heap.size;omega))) jN D Y (by omega) hm k2 (aa (fun g a=>Nat.lt_of_lt_of_le a yP.size)) ?_;intro a6 a7 a8 a9 ba bb be bh bj bk bm bo bp bx E K m k V y u w6 ar al yQ j;obtain⟨r,Q⟩:∃r,r=pread (az l) b p:=⟨_,rfl⟩;have H:Hid (pread (aP l) b p=r):=aa (by rw [YJ.out,Q]);rw [<-Q] at yQ|-;obtain⟨er,dU⟩:∃er,er=r.err:=⟨_,rfl⟩;obtain⟨nx,ab⟩:∃nx,nx=r.next:=⟨_,rfl⟩;obtain⟨U,E6⟩:∃U,U=r.key:=⟨_,rfl⟩;obtain⟨va,ad⟩:∃va,va=r.val:=⟨_,rfl⟩;have Ct:Hid (r.err=0->uu (az l) b r):=aa (fun h0=>by rw [Q] at h0|-;exact jq (by have:=jN.out;omega) h0);rw [<-dU,<-E6,<-ad] at yQ;rw [<-dU,<-ab];have fO:=aa dU;have qb:=aa ab;have PW:=aa yQ;have oI:=aa ar;have fT:=aa j;have dV:Hid (ag (fun g=>g=q\/(Value.slice rA O rc).ownBlock=some g) w w6):=aa (yP.then j);have rP:Hid (aj w6 q 295 #[.slice bA bn bc,.int .i64 n,.int .i64 s,.int .i64 p,.slice lA Z lc,x]):=aa (pq.below j);have PX:Hid (aj w6 d 69 #[.slice none 0 0,.slice none 0 0]):=aa (E5.below j);have Mt:=aa al;have YK:=aa (Pj.below j);have PY:=aa (own_below Ut j);have mq:=aa E6;have PZ:=aa ad;clear Q dU ab E6 ad yQ ar al j
 by_cases e0:er=0
 ·subst e0;obtain⟨Ex,Mv⟩:∃Ex,Ex=Value.slice lA Z lc:=⟨_,rfl⟩;have Ik:Hid (aj w6 q 295 #[.slice bA bn bc,.int .i64 n,.int .i64 s,.int .i64 p,Ex,x]):=aa (by rw [Mv];exact rP);clear Mv;have Ls:=aa (Ct fO.out.symm)
  have mM:Hid (¬(0<l.length/\0<=compareBytes (az l) U)):=aa (fun h=>by
   have a1:1<=(az l).length:=by
    obtain⟨e,he,hk⟩:=nD Ti;rw [hk];exact(cK Lu he).1
   have f:=Ls.out.lt (by omega);rw [<-mq.out] at f;have:=h.2;omega)
  go_upto_region 9 with fail
  go_quiet (fail);obtain⟨B,ae⟩:∃W,W=w6.drewN nq:=⟨_,rfl⟩;rw [<-ae];have P:Hid (ag Nil w6 B):=aa (by rw [ae];exact(ag.refl Nil w6).drewN _);have lT:Hid (aj B q 295 #[.slice bA bn bc,.int .i64 n,.int .i64 s,.int .i64 p,Ex,x]):=aa (Ik.chg P (fun h=>h));have Mw:Hid (aj B d 69 #[.slice none 0 0,.slice none 0 0]):=aa (PX.chg P (fun h=>h));have Mx:Hid (aj B E 69 #[.slice K m k,.slice V y u]):=aa (Mt.chg P (fun h=>h));have My:=aa (aD PY P (fun _ _ h=>h));have CB:Hid (SB B (fun g=>X.heap.size<=g/\g≠E) (.slice K m k) U/\SB B (fun g=>X.heap.size<=g/\g≠E) (.slice V y u) va):=aa ⟨(PW rfl).1.chg P (fun _ _ h=>h),(PW rfl).2.chg P (fun _ _ h=>h)⟩;have MB:Hid (ag (fun g=>g=q\/(Value.slice rA O rc).ownBlock=some g) w B):=aa (dV.out.trans P (fun _ _ h=>h.elim));have z2:B.cell? ⟨q,2,none⟩=some (.int .i64 s):=lT.out.cell 2;have z3:B.cell? ⟨q,3,none⟩=some (.int .i64 p):=lT.out.cell 3;have yR:=lT.out.frozen 2;have PS:=lT.out.frozen 3;clear ae;go_upto_region 13 with fail
  obtain⟨i,M⟩:∃W,W=(B.setCell ⟨q,2,none⟩ (.int .i64 ((s:Int)+1))).setCell ⟨q,3,none⟩ (.int .i64 nx):=⟨_,rfl⟩;rw [<-M];have oJ:Hid (ag (fun g=>g=q) B i):=aa (by rw [M];exact((ag.refl (fun g=>g=q) B).setCell (p:=⟨q,2,none⟩) (fun _=>rfl) _).setCell (p:=⟨q,3,none⟩) (fun _=>rfl) _);have qd:Hid (aj i q 295 #[.slice bA bn bc,.int .i64 n,.int .i64 ((s:Int)+1),.int .i64 nx,Ex,x]):=aa (by rw [M];exact(lT.set_ 2 _).set_ 3 _);have a2:q<X.heap.size:=pq.out.lt;have YL:d<X.heap.size:=E5.out.lt;have a3:q<d:=by have:=tZ.out;omega
  have MC:Hid (aj i d 69 #[.slice none 0 0,.slice none 0 0]):=aa (Mw.chg oJ (fun e=>by have e:d=q:=e;omega));have CE:Hid (aj i E 69 #[.slice K m k,.slice V y u]):=aa (Mx.chg oJ (fun e=>by have e:E=q:=e;have:=oI.out;omega));have ME:=aa (aD My oJ (fun g a e=>by have e:g=q:=e;exact Ms (by rw [a,e])));have ny:Hid (SB i (fun g=>X.heap.size<=g/\g≠E) (.slice K m k) U/\SB i (fun g=>X.heap.size<=g/\g≠E) (.slice V y u) va):=aa ⟨CB.1.chg oJ (fun g a e=>by have e:g=q:=e;have:=a.1;omega),CB.2.chg oJ (fun g a e=>by have e:g=q:=e;have:=a.1;omega)⟩;have fC:=aa (dH K m k _ U i ny.1.parts.2.2.2 ny.1.parts.2.2.1 (by have f:=ny.out.1.parts.2.2.1;have G:=Ls.out.k2;have h3:=mq.out;rw [<-h3] at G;omega));have y0:i.cell? ⟨E,0,none⟩=some (.slice K m k):=CE.out.cell 0;clear z2 z3 yR PS M;go_upto_region 14 with(go_at_call 24;go_loud (refine fC.mono ?_);rintro e w9 ⟨L,CF,CG,rfl,an,ao,ap,aq,J⟩;have HL:Hid (SB w9 (From i.heap.size) (.slice L CF CG) U):=aa ((SB.mk an ao ap.out aq).weak (fun g a=>a.1));have Ie:=aa J;have z4:w9.cell? ⟨q,4,none⟩=some Ex:=(qd.out.below J).cell 4;have Jm:=(qd.out.below J).frozen 4;clear an ao ap aq J)
  obtain⟨o,nz⟩:∃W,W=w9.setCell ⟨q,4,none⟩ (.slice L CF CG):=⟨_,rfl⟩;rw [<-nz];have kM:Hid (ag (fun g=>g=q) i o):=aa (by rw [nz];exact((ag.of_below (S:=fun g=>g=q) Ie).setCell (p:=⟨q,4,none⟩) (fun _=>rfl) _));have CJ:Hid (aj o q 295 #[.slice bA bn bc,.int .i64 n,.int .i64 ((s:Int)+1),.int .i64 nx,.slice L CF CG,x]):=aa (by rw [nz];exact(qd.below Ie).set_ 4 _);have CK:Hid (SB o (From i.heap.size) (.slice L CF CG) U):=aa (by rw [nz];exact HL.chg (ag.set1 w9 q 4 _) (fun g a e=>by have e:g=q:=e;have f:i.heap.size<=g:=a;have G:=qd.out.lt;omega));have gI:=MC.out.chg kM (fun e=>by have e:d=q:=e;omega);have nC:=CE.out.chg kM (fun e=>by have e:E=q:=e;have:=oI.out;omega);have bB:o.cell? ⟨E,0,none⟩=some (.slice K m k):=nC.cell 0;have bE:o.cell? ⟨E,1,none⟩=some (.slice V y u):=nC.cell 1;have u0:o.cell? ⟨d,0,none⟩=some (.slice none 0 0):=gI.cell 0;have u1:o.cell? ⟨d,1,none⟩=some (.slice none 0 0):=gI.cell 1;have a4:=gI.frozen 0;have a5:=gI.frozen 1;have CL:=aa gI;clear y0 z4 Jm gI nC nz;go_wp2;have CO:=(CL.out.set_ 0 (.slice K m k)).set_ 1 (.slice V y u);have v0:((o.setCell ⟨d,0,none⟩ (.slice K m k)).setCell ⟨d,1,none⟩ (.slice V y u)).cell? ⟨d,0,none⟩=some (.slice K m k):=CO.cell 0;have v1:((o.setCell ⟨d,0,none⟩ (.slice K m k)).setCell ⟨d,1,none⟩ (.slice V y u)).cell? ⟨d,1,none⟩=some (.slice V y u):=CO.cell 1;have T:ag (fun g=>g=d) o ((o.setCell ⟨d,0,none⟩ (.slice K m k)).setCell ⟨d,1,none⟩ (.slice V y u)):=((ag.refl (fun g=>g=d) o).setCell (p:=⟨d,0,none⟩) (fun _=>rfl) _).setCell (p:=⟨d,1,none⟩) (fun _=>rfl) _;refine bodyPost_ret (v:= .agg #[.slice K m k,.slice V y u]) (by simp [results,results174,go_sem,v0,v1]) rfl ?_;rw [HR.out];obtain⟨P4,MF⟩:∃W,W=(o.setCell ⟨d,0,none⟩ (.slice K m k)).setCell ⟨d,1,none⟩ (.slice V y u):=⟨_,rfl⟩;rw [<-MF] at T|-;have N:=fun g (a:x.ownBlock=some g)=>(ah Ut g a).2
  have MG:x.ownBlock≠some d:=fun e=>by
   rcases HX.out d e with e|e
   ·have f:=(ah HH.own d e).2;have G:=tZ.out;omega
   ·have f:=Eu.out.lt;omega
  have YM:X.heap.size<=i.heap.size:=by have f:=fT.out.size;have G:=P.out.size;have h3:=oJ.out.size;omega
  refine⟨((MB.out.trans oJ (fun g _ e=> .inl e)).trans kM (fun g _ e=> .inl e)).trans T (fun g a e=>by have e:g=d:=e;have G:=tZ.out;omega),fun h=> ?_,fun _ h=> ?_,fun _ _=>⟨K,m,k,V,y,u,.slice L CF CG,x,rfl,⟨?_,?_,?_,?_,Ms⟩,?_,?_,?_,?_⟩⟩
  ·rw [H.out] at h;exact absurd fO.out.symm h
  ·rw [H.out,<-mq.out] at h;exact absurd h mM
  ·have f:=CJ.out.chg T (fun e=>by have e:q=d:=e;omega);rw [H.out,<-qb.out,List.length_append,List.length_singleton,<-eu.out]
   exact f
  ·intro h;simp at h
  ·rw [gN,H.out,<-mq.out]
   exact(CK.chg T (fun g a e=>by have e:g=d:=e;have a:i.heap.size<=g:=a;omega)).weak (fun g a=>by have a:i.heap.size<=g:=a;exact⟨by have:=yP.out.size;omega,fun e=>by have:=N g e;omega,by omega⟩)
  ·exact aD (aD ME kM (fun g a e=>by have e:g=q:=e;exact Ms (by rw [a,e]))) T (fun g a e=>by have e:g=d:=e;exact MG (by rw [a,e]))
  ·rw [H.out,<-mq.out]
   exact(CK.chg T (fun g a e=>by have e:g=d:=e;have a:i.heap.size<=g:=a;omega)).weak (fun g a=>by have a:i.heap.size<=g:=a;exact⟨by have:=yP.out.size;omega,fun e=>by have:=N g e;omega⟩)
  ·rw [H.out,<-mq.out]
   exact((ny.1.chg kM (fun g a e=>by have e:g=q:=e;have:=a.1;omega)).chg T (fun g a e=>by have e:g=d:=e;have:=a.1;omega)).weak (fun g a=>⟨by have f:=a.1;have G:=yP.out.size;omega,fun e=>by have f:=a.1;have:=N g e;omega⟩)
  ·rw [H.out,<-PZ.out]
   exact((ny.2.chg kM (fun g a e=>by have e:g=q:=e;have:=a.1;omega)).chg T (fun g a e=>by have e:g=d:=e;have:=a.1;omega)).weak (fun g a=>⟨by have f:=a.1;have G:=yP.out.size;omega,fun e=>by have f:=a.1;have:=N g e;omega⟩)
  ·intro g a
   rcases HX.out g a with e|e
   ·exact .inl e
   ·exact .inr (by have:=XV.out;omega)
 ·have Us:(er==0)=false:=by rw [beq_eq_false_iff_ne];exact e0
  have kK:Hid (r.err≠0):=aa (by rw [<-fO.out];exact e0);go_wp2;refine⟨rfl,?_⟩;rw [HR.out]
  refine⟨dV,fun _=> ?_,fun h=> ?_,fun h=> ?_⟩
  ·rw [H.out,<-fO.out,<-qb.out];rfl
  ·rw [H.out] at h;exact absurd h kK
  ·rw [H.out] at h;exact absurd h kK
theorem Jc (F:Nat->Prop) (base q:Nat) (bA:Option Addr) (bn bc n:Nat) (b:List UInt8) (l:List aK) (ats:List Nat) (p:Nat) (lv rv:Value) (w:World) (h:BR w base q bA bn bc n l ats p lv rv) (d:Rd w F 1 bA bn (aF b)) (t:bn=b.length) (D:bn<=bc) (z:∀g,F g->g<base) (hq:base<=q) (Q:bH l) (c:ats.length=l.length) (hl:l.length<=63) (Y:p<=bn) (e:bn<=1152921504606):
  Calls prog 174 #[.pointer (some ⟨q,0,none⟩)] w (sQ base q bA bn bc n b l ats p rv w):=by
 by_cases a:l.length%8=0
 ·exact PV F base q bA bn bc n b l ats p lv rv w h d t D z hq Q c hl Y e a
 ·exact P5 F base q bA bn bc n b l ats p lv rv w h d t D z hq Q c hl Y e a
end Go.Proofs.YtepgcjbhabnciaaGreat
