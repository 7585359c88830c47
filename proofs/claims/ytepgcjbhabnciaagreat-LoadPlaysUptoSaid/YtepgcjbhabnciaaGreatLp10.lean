/- Part 10. -/
import Derived.Test.YtepgcjbhabnciaaGreatLp09
namespace Go.Proofs.YtepgcjbhabnciaaGreat
set_option maxRecDepth 100000
set_option maxHeartbeats 8000000
open Go.Proofs.Tryz Go.RowKit
open Go.Lib (compareBytes)
variable {K base q bn bc n p:Nat} {r:dM} {l:List aR} {F:Nat->Prop} {bA:Option Addr} {b:List UInt8} {ats:List Nat} {rv:Value} {w:World}
structure dM.Ok (K:Nat) (r:dM):Prop where
 cur:r.st≠2->r.cur.Ok K
 held:r.st≠2->r.cur.held=none
 rows:iy r.rows
 zero:r.st=0->r.cur.at_=0/\r.rows= []
 one:r.st=1->r.cur.at_=dD r.rows
 st:r.st<=2
 err:r.st≠2->r.err=0
theorem dM.fail_ok (h:iy r.rows) (c:ay) (e:Int) (p:Nat):(r.fail c e p).Ok K:=
 ⟨fun h=>absurd rfl h,fun h=>absurd rfl h,h,fun h=>absurd h (by simp [dM.fail]),fun h=>absurd h (by simp [dM.fail]),jO,fun h=>absurd rfl h⟩
theorem dM.footR_ok (h:r.Ok K) (c:ay) (at_:Nat):(r.footR c at_).Ok K:=by
 unfold dM.footR;repeat' split
 all_goals first
  |exact dM.fail_ok h.rows _ _ _
  |exact⟨fun h=>absurd rfl h,fun h=>absurd rfl h,h.rows,fun h=>absurd h (by simp),fun h=>absurd h (by simp),jO,fun h=>absurd rfl h⟩
structure EE (K:Nat) (r:dM) (l:List aR) (r':dM):Prop where
 ok:r'.Ok K
 rise:bY l
 some:1<=l.length
 most:l.length<=64
 st:r'.st=1
 rows:r'.rows.length=r.rows.length+1
 row:∃x,r'.rows=r.rows++ [x]/\x.at_=dD r.rows
 at_:r.cur.at_<r'.cur.at_
theorem pN (h:1<=l.length):∃e∈l,aD l=e.1:=by
 have a:l[l.length-1]? =some l[l.length-1]:=mP (by omega);exact⟨_,List.getElem_mem _,iP a⟩
theorem Io (h:bY l):∀(k:List UInt8),compareBytes k (l.headD ([],[])).1<0->1<=l.length->compareBytes k (aD l)<0:=by
 intro k g hl
 have key:∀(i:Nat) (hi:i<l.length),compareBytes k l[i].1<0:=by
  intro i
  induction i with
  |zero=>intro hi;cases l with
   |nil=>simp at hl
   |cons x r=>exact g
  |succ i j=>
   intro hi;have f:=j (by omega);have a:=h (i+1) hi;unfold fO at a;have d:l.getD (i+1) ([],[])=l[i+1]:=by simp [List.getD,hi]
   have e:l.getD (i+1-1) ([],[])=l[i]:=by simp [List.getD,show i<l.length by omega]
   rw [d,e] at a
   split at a
   ·rename_i b;exact absurd a b
   ·split at a
    ·exact absurd a (by decide)
    ·rename_i b;exact zl _ _ _ f (by rcases Int.lt_or_le (compareBytes l[i].1 l[i+1].1) 0 with c|c;exact c;exact absurd ⟨by omega,c⟩ b)
 have a:l[l.length-1]? =some l[l.length-1]:=mP (by omega);rw [iP a];exact key _ _
theorem dM.block_ok (h:r.Ok K) (w:r.st=1) (c:ay) (hc:c.Ok K) (t:c.held=none) (at_:Nat) (g:at_=dD r.rows) (z:c.at_=at_+1) (v:r.cur.at_=at_):
  (r.block c at_).2.Ok K/\∀l,(r.block c at_).1=some l->EE K r l (r.block c at_).2:=by
 unfold dM.block
 split
 ·exact⟨dM.fail_ok h.rows _ _ _,fun l hl=>by cases hl⟩
 ·rename_i A
  split
  ·exact⟨dM.fail_ok h.rows _ _ _,fun l hl=>by cases hl⟩
  ·rename_i n;obtain⟨x,E⟩:=ay.number_ok hc;obtain⟨y,j⟩:=ay.number_step hc t;have j:=j (Decidable.byContradiction n)
   split
   ·exact⟨dM.fail_ok h.rows _ _ _,fun l hl=>by cases hl⟩
   ·rename_i B;have d:=ay.body_ok x y c.number.1 (by omega)
    split
    ·exact⟨dM.fail_ok h.rows _ _ _,fun l hl=>by cases hl⟩
    ·rename_i o;have s:=d.at_ (Decidable.byContradiction o)
     split
     ·exact⟨dM.fail_ok h.rows _ _ _,fun l hl=>by cases hl⟩
     ·rename_i p;obtain⟨f,a,k⟩:=zQ (Decidable.byContradiction p)
      split
      ·exact⟨dM.fail_ok h.rows _ _ _,fun l hl=>by cases hl⟩
      ·rename_i q;obtain⟨e,u,i⟩:=pN a;obtain⟨k1,k2,D⟩:=dB f u
       have hok:({r with cur:=(c.number.2.2.body c.number.1).cur,rows:=r.rows++ [⟨aD (aH (c.number.2.2.body c.number.1).body).1,at_,(c.number.2.2.body c.number.1).cur.at_-at_,(aH (c.number.2.2.body c.number.1).body).1.length⟩]}:dM).Ok K:=by
        refine⟨fun _=>d.ok,fun _=>d.held,?_,fun e=> ?_,fun _=> ?_,h.st,h.err⟩
        ·have C:=h.rows.many;refine Pf h.rows (by omega) (by rw [i];exact k1) (by rw [i];exact k2) (fun m=> ?_) g (by simp only [];omega) (by simp only [];omega) a k;refine Io f _ ?_ a
         rcases Int.lt_or_le (compareBytes (r.rows.getLast?.getD ⟨[],0,0,0⟩).last ((aH (c.number.2.2.body c.number.1).body).1.headD ([],[])).1) 0 with b|b
         ·exact b
         ·exact absurd ⟨m,b⟩ q
        ·have e:r.st=0:=e
         omega
        ·simp only [uR];omega
       refine⟨hok,fun l hl=> ?_⟩;injection hl with hl
       subst hl;exact⟨hok,f,a,k,w,by simp,⟨_,rfl,g⟩,by simp only [];omega⟩
theorem dM.frame_ok (h:r.Ok K) (a:r.st=1):r.frame.2.Ok K/\∀l,r.frame.1=some l->EE K r l r.frame.2:=by
 have hc:=h.cur (by omega);have g:=h.held (by omega);have e:=h.one a;have b:=ay.bytes_ok hc 1;have c:=ay.bytes_held hc 1 g;unfold dM.frame
 split
 ·exact⟨dM.fail_ok h.rows _ _ _,fun l hl=>by cases hl⟩
 ·rename_i f;have d:=ay.bytes_step hc 1 (Decidable.byContradiction f)
  split
  ·exact⟨dM.footR_ok h _ _,fun l hl=>by cases hl⟩
  ·split
   ·exact⟨dM.fail_ok h.rows _ _ _,fun l hl=>by cases hl⟩
   ·exact dM.block_ok h a _ b c _ e d rfl
theorem dM.next_ok (h:r.Ok K):r.next.2.Ok K/\∀l,r.next.1=some l->EE K r l r.next.2:=by
 unfold dM.next
 split
 ·exact⟨h,fun l hl=>by cases hl⟩
 ·rename_i a
  split
  ·rename_i c;exact dM.frame_ok h c
  ·rename_i c;have hc:=h.cur a;have k:=h.held a;have m:=h.st;obtain⟨n,o⟩:=h.zero (by omega);have d:=ay.bytes_ok hc 8;have f:=ay.bytes_held hc 8 k
   split
   ·exact⟨dM.fail_ok h.rows _ _ _,fun l hl=>by cases hl⟩
   ·rename_i j;have b:=ay.bytes_step hc 8 (Decidable.byContradiction j)
    split
    ·exact⟨dM.fail_ok h.rows _ _ _,fun l hl=>by cases hl⟩
    ·have hok:({r with cur:=(r.cur.bytes 8).2.2,st:=1}:dM).Ok K:=⟨fun _=>d,fun _=>f,h.rows,fun e=>by simp at e,fun _=>by simp only [o,b,n];rfl,by simp,fun _=>h.err a⟩;obtain⟨g,i⟩:=dM.frame_ok hok rfl;refine⟨g,fun l hl=> ?_⟩;have:=i l hl;exact⟨this.ok,this.rise,this.some,this.most,this.st,this.rows,this.row,by have:=this.at_;simp only [b] at this;omega⟩
structure wQ (base q:Nat) (bA:Option Addr) (bn bc n:Nat) (b:List UInt8) (l:List aR) (ats:List Nat) (p:Nat) (rv:Value) (w:World) (e:Ending) (w':World):Prop where
 chg:ag (fun g=>g=q\/rv.ownBlock=some g) w w'
 bad:(pread (aS l) b p).err≠0->e= .panicked (gI (pread (aS l) b p).err (pread (aS l) b p).next)
 ord:(pread (aS l) b p).err=0->(0<l.length/\0<=compareBytes (aD l) (pread (aS l) b p).key)->e= .panicked (gI 51 p)
 ok:(pread (aS l) b p).err=0->¬(0<l.length/\0<=compareBytes (aD l) (pread (aS l) b p).key)->∃K kn kc V vn vc Dm rv',e= .returned (.agg #[.slice K kn kc,.slice V vn vc])/\
  BR w' base q bA bn bc n (l++ [((pread (aS l) b p).key,(pread (aS l) b p).val)]) (ats++ [p]) (pread (aS l) b p).next Dm rv'/\SB w' (fun g=>w<=g/\rv'.ownBlock≠some g) Dm (pread (aS l) b p).key/\
  SB w' (fun g=>w<=g/\rv'.ownBlock≠some g) (.slice K kn kc) (pread (aS l) b p).key/\SB w' (fun g=>w<=g/\rv'.ownBlock≠some g) (.slice V vn vc) (pread (aS l) b p).val/\
  (∀g,rv'.ownBlock=some g->rv.ownBlock=some g\/w<=g)
theorem BP (h:l.length%8=0):aS l= []:=by unfold aS;rw [if_pos h]
theorem BQ (h:¬l.length%8=0):aS l=aD l:=by unfold aS;rw [if_neg h]
theorem UF {lv:Value} (h:BR w base q bA bn bc n l ats p lv rv) (hb:Rd w F 1 bA bn (aI b)) (N:bn=b.length) (m:bn<=bc) (B:∀g,F g->g<base) (hq:base<=q) (u:bY l) (ha:ats.length=l.length) (hl:l.length<=63) (G:p<=bn) (hm:bn<=1152921504606) (a4:l.length%8=0):
  Calls prog 174 #[q] w (wQ base q bA bn bc n b l ats p rv w):=by
 refine letter fun R HR=> ?_;obtain⟨ln,ab⟩:=gF l.length;have fq:=aa ab;rw [<-ab] at a4 hl;have z2:w.cell? ⟨q,2,none⟩=some (.int .i64 ln):=(h.blk.cell 2).trans (by rw [ab];rfl);obtain⟨lA,IK,lc,bk,k1,k2,k3,k4⟩:=h.key;subst bk;have z4:w.cell? ⟨q,4,none⟩=some (.slice lA IK lc):=h.blk.cell 4;have bP:((ln:Int)%8==0)=true:=by rw [beq_iff_eq];omega
 have bL:(ln:Int)%8=0:=by omega
 obtain⟨rn,aA⟩:=gF ((eighth ats).length);have a0:=aa aA;have bN:rn<=63:=by have:=oo ats _ jO;omega
 obtain⟨rA,rc,bp⟩:∃rA rc,rv= .slice rA rn rc:=by obtain⟨A,c,e,_,_⟩:=ax h.own;exact⟨A,c,by rw [e,aA]⟩
 subst bp;have HH:=aa h;have jm:=aa hb;have lD:=aa N;have HF:=aa B;have PM:=aa u;have a6:=aa ha;have jN:=aa k3;have rH:=aa k4;have EQ:=h.blk.lt;have a7:Hid (aS l= []):=aa (BP (by rw [<-ab];exact a4));clear h hb N B u ha ab k3 k4 aA;go_enter func174,ntmps174;go_upto_region 5 with fail
 obtain⟨d,ap⟩:=gF w.heap.size;obtain⟨wa,fM⟩:=gF (w.alloc (.cells #[.slice none 0 0,.slice none 0 0] 69));simp only [<-fM,<-ap];have rJ:=aa ap;have jq:Hid (Below w w wa):=aa (by rw [fM];exact gV);have IG:Hid (ak wa d 69 #[(),()]):=aa (by rw [fM,ap];exact ak.new _ _ _);clear fM ap z2 z4;refine UD (o7 (eighth ats)) (aa (fun _ _ _ _ h=>h)) (aa (HH.blk.below jq)) (aa (own_below (by have:=HH.out.own;rw [<-a0.out] at this;exact this) jq)) HH.ne (by omega) (by have:=jq.out.size;omega) ?_;intro bQ bT bU bX b0 b1 b2 b3 b4 b5 b6 b7 b8 x wb wc U aq ao a1;obtain⟨y,ib⟩:=gF (wc.setCell ⟨q,5,none⟩ x);rw [<-ib];have dW:=aa U
 have Y:Hid (ag (fun g=>g=q\/(Value.slice rA rn rc).ownBlock=some g) w y):=aa (by
  rw [ib];refine((ag.of_below (jq.out.trans (U.mono jq.size))).trans ((ag.of_grown ao).mono (T:=fun g=>g=q\/(Value.slice rA rn rc).ownBlock=some g) (fun g _ e=> .inr e)) (fun _ _ h=>h)).setCell (p:=⟨q,5,none⟩) (fun _=> .inl rfl) _)
 have HX:Hid (∀g,x.ownBlock=some g->(Value.slice rA rn rc).ownBlock=some g\/wa<=g):=aa (fun g a=>by
  rcases a1 with e|e
  ·exact .inl (e▸a)
  ·right;rw [e] at a;injection a with a;have f:=U.size;omega)
 have an:Hid (w.heap.size<wa):=aa (by have f:=IG.out.lt;have C:=rJ.out;omega)
 have Qu:Hid (x.ownBlock≠some q):=aa (fun e=>by
  rcases HX.out q e with e|e
  ·exact HH.ne e
  ·have:=an.out;omega)
 have rM:Hid (ak y q 295 #[.slice bA bn bc,(n:Int),(ln:Int),(p:Int),.slice lA IK lc,x]):=aa (by
  rw [ib];have f:=((HH.blk.below (jq.out.trans (U.mono jq.size))).chg (ag.of_grown ao) HH.ne).set_ 5 x;rw [<-fq.out] at f;exact f)
 have YY:Hid (y.ownsRow base 3 1 x (eighth (ats++ [p])).length (o7 (eighth (ats++ [p])))):=aa (by
  rw [ib,wR _ ats p jO,if_pos (by have:=a6.out;have:=fq.out;omega),mq,List.length_singleton,<-a0.out];have f:=aB aq ((ag.refl (fun g=>g=q) wc).setCell (p:=⟨q,5,none⟩) (fun _=>rfl) x) (fun g a e=>Qu (by rw [a,e]));simpa [o7] using f)
 have Ub:Hid (SB y (fun g=>base<=g/\g<w/\x.ownBlock≠some g/\g≠q) (.slice lA IK lc) (aD l)):=aa (by
  have f:=(SB.mk k1 k2 jN rH).lt;refine(f.chg Y (fun g a e=>by rcases e with e|e;exact a.1.2.2 e;exact a.1.2.1 e)).weak (fun g a=>⟨a.1.1,a.2,fun e=> ?_,a.1.2.2⟩)
  rcases HX.out g e with e|e
  ·exact a.1.2.1 e
  ·have f:=a.2;have C:=an.out;omega)
 have eF:Hid (Rd y F 1 bA bn (aI b)):=aa (jm.chg Y (fun g a e=>by
  have f:=HF.out g a
  rcases e with e|e
  ·omega
  ·have:=(ah HH.own g e).1;omega))
 have Jj:Hid (ak y d 69 #[(),()]):=aa (by
  rw [ib];refine(((IG.below U).chg (ag.of_grown ao) (fun e=> ?_)).far (p:=⟨q,5,none⟩) (by show¬d=q;have:=rJ.out;omega) _);have f:=(ah HH.own d e).2;have C:=rJ.out;omega)
 clear U aq ao a1 ib;go_upto_region 6 with fail
 refine LQ (A:=none) (n:=0) (c:=0) (prev:=[]) (aa (fun _ _ _ _ h=>h)) rM (aa (Rd.none_ _ _ _ _)) (aa rfl) jO eF lD m G (by omega) hm (by simp [maxLen]) (aa (fun g a=>by have f:=HF.out g a;have C:=Y.out.size;omega)) ?_;intro b9 ca cb cd cf cg ch ci cj ck cl cn co cp s K kn kc V vn vc M a5 a2 BS O;obtain⟨r,u⟩:=gF (pread [] b p);have I:Hid (pread (aS l) b p=r):=aa (by rw [a7.out,u]);rw [<-u] at BS|-;obtain⟨er,dN⟩:=gF r.err;obtain⟨nx,aw⟩:=gF r.next;obtain⟨Z,Jk⟩:=gF r.key;obtain⟨va,aE⟩:=gF r.val;have FE:Hid (r.err=0->xQ [] b r):=aa (fun h0=>by rw [u] at h0|-;exact kY (by have:=lD.out;omega) h0);rw [<-dN,<-Jk,<-aE] at BS;rw [<-dN,<-aw];have gJ:=aa dN;have xw:=aa aw;have UG:=aa BS;have qQ:=aa a5;have gG:=aa O;have eY:Hid (ag (fun g=>g=q\/(Value.slice rA rn rc).ownBlock=some g) w M):=aa (Y.then O);have vI:Hid (ak M q 295 #[.slice bA bn bc,(n:Int),(ln:Int),(p:Int),.slice lA IK lc,x]):=aa (rM.below O);have UH:Hid (ak M d 69 #[(),()]):=aa (Jj.below O);have Qv:=aa a2;have a8:=aa (Ub.below O);have UI:=aa (own_below YY O);have o8:=aa Jk;have UJ:=aa aE;clear u dN aw Jk aE BS a5 a2 O
 by_cases e0:er=0
 ·subst e0;obtain⟨ER,Qw⟩:=gF (Value.slice lA IK lc);have LU:Hid (ak M q 295 #[.slice bA bn bc,(n:Int),(ln:Int),(p:Int),ER,x]):=aa (by rw [Qw];exact vI);clear Qw;have PI:=aa (FE gJ.out.symm);have a3:=vI.out.cell 4;have z4:M.cell? ⟨q,4,none⟩=some (.slice lA IK lc):=a3;have y0:M.cell? s=some (.slice K kn kc):=Qv.out.cell 0;clear a3
  by_cases l0:l= []
  ·have bh:=HH.out.lst l0;injection bh with e1 e2 e3
   subst e1;subst e2;subst e3;have ac:=fun w'=>run_neq_slice_nil_any (P:=prog) w' 24 5 none 0 0 0 0 underlying24;have oQ:Hid (¬(0<l.length/\0<=compareBytes (aD l) Z)):=aa (fun h=>by rw [l0] at h;exact absurd h.1 (by simp));clear l0;go_upto_region 9 with fail
   go_quiet (fail);obtain⟨k,t⟩:=gF (M.drewN nq);rw [<-t];clear z4 y0 ac;have z:Hid (ag Nil M k):=aa (by rw [t];exact(ag.refl Nil M).drewN _);have oq:Hid (ak k q 295 #[.slice bA bn bc,(n:Int),(ln:Int),(p:Int),ER,x]):=aa (LU.chg z (fun h=>h));have Qx:Hid (ak k d 69 #[(),()]):=aa (UH.chg z (fun h=>h));have Qy:Hid (ak k s 69 #[.slice K kn kc,.slice V vn vc]):=aa (Qv.chg z (fun h=>h));have Qz:=aa (aB UI z (fun _ _ h=>h));have FM:Hid (SB k (fun g=>y<=g/\g≠s) (.slice K kn kc) Z/\SB k (fun g=>y<=g/\g≠s) (.slice V vn vc) va):=aa ⟨(UG rfl).1.chg z (fun _ _ h=>h),(UG rfl).2.chg z (fun _ _ h=>h)⟩;have QA:Hid (ag (fun g=>g=q\/(Value.slice rA rn rc).ownBlock=some g) w k):=aa (eY.out.trans z (fun _ _ h=>h.elim));have z2:k.cell? ⟨q,2,none⟩=some (.int .i64 ln):=oq.out.cell 2;have z3:k.cell? ⟨q,3,none⟩=some (.int .i64 p):=oq.out.cell 3;have BU:=oq.out.frozen 2;have UC:=oq.out.frozen 3;clear t;go_upto_region 13 with fail
   obtain⟨i,E⟩:=gF ((k.setCell ⟨q,2,none⟩ (.int .i64 ((ln:Int)+1))).setCell ⟨q,3,none⟩ (.int .i64 nx));rw [<-E];have Q:Hid (ag (fun g=>g=q) k i):=aa (by rw [E];exact((ag.refl (fun g=>g=q) k).setCell (p:=⟨q,2,none⟩) (fun _=>rfl) _).setCell (p:=⟨q,3,none⟩) (fun _=>rfl) _);have tH:Hid (ak i q 295 #[.slice bA bn bc,(n:Int),.int .i64 ((ln:Int)+1),(nx:Int),ER,x]):=aa (by rw [E];exact(oq.set_ 2 _).set_ 3 _);have bm:q<y:=rM.out.lt;have a9:d<y:=Jj.out.lt;have bo:q<d:=by have:=rJ.out;omega
   have QB:Hid (ak i d 69 #[(),()]):=aa (Qx.chg Q (fun e=>by have e:d=q:=e;omega));have FN:Hid (ak i s 69 #[.slice K kn kc,.slice V vn vc]):=aa (Qy.chg Q (fun e=>by have e:s=q:=e;have:=qQ.out;omega));have QC:=aa (aB Qz Q (fun g a e=>by have e:g=q:=e;exact Qu (by rw [a,e])));have pJ:Hid (SB i (fun g=>y<=g/\g≠s) (.slice K kn kc) Z/\SB i (fun g=>y<=g/\g≠s) (.slice V vn vc) va):=aa ⟨FM.1.chg Q (fun g a e=>by have e:g=q:=e;have:=a.1;omega),FM.2.chg Q (fun g a e=>by have e:g=q:=e;have:=a.1;omega)⟩;have iI:=aa (eG kc pJ.1.parts.2.2.2 pJ.1.parts.2.2.1 (by have f:=pJ.out.1.parts.2.2.1;have C:=PI.out.k2;have h3:=o8.out;rw [<-h3] at C;omega));have y0:i.cell? s=some (.slice K kn kc):=FN.out.cell 0;clear z2 z3 BU UC E;go_upto_region 14 with(go_at_call 24;go_loud (refine iI.mono ?_);rintro e w9 ⟨L,FO,FP,rfl,ad,ae,al,am,D⟩;have HL:Hid (SB w9 (From i) (.slice L FO FP) Z):=aa ((SB.mk ad ae al.out am).weak (fun g a=>a.1));have vk:=aa D;have z4:w9.cell? ⟨q,4,none⟩=some ER:=(tH.out.below D).cell 4;have Ni:=(tH.out.below D).frozen 4;clear ad ae al am D)
   obtain⟨j,pK⟩:=gF (w9.setCell ⟨q,4,none⟩ (.slice L FO FP));rw [<-pK];have X:Hid (ag (fun g=>g=q) i j):=aa (by rw [pK];exact((ag.of_below (S:=fun g=>g=q) vk).setCell (p:=⟨q,4,none⟩) (fun _=>rfl) _));have FQ:Hid (ak j q 295 #[.slice bA bn bc,(n:Int),.int .i64 ((ln:Int)+1),(nx:Int),.slice L FO FP,x]):=aa (by rw [pK];exact(tH.below vk).set_ 4 _);have FR:Hid (SB j (From i) (.slice L FO FP) Z):=aa (by rw [pK];exact HL.chg (ag.set1 w9 q 4 _) (fun g a e=>by have e:g=q:=e;have f:i<=g:=a;have C:=tH.out.lt;omega));have W:=QB.out.chg X (fun e=>by have e:d=q:=e;omega);have pM:=FN.out.chg X (fun e=>by have e:s=q:=e;have:=qQ.out;omega);have bG:j.cell? s=some (.slice K kn kc):=pM.cell 0;have bI:j.cell? ⟨s,1,none⟩=some (.slice V vn vc):=pM.cell 1;have u0:j.cell? d=some (.slice none 0 0):=W.cell 0;have u1:j.cell? ⟨d,1,none⟩=some (.slice none 0 0):=W.cell 1;have bx:=W.frozen 0;have bz:=W.frozen 1;have FT:=aa W;clear y0 z4 Ni W pM pK;go_wp2;have FU:=(FT.out.set_ 0 (.slice K kn kc)).set_ 1 (.slice V vn vc);have v0:((j.setCell d (.slice K kn kc)).setCell ⟨d,1,none⟩ (.slice V vn vc)).cell? d=some (.slice K kn kc):=FU.cell 0;have v1:((j.setCell d (.slice K kn kc)).setCell ⟨d,1,none⟩ (.slice V vn vc)).cell? ⟨d,1,none⟩=some (.slice V vn vc):=FU.cell 1;have J:ag (fun g=>g=d) j ((j.setCell d (.slice K kn kc)).setCell ⟨d,1,none⟩ (.slice V vn vc)):=((ag.refl (fun g=>g=d) j).setCell (p:=d) (fun _=>rfl) _).setCell (p:=⟨d,1,none⟩) (fun _=>rfl) _;refine bodyPost_ret (v:= .agg #[.slice K kn kc,.slice V vn vc]) (by simp [results,results174,go_sem,v0,v1]) rfl ?_;rw [HR.out];obtain⟨bF,QD⟩:=gF ((j.setCell ⟨d,0,none⟩ (.slice K kn kc)).setCell ⟨d,1,none⟩ (.slice V vn vc));rw [<-QD] at J|-;have H:=fun g (a:x.ownBlock=some g)=>(ah YY g a).2
   have QE:x.ownBlock≠some d:=fun e=>by
    rcases HX.out d e with e|e
    ·have f:=(ah HH.own d e).2;have C:=rJ.out;omega
    ·have f:=IG.out.lt;omega
   have ba:y.heap.size<=i:=by have f:=gG.out.size;have C:=z.out.size;have h3:=Q.out.size;omega
   refine⟨((QA.out.trans Q (fun g _ e=> .inl e)).trans X (fun g _ e=> .inl e)).trans J (fun g a e=>by have e:g=d:=e;have C:=rJ.out;omega),fun h=> ?_,fun _ h=> ?_,fun _ _=>⟨K,kn,kc,V,vn,vc,.slice L FO FP,x,rfl,⟨?_,?_,?_,?_,Qu⟩,?_,?_,?_,?_⟩⟩
   ·rw [I.out] at h;exact absurd gJ.out.symm h
   ·rw [I.out,<-o8.out] at h;exact absurd h oQ
   ·have f:=FQ.out.chg J (fun e=>by have e:q=d:=e;omega);rw [I.out,<-xw.out,mq,List.length_singleton,<-fq.out]
    exact f
   ·intro h;simp at h
   ·rw [iY,I.out,<-o8.out]
    exact(FR.chg J (fun g a e=>by have e:g=d:=e;have a:i<=g:=a;omega)).weak (fun g a=>by have a:i<=g:=a;exact⟨by have:=Y.out.size;omega,fun e=>by have:=H g e;omega,by omega⟩)
   ·exact aB (aB QC X (fun g a e=>by have e:g=q:=e;exact Qu (by rw [a,e]))) J (fun g a e=>by have e:g=d:=e;exact QE (by rw [a,e]))
   ·rw [I.out,<-o8.out]
    exact(FR.chg J (fun g a e=>by have e:g=d:=e;have a:i<=g:=a;omega)).weak (fun g a=>by have a:i<=g:=a;exact⟨by have:=Y.out.size;omega,fun e=>by have:=H g e;omega⟩)
   ·rw [I.out,<-o8.out]
    exact((pJ.1.chg X (fun g a e=>by have e:g=q:=e;have:=a.1;omega)).chg J (fun g a e=>by have e:g=d:=e;have:=a.1;omega)).weak (fun g a=>⟨by have f:=a.1;have C:=Y.out.size;omega,fun e=>by have f:=a.1;have:=H g e;omega⟩)
   ·rw [I.out,<-UJ.out]
    exact((pJ.2.chg X (fun g a e=>by have e:g=q:=e;have:=a.1;omega)).chg J (fun g a e=>by have e:g=d:=e;have:=a.1;omega)).weak (fun g a=>⟨by have f:=a.1;have C:=Y.out.size;omega,fun e=>by have f:=a.1;have:=H g e;omega⟩)
   ·intro g a
    rcases HX.out g a with e|e
    ·exact .inl e
    ·exact .inr (by have:=an.out;omega)
  ·have au:0<l.length:=List.length_pos_iff.2 l0
   have be:1<=(aD l).length:=by
    obtain⟨e,he,hk⟩:=pN au;rw [hk];exact(dB PM he).1
   obtain⟨la,bj⟩:∃la,lA=some la:=by
    have f:=jN.out;obtain⟨b,o,e,_⟩:=rH.out.2 (by omega);exact⟨_,e⟩
   subst bj;have ac:=fun w'=>run_neq_slice_nil_any (P:=prog) w' 24 5 (some la) IK lc 0 0 underlying24;have Dq:Hid (∀w',ag Nil M w'->Calls prog 56 #[.slice (some la) IK lc,.slice K kn kc] w' fun e bE=>e= .returned (.int .i64 (compareBytes (aD l) Z))/\w'=bE):=aa (fun w' hw=>eu _ _ (a8.chg hw (fun _ _ h=>h)).parts.2.2.2 jN ((UG rfl).1.chg hw (fun _ _ h=>h)).parts.2.2.2 (UG rfl).1.parts.2.2.1);obtain⟨ce,ar⟩:=gF (compareBytes (aD l) Z);rw [<-ar] at Dq;have sN:=aa ar;have Au:=aa au;clear l0 au be ar;go_upto_region 9 with fail
   go_quiet ((go_at_call 56;exact dX (Dq _ ((ag.refl Nil M).drewN _))));obtain⟨k,t⟩:=gF (M.drewN nq);rw [<-t];clear z4 y0 ac
   by_cases hc:0<=ce
   ·have tJ:=aa hc;have z3:k.cell? ⟨q,3,none⟩=some (.int .i64 p):=by rw [t];exact vI.cell 3
    have z:Hid (ag Nil M k):=aa (by rw [t];exact(ag.refl Nil M).drewN _);clear t;go_wp2;refine⟨rfl,?_⟩;rw [HR.out]
    refine⟨eY.out.trans z (fun _ _ h=>h.elim),fun h=> ?_,fun _ _=>rfl,fun _ h=> ?_⟩
    ·rw [I.out] at h;exact absurd gJ.out.symm h
    ·rw [I.out,<-o8.out,<-sN.out] at h;exact absurd ⟨Au,tJ⟩ h
   ·have oQ:Hid (¬(0<l.length/\0<=compareBytes (aD l) Z)):=aa (fun h=>by rw [<-sN.out] at h;exact hc h.2);have z:Hid (ag Nil M k):=aa (by rw [t];exact(ag.refl Nil M).drewN _);have oq:Hid (ak k q 295 #[.slice bA bn bc,(n:Int),(ln:Int),(p:Int),ER,x]):=aa (LU.chg z (fun h=>h));have Qx:Hid (ak k d 69 #[(),()]):=aa (UH.chg z (fun h=>h));have Qy:Hid (ak k s 69 #[.slice K kn kc,.slice V vn vc]):=aa (Qv.chg z (fun h=>h));have Qz:=aa (aB UI z (fun _ _ h=>h));have FM:Hid (SB k (fun g=>y<=g/\g≠s) (.slice K kn kc) Z/\SB k (fun g=>y<=g/\g≠s) (.slice V vn vc) va):=aa ⟨(UG rfl).1.chg z (fun _ _ h=>h),(UG rfl).2.chg z (fun _ _ h=>h)⟩;have QA:Hid (ag (fun g=>g=q\/(Value.slice rA rn rc).ownBlock=some g) w k):=aa (eY.out.trans z (fun _ _ h=>h.elim));have z2:k.cell? ⟨q,2,none⟩=some (.int .i64 ln):=oq.out.cell 2;have z3:k.cell? ⟨q,3,none⟩=some (.int .i64 p):=oq.out.cell 3;have BU:=oq.out.frozen 2;have UC:=oq.out.frozen 3;clear t;go_upto_region 13 with fail
    obtain⟨i,E⟩:=gF ((k.setCell ⟨q,2,none⟩ (.int .i64 ((ln:Int)+1))).setCell ⟨q,3,none⟩ (.int .i64 nx));rw [<-E];have Q:Hid (ag (fun g=>g=q) k i):=aa (by rw [E];exact((ag.refl (fun g=>g=q) k).setCell (p:=⟨q,2,none⟩) (fun _=>rfl) _).setCell (p:=⟨q,3,none⟩) (fun _=>rfl) _);have tH:Hid (ak i q 295 #[.slice bA bn bc,(n:Int),.int .i64 ((ln:Int)+1),(nx:Int),ER,x]):=aa (by rw [E];exact(oq.set_ 2 _).set_ 3 _);have bm:q<y:=rM.out.lt;have a9:d<y:=Jj.out.lt;have bo:q<d:=by have:=rJ.out;omega
    have QB:Hid (ak i d 69 #[(),()]):=aa (Qx.chg Q (fun e=>by have e:d=q:=e;omega));have FN:Hid (ak i s 69 #[.slice K kn kc,.slice V vn vc]):=aa (Qy.chg Q (fun e=>by have e:s=q:=e;have:=qQ.out;omega));have QC:=aa (aB Qz Q (fun g a e=>by have e:g=q:=e;exact Qu (by rw [a,e])));have pJ:Hid (SB i (fun g=>y<=g/\g≠s) (.slice K kn kc) Z/\SB i (fun g=>y<=g/\g≠s) (.slice V vn vc) va):=aa ⟨FM.1.chg Q (fun g a e=>by have e:g=q:=e;have:=a.1;omega),FM.2.chg Q (fun g a e=>by have e:g=q:=e;have:=a.1;omega)⟩;have iI:=aa (eG kc pJ.1.parts.2.2.2 pJ.1.parts.2.2.1 (by have f:=pJ.out.1.parts.2.2.1;have C:=PI.out.k2;have h3:=o8.out;rw [<-h3] at C;omega));have y0:i.cell? s=some (.slice K kn kc):=FN.out.cell 0;clear z2 z3 BU UC E;go_upto_region 14 with(go_at_call 24;go_loud (refine iI.mono ?_);rintro e w9 ⟨L,FO,FP,rfl,ad,ae,al,am,D⟩;have HL:Hid (SB w9 (From i) (.slice L FO FP) Z):=aa ((SB.mk ad ae al.out am).weak (fun g a=>a.1));have vk:=aa D;have z4:w9.cell? ⟨q,4,none⟩=some ER:=(tH.out.below D).cell 4;have Ni:=(tH.out.below D).frozen 4;clear ad ae al am D)
    obtain⟨j,pK⟩:=gF (w9.setCell ⟨q,4,none⟩ (.slice L FO FP));rw [<-pK];have X:Hid (ag (fun g=>g=q) i j):=aa (by rw [pK];exact((ag.of_below (S:=fun g=>g=q) vk).setCell (p:=⟨q,4,none⟩) (fun _=>rfl) _));have FQ:Hid (ak j q 295 #[.slice bA bn bc,(n:Int),.int .i64 ((ln:Int)+1),(nx:Int),.slice L FO FP,x]):=aa (by rw [pK];exact(tH.below vk).set_ 4 _);have FR:Hid (SB j (From i) (.slice L FO FP) Z):=aa (by rw [pK];exact HL.chg (ag.set1 w9 q 4 _) (fun g a e=>by have e:g=q:=e;have f:i<=g:=a;have C:=tH.out.lt;omega));have W:=QB.out.chg X (fun e=>by have e:d=q:=e;omega);have pM:=FN.out.chg X (fun e=>by have e:s=q:=e;have:=qQ.out;omega);have bG:j.cell? s=some (.slice K kn kc):=pM.cell 0;have bI:j.cell? ⟨s,1,none⟩=some (.slice V vn vc):=pM.cell 1;have u0:j.cell? d=some (.slice none 0 0):=W.cell 0;have u1:j.cell? ⟨d,1,none⟩=some (.slice none 0 0):=W.cell 1;have bx:=W.frozen 0;have bz:=W.frozen 1;have FT:=aa W;clear y0 z4 Ni W pM pK;go_wp2;have FU:=(FT.out.set_ 0 (.slice K kn kc)).set_ 1 (.slice V vn vc);have v0:((j.setCell d (.slice K kn kc)).setCell ⟨d,1,none⟩ (.slice V vn vc)).cell? d=some (.slice K kn kc):=FU.cell 0;have v1:((j.setCell d (.slice K kn kc)).setCell ⟨d,1,none⟩ (.slice V vn vc)).cell? ⟨d,1,none⟩=some (.slice V vn vc):=FU.cell 1;have J:ag (fun g=>g=d) j ((j.setCell d (.slice K kn kc)).setCell ⟨d,1,none⟩ (.slice V vn vc)):=((ag.refl (fun g=>g=d) j).setCell (p:=d) (fun _=>rfl) _).setCell (p:=⟨d,1,none⟩) (fun _=>rfl) _;refine bodyPost_ret (v:= .agg #[.slice K kn kc,.slice V vn vc]) (by simp [results,results174,go_sem,v0,v1]) rfl ?_;rw [HR.out];obtain⟨bF,QD⟩:=gF ((j.setCell ⟨d,0,none⟩ (.slice K kn kc)).setCell ⟨d,1,none⟩ (.slice V vn vc));rw [<-QD] at J|-;have H:=fun g (a:x.ownBlock=some g)=>(ah YY g a).2
    have QE:x.ownBlock≠some d:=fun e=>by
     rcases HX.out d e with e|e
     ·have f:=(ah HH.own d e).2;have C:=rJ.out;omega
     ·have f:=IG.out.lt;omega
    have ba:y.heap.size<=i:=by have f:=gG.out.size;have C:=z.out.size;have h3:=Q.out.size;omega
    refine⟨((QA.out.trans Q (fun g _ e=> .inl e)).trans X (fun g _ e=> .inl e)).trans J (fun g a e=>by have e:g=d:=e;have C:=rJ.out;omega),fun h=> ?_,fun _ h=> ?_,fun _ _=>⟨K,kn,kc,V,vn,vc,.slice L FO FP,x,rfl,⟨?_,?_,?_,?_,Qu⟩,?_,?_,?_,?_⟩⟩
    ·rw [I.out] at h;exact absurd gJ.out.symm h
    ·rw [I.out,<-o8.out] at h;exact absurd h oQ
    ·have f:=FQ.out.chg J (fun e=>by have e:q=d:=e;omega);rw [I.out,<-xw.out,mq,List.length_singleton,<-fq.out]
     exact f
    ·intro h;simp at h
    ·rw [iY,I.out,<-o8.out]
     exact(FR.chg J (fun g a e=>by have e:g=d:=e;have a:i<=g:=a;omega)).weak (fun g a=>by have a:i<=g:=a;exact⟨by have:=Y.out.size;omega,fun e=>by have:=H g e;omega,by omega⟩)
    ·exact aB (aB QC X (fun g a e=>by have e:g=q:=e;exact Qu (by rw [a,e]))) J (fun g a e=>by have e:g=d:=e;exact QE (by rw [a,e]))
    ·rw [I.out,<-o8.out]
     exact(FR.chg J (fun g a e=>by have e:g=d:=e;have a:i<=g:=a;omega)).weak (fun g a=>by have a:i<=g:=a;exact⟨by have:=Y.out.size;omega,fun e=>by have:=H g e;omega⟩)
    ·rw [I.out,<-o8.out]
     exact((pJ.1.chg X (fun g a e=>by have e:g=q:=e;have:=a.1;omega)).chg J (fun g a e=>by have e:g=d:=e;have:=a.1;omega)).weak (fun g a=>⟨by have f:=a.1;have C:=Y.out.size;omega,fun e=>by have f:=a.1;have:=H g e;omega⟩)
    ·rw [I.out,<-UJ.out]
     exact((pJ.2.chg X (fun g a e=>by have e:g=q:=e;have:=a.1;omega)).chg J (fun g a e=>by have e:g=d:=e;have:=a.1;omega)).weak (fun g a=>⟨by have f:=a.1;have C:=Y.out.size;omega,fun e=>by have f:=a.1;have:=H g e;omega⟩)
    ·intro g a
     rcases HX.out g a with e|e
     ·exact .inl e
     ·exact .inr (by have:=an.out;omega)
 ·have YX:(er==0)=false:=by rw [mi];exact e0
  have mM:Hid (r.err≠0):=aa (by rw [<-gJ.out];exact e0);go_wp2;refine⟨rfl,?_⟩;rw [HR.out]
  refine⟨eY,fun _=> ?_,fun h=> ?_,fun h=> ?_⟩
  ·rw [I.out,<-gJ.out,<-xw.out];rfl
  ·rw [I.out] at h;exact absurd h mM
  ·rw [I.out] at h;exact absurd h mM
theorem UK {lv:Value} (h:BR w base q bA bn bc n l ats p lv rv) (hb:Rd w F 1 bA bn (aI b)) (N:bn=b.length) (m:bn<=bc) (B:∀g,F g->g<base) (hq:base<=q) (u:bY l) (ha:ats.length=l.length) (hl:l.length<=63) (G:p<=bn) (hm:bn<=1152921504606) (ac:¬l.length%8=0):
  Calls prog 174 #[q] w (wQ base q bA bn bc n b l ats p rv w):=by
 refine letter fun R HR=> ?_;obtain⟨ln,s⟩:=gF l.length;have fq:=aa s;rw [<-s] at ac hl;have z2:w.cell? ⟨q,2,none⟩=some (.int .i64 ln):=(h.blk.cell 2).trans (by rw [s];rfl);obtain⟨lA,IK,lc,ar,k1,k2,k3,k4⟩:=h.key;subst ar;have z4:w.cell? ⟨q,4,none⟩=some (.slice lA IK lc):=h.blk.cell 4;have a5:((ln:Int)%8==0)=false:=by rw [mi];omega
 have a0:¬(ln:Int)%8=0:=by omega
 obtain⟨Z,P⟩:=gF ((eighth ats).length);have aw:=aa P;have a1:Z<=63:=by have:=oo ats _ jO;omega
 obtain⟨X,Y,au⟩:∃X Y,rv= .slice X Z Y:=by obtain⟨A,c,e,_,_⟩:=ax h.own;exact⟨A,c,by rw [e,P]⟩
 subst au;have HH:=aa h;have jm:=aa hb;have lD:=aa N;have HF:=aa B;have PM:=aa u;have ao:=aa ha;have jN:=aa k3;have rH:=aa k4;have EQ:=h.blk.lt;have ap:Hid (aS l=aD l):=aa (BQ (by rw [<-s];exact ac));clear h hb N B u ha s k3 k4 P;go_enter func174,ntmps174;go_upto_region 5 with fail
 obtain⟨d,C⟩:=gF w.heap.size;obtain⟨wa,fM⟩:=gF (w.alloc (.cells #[.slice none 0 0,.slice none 0 0] 69));simp only [<-fM,<-C];have rJ:=aa C;have jq:Hid (Below w w wa):=aa (by rw [fM];exact gV);have IG:Hid (ak wa d 69 #[(),()]):=aa (by rw [fM,C];exact ak.new _ _ _);clear fM C z2 z4;obtain⟨x,U⟩:=gF (Value.slice X Z Y);have aA:=aa U;have M:Hid (ag (fun g=>g=q\/(Value.slice X Z Y).ownBlock=some g) w wa):=aa (ag.of_below jq);have HX:Hid (∀g,x.ownBlock=some g->(Value.slice X Z Y).ownBlock=some g\/wa<=g):=aa (fun g a=> .inl (U▸a));have aq:Hid (w.heap.size<wa):=aa (by have f:=IG.out.lt;have y:=rJ.out;omega);have Qu:Hid (x.ownBlock≠some q):=aa (by rw [U];exact HH.ne)
 have rM:Hid (ak wa q 295 #[.slice bA bn bc,(n:Int),(ln:Int),(p:Int),.slice lA IK lc,x]):=aa (by
  have f:=HH.out.blk.below jq;rw [<-fq.out] at f;rw [U];exact f)
 have YY:Hid (wa.ownsRow base 3 1 x (eighth (ats++ [p])).length (o7 (eighth (ats++ [p])))):=aa (by
  rw [wR _ ats p jO,if_neg (by have:=ao.out;have:=fq.out;omega),U];exact own_below HH.own jq)
 have Ub:Hid (SB wa (fun g=>base<=g/\g<w/\x.ownBlock≠some g/\g≠q) (.slice lA IK lc) (aD l)):=aa (((SB.mk k1 k2 jN rH).lt.below jq).weak (fun g a=>⟨a.1.1,a.2,by rw [U];exact a.1.2.1,a.1.2.2⟩));have eF:Hid (Rd wa F 1 bA bn (aI b)):=aa (jm.below jq);have Jj:=IG;clear U;obtain⟨w5,ib⟩:=gF wa;rw [<-ib] at M rM YY Ub eF Jj|-;clear ib;have X3:Hid (0<l.length):=aa (by have f:=fq.out;omega)
 have aE:IK<=64:=by
  obtain⟨e,he,hk⟩:=pN X3;have f:=(dB PM he).2.1;have y:=jN.out;rw [hk] at y;omega
 go_upto_region 6 with fail
 refine LQ (F:=(fun g=>g<w)) (aa (fun _ _ _ _ h=>h)) rM (aa (Ub.parts.2.2.2.weak (fun g a=>a.2.1))) jN k1 (aa (eF.weak (fun g a=>by have f:=HF.out g a;show g<w;omega))) lD m G (by omega) hm k2 (aa (fun g a=>mU a M.size)) ?_;intro be bh bj bk bm bo bp bx bz bE bF bG bI bL t K kn kc V vn vc w6 an ab BS j;obtain⟨r,u⟩:=gF (pread (aD l) b p);have z:Hid (pread (aS l) b p=r):=aa (by rw [ap.out,u]);rw [<-u] at BS|-;obtain⟨er,dN⟩:=gF r.err;obtain⟨nx,O⟩:=gF r.next;obtain⟨ky,Jk⟩:=gF r.key;obtain⟨va,Q⟩:=gF r.val;have FE:Hid (r.err=0->xQ (aD l) b r):=aa (fun h0=>by rw [u] at h0|-;exact kY (by have:=lD.out;omega) h0);rw [<-dN,<-Jk,<-Q] at BS;rw [<-dN,<-O];have gJ:=aa dN;have xw:=aa O;have UG:=aa BS;have qQ:=aa an;have gG:=aa j;have eY:Hid (ag (fun g=>g=q\/(Value.slice X Z Y).ownBlock=some g) w w6):=aa (M.then j);have vI:Hid (ak w6 q 295 #[.slice bA bn bc,(n:Int),(ln:Int),(p:Int),.slice lA IK lc,x]):=aa (rM.below j);have UH:Hid (ak w6 d 69 #[(),()]):=aa (Jj.below j);have Qv:=aa ab;have a2:=aa (Ub.below j);have UI:=aa (own_below YY j);have o8:=aa Jk;have UJ:=aa Q;clear u dN O Jk Q BS an ab j
 by_cases e0:er=0
 ·subst e0;obtain⟨ER,Qw⟩:=gF (Value.slice lA IK lc);have LU:Hid (ak w6 q 295 #[.slice bA bn bc,(n:Int),(ln:Int),(p:Int),ER,x]):=aa (by rw [Qw];exact vI);clear Qw;have PI:=aa (FE gJ.out.symm)
  have oQ:Hid (¬(0<l.length/\0<=compareBytes (aD l) ky)):=aa (fun h=>by
   have a6:1<=(aD l).length:=by
    obtain⟨e,he,hk⟩:=pN X3;rw [hk];exact(dB PM he).1
   have f:=PI.out.lt (by omega);rw [<-o8.out] at f;have:=h.2;omega)
  go_upto_region 9 with fail
  go_quiet (fail);obtain⟨o,T⟩:=gF (w6.drewN nq);rw [<-T];have I:Hid (ag Nil w6 o):=aa (by rw [T];exact(ag.refl Nil w6).drewN _);have oq:Hid (ak o q 295 #[.slice bA bn bc,(n:Int),(ln:Int),(p:Int),ER,x]):=aa (LU.chg I (fun h=>h));have Qx:Hid (ak o d 69 #[(),()]):=aa (UH.chg I (fun h=>h));have Qy:Hid (ak o t 69 #[.slice K kn kc,.slice V vn vc]):=aa (Qv.chg I (fun h=>h));have Qz:=aa (aB UI I (fun _ _ h=>h));have FM:Hid (SB o (fun g=>w5<=g/\g≠t) (.slice K kn kc) ky/\SB o (fun g=>w5<=g/\g≠t) (.slice V vn vc) va):=aa ⟨(UG rfl).1.chg I (fun _ _ h=>h),(UG rfl).2.chg I (fun _ _ h=>h)⟩;have QA:Hid (ag (fun g=>g=q\/(Value.slice X Z Y).ownBlock=some g) w o):=aa (eY.out.trans I (fun _ _ h=>h.elim));have z2:o.cell? ⟨q,2,none⟩=some (.int .i64 ln):=oq.out.cell 2;have z3:o.cell? ⟨q,3,none⟩=some (.int .i64 p):=oq.out.cell 3;have BU:=oq.out.frozen 2;have UC:=oq.out.frozen 3;clear T;go_upto_region 13 with fail
  obtain⟨i,E⟩:=gF ((o.setCell ⟨q,2,none⟩ (.int .i64 ((ln:Int)+1))).setCell ⟨q,3,none⟩ (.int .i64 nx));rw [<-E];have W:Hid (ag (fun g=>g=q) o i):=aa (by rw [E];exact((ag.refl (fun g=>g=q) o).setCell (p:=⟨q,2,none⟩) (fun _=>rfl) _).setCell (p:=⟨q,3,none⟩) (fun _=>rfl) _);have tH:Hid (ak i q 295 #[.slice bA bn bc,(n:Int),.int .i64 ((ln:Int)+1),(nx:Int),ER,x]):=aa (by rw [E];exact(oq.set_ 2 _).set_ 3 _);have a7:q<w5:=rM.out.lt;have a3:d<w5:=Jj.out.lt;have a8:q<d:=by have:=rJ.out;omega
  have QB:Hid (ak i d 69 #[(),()]):=aa (Qx.chg W (fun e=>by have e:d=q:=e;omega));have FN:Hid (ak i t 69 #[.slice K kn kc,.slice V vn vc]):=aa (Qy.chg W (fun e=>by have e:t=q:=e;have:=qQ.out;omega));have QC:=aa (aB Qz W (fun g a e=>by have e:g=q:=e;exact Qu (by rw [a,e])));have pJ:Hid (SB i (fun g=>w5<=g/\g≠t) (.slice K kn kc) ky/\SB i (fun g=>w5<=g/\g≠t) (.slice V vn vc) va):=aa ⟨FM.1.chg W (fun g a e=>by have e:g=q:=e;have:=a.1;omega),FM.2.chg W (fun g a e=>by have e:g=q:=e;have:=a.1;omega)⟩;have iI:=aa (eG kc pJ.1.parts.2.2.2 pJ.1.parts.2.2.1 (by have f:=pJ.out.1.parts.2.2.1;have y:=PI.out.k2;have h3:=o8.out;rw [<-h3] at y;omega));have y0:i.cell? t=some (.slice K kn kc):=FN.out.cell 0;clear z2 z3 BU UC E;go_upto_region 14 with(go_at_call 24;go_loud (refine iI.mono ?_);rintro e w9 ⟨L,FO,FP,rfl,ad,ae,al,am,D⟩;have HL:Hid (SB w9 (From i) (.slice L FO FP) ky):=aa ((SB.mk ad ae al.out am).weak (fun g a=>a.1));have vk:=aa D;have z4:w9.cell? ⟨q,4,none⟩=some ER:=(tH.out.below D).cell 4;have Ni:=(tH.out.below D).frozen 4;clear ad ae al am D)
  obtain⟨k,pK⟩:=gF (w9.setCell ⟨q,4,none⟩ (.slice L FO FP));rw [<-pK];have mQ:Hid (ag (fun g=>g=q) i k):=aa (by rw [pK];exact((ag.of_below (S:=fun g=>g=q) vk).setCell (p:=⟨q,4,none⟩) (fun _=>rfl) _));have FQ:Hid (ak k q 295 #[.slice bA bn bc,(n:Int),.int .i64 ((ln:Int)+1),(nx:Int),.slice L FO FP,x]):=aa (by rw [pK];exact(tH.below vk).set_ 4 _);have FR:Hid (SB k (From i) (.slice L FO FP) ky):=aa (by rw [pK];exact HL.chg (ag.set1 w9 q 4 _) (fun g a e=>by have e:g=q:=e;have f:i<=g:=a;have y:=tH.out.lt;omega));have iR:=QB.out.chg mQ (fun e=>by have e:d=q:=e;omega);have pM:=FN.out.chg mQ (fun e=>by have e:t=q:=e;have:=qQ.out;omega);have bP:k.cell? t=some (.slice K kn kc):=pM.cell 0;have bQ:k.cell? ⟨t,1,none⟩=some (.slice V vn vc):=pM.cell 1;have u0:k.cell? d=some (.slice none 0 0):=iR.cell 0;have u1:k.cell? ⟨d,1,none⟩=some (.slice none 0 0):=iR.cell 1;have a9:=iR.frozen 0;have ba:=iR.frozen 1;have FT:=aa iR;clear y0 z4 Ni iR pM pK;go_wp2;have FU:=(FT.out.set_ 0 (.slice K kn kc)).set_ 1 (.slice V vn vc);have v0:((k.setCell d (.slice K kn kc)).setCell ⟨d,1,none⟩ (.slice V vn vc)).cell? d=some (.slice K kn kc):=FU.cell 0;have v1:((k.setCell d (.slice K kn kc)).setCell ⟨d,1,none⟩ (.slice V vn vc)).cell? ⟨d,1,none⟩=some (.slice V vn vc):=FU.cell 1;have J:ag (fun g=>g=d) k ((k.setCell d (.slice K kn kc)).setCell ⟨d,1,none⟩ (.slice V vn vc)):=((ag.refl (fun g=>g=d) k).setCell (p:=d) (fun _=>rfl) _).setCell (p:=⟨d,1,none⟩) (fun _=>rfl) _;refine bodyPost_ret (v:= .agg #[.slice K kn kc,.slice V vn vc]) (by simp [results,results174,go_sem,v0,v1]) rfl ?_;rw [HR.out];obtain⟨bN,QD⟩:=gF ((k.setCell ⟨d,0,none⟩ (.slice K kn kc)).setCell ⟨d,1,none⟩ (.slice V vn vc));rw [<-QD] at J|-;have H:=fun g (a:x.ownBlock=some g)=>(ah YY g a).2
  have QE:x.ownBlock≠some d:=fun e=>by
   rcases HX.out d e with e|e
   ·have f:=(ah HH.own d e).2;have y:=rJ.out;omega
   ·have f:=IG.out.lt;omega
  have a4:w5.heap.size<=i:=by have f:=gG.out.size;have y:=I.out.size;have h3:=W.out.size;omega
  refine⟨((QA.out.trans W (fun g _ e=> .inl e)).trans mQ (fun g _ e=> .inl e)).trans J (fun g a e=>by have e:g=d:=e;have y:=rJ.out;omega),fun h=> ?_,fun _ h=> ?_,fun _ _=>⟨K,kn,kc,V,vn,vc,.slice L FO FP,x,rfl,⟨?_,?_,?_,?_,Qu⟩,?_,?_,?_,?_⟩⟩
  ·rw [z.out] at h;exact absurd gJ.out.symm h
  ·rw [z.out,<-o8.out] at h;exact absurd h oQ
  ·have f:=FQ.out.chg J (fun e=>by have e:q=d:=e;omega);rw [z.out,<-xw.out,mq,List.length_singleton,<-fq.out]
   exact f
  ·intro h;simp at h
  ·rw [iY,z.out,<-o8.out]
   exact(FR.chg J (fun g a e=>by have e:g=d:=e;have a:i<=g:=a;omega)).weak (fun g a=>by have a:i<=g:=a;exact⟨by have:=M.out.size;omega,fun e=>by have:=H g e;omega,by omega⟩)
  ·exact aB (aB QC mQ (fun g a e=>by have e:g=q:=e;exact Qu (by rw [a,e]))) J (fun g a e=>by have e:g=d:=e;exact QE (by rw [a,e]))
  ·rw [z.out,<-o8.out]
   exact(FR.chg J (fun g a e=>by have e:g=d:=e;have a:i<=g:=a;omega)).weak (fun g a=>by have a:i<=g:=a;exact⟨by have:=M.out.size;omega,fun e=>by have:=H g e;omega⟩)
  ·rw [z.out,<-o8.out]
   exact((pJ.1.chg mQ (fun g a e=>by have e:g=q:=e;have:=a.1;omega)).chg J (fun g a e=>by have e:g=d:=e;have:=a.1;omega)).weak (fun g a=>⟨by have f:=a.1;have y:=M.out.size;omega,fun e=>by have f:=a.1;have:=H g e;omega⟩)
  ·rw [z.out,<-UJ.out]
   exact((pJ.2.chg mQ (fun g a e=>by have e:g=q:=e;have:=a.1;omega)).chg J (fun g a e=>by have e:g=d:=e;have:=a.1;omega)).weak (fun g a=>⟨by have f:=a.1;have y:=M.out.size;omega,fun e=>by have f:=a.1;have:=H g e;omega⟩)
  ·intro g a
   rcases HX.out g a with e|e
   ·exact .inl e
   ·exact .inr (by have:=aq.out;omega)
 ·have YX:(er==0)=false:=by rw [mi];exact e0
  have mM:Hid (r.err≠0):=aa (by rw [<-gJ.out];exact e0);go_wp2;refine⟨rfl,?_⟩;rw [HR.out]
  refine⟨eY,fun _=> ?_,fun h=> ?_,fun h=> ?_⟩
  ·rw [z.out,<-gJ.out,<-xw.out];rfl
  ·rw [z.out] at h;exact absurd h mM
  ·rw [z.out] at h;exact absurd h mM
theorem M7 {lv:Value} (h:BR w base q bA bn bc n l ats p lv rv) (d:Rd w F 1 bA bn (aI b)) (N:bn=b.length) (m:bn<=bc) (B:∀g,F g->g<base) (K:base<=q) (u:bY l) (c:ats.length=l.length) (hl:l.length<=63) (G:p<=bn) (e:bn<=1152921504606):
  Calls prog 174 #[q] w (wQ base q bA bn bc n b l ats p rv w):=by
 by_cases a:l.length%8=0
 ·exact UF h d N m B K u c hl G e a
 ·exact UK h d N m B K u c hl G e a
end Go.Proofs.YtepgcjbhabnciaaGreat
