/- Part 18. -/
import Derived.Test.YtepgcjbhabnciaaGreatLe16
import Derived.Test.YtepgcjbhabnciaaGreatLe17
import Derived.Defers
import Derived.Recover
namespace Go.Proofs.YtepgcjbhabnciaaGreat
set_option maxRecDepth 100000
set_option maxHeartbeats 8000000
open Go.Proofs.Tryz Go.RowKit
open Go.Lib (compareBytes)
variable {b:List UInt8}
section
section
variable {S F G:Nat->Prop} {w w':World} {v:Value} {bs:List UInt8}
end
theorem lK:(prog.info? 69).map (fun i=>(i.zero,i.size,i.bytes))=some (some (.agg #[.slice none 0 0,.slice none 0 0]),2,48):=by kernel_rfl
section
variable {S F G:Nat->Prop} {w w':World} {k:Nat} {l:List aK} {xs:List Value}
end
theorem Rd.one2 (w:World) (u v:Value) (t:TypeId):Rd (w.alloc (.cells #[u,v] t)) (From w.heap.size) 2 (some ⟨w.heap.size,0,none⟩) 1 [u,v]:=
 ⟨rfl,fun _=>⟨w.heap.size,0,rfl,Nat.le_refl _,fun j x a=>by
  rw [(aj.new w t #[u,v]).cell]
  match j,a with
  |0,a=>simpa using a
  |1,a=>simpa using a⟩⟩
end
section
theorem SB.next3 {S D D':Nat->Prop} {w w':World} {v:Value} {bs:List UInt8} (h:SB w D v bs) (y:ag S w w') (d:∀b,b<w.heap.size->D b->¬S b) (c:∀b,b<w.heap.size->D b->D' b):SB w' D' v bs:=
 (h.lt.chg y (fun b a=>d b a.2 a.1)).weak (fun b a=>c b a.2 a.1)
structure ER (w:World) (base q:Nat) (rv out:Value) (us:List Value) (l:List aK):Prop where
 own:w.ownsRow base 69 2 out l.length us
 ne:∀g,out.ownBlock=some g->g≠q/\rv.ownBlock≠some g
 at_:∀(i:Nat) (e:aK),l[i]? =some e->∃u v,us[2*i]? =some u/\us[2*i+1]? =some v/\SB w (fun g=>base<=g/\g≠q/\rv.ownBlock≠some g/\out.ownBlock≠some g) u e.1/\SB w (fun g=>base<=g/\g≠q/\rv.ownBlock≠some g/\out.ownBlock≠some g) v e.2
section
variable {S:Nat->Prop} {w w':World} {base q:Nat} {rv rv' out:Value} {us:List Value} {l:List aK}
theorem ER.nil (w:World) (base q:Nat) (rv:Value):ER w base q rv (.slice none 0 0) [] []:=⟨World.ownsRow_nil _ _ _ _,fun g a=>by simp [Value.ownBlock] at a,fun i e h=>by simp at h⟩
theorem ER.step (h:ER w base q rv out us l) (f:ag (fun g=>g=q\/rv.ownBlock=some g) w w') (m:∀g,rv'.ownBlock=some g->rv.ownBlock=some g\/w.heap.size<=g):ER w' base q rv' out us l:=by
 have d:∀g,g<w.heap.size->rv.ownBlock≠some g->rv'.ownBlock≠some g:=fun g c k e=>by
  rcases m g e with h|h
  ·exact k h
  ·omega
 refine⟨aD h.own f (fun g c e=>by rcases e with e|e;exact(h.ne g c).1 e;exact(h.ne g c).2 e),fun g c=>⟨(h.ne g c).1,d g (ah h.own g c).2 (h.ne g c).2⟩,fun i e j=> ?_⟩;obtain⟨u,v,a,b,n,o⟩:=h.at_ i e j;exact⟨u,v,a,b,n.next3 f (fun g _ c e=>by rcases e with e|e;exact c.2.1 e;exact c.2.2.1 e) (fun g hl c=>⟨c.1,c.2.1,d g hl c.2.2.1,c.2.2.2⟩),o.next3 f (fun g _ c e=>by rcases e with e|e;exact c.2.1 e;exact c.2.2.1 e) (fun g hl c=>⟨c.1,c.2.1,d g hl c.2.2.1,c.2.2.2⟩)⟩
theorem ER.chg (h:ER w base q rv out us l) (y:ag S w w') (d:∀g,base<=g->g<w.heap.size->¬S g):ER w' base q rv out us l:=
 ⟨aD h.own y (fun g c=>d g (ah h.own g c).1 (ah h.own g c).2),h.ne,fun i e f=>let⟨u,v,a,b,j,k⟩:=h.at_ i e f;⟨u,v,a,b,j.next3 y (fun g hl c=>d g c.1 hl) (fun _ _ h=>h),k.next3 y (fun g hl c=>d g c.1 hl) (fun _ _ h=>h)⟩⟩
theorem ER.push {v2 u v:Value} {e:aK} (h:ER w base q rv out us l) (C:q<w.heap.size) (o:∀g,rv.ownBlock=some g->g<w.heap.size) (t:w'.ownsRow base 69 2 v2 (l.length+1) (us++ [u,v])) (s:w.grownBy w' out.ownBlock) (f:v2.ownBlock=out.ownBlock\/v2.ownBlock=some w.heap.size)
  (z:SB w (fun g=>base<=g/\g≠q/\rv.ownBlock≠some g/\out.ownBlock≠some g) u e.1) (hv:SB w (fun g=>base<=g/\g≠q/\rv.ownBlock≠some g/\out.ownBlock≠some g) v e.2):ER w' base q rv v2 (us++ [u,v]) (l++ [e]):=by
 have hl:us.length=l.length*2:=h.own.1
 have key:∀g,g<w.heap.size->(base<=g/\g≠q/\rv.ownBlock≠some g/\out.ownBlock≠some g)->(base<=g/\g≠q/\rv.ownBlock≠some g/\v2.ownBlock≠some g):=fun g p d=>⟨d.1,d.2.1,d.2.2.1,fun e=>by
  rcases f with h|h
  ·exact d.2.2.2 (h▸e)
  ·rw [h] at e;injection e with e;omega⟩
 have j:∀{x:Value} {bs:List UInt8},SB w (fun g=>base<=g/\g≠q/\rv.ownBlock≠some g/\out.ownBlock≠some g) x bs->SB w' (fun g=>base<=g/\g≠q/\rv.ownBlock≠some g/\v2.ownBlock≠some g) x bs:=fun d=>d.next3 (ag.of_grown s) (fun b _ p e=>p.2.2.2 e) key
 refine⟨by rw [List.length_append];exact t,fun g c=> ?_,fun i c hi=> ?_⟩
 ·rcases f with k|k
  ·exact h.ne g (k▸c)
  ·rw [k] at c;injection c with c;exact⟨by omega,fun r=>by have:=o g r;omega⟩
 ·rcases Nat.lt_or_ge i l.length with m|m
  ·rw [List.getElem?_append_left m] at hi;obtain⟨x,y,a,b,A,B⟩:=h.at_ i c hi
   exact⟨x,y,by rw [List.getElem?_append_left (by omega)];exact a,by rw [List.getElem?_append_left (by omega)];exact b,j A,j B⟩
  ·rw [List.getElem?_append_right m] at hi;have n:i=l.length:=by have:=(List.getElem?_eq_some_iff.1 hi).1;simp at this;omega
   subst n;simp at hi;subst hi
   refine⟨u,v,?_,?_,j z,j hv⟩
   ·rw [List.getElem?_append_right (by omega),show 2*l.length-us.length=0 by omega];rfl
   ·rw [List.getElem?_append_right (by omega),show 2*l.length+1-us.length=1 by omega];rfl
theorem ER.ents {A:Option Addr} {n c:Nat} (h:ER w base q rv (.slice A n c) us l) (j:n=l.length):bz w (From base) A n l:=by
 subst j;exact⟨aa rfl,us,Rd.of_own h.own,fun i e f=>let⟨u,v,a,b,g,k⟩:=h.at_ i e f;⟨u,v,a,b,g.weak (fun _ d=>d.1),k.weak (fun _ d=>d.1)⟩⟩
end
noncomputable def Yx:Code:=aV (f172.body.bind (aJ 2))
theorem Ic (z gl q:Nat) (g:Value) (R:Ending->World->Prop) (b:List PanicEntry) (w:World) {L H v d B r u9 M E I Z N U Y O f C s:Value} (Q:Exit->Act->World->Prop) (mQ:Hid (∀c t (a:Act) w,Q (.panic c) ⟨t,a.defers⟩ w->Q (.panic c) a w))
  (m:Hid (aj w gl 58 #[g])) (n:Hid (∀k,Calls prog 174 #[.pointer (some ⟨q,0,none⟩)] (w.drewN k) R)) (p:Hid (∀e w',R e w'->e= .panicked b))
  (j:∀t (w':World),R (.panicked b) w'->Q (.panic b) ⟨t,[]⟩ w'):
  Code.wp prog Yx Q ⟨(.pointer (some ⟨z,0,none⟩):: .pointer (some ⟨gl,0,none⟩):: .pointer (some ⟨q,0,none⟩)::L::H::v::d::B::r::u9::M::E::I::Z::N::U::Y::O::f::C::s:: []).toArray,[]⟩ w:=by
 have o:=aa j;have h:w.drew.cell? ⟨gl,0,none⟩=some g:=m.out.cell 0;clear j;conv=>arg 2;whnf
 refine aS (fun w'=>w'.cell? ⟨gl,0,none⟩=some g) 5 (by kernel_rfl) ?_;refine uF 1 (fun _=>h) ?_;refine uT 0 h ?_;refine aH (i:=2) (by kernel_rfl) rfl (fun K u=> ?_);go_simp
 refine(n 1).mono ?_;intro e w2 l;obtain rfl:=p.out e w2 l;exact o _ w2 l
theorem Ui (z gl q base m g:Nat) (b:Option Addr) (us:List Value) (R:Ending->World->Prop) (X:Option Addr->Nat->Nat->Option Addr->Nat->Nat->World->Prop) (w:World) {L H v d B r u9 M E I Z N U Y O f C s:Value} (Q:Exit->Act->World->Prop) (mQ:Hid (∀c t (a:Act) w,Q (.panic c) ⟨t,a.defers⟩ w->Q (.panic c) a w))
  (HL:Hid (aj w gl 58 #[.slice b m g])) (HN:Hid (∀k,Calls prog 174 #[.pointer (some ⟨q,0,none⟩)] (w.drewN k) R)) (p9:Hid (∀e w',R e w'->∃K n l V p o,e= .returned (.agg #[.slice K n l,.slice V p o])/\X K n l V p o w'))
  (HX:Hid (∀K n l V p o w',X K n l V p o w'->w'.ownsRow base 69 2 (.slice b m g) m us/\aj w' gl 58 #[.slice b m g]/\base<=w'.heap.size/\(Value.slice b m g).ownBlock≠some gl)) (hm:m<=64)
  (ax:∀(ab ac ad ae al:Value) (K:Option Addr) (n l:Nat) (V:Option Addr) (p o:Nat) (x:Value) (w2 wa w3:World),X K n l V p o w2->Below w2.heap.size w2 wa->w3.ownsRow base 69 2 x (m+1) (us++ [.slice K n l,.slice V p o])->wa.grownBy w3 (Value.slice b m g).ownBlock->(x.ownBlock=(Value.slice b m g).ownBlock\/x.ownBlock=some wa.heap.size)->Q .normal ⟨(.pointer (some ⟨z,0,none⟩):: .pointer (some ⟨gl,0,none⟩):: .pointer (some ⟨q,0,none⟩)::L::H::v::d::B::r::u9::M::E::I::Z::ab::ac::ad::ae::al::C::s:: []).toArray,[]⟩ (w3.setCell ⟨gl,0,none⟩ x)):
  Code.wp prog Yx Q ⟨(.pointer (some ⟨z,0,none⟩):: .pointer (some ⟨gl,0,none⟩):: .pointer (some ⟨q,0,none⟩)::L::H::v::d::B::r::u9::M::E::I::Z::N::U::Y::O::f::C::s:: []).toArray,[]⟩ w:=by
 obtain⟨i0,P,kH,kI,kJ⟩:=info_parts lK;have dP:=aa ax;have S0:w.drew.cell? ⟨gl,0,none⟩=some (.slice b m g):=HL.out.cell 0;clear ax;conv=>arg 2;whnf
 refine aS (fun w'=>w'.cell? ⟨gl,0,none⟩=some (.slice b m g)) 5 (by kernel_rfl) ?_;refine uF 1 (fun _=>S0) ?_;refine uT 0 S0 ?_;refine aH (i:=2) (by kernel_rfl) rfl (fun K j=> ?_);go_simp
 refine(HN 1).mono ?_;intro e w2 hR;obtain⟨J,n,l,V,p,o,rfl,T⟩:=p9.out e w2 hR;obtain⟨o1,W,o3,o4⟩:=HX.out _ _ _ _ _ _ _ T;have PQ:=aa T;have lD:=aa o1;have iR:=aa W;have S1:w2.cell? ⟨gl,0,none⟩=some (.slice b m g):=W.cell 0;clear hR T o1 W;refine j.out _ _ (fun _=>S1) ?_;clear j K;try simp only [aL,aN,aZ,aC]
 refine aH (i:=3) (by kernel_rfl) rfl (fun K j=> ?_);go_simp
 have D:Below w2.heap.size w2 (w2.alloc (.cells #[.slice J n l,.slice V p o] 69)):=(Below.refl _ _).alloc (Nat.le_refl _) _;have y:=aa D;have S3:(w2.alloc (.cells #[.slice J n l,.slice V p o] 69)).cell? ⟨gl,0,none⟩=some (.slice b m g):=ak D S1;refine j.out _ _ (fun _=>S3) ?_;clear j K;try simp only [aL,aN,aZ,aC]
 refine aH (i:=4) (by kernel_rfl) rfl (fun K j=> ?_);refine aI _ rfl (.tmp 14) (.tmp 17) _ rfl base 69 i0 _ 2 48 underlying58 P kH kI kJ rfl (by omega) (.slice b m g) m us rfl (own_below lD y) (From w2.heap.size) (some ⟨w2.heap.size,0,none⟩) 1 1 [.slice J n l,.slice V p o] rfl (Rd.two w2 _ _ _) (by intro u F;simp at F;rcases F with F|F<;>subst F<;>rfl) (by simp only [maxLen];omega) (by omega) (Nat.le_trans o3 y.size) ?_;intro x w4 G A ib;obtain⟨K4,EJ,S,_,_⟩:=au G;subst S;have iV:=aa G;have I9:=aa A;have yL:=aa ib;have Hr:w4.cell? ⟨gl,0,none⟩=some (.slice b m g):=(ag.of_grown A).cell o4 S3;have XQ:w4.frozen? ⟨gl,0,none⟩=false:=((iR.below y).chg (ag.of_grown A) o4).frozen 0;clear G A ib;refine j.out _ _ (fun _=>Hr) ?_;clear j K;try simp only [aL,aN,aZ,aC]
 refine aH (i:=5) (by kernel_rfl) rfl (fun K j=> ?_);go_simp
 refine j.out _ _ (fun h=>absurd h (by decide)) ?_;clear j K;try simp only [aL,aN,aZ,aC]
 refine bS (by kernel_rfl) ?_ _;exact dP _ _ _ _ _ _ _ _ _ _ _ _ w2 _ w4 PQ y iV I9 yL
end
theorem Cr {B:Jb} (a:(ai b 0).2.2=0) (d:1<=(ai b 0).1) (e:(ai b 0).1<=64) (c:bq b (ai b 0).1 [] [] (ai b 0).2.1=B):
  aB b=if B.err≠0 then([],B.err,B.place) else if stand b ((eighth B.ats).flatMap two) B.at_<((eighth B.ats).flatMap two).length then([],62,B.at_+stand b ((eighth B.ats).flatMap two) B.at_) else if B.at_+((eighth B.ats).flatMap two).length<b.length then([],63,B.at_+((eighth B.ats).flatMap two).length) else(B.ents,0,0):=by
 unfold aB;rw [if_neg (fun h=>h a),if_neg (by omega),c]
theorem uN (b:List UInt8) (m:Nat) (l:List aK) (ats:List Nat) (p:Nat):bq b (m+1) l ats p=if(pread (aP l) b p).err≠0 then⟨l,ats,p,(pread (aP l) b p).err,(pread (aP l) b p).next⟩
  else if 0<l.length/\0<=compareBytes (az l) (pread (aP l) b p).key then⟨l,ats,p,51,p⟩
  else bq b m (l++ [((pread (aP l) b p).key,(pread (aP l) b p).val)]) (ats++ [p]) (pread (aP l) b p).next:=rfl
theorem qa (b:List UInt8):∀(a:List UInt8) (p:Nat),stand b a p<=a.length
 | [],_=>Nat.le_refl _
 |c::r,p=>by
  unfold stand;have:=qa b r (p+1);split<;>simp<;>omega
structure uO (gl:Nat) (b:List UInt8) (w:World) (e:Ending) (w':World):Prop where
 chg:ag (fun g=>g=gl) w w'
 bad:(aB b).2.1≠0->e= .panicked (fw (aB b).2.1 (aB b).2.2)
 ok:(aB b).2.1=0->e= .returned (.tuple #[])/\∃A n c,aj w' gl 58 #[.slice A n c]/\n<=c/\c<=maxLen/\bz w' (From w.heap.size) A n (aB b).1
structure Lp (gl q:Nat) (bA:Option Addr) (bn bc x p0:Nat) (b:List UInt8) (w0:World) (l:List aK) (ats:List Nat) (p:Nat) (lv rv out:Value) (us:List Value) (w:World):Prop where
 br:BR w w0.heap.size q bA bn bc x l ats p lv rv
 er:ER w w0.heap.size q rv out us l
 lva:SB w (fun g=>w0.heap.size<=g/\rv.ownBlock≠some g/\g≠q/\out.ownBlock≠some g) lv (az l)
 box:aj w gl 58 #[out]
 chg:ag (fun g=>g=gl) w0 w
 rise:bH l
 alen:ats.length=l.length
 ple:p<=bn
 llx:l.length<=x
 eq:bq b x [] [] p0=bq b (x-l.length) l ats p
 aple:∀a∈ats,a<=bn
theorem zR (F:Nat->Prop) (z gl:Nat) (bA:Option Addr) (bn bc:Nat) (b:List UInt8) (w:World) (i:aj w z 24 #[.slice bA bn bc]) (_h:Rd w F 1 bA bn (aF b)) (_N:bn=b.length) (_Q:bn<=1152921504606) (c:Int) (g:Nat) (k:aB b=([],c,g)) (d:c≠0)
  (j:Calls prog 173 #[.slice bA bn bc] w fun e w'=>e= .panicked (fw c g)/\Below w.heap.size w w'):
  Calls prog 172 #[.pointer (some ⟨z,0,none⟩),.pointer (some ⟨gl,0,none⟩)] w (uO gl b w):=by
 refine letter fun R m=> ?_;have l:=aa j;have f:=aa k;have o:w.cell? ⟨z,0,none⟩=some (.slice bA bn bc):=i.cell 0;clear i _h _N j k;go_enter func172,ntmps172
 go_wp2_with (go_at_call 173;go_loud (refine l.mono ?_);rintro e w2 ⟨rfl,a⟩;have n:=aa a;clear a)
 refine⟨rfl,?_⟩;rw [m.out]
 refine⟨ag.of_below n,fun _=> ?_,fun _h=> ?_⟩
 ·rw [f.out]
 ·rw [f.out] at _h;exact absurd _h d
theorem Uj (F:Nat->Prop) (z gl:Nat) (bA:Option Addr) (bn bc:Nat) (b:List UInt8) (w:World) (hB:aj w z 24 #[.slice bA bn bc]) (hL:aj w gl 58 #[.slice none 0 0]) (h:Rd w F 1 bA bn (aF b)) (N:bn=b.length) (D:bn<=bc) (Q:bn<=1152921504606) (hF:∀g,F g->g<w.heap.size/\g≠gl)
  (h0:(ai b 0).2.2=0) (i:1<=(ai b 0).1) (m:(ai b 0).1<=64):
  Calls prog 172 #[.pointer (some ⟨z,0,none⟩),.pointer (some ⟨gl,0,none⟩)] w (uO gl b w):=by
 refine letter fun R HR=> ?_;have an:=aa (Ml F bA bn bc b w h N Q h0 i m);have Lr:=aa (fun(B:Jb) (hB:bq b (ai b 0).1 [] [] (ai b 0).2.1=B)=>Cr h0 i m hB);have HV:=aa (fe b 0 (Nat.zero_le _)).2;obtain⟨x,hx⟩:∃x,x=(ai b 0).1:=⟨_,rfl⟩;obtain⟨U,ad⟩:∃U,U=(ai b 0).2.1:=⟨_,rfl⟩;rw [<-hx,<-ad] at an Lr;rw [<-ad] at HV;rw [<-hx] at i m;have HH:=aa h;have HN:=aa N;have HF:=aa hF;have HL:=aa hL;have z0:w.cell? ⟨z,0,none⟩=some (.slice bA bn bc):=hB.cell 0;have a4:=hL.lt;clear hB hL h N hF h0 hx ad;go_enter func172,ntmps172
 go_wp2_with (go_at_call 173;go_loud (refine an.mono ?_);rintro e w1 ⟨q,rfl,hq,aA,aw⟩;have u:=aa hq;have jM:=aa aA;have am:=aa aw;clear hq aA aw)
 clear z0
 go_loopg [] x (fun g' wz=>∃(l:List aK) (ats:List Nat) (p:Nat) (lv rv out:Value) (us:List Value),g'=x-l.length/\Lp gl q bA bn bc x U b w l ats p lv rv out us wz)
 case atStart=>exact⟨[],[],U,.slice none 0 0,.slice none 0 0,.slice none 0 0,[],rfl,jM,ER.nil _ _ _ _,SB.nil _ _,HL.below am,ag.of_below am,fH,rfl,by have i:=HV.out;have m:=HN.out;omega,Nat.zero_le _,rfl,fun a E=>by simp at E⟩
 case round=>
  obtain⟨l,ats,p,lv,rv,out,us,c,hm⟩:=hrel;have HG:=aa c;have d:=aa hm;have a1:=hm.llx;obtain⟨ln,J⟩:∃ln,ln=l.length:=⟨_,rfl⟩;have eu:=aa J;rw [<-J] at a1;have y2:wr.cell? ⟨q,2,none⟩=some (.int .i64 ln):=(hm.br.blk.cell 2).trans (by rw [J];rfl);have y1:wr.cell? ⟨q,1,none⟩=some (.int .i64 x):=hm.br.blk.cell 1;clear c hm J;go_upto_region 1 with fail
  go_quiet (fail);obtain⟨W,hW⟩:∃W,W=wr.drewN nq:=⟨_,rfl⟩;rw [<-hW];have G:Hid (ag Nil wr W):=aa (by rw [hW];exact(ag.refl Nil wr).drewN _);have aq:Hid (W.heap.size=wr.heap.size):=aa (by rw [hW];rfl);clear y1 y2 hW;have ES:Hid (BR W w.heap.size q bA bn bc x l ats p lv rv):=aa (d.br.chg G (fun _ _ _ h=>h) u);have d9:Hid (Rd W F 1 bA bn (aF b)):=aa ((HH.chg d.chg (fun g c e=>(HF g c).2 e)).chg G (fun _ _ h=>h))
  by_cases a6:ln<x
  ·obtain⟨r,hr⟩:∃r,r=pread (aP l) b p:=⟨_,rfl⟩;have f:=aa hr;have qb:Hid (∀k,Calls prog 174 #[.pointer (some ⟨q,0,none⟩)] (W.drewN k) (fun e w'=>∃k,sQ w.heap.size q bA bn bc x b l ats p rv (W.drewN k) e w')):=aa (fun k=>(Jc F w.heap.size q bA bn bc x b l ats p lv rv (W.drewN k) (ES.chg ((ag.refl Nil W).drewN k) (fun _ _ _ h=>h) u) (d9.chg ((ag.refl Nil W).drewN k) (fun _ _ h=>h)) HN D (fun g c=>(HF g c).1) u d.rise d.alen (by have:=eu.out;omega) d.ple Q).mono (fun e w' h=>⟨k,h⟩))
   have xF:Hid (bq b x [] [] U=if r.err≠0 then⟨l,ats,p,r.err,r.next⟩ else if 0<l.length/\0<=compareBytes (az l) r.key then⟨l,ats,p,51,p⟩ else bq b (x-(l.length+1)) (l++ [(r.key,r.val)]) (ats++ [p]) r.next):=aa (by
    rw [d.out.eq,show x-l.length=(x-(l.length+1))+1 by have:=eu.out;omega,uN,hr])
   clear hr;obtain⟨oA,oc,ac,_,_⟩:=au d.er.own;have nU:Hid (aj W gl 58 #[out]):=aa (d.box.chg G (fun h=>h));have a7:q<W.heap.size:=ES.out.blk.lt;have Jd:Hid (w.heap.size<=W.heap.size):=aa (by have i:=d.out.chg.size;have m:=aq.out;omega);have rH:Hid (ag (fun g=>g=gl) w W):=aa (d.chg.trans G (fun _ _ h=>h.elim))
   have ar:Hid (∀(ec:Int) (ep:Nat) (w':World),(∃k,sQ w.heap.size q bA bn bc x b l ats p rv (W.drewN k) (.panicked (fw ec ep)) w')->aB b=([],ec,ep)->ec≠0->uO gl b w (.panicked (fw ec ep)) w'):=aa (fun ec ep w' h he a3=>by
    obtain⟨k,h⟩:=h;refine⟨(rH.drewN k).trans (h.chg.mono (T:=fun g=>g=gl\/w.heap.size<=g) (fun g _ e=> ?_)) (fun g c e=>by rcases e with e|e;exact e;omega),fun _=>by rw [he],fun h=>by rw [he] at h;exact absurd h a3⟩
    rcases e with e|e
    ·exact .inr (by have:=u.out;omega)
    ·exact .inr (ah ES.own g e).1)
   by_cases A:r.err=0
   ·by_cases c0:0<l.length/\0<=compareBytes (az l) r.key
    ·have qc:Hid (aB b=([],51,p)):=aa (by rw [Lr.out ⟨l,ats,p,51,p⟩ (by rw [xF.out,if_neg (fun h=>h A),if_pos c0]),if_pos (by simp)]);have iZ:=aa c0;have kK:=aa A;clear c0 A;go_upto_region 2 with fail
     refine Ic z gl q out (fun e w'=>∃k,sQ w.heap.size q bA bn bc x b l ats p rv (W.drewN k) e w') (fw 51 p) W _ (aa (fun _ _ _ _ h=>h)) nU qb (aa (fun e w' h=>by obtain⟨k,h⟩:=h;exact h.ord (by rw [<-f.out];exact kK) (by rw [<-f.out];exact iZ))) ?_;intro t w' h;refine⟨rfl,?_⟩;rw [HR.out]
     exact ar.out 51 p w' h qc (by decide)
    ·have iZ:=aa c0;have kK:=aa A;have a2:Hid (bq b x [] [] U=bq b (x-(l.length+1)) (l++ [(r.key,r.val)]) (ats++ [p]) r.next):=aa (by rw [xF.out,if_neg (fun h=>h A),if_neg c0]);have ae:=jq (prev:=aP l) (b:=b) (p:=p) (by have i:=d.out.ple;have m:=HN.out;omega) (by rw [<-f.out];exact A);rw [<-f.out] at ae;have Ct:=aa ae;clear c0 A ae;subst ac;go_upto_region 2 with fail
     refine Ui z gl q w.heap.size l.length oc oA us (fun e w'=>∃k,sQ w.heap.size q bA bn bc x b l ats p rv (W.drewN k) e w') (fun K kn kc V vn vc w'=>∃Y rv',BR w' w.heap.size q bA bn bc x (l++ [(r.key,r.val)]) (ats++ [p]) r.next Y rv'/\SB w' (fun g=>W.heap.size<=g/\rv'.ownBlock≠some g) Y r.key/\SB w' (fun g=>W.heap.size<=g/\rv'.ownBlock≠some g) (.slice K kn kc) r.key/\SB w' (fun g=>W.heap.size<=g/\rv'.ownBlock≠some g) (.slice V vn vc) r.val/\(∀g,rv'.ownBlock=some g->rv.ownBlock=some g\/W.heap.size<=g)/\ag (fun g=>g=q\/rv.ownBlock=some g) W w') W _ (aa (fun _ _ _ _ h=>h)) nU qb (aa (fun e w' h=> ?_)) (aa (fun K kn kc V vn vc w' h=> ?_)) (by have:=eu.out;omega) ?_
     ·obtain⟨k,h⟩:=h;obtain⟨K,kn,kc,V,vn,vc,Y,rv',he,O,h4,h5,h6,h7⟩:=h.ok (by rw [<-f.out];exact kK) (by rw [<-f.out];exact iZ);rw [<-f.out] at O h4 h5 h6
      exact⟨K,kn,kc,V,vn,vc,he,Y,rv',O,h4,h5,h6,h7,((ag.refl (fun g=>g=q\/rv.ownBlock=some g) W).drewN k).trans h.chg (fun _ _ h=>h)⟩
     ·obtain⟨Y,rv',O,h4,h5,h6,h7,I⟩:=h;have H:=(d.out.er.chg G (fun _ _ _ h=>h)).step I h7;refine⟨H.own,nU.chg I (fun e=> ?_),by have i:=I.size;have m:=Jd.out;omega,fun e=>by have:=(ah d.er.own gl e).1;omega⟩
      rcases e with e|e
      ·have:=u.out;omega
      ·have:=(ah ES.own gl e).1;omega
     ·intro a8 a9 ba bb be K kn kc V vn vc xx w2 wa X hX M P o ab;obtain⟨Y,rv',O,h4,h5,h6,h7,I⟩:=hX;have H:=(d.out.er.chg G (fun _ _ _ h=>h)).step I h7;have ea:=H.chg (ag.of_below (S:=Nil) M) (fun _ _ _ h=>h);have Yy:=O.chg (ag.of_below (S:=Nil) M) (fun _ _ _ h=>h) u;have L:∀g,(Value.slice oA l.length oc).ownBlock=some g->g<W.heap.size:=fun g c=>by have i:=(ah d.er.own g c).2;have m:=aq.out;omega
      have C:∀g,(W.heap.size<=g/\rv'.ownBlock≠some g)->(w.heap.size<=g/\g≠q/\rv'.ownBlock≠some g/\(Value.slice oA l.length oc).ownBlock≠some g):=fun g c=>⟨by have:=Jd.out;omega,by omega,c.2,fun e=>by have:=L g e;omega⟩;have e3:=ea.push (e:=(r.key,r.val)) (by have i:=I.size;have m:=M.size;omega) (fun g c=>(ah Yy.own g c).2) P o ab ((h5.below M).weak C) ((h6.below M).weak C);have s:ag (fun g=>g=gl) X (X.setCell ⟨gl,0,none⟩ xx):=(ag.refl (fun g=>g=gl) X).setCell (p:=⟨gl,0,none⟩) (fun _=>rfl) _;have e4:=e3.chg s (fun g c _ e=>by have e:g=gl:=e;omega)
      have aE:SB X (fun g=>W.heap.size<=g/\rv'.ownBlock≠some g/\xx.ownBlock≠some g) Y r.key:=by
       refine(h4.lt.below M).next3 (ag.of_grown o) (fun g _ c e=>by have i:=L g e;have m:=c.1.1;omega) (fun g hl c=>⟨c.1.1,c.1.2,fun e=> ?_⟩)
       rcases ab with h|h
       ·rw [h] at e;have i:=L g e;have m:=c.1.1;omega
       ·rw [h] at e;injection e with e;omega
      have Uk:=aE.chg s (fun g c e=>by have e:g=gl:=e;have i:=c.1;have m:=Jd.out;omega);have ax:aj X q 295 _:=Yy.blk.chg (ag.of_grown o) (fun e=>(H.ne q e).1 rfl)
      have tV:ag (fun g=>g=gl) w X:=by
       refine((rH.out.trans (I.mono (T:=fun g=>w.heap.size<=g) (fun g _ e=> ?_)) (fun g c e=>by omega)).then M).trans ((ag.of_grown o).mono (T:=fun g=>w.heap.size<=g) (fun g _ e=>(ah d.er.own g e).1)) (fun g c e=>by omega)
       rcases e with e|e
       ·have:=u.out;omega
       ·exact(ah ES.own g e).1
      have Ce:aj (X.setCell ⟨gl,0,none⟩ xx) gl 58 #[xx]:=by
       have i:aj w2 gl 58 #[.slice oA l.length oc]:=nU.out.chg I (fun e=>by
        rcases e with e|e
        ·have:=u.out;omega
        ·have:=(ah ES.own gl e).1;omega)
       exact((i.below M).chg (ag.of_grown o) (fun e=>by have:=(ah d.er.own gl e).1;omega)).set_ 0 xx
      have a0:Hid (Lp gl q bA bn bc x U b w (l++ [(r.key,r.val)]) (ats++ [p]) r.next Y rv' xx (us++ [.slice K kn kc,.slice V vn vc]) (X.setCell ⟨gl,0,none⟩ xx)):=aa (by
       refine⟨⟨ax.chg s (fun e=>by have e:q=gl:=e;have:=u.out;omega),fun h=>by simp at h,?_,?_,O.ne⟩,e4,?_,Ce,tV.trans s (fun _ _ h=>h),?_,by simp [d.out.alen],?_,by simp;have:=eu.out;omega,?_,?_⟩
       ·rw [gN]
        exact Uk.weak (fun g c=>⟨by have:=Jd.out;omega,c.2.1,by have:=c.1;omega⟩)
       ·exact aD (aD Yy.own (ag.of_grown o) (fun g c e=>(H.ne g e).2 c)) s (fun g c e=>by have e:g=gl:=e;have:=(ah Yy.own g c).1;omega)
       ·rw [gN]
        exact Uk.weak (fun g c=>⟨by have:=Jd.out;omega,c.2.1,by have:=c.1;omega,c.2.2⟩)
       ·refine lQ d.rise (nW Ct.k1 Ct.k2 Ct.v) (fun h0=> ?_)
        rcases Int.lt_or_le (compareBytes (az l) r.key) 0 with h|h
        ·exact h
        ·exact absurd ⟨h0,h⟩ iZ
       ·have i:=Ct.out.next;have m:=HN.out;omega
       ·rw [a2.out];simp
       ·intro a E
        rcases List.mem_append.1 E with E|E
        ·exact d.aple a E
        ·rw [List.mem_singleton] at E;rw [E];exact d.ple)
      clear O h4 h5 h6 h7 I H ea Yy L C e3 s e4 aE Uk ax tV Ce M P o ab;go_wp2
      go_roundg (x-(l.length+1))
      case measure=>have i:=HG.out;have m:=eu.out;omega
      case rel=>exact⟨_,_,_,_,_,_,_,by simp,a0.out⟩
   ·have qc:Hid (aB b=([],r.err,r.next)):=aa (by rw [Lr.out ⟨l,ats,p,r.err,r.next⟩ (by rw [xF.out,if_pos A]),if_pos A]);have kK:=aa A;clear A;go_upto_region 2 with fail
    refine Ic z gl q out (fun e w'=>∃k,sQ w.heap.size q bA bn bc x b l ats p rv (W.drewN k) e w') (fw r.err r.next) W _ (aa (fun _ _ _ _ h=>h)) nU qb (aa (fun e w' h=>by obtain⟨k,h⟩:=h;rw [f.out];exact h.bad (by rw [<-f.out];exact kK))) ?_;intro t w' h;refine⟨rfl,?_⟩;rw [HR.out]
    exact ar.out _ _ w' h qc kK
  ·have a5:ln=x:=by omega
   have nU:Hid (aj W gl 58 #[out]):=aa (d.box.chg G (fun h=>h));have rH:Hid (ag (fun g=>g=gl) w W):=aa (d.chg.trans G (fun _ _ h=>h.elim));have xF:Hid (bq b x [] [] U=⟨l,ats,p,0,0⟩):=aa (by rw [d.out.eq,show x-l.length=0 by have:=eu.out;omega];rfl);obtain⟨n,al⟩:∃n,n=(eighth ats).flatMap two:=⟨_,rfl⟩;have qc:Hid (aB b=if stand b n p<n.length then([],62,p+stand b n p) else if p+n.length<b.length then([],63,p+n.length) else(l,0,0)):=aa (by rw [Lr.out _ xF.out,if_neg (fun h=>h rfl),al]);have Je:=aa (Mm F w.heap.size q bA bn bc x b l ats p lv rv W ES d9 HN (fun g c=>(HF g c).1) u d.ple Q (by have i:=lS ats _ (Nat.le_refl _);have m:=d.out.alen;have O:=eu.out;omega) (fun a E=>by have:=d.out.aple a E;omega));rw [<-al] at Je;have Z:Hid (∀e w',Yz q b n p W e w'->ag (fun g=>g=gl) w w'):=aa (fun e w' h=>rH.out.trans (h.chg.mono (T:=fun g=>w.heap.size<=g) (fun g _ e=>by have e:g=q:=e;have:=u.out;omega)) (fun g c e=>by omega));have YA:=aa (qa b n p);clear al
   by_cases c1:stand b n p<n.length
   ·have j:Hid (aB b=([],62,p+stand b n p)):=aa (by rw [qc.out,if_pos c1]);have jL:=aa c1;clear c1;go_wp2_with (go_at_call 175;go_loud (refine Je.mono ?_);intro e w2 y;obtain rfl:=y.bad jL;have pU:=aa (Z.out _ w2 y);clear y)
    refine⟨rfl,?_⟩;rw [HR.out]
    exact⟨pU,fun _=>by rw [j.out],fun h=>by rw [j.out] at h;exact absurd h (by simp)⟩
   ·have ap:Hid (stand b n p=n.length):=aa (by have:=YA.out;omega)
    by_cases c2:p+n.length<b.length
    ·have j:Hid (aB b=([],63,p+n.length)):=aa (by rw [qc.out,if_neg c1,if_pos c2]);have bB:=aa c2;clear c1 c2;go_wp2_with (go_at_call 175;go_loud (refine Je.mono ?_);intro e w2 y;obtain rfl:=y.rest ap bB;have pU:=aa (Z.out _ w2 y);clear y)
     refine⟨rfl,?_⟩;rw [HR.out]
     exact⟨pU,fun _=>by rw [j.out],fun h=>by rw [j.out] at h;exact absurd h (by simp)⟩
    ·have j:Hid (aB b=(l,0,0)):=aa (by rw [qc.out,if_neg c1,if_neg c2]);have bB:=aa c2;clear c1 c2;go_wp2_with (go_at_call 175;go_loud (refine Je.mono ?_);intro e w2 y;obtain rfl:=y.ok ap bB;have pU:=aa (Z.out _ w2 y);have ao:=aa y.chg;clear y)
     go_end0
     rw [HR.out];refine⟨pU,fun h=>by rw [j.out] at h;exact absurd rfl h,fun _=>⟨rfl,?_⟩⟩;have H:=(d.out.er.chg G (fun _ _ _ h=>h)).step (rv':=rv) (ao.mono (fun g _ e=> .inl e)) (fun g c=> .inl c);obtain⟨oA,oc,ac,i,m⟩:=au H.own;subst ac;refine⟨oA,l.length,oc,nU.chg ao (fun e=>by have e:gl=q:=e;have:=u.out;omega),i,m,?_⟩;rw [j.out];exact H.ents rfl
theorem zU (v:Value) (w:World):(Instr.typeAssert (.iface 290 v) 20 290 false).run prog w= .ok v w:=by kernel_rfl
theorem tX (q:Nat) (x y e:Int) (p:Nat) (w:World) (h:aj w q 290 #[.int .i64 x,.int .i64 y]):
  CallsD prog 193 #[.pointer (some ⟨q,0,none⟩)] (.panicking (fw e p)) w fun a c w'=>
   a= .returned (.tuple #[])/\c= .panicking [{v:= .iface 290 (.agg #[.int .i64 e,.int .i64 p]),recovered:=true}]/\w'=(w.setCell ⟨q,0,none⟩ (.int .i64 e)).setCell ⟨q,1,none⟩ (.int .i64 p):=by
 have l:w.cell? ⟨q,0,none⟩=some (.int .i64 x):=h.cell 0;have m:w.cell? ⟨q,1,none⟩=some (.int .i64 y):=h.cell 1;have i:=h.frozen 0;have k:=h.frozen 1;have g:=zU;obtain⟨R,b⟩:∃R:Ending->FrameMode->World->Prop,R=fun a c w'=>a= .returned (.tuple #[])/\c= .panicking [{v:= .iface 290 (.agg #[.int .i64 e,.int .i64 p]),recovered:=true}]/\w'=(w.setCell ⟨q,0,none⟩ (.int .i64 e)).setCell ⟨q,1,none⟩ (.int .i64 p):=⟨_,rfl⟩;have f:=aa b;rw [<-b];clear b h;refine callsD_of_wpS func193 rfl fun j cs d=> ?_;apply wpS_seq;apply wpS_region;simp [wpOpsS,go_sem,recoverD,d,fw,ntmps193,Exit.thenS];refine wpS_of_wp ?_;simp only [Array.replicate_succ,Array.replicate_zero,List.push_toArray,List.nil_append,List.append_toArray,List.cons_append,List.setIfInBounds_toArray,List.set_cons_zero,List.set_cons_succ];clear d;go_wp2;refine⟨rfl,_,rfl,.tuple #[],by simp [results,results193],?_⟩;rw [f.out];exact⟨rfl,rfl,rfl⟩
theorem EZ (q:Nat) (w:World):
  CallsD prog 193 #[.pointer (some ⟨q,0,none⟩)] .returning w fun a d w'=>a= .returned (.tuple #[])/\d= .returning/\w'=w:=by
 obtain⟨R,b⟩:∃R:Ending->FrameMode->World->Prop,R=fun a d w'=>a= .returned (.tuple #[])/\d= .returning/\w'=w:=⟨_,rfl⟩;have e:=aa b;rw [<-b];clear b;refine callsD_of_wpS func193 rfl fun g cs c=> ?_;apply wpS_seq;apply wpS_region;simp [wpOpsS,go_sem,recoverD,c,ntmps193,Exit.thenS];refine wpS_of_wp ?_;simp only [Array.replicate_succ,Array.replicate_zero,List.push_toArray,List.nil_append,List.append_toArray,List.cons_append,List.setIfInBounds_toArray,List.set_cons_zero,List.set_cons_succ];have f:=aa c;clear c;go_wp2
 refine⟨rfl,.returning,?_,.tuple #[],by simp [results,results193],?_⟩
 ·have:=f.out;cases g;simp_all
 ·rw [e.out];exact⟨rfl,rfl,rfl⟩
theorem sV (h:(aB b).2.1=0):(aB b).2.2=0:=by
 unfold aB at h|-
 split at h
 ·rename_i a;exact absurd h a
 ·rename_i a;rw [if_neg a]
  split at h
  ·simp at h
  ·rename_i d;rw [if_neg d]
   split at h
   ·rename_i c;exact absurd h c
   ·rename_i c;rw [if_neg c]
    split at h
    ·simp at h
    ·rename_i e;rw [if_neg e]
     split at h
     ·simp at h
     ·rename_i f;rw [if_neg f]
structure E4 (gl:Nat) (b:List UInt8) (w:World) (e:Ending) (w':World):Prop where
 ret:e= .returned (.agg #[.int .i64 (aB b).2.1,.int .i64 ((aB b).2.2:Nat)])
 chg:ag (fun g=>g=gl) w w'
 ok:(aB b).2.1=0->∃A n c,aj w' gl 58 #[.slice A n c]/\n<=c/\c<=maxLen/\bz w' (From w.heap.size) A n (aB b).1
theorem Jl (z gl:Nat) (b:List UInt8) (w:World) (C:gl<w.heap.size) (t:∀w',Below w.heap.size w w'->Calls prog 172 #[.pointer (some ⟨z,0,none⟩),.pointer (some ⟨gl,0,none⟩)] w' (uO gl b w')) (u:(aB b).2.1≠0):
  Calls prog 171 #[.func (.func 172) #[] #[.pointer (some ⟨z,0,none⟩),.pointer (some ⟨gl,0,none⟩)]] w (E4 gl b w):=by
 refine letter fun R B=> ?_;obtain⟨q,k⟩:∃q,q=w.heap.size:=⟨_,rfl⟩;obtain⟨w1,a⟩:∃W,W=w.alloc (.cells #[.int .i64 0,.int .i64 0] 290):=⟨_,rfl⟩;have d:Hid (Below w.heap.size w w1):=aa (by rw [a];exact(Below.refl _ _).alloc (Nat.le_refl _) _);have E:Hid (aj w1 q 290 #[.int .i64 0,.int .i64 0]):=aa (by rw [a,k];exact aj.new _ _ _);have A:=aa (t w1 d);have l:=aa k;have r:=aa u;have G:∀(s:Fn) (first cap:Array Value) (w:World),(Instr.makeFunc s first cap).run prog w= .ok (.func s first cap) w:=fun _ _ _ _=>rfl;clear t u;go_enter_defers func171,ntmps171
 go_upto_region 2 with fail
 rw [<-a];simp only [<-k];clear a k;go_wp2_with (go_at_call 172;go_loud (refine A.mono ?_);intro e w2 m;obtain rfl:=m.bad r;have v:=aa m.chg;clear m)
 have i:aj w2 q 290 #[.int .i64 0,.int .i64 0]:=E.out.chg v (fun e=>by have e:q=gl:=e;have:=l.out;omega);refine leaves_cons (f:=193) (args:= #[.pointer (some ⟨q,0,none⟩)]) (by simp) (by simp [go_sem]) ?_;refine(tX q 0 0 (aB b).2.1 (aB b).2.2 _ i).mono ?_;rintro e H D ⟨rfl,rfl,rfl⟩;have j:=(i.set_ 0 (.int .i64 (aB b).2.1)).set_ 1 (.int .i64 ((aB b).2.2:Nat));have x:((w2.setCell ⟨q,0,none⟩ (.int .i64 (aB b).2.1)).setCell ⟨q,1,none⟩ (.int .i64 ((aB b).2.2:Nat))).cell? ⟨q,0,none⟩=some (.int .i64 (aB b).2.1):=j.cell 0;have y:((w2.setCell ⟨q,0,none⟩ (.int .i64 (aB b).2.1)).setCell ⟨q,1,none⟩ (.int .i64 ((aB b).2.2:Nat))).cell? ⟨q,1,none⟩=some (.int .i64 ((aB b).2.2:Nat)):=j.cell 1;have o:ag (fun g=>g=gl) w ((w2.setCell ⟨q,0,none⟩ (.int .i64 (aB b).2.1)).setCell ⟨q,1,none⟩ (.int .i64 ((aB b).2.2:Nat))):=(((ag.of_below d).trans v (fun _ _ h=>h)).setCell (p:=⟨q,0,none⟩) (fun h=>absurd h (by have:=l.out;simp only [];omega)) _).setCell (p:=⟨q,1,none⟩) (fun h=>absurd h (by have:=l.out;simp only [];omega)) _
 have c:R (.returned (.agg #[.int .i64 (aB b).2.1,.int .i64 ((aB b).2.2:Nat)])) ((w2.setCell ⟨q,0,none⟩ (.int .i64 (aB b).2.1)).setCell ⟨q,1,none⟩ (.int .i64 ((aB b).2.2:Nat))):=by
  rw [B.out];exact⟨rfl,o,fun h=>absurd h r⟩
 obtain⟨F,n⟩:∃W,W=((w2.setCell ⟨q,0,none⟩ (.int .i64 (aB b).2.1)).setCell ⟨q,1,none⟩ (.int .i64 ((aB b).2.2:Nat))):=⟨_,rfl⟩;rw [<-n] at x y c|-;simp [Leaves,settle,results,results171,go_sem,x,y,c]
theorem Mr (z gl:Nat) (b:List UInt8) (w:World) (H:gl<w.heap.size) (r:∀w',Below w.heap.size w w'->Calls prog 172 #[.pointer (some ⟨z,0,none⟩),.pointer (some ⟨gl,0,none⟩)] w' (uO gl b w')) (s:(aB b).2.1=0):
  Calls prog 171 #[.func (.func 172) #[] #[.pointer (some ⟨z,0,none⟩),.pointer (some ⟨gl,0,none⟩)]] w (E4 gl b w):=by
 refine letter fun R y=> ?_;obtain⟨q,l⟩:∃q,q=w.heap.size:=⟨_,rfl⟩;obtain⟨w1,a⟩:∃W,W=w.alloc (.cells #[.int .i64 0,.int .i64 0] 290):=⟨_,rfl⟩;have d:Hid (Below w.heap.size w w1):=aa (by rw [a];exact(Below.refl _ _).alloc (Nat.le_refl _) _);have L:Hid (aj w1 q 290 #[.int .i64 0,.int .i64 0]):=aa (by rw [a,l];exact aj.new _ _ _);have v:=aa (r w1 d);have x:=aa l;have m:=aa s;have M:∀(p:Fn) (first cap:Array Value) (w:World),(Instr.makeFunc p first cap).run prog w= .ok (.func p first cap) w:=fun _ _ _ _=>rfl;clear r s;go_enter_defers func171,ntmps171
 go_upto_region 2 with fail
 rw [<-a];simp only [<-l];clear a l;have I:Hid ((aB b).2.2=0):=aa (sV m);go_wp2_with (go_at_call 172;go_loud (refine v.mono ?_);intro e w2 o;obtain⟨rfl,t⟩:=o.ok m;have B:=aa t;have u:=aa o.chg;clear o t)
 have k:aj w2 q 290 #[.int .i64 0,.int .i64 0]:=L.out.chg u (fun e=>by have e:q=gl:=e;have:=x.out;omega);refine leaves_cons (f:=193) (args:= #[.pointer (some ⟨q,0,none⟩)]) (by simp) (by simp [go_sem]) ?_;refine(EZ q _).mono ?_;rintro e P i ⟨rfl,rfl,rfl⟩;have J:i.cell? ⟨q,0,none⟩=some (.int .i64 0):=k.cell 0;have K:i.cell? ⟨q,1,none⟩=some (.int .i64 0):=k.cell 1
 have j:R (.returned (.agg #[.int .i64 0,.int .i64 0])) i:=by
  rw [y.out];refine⟨by rw [m.out,I.out];rfl,(ag.of_below d).trans u (fun _ _ h=>h),fun _=> ?_⟩;obtain⟨A,n,c,C,D,E,F⟩:=B.out;exact⟨A,n,c,C,D,E,F.weak (fun g G=>by have N:w1.heap.size<=g:=G;have O:=d.out.size;show w.heap.size<=g;omega)⟩
 simp [Leaves,settle,results,results171,go_sem,J,K,j]
theorem Jj (z gl:Nat) (b:List UInt8) (w:World) (a:gl<w.heap.size) (c:∀w',Below w.heap.size w w'->Calls prog 172 #[.pointer (some ⟨z,0,none⟩),.pointer (some ⟨gl,0,none⟩)] w' (uO gl b w')):
  Calls prog 171 #[.func (.func 172) #[] #[.pointer (some ⟨z,0,none⟩),.pointer (some ⟨gl,0,none⟩)]] w (E4 gl b w):=by
 by_cases d:(aB b).2.1=0
 ·exact Mr z gl b w a c d
 ·exact Jl z gl b w a c d
theorem below_drewN {B:Nat} {w w':World} (h:Below B w w') (n:Nat):Below B w (w'.drewN n):=⟨h.os,h.tape,h.output,h.size,h.block⟩
def uR (b:List UInt8) (w:World) (e:Ending) (w':World):Prop:=
 ∃A n c,e= .returned (.tuple #[.slice A n c,.int .i64 (aB b).2.1,.int .i64 ((aB b).2.2:Nat)])/\n<=c/\c<=maxLen/\bz w' (From w.heap.size) A n (aB b).1/\Below w.heap.size w w'
theorem Ur (F:Nat->Prop) (z gl:Nat) (bA:Option Addr) (bn bc:Nat) (b:List UInt8) (w:World) (c:aj w z 24 #[.slice bA bn bc]) (hL:aj w gl 58 #[.slice none 0 0]) (h:Rd w F 1 bA bn (aF b)) (N:bn=b.length) (D:bn<=bc) (Q:bn<=1152921504606) (f:∀g,F g->g<w.heap.size/\g≠gl):
  Calls prog 172 #[.pointer (some ⟨z,0,none⟩),.pointer (some ⟨gl,0,none⟩)] w (uO gl b w):=by
 by_cases a:(ai b 0).2.2=0
 ·by_cases d:(ai b 0).1=0
  ·exact zR F z gl bA bn bc b w c h N Q 61 0 (by unfold aB;rw [if_neg (fun h=>h a),if_pos (.inl d)]) (by decide) (EU F bA bn bc b w h N Q a d)
  ·by_cases e:64<(ai b 0).1
   ·exact zR F z gl bA bn bc b w c h N Q 61 0 (by unfold aB;rw [if_neg (fun h=>h a),if_pos (.inr e)]) (by decide) (EV F bA bn bc b w h N Q a e)
   ·exact Uj F z gl bA bn bc b w c hL h N D Q f a (by omega) (by omega)
 ·exact zR F z gl bA bn bc b w c h N Q _ _ (by unfold aB;rw [if_pos a]) a (Jh F bA bn bc b w h N Q a)
theorem Ji (F:Nat->Prop) (bA:Option Addr) (bn bc:Nat) (b:List UInt8) (w:World) (h:Rd w F 1 bA bn (aF b)) (N:bn=b.length) (D:bn<=bc) (Q:bn<=1152921504606) (H:∀g,F g->g<w.heap.size):
  Calls prog 141 #[.slice bA bn bc] w (uR b w):=by
 refine letter fun R J=> ?_;obtain⟨i,d⟩:∃i,i=w.heap.size:=⟨_,rfl⟩;obtain⟨w1,f⟩:∃W,W=(w.alloc (.cells #[.slice bA bn bc] 24)).alloc (.cells #[.slice none 0 0] 58):=⟨_,rfl⟩;have a:Hid (Below w.heap.size w w1):=aa (by rw [f];exact((Below.refl _ _).alloc (Nat.le_refl _) _).alloc (by simp) _);have Y:Hid (aj w1 i 24 #[.slice bA bn bc]):=aa (by rw [f,d];exact(aj.new _ _ _).alloc _);have I:Hid (aj w1 (i+1) 58 #[.slice none 0 0]):=aa (by rw [f,d];have:=aj.new (w.alloc (.cells #[.slice bA bn bc] 24)) 58 #[.slice none 0 0];rwa [World.size_alloc] at this);have X:=aa d;have V:=aa (Jj i (i+1) b w1 I.lt (fun w' y=>Ur F i (i+1) bA bn bc b w' (Y.below y) (I.below y) ((h.below a).below y) N D Q (fun g o=>⟨by have v:=H g o;have E:=a.out.size;have G:=y.size;omega,by have v:=H g o;omega⟩)));have XT:∀(L:Fn) (first cap:Array Value) (w:World),(Instr.makeFunc L first cap).run prog w= .ok (.func L first cap) w:=fun _ _ _ _=>rfl;obtain⟨er,K⟩:∃er,er=(aB b).2.1:=⟨_,rfl⟩;obtain⟨r,p⟩:∃r,r=(aB b).2.2:=⟨_,rfl⟩;have u:=aa K;have S:=aa p;clear h N H K p;go_enter func141,ntmps141
 go_upto_region 2 with fail
 rw [<-f];simp only [<-d];clear f d;go_upto_region 3 with(go_at_call 171;go_loud (refine V.mono ?_);intro e w2 x;obtain rfl:=x.ret;rw [<-u.out,<-S.out];have T:=aa x.chg;have U:=aa x.ok;clear x)
 obtain⟨s,C⟩:∃s,s=w2.heap.size:=⟨_,rfl⟩;obtain⟨m,j⟩:∃W,W=w2.alloc (.cells #[.int .i64 er,.int .i64 r] 290):=⟨_,rfl⟩;rw [<-j,<-C];have k:Hid (Below w2.heap.size w2 m):=aa (by rw [j];exact(Below.refl _ _).alloc (Nat.le_refl _) _);have O:Hid (aj m s 290 #[.int .i64 er,.int .i64 r]):=aa (by rw [j,C];exact aj.new _ _ _);have l:Below w.heap.size w w2:=a.out.trans (T.below_of a.size (fun g o e=>by have e:g=i+1:=e;have:=X.out;omega));have P:Hid (Below w.heap.size w m):=aa (l.trans (k.mono l.size));have y0:m.cell? ⟨s,0,none⟩=some (.int .i64 er):=O.out.cell 0;have y1:m.cell? ⟨s,1,none⟩=some (.int .i64 r):=O.out.cell 1;clear j C l
 by_cases t:er=0
 ·have q:Hid ((aB b).2.1=0):=aa (by rw [<-u.out];exact t);obtain⟨A,n,c,v,E,G,M⟩:=U.out q;have B:Hid ((aB b).2.2=0):=aa (sV q);have z5:m.cell? ⟨i+1,0,none⟩=some (.slice A n c):=(v.below k).cell 0;have z:=aa (And.intro E (And.intro G (M.below k)));clear v E G M;subst t;go_wp2;go_ret3
  rw [J.out]
  refine⟨A,n,c,by rw [q.out,B.out];rfl,z.1,z.2.1,z.2.2.weak (fun g o=>by have h5:w1.heap.size<=g:=o;have h6:=a.out.size;show w.heap.size<=g;omega),P⟩
 ·have Z:(er==0)=false:=by rw [beq_eq_false_iff_ne];exact t
  have q:Hid ((aB b).2.1≠0):=aa (by rw [<-u.out];exact t);go_wp2;go_quiet (fail);go_wp2;go_ret3
  rw [J.out];refine⟨none,0,0,by rw [<-u.out,<-S.out];rfl,Nat.le_refl _,by simp [maxLen],by rw [Jk q.out];exact bz.nil _ _ _,below_drewN P _⟩
end Go.Proofs.YtepgcjbhabnciaaGreat
