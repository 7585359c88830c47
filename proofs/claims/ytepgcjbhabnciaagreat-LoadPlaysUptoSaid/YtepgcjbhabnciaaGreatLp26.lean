/- Part 26. -/
import Derived.Test.YtepgcjbhabnciaaGreatLp25
import Derived.Stop.Asserts
import Derived.LaidEql
namespace Go.Proofs.YtepgcjbhabnciaaGreat
set_option maxRecDepth 100000
set_option maxHeartbeats 8000000
open Go.Proofs.Tryz Go.RowKit
open Go.Lib (compareBytes)
open Go.RowKit Go.Extern
variable {y B J u k L E O W Z U d r x i b v1 v3 u1 u7 u9 G f C I M P V l D m T j g u33 u34 u36 u38 N u40 R u42 X u44 u45 u46 v u48 u49 dI u51 dP u53 dR u55 dY u58 u59 u60 v2 u0:Value} {n c p z q base cc bn gn K bc gc:Nat} {A bA gA:Option Addr} {F Dr:Nat->Prop} {us Y:List Value} {root e:Int} {bs:List UInt8} {w:World} {Q:Exit->Act->World->Prop} {gs:List Int} {s:aX} {sl:List aX}
noncomputable def TS:Code:=aQ (f35.body.bind (aF 11))
theorem TL {p z q:Value} (kF:Hid (∀c t (a:Act) w,Q (.panic c) ⟨t,a.defers⟩ w->Q (.panic c) a w))
  (H:Hid (Rd w F 1 A n (aI bs))) (HN:Hid (n=bs.length))
  (au:∀(ae al am an:Value) (rb:Bool) (w':World),rb= !(decide (bs=gD))->Below w w w'->Q .normal ⟨(p::u1::y::B::J:: .slice A n c::u::u7::k::u9::L::E::O::W::Z::U::G::f::C::I::M::P::V::d::l::z::D::m::r::T::j::g::x::u33::u34::i::u36::b::u38::N::u40::R::u42::X::u44::u45::u46::v::u48::u49::dI::u51::dP::u53::dR::u55::ae::al::am::an:: .bool rb::Y).toArray,[]⟩ w'):
  Code.wp prog TS Q ⟨(p::u1::y::B::J:: .slice A n c::u::u7::k::u9::L::E::O::W::Z::U::G::f::C::I::M::P::V::d::l::z::D::m::r::T::j::g::x::u33::u34::i::u36::b::u38::N::u40::R::u42::X::u44::u45::u46::v::u48::u49::dI::u51::dP::u53::dR::u55::dY::q::u58::u59::u60::Y).toArray,[]⟩ w:=by
 have dz:=aa au;have HD:Hid (Below w w w.drew):=aa mh.drew;have S0:=bC c (H.below HD) HN;have e3:((ou bs).toList==(ou gD).toList)=decide (bs=gD):=vJ;have Dw:=aa (O8 w.drew);obtain⟨tl,ac⟩:=gF gD;rw [<-ac] at e3 dz Dw;clear au ac;conv=>arg 2;whnf
 refine aO (S:=(fun w'=>(convert 24 9 (.slice A n c)).run prog w'= .ok (.string (ou bs)) w')) (by kernel_rfl) ?_;refine vT 0 S0 ?_;refine vT 1 S0 ?_;refine nZ 2 fun K hK=> ?_;go_simp;go_loud (refine Dw.mono ?_);rintro e w2 ⟨rfl,s,o⟩;obtain⟨A2,ab⟩:∃A2:Option Addr,A2=some ⟨w.drew.heap.size,0,none⟩:=⟨_,rfl⟩;rw [<-ab] at s|-;obtain⟨-,-,h8,h9⟩:=s.parts;have ad:=aa o;have S1:=bC (n:=8) 8 h9 h8;have S2:=bC c (H.below (HD.out.trans o)) HN;clear s o h8 h9 ab
 refine hK.out _ _ S2 ?_;clear hK K;try simp only [aL,aN,aZ,aC]
 refine jQ (S':=fun w'=>(convert 24 9 (.slice A n c)).run prog w'= .ok (.string (ou bs)) w'/\(convert 24 9 (.slice A2 8 8)).run prog w'= .ok (.string (ou tl)) w') (fun _ h=>h.1) ?_;refine vT 3 ⟨S2,S1⟩ ?_;refine vT 4 ⟨S2,S1⟩ ?_;refine bf (by kernel_rfl) ?_ _;go_simp;refine dz _ _ _ _ _ _ ?_ (HD.out.trans ad);rw [<-e3]
theorem Gv {r:dM} (s:Sit F q p base) (zs:Zs z q p base) (Q:¬F z) (B:base<=w)
  (k:ak w z 103 #[q,false,false,(r.err:Int),(r.bad:Int),.slice A n cc,()]) (hm:bu w base Dr (.slice A n cc) n r.rows us)
  (h:fV w F q p r.cur) (u:r.Ok K) (y:r.st=0) (hK:K<=1152921504606846976):
  Calls prog 35 #[z] w (qy F z q p base Dr A n cc us r.next.1 r.next.2 w):=by
 refine letter fun R HR=> ?_;have HS:=aa s;have v:=aa zs;have HB:=aa k;have HM:=aa hm;have dW:=aa B;have AQ:=aa Q;have g:=u.cur (by omega);have P:=u.held (by omega);have al:=aa (gY 8 (s.up B) h g hK (by omega) (by omega));obtain⟨T,E⟩:=gF (r.cur.bytes 8);obtain⟨c,d⟩:∃c,c=({r with cur:=T.2.2,st:=1}:dM):=⟨_,rfl⟩
 have f:Hid (r.next=if T.2.1≠0 then(none,r.fail T.2.2 T.2.1 0) else if T.1≠gD then(none,r.fail T.2.2 81 0) else c.frame):=aa (by
  rw [d];subst E;unfold dM.next;rw [if_neg (by omega),if_neg (by omega)])
 have Tc:=aa E;have ad:Hid (c.rows=r.rows):=aa (by rw [d]);have Ih:Hid (c.st=1):=aa (by rw [d]);have m:Hid (c.cur=T.2.2/\c.err=r.err/\c.bad=r.bad):=aa (by rw [d];exact⟨rfl,rfl,rfl⟩)
 have L:Hid (T.2.1=0->c.Ok K):=aa (fun D=>by
  have h1:=u.zero y;rw [d];exact⟨fun _=>by show T.2.2.Ok K;rw [E];exact ay.bytes_ok g 8,fun _=>by show T.2.2.held=none;rw [E];exact ay.bytes_held g 8 P,u.rows,fun e=>absurd e (show¬((1:Nat)=0) by decide),fun _=>(by show T.2.2.at_=dD r.rows;rw [h1.2];rw [E] at D|-;rw [ay.bytes_step g 8 D,h1.1];rfl),(by show(1:Nat)<=2;omega),fun _=>u.err (by rw [y];decide)⟩)
 have Yu:Hid (∀(cu:ay) (e:Int) (a:Nat) (wk:World) (en:Ending) (w':World) (v1:Value),eP wk F p cu.src->r.next=(none,r.fail cu e a)->ag (Cz z q p w) w wk->D8 z q v1 (.slice A n cc) () e a wk en w'->qy F z q p base Dr A n cc us r.next.1 r.next.2 w en w'):=aa (fun cu e a wk en w' v1 ao hx hc V=>by
  rw [hx];refine⟨(Ig hc).trans V.2.2 (fun b _ e=> .inl e),fun _=>⟨V.1,?_,⟨_,V.2.1⟩,ao.own V.2.2 v.zp AQ⟩,fun es h=>by cases h⟩;exact(HM.cz HS v.lt jO hc).chg V.2.2 (fun b k _ e=>by have e:b=z:=e;have:=v.out.lt;omega))
 have z6:w.cell? ⟨z,6,none⟩=some (.slice none 0 0):=k.cell 6;have z2:w.cell? ⟨z,2,none⟩=some (.bool false):=k.cell 2;have z1:w.cell? ⟨z,1,none⟩=some (.bool false):=k.cell 1;have z0:w.cell? z=some (q:Value):=k.cell 0;clear s zs k hm h u B Q y d E g P;go_enter func35,ntmps35;go_upto_region 9 with(go_at_call 59;go_loud (refine al.mono ?_);rintro e wa ⟨vT,rfl,hO,hI,hC⟩;rw [<-Tc.out] at hO hI|-;have J:=aa hO;have H:=aa hI;have am:=aa hC;have o:Hid (ag (Cz z q p w) w wa):=aa (R4 hC);clear hO hI hC)
 have PW:=aa (HB.chg am (v.up dW).no);obtain⟨Z,U⟩:=gF T.2.1;rw [<-U] at f J L|-;clear U z6 z2 z1 z0
 by_cases D:Z=0
 ·subst D;obtain⟨tA,tn,tc,rfl,_,_,X,Y⟩:=(J.out rfl).sb;have LW:=aa X;have ae:=aa Y;have an:w.heap.size<=wa:=o.out.size;clear X Y;go_upto_region 11 with fail
  refine TL (aa (fun _ _ _ _ h=>h)) ae LW ?_;intro au aw aA aE rb C W i;have ap:=aa i;have EO:=aa W;have I:Hid (fV C F q p T.2.2):=aa (H.chg (S:=Nil) (ag.of_below i) (fun h=>h) (fun h=>h) (fun _ _ h=>h));have j:=aa (PW.below i);have t:=aa (qa o i);have ar:w.heap.size<=C:=t.out.size;clear W i an
  cases rb with
  |true=>
   have x:Hid (T.1≠gD):=aa (fun e=>by have O:=EO.out;rw [e] at O;simp at O);go_wp2_with (go_at_call 60;go_loud (refine(bi 81 (0:Nat) j).mono ?_);rintro e9 w9 ⟨rfl,M,N⟩;have fC:=aa M;have fD:=aa N;clear M N);rw [HR.out]
   exact Yu T.2.2 81 0 C _ w9 _ I.src (by rw [f.out,if_neg (by simp),if_pos x.out]) t ⟨rfl,fC,fD⟩
  |false=>
   have x:Hid (¬T.1≠gD):=aa (fun h=>by have O:=EO.out;simp at O;exact h O);have HX:Hid (r.next=c.frame):=aa (by rw [f.out,if_neg (by simp),if_neg x.out]);have z1:C.cell? ⟨z,1,none⟩=some (.bool false):=j.out.cell 1;have xP:=j.out.frozen 1;go_upto_region 14 with fail
   clear z1 xP;obtain⟨wq,l⟩:=gF (C.setCell ⟨z,1,none⟩ (.bool true));rw [<-l];have G:Hid (ag (fun b=>b=z) C wq):=aa (by rw [l];exact(ag.refl (fun b=>b=z) C).setCell (p:=⟨z,1,none⟩) (fun _=>rfl) _);have ab:Hid (ak wq z 103 #[q,true,false,(c.err:Int),(c.bad:Int),.slice A n cc,()]):=aa (by rw [l,m.out.2.1,m.out.2.2];exact j.set_ 1 _);have jo:Hid (ag (Cz z q p w) w wq):=aa (t.out.trans G (fun b _ e=> .inl e));have ac:Hid (fV wq F q p c.cur):=aa (by rw [m.out.1];exact I.chg G (fun e=>v.zq e.symm) (fun e=>v.zp e.symm) (fun b k e=>AQ ((show b=z from e)▸k)));have zK:Hid (c.Ok K):=aa (L rfl);clear l f;rename_i KK YF
   exact xm KK HR HS v HM dW AQ HX ad zK Ih jo ab ac hK YF
 ·have aq:(Z==0)=false:=by rw [mi];exact D
  have H0:=aa D;go_wp2_with (go_at_call 60;go_loud (refine(bi Z (0:Nat) PW).mono ?_);rintro e9 w9 ⟨rfl,M,N⟩;have fC:=aa M;have fD:=aa N;clear M N);rw [HR.out];exact Yu T.2.2 Z 0 wa _ w9 _ H.src (by rw [f.out,if_pos H0.out]) o ⟨rfl,fC,fD⟩
theorem NU (a:Int) (h:ak w z 140 #[b,v1,v2,v3,e,a]):
  Calls prog 31 #[z] w fun d w'=>d= .returned (.tuple #[e,a])/\∃k,w'=w.drewN k:=by
 refine letter fun R c=> ?_;have f:w.cell? ⟨z,4,none⟩=some (.int .i64 e):=h.cell 4;have g:w.cell? ⟨z,5,none⟩=some (.int .i64 a):=h.cell 5;clear h;go_enter func31,ntmps31;go_upto_region 1 with fail
 go_quiet (fail);go_wp2;rw [c.out];exact⟨rfl,nq,rfl⟩
theorem AJ (p:Nat) (w:World):Calls prog 26 #[.iface 29 p] w fun e w'=>∃z,e= .returned (.pointer (some ⟨z,0,none⟩))/\w.heap.size<z/\
  ak w' w 188 #[.int .i64 0,.int .i64 0,.int .i64 0,.iface 29 p,.int .i64 9223372036854775807,.int .u8 0,.bool false]/\
  ak w' z 140 #[.pointer (some ⟨w.heap.size,0,none⟩),.func (.func 52) #[z] #[],(),(),.int .i64 0,.int .i64 0]/\Below w w w':=by
 obtain⟨R,f⟩:∃R:Ending->World->Prop,R=fun e w'=>∃z,e= .returned z/\w.heap.size<z/\
  ak w' w 188 #[.int .i64 0,.int .i64 0,.int .i64 0,.iface 29 p,.int .i64 9223372036854775807,.int .u8 0,false]/\
  ak w' z 140 #[w,.func (.func 52) #[z] #[],(),(),.int .i64 0,.int .i64 0]/\Below w w w':=⟨_,rfl⟩
 have l:=aa f;rw [<-f];clear f;go_enter func26,ntmps26;go_upto_region 4 with(go_at_call 51;go_loud (refine(NP p w).mono ?_);rintro e w1 ⟨rfl,j,k⟩;have h:=aa j;have i:=aa k;clear j k)
 obtain⟨z,c⟩:=gF w1.heap.size;obtain⟨w2,a⟩:=gF (w1.alloc (.cells #[.pointer (some ⟨w.heap.size,0,none⟩),.nilFunc,.slice none 0 0,.slice none 0 0,.int .i64 0,.int .i64 0] 140));have b:Hid (Below w1 w1 w2):=aa (by rw [a];exact gV);have g:Hid (ak w2 z 140 #[w,.nilFunc,(),(),.int .i64 0,.int .i64 0]):=aa (by rw [a,c];exact ak.new _ _ _);have d:Hid (w<z):=aa (by rw [c];exact h.lt);have m:Hid (z=w1.heap.size):=aa c;have n:w2.cell? ⟨z,1,none⟩=some .nilFunc:=g.out.cell 1;have o:=g.out.frozen 1;rw [<-a,<-c];clear a c;go_wp2;rw [l.out];refine⟨z,rfl,d,(h.below b).far (p:=⟨z,1,none⟩) (Nat.ne_of_lt d) _,g.set_ 1 _,?_⟩;exact(i.out.trans (b.mono i.size)).setCell (p:=⟨z,1,none⟩) (Nat.le_of_lt d) _
theorem yR {D:Nat->Prop} {o:Option (List aR)} {r:dM}
  (h:ak w z 140 #[b,.func (.func c) #[z] #[],(),v3,i,x])
  (t:∀args w',(callFunc c args).run prog w'= .ok (.enter c args) w')
  (hc:Calls prog c #[z] w (rW F z q p base D v1 d A n cc us o r w)):
  Calls prog 29 #[z] w (rW F z q p base D v1 d A n cc us o r w):=by
 have g:=aa hc;refine letter fun R j=> ?_;have G:w.cell? ⟨z,1,none⟩=some (.func (.func c) #[z] #[]):=h.cell 1;have H:w.cell? ⟨z,2,none⟩=some (.slice none 0 0):=h.cell 2;clear h hc
 cases o with
 |none=>
  go_enter func29,ntmps29
  go_wp2_with ((refine g.mono ?_);intro e m a;have f:=aa a;obtain⟨rfl,_,_⟩:=a.no rfl;clear a)
  rw [j.out]
  exact f
 |some k=>
  go_enter func29,ntmps29
  go_wp2_with ((refine g.mono ?_);intro e m a;have f:=aa a;obtain⟨u,y,v,s,E,C,B,l,rfl,-,-,-,-,-,-⟩:=a.yes k rfl;clear a)
  rw [j.out];exact f
def Zf (w:World) (s:Src) (e:Ending) (w':World):Prop:=
 ∃p,e= .returned (.pointer (some ⟨p,0,none⟩))/\w.heap.size<=p/\p<w'.heap.size/\ig w' (fun b=>w.heap.size<=b/\b<p) p s/\Below w.heap.size w w'
theorem Rn (l:List Int):∀u∈kw l,u.oneCell'=true:=by
 intro u a;simp only [kw,List.mem_map] at a;obtain⟨x,_,rfl⟩:=a;rfl
noncomputable def D7:Code:=aQ (f6.body.bind (aF 1))
theorem Vo {x:Nat} {f:Int} {g:Bool} {s Y:Value} (kF:Hid (∀c t (a:Act) w,Q (.panic c) ⟨t,a.defers⟩ w->Q (.panic c) a w))
  (I:Hid (ak w x 27 #[.slice bA bn bc,.slice gA gn gc,f,g])) (HB:Hid (Rd w F 1 bA bn (aI bs))) (HN:Hid (bn=bs.length)) (n:bn<=1152921504606) (HG:Hid (Rd w F 1 gA gn (kw gs))) (X:gn<=1152921504606)
  (au:∀(v3 v4 v5 v6 v7 v8 v9 ab ac ad ae al:Value) (p:Nat) (w':World),w<=p->p<w'->ig w' (fun b=>w<=b/\b<p) p ⟨bs,gs,f,g,0⟩->Below w w w'->Q .normal ⟨(u0:: .pointer (some ⟨x,0,none⟩):: .pointer (some ⟨p,0,none⟩)::v3::v4::v5::v6::v7::v8::v9::ab::ac::ad::ae::al:: .pointer (some ⟨p,0,none⟩):: []).toArray,[]⟩ w'):
  Code.wp prog D7 Q ⟨(u0:: .pointer (some ⟨x,0,none⟩)::y::B::J::s::u::Y::k::r::L::E::O::W::Z::U:: []).toArray,[]⟩ w:=by
 have dz:=aa au;have HD:Hid (Below w w w.drew):=aa mh.drew;have i:w.drew.cell? x=some (.slice bA bn bc)/\w.drew.cell? ⟨x,1,none⟩=some (.slice gA gn gc)/\w.drew.cell? ⟨x,2,none⟩=some (.int .i64 f)/\w.drew.cell? ⟨x,3,none⟩=some (.bool g):=⟨(I.cell 0).trans rfl,(I.cell 1).trans rfl,(I.cell 2).trans rfl,(I.cell 3).trans rfl⟩;clear au;conv=>arg 2;whnf
 refine aO (S:=(fun w'=>w'.cell? x=some (.slice bA bn bc)/\w'.cell? ⟨x,1,none⟩=some (.slice gA gn gc)/\w'.cell? ⟨x,2,none⟩=some (.int .i64 f)/\w'.cell? ⟨x,3,none⟩=some (.bool g))) (by kernel_rfl) ?_;refine vT 0 i ?_;refine vT 3 i ?_;refine vT 6 i ?_;refine vT 9 i ?_;refine vT 1 i ?_;refine vT 4 i ?_;refine vT 7 i ?_;refine vT 10 i ?_;refine nZ 2 fun K m=> ?_;go_simp;go_loud (refine(qT gc (HG.below HD) (Rn gs) X).mono ?_);rintro e w1 ⟨G,c1,rfl,P,R,D,d⟩;have Ai:Hid (Rd w1 (fun b=>w<=b/\b<w1) 1 G gn (kw gs)):=aa ((D.lt (by omega)).weak (fun b o=>⟨o.1.1,o.2⟩));have j:Hid (Below w w w1):=aa (HD.out.trans d);have A:w1.cell? x=some (.slice bA bn bc)/\w1.cell? ⟨x,1,none⟩=some (.slice gA gn gc)/\w1.cell? ⟨x,2,none⟩=some (.int .i64 f)/\w1.cell? ⟨x,3,none⟩=some (.bool g):=⟨aj d i.1,aj d i.2.1,aj d i.2.2.1,aj d i.2.2.2⟩;clear P R D d
 refine m.out _ _ A ?_;clear m K;try simp only [aL,aN,aZ,aC]
 refine vT 5 A ?_;refine nZ 8 fun K m=> ?_;go_simp;go_loud (refine(eG bc (HB.below j) HN n).mono ?_);rintro e w2 ⟨H,N,M,rfl,P,R,D,q5,d⟩;have rC:=aa ((Ai.below d));have T:Hid (SB w2 (fun b=>w<=b/\b<w2) (.slice H N M) bs):=aa ((SB.mk P R D.out q5).lt.weak (fun b o=>⟨ma j.size o.1.1,o.2⟩));have q:Hid (Below w w w2):=aa (j.out.trans (d.mono j.size));have V:=aa d.size;have C:w2.cell? x=some (.slice bA bn bc)/\w2.cell? ⟨x,1,none⟩=some (.slice gA gn gc)/\w2.cell? ⟨x,2,none⟩=some (.int .i64 f)/\w2.cell? ⟨x,3,none⟩=some (.bool g):=⟨aj d A.1,aj d A.2.1,aj d A.2.2.1,aj d A.2.2.2⟩;clear P R D d q5
 refine m.out _ _ C ?_;clear m K;try simp only [aL,aN,aZ,aC]
 refine vT 11 C ?_;refine nZ 12 fun K m=> ?_;go_simp;obtain⟨z,l⟩:=gF (w2.alloc (.cells #[.slice G gn c1,.int .i64 f,.int .i64 0,.slice H N M,.bool g] 76));rw [<-l];have h:Below w2 w2 z:=(by rw [l];exact gV);have jN:Hid (ak z w2 76 #[.slice G gn c1,f,.int .i64 0,.slice H N M,g]):=aa (by rw [l];exact ak.new _ _ _);have v:=aa h;have S3:z.cell? x=some (.slice bA bn bc)/\z.cell? ⟨x,1,none⟩=some (.slice gA gn gc)/\z.cell? ⟨x,2,none⟩=some (.int .i64 f)/\z.cell? ⟨x,3,none⟩=some (.bool g):=⟨aj h C.1,aj h C.2.1,aj h C.2.2.1,aj h C.2.2.2⟩;clear l h;refine m.out _ _ S3 ?_;clear m K;try simp only [aL,aN,aZ,aC]
 refine vT 13 S3 ?_;refine bf (by kernel_rfl) ?_ _;refine dz _ _ _ _ _ _ _ _ _ _ _ _ w2.heap.size z q.size jN.lt ⟨G,H,gn,c1,N,M,jN,(rC.below v).weak (fun b o=>⟨o.1,mU o.2 V⟩),T.below v⟩ (q.out.trans (v.mono q.size))
theorem jI (bc:Nat) (gc:Nat) (f:Int) (g:Bool) (a:Rd w F 1 bA bn (aI bs)) (hn:bn=bs.length) (n:bn<=1152921504606) (o:Rd w F 1 gA gn (kw gs)) (i:gn<=1152921504606):
  Calls prog 6 #[.agg #[.slice bA bn bc,.slice gA gn gc,f,g]] w (Zf w ⟨bs,gs,f,g,0⟩):=by
 refine letter fun R A=> ?_;have d:Below w w (w.alloc (.cells #[.slice bA bn bc,.slice gA gn gc,f,g] 27)):=gV;have x:Hid (ak (w.alloc (.cells #[.slice bA bn bc,.slice gA gn gc,f,g] 27)) w 27 #[.slice bA bn bc,.slice gA gn gc,f,g]):=aa (ak.new _ _ _);have u:=aa (a.below d);have v:=aa (o.below d);have c:=aa d;have z:=aa hn;clear d a o hn;go_enter func6,ntmps6;go_upto_region 1 with fail
 refine Vo (aa (fun _ _ _ _ h=>h)) x u z n v i ?_;intro N O P Q S T U I J K L M p w2 j k l m;have q:=aa j;have r:=aa k;have s:=aa l;have t:=aa m;clear j k l m;go_wp2;rw [A.out];have e:w<=(w.alloc (.cells #[.slice bA bn bc,.slice gA gn gc,f,g] 27)).heap.size:=c.out.size;obtain⟨B,C,D,E,G,H,y⟩:=s.out;exact⟨p,rfl,ma e q,r,⟨B,C,D,E,G,H,y.blk,y.gv.weak (fun b a=>⟨ma e a.1,a.2⟩),y.sb.weak (fun b a=>⟨ma e a.1,a.2⟩)⟩,c.out.trans (t.mono e)⟩
section
section
variable {P:Program} (w:World)
theorem pg (d:Nat) {g f:TypeId} {h:Array (String×TypeId)} {i:TypeInfo} {k:IntKind} (a b:Int)
  (hi:P.underlying g=some (.interface h)) (hn:P.underlying f=some (.int k)) (e:P.info? f=some i) (c:i.comparable=true):
  (Op.equalIn (d+2) g (.iface f (.int k a)) (.iface f (.int k b))).run P w= .ok (a==b) w:=by
 simp [Op.equalIn,run_underlying hi,run_underlying hn,typeInfo,e,c]
theorem run_eql_iface_int {f e:TypeId} {g:Array (String×TypeId)} {i:TypeInfo} {k:IntKind} (a b:Int)
  (hi:P.underlying f=some (.interface g)) (hn:P.underlying e=some (.int k)) (d:P.info? e=some i) (c:i.comparable=true):
  (binOp .eql f (.iface e (.int k a)) (.iface e (.int k b))).run P w= .ok (.bool (a==b)) w:=by
 simp only [binOp];simp [Op.equal,Op.maxDepth,pg w 9998 a b hi hn d c]
end
theorem Ns (v:Value) (w:World):(Extern.ReflectliteType.typeOf #[.iface 36 v]).run prog w= .ok (.iface 242 (.agg #[.pointer (some ⟨1,36,none⟩)])) w:=by kernel_rfl
theorem Aw (w:World):((Extern.ReflectliteType.method fun t=>do Rtype.noPackHeld "Comparable" t;(fun a=>Value.bool a.comparable)<$>typeInfo t) #[.agg #[.pointer (some ⟨1,36,none⟩)]]).run prog w= .ok true w:=by kernel_rfl
theorem qM (v:Value) (w:World):(Go.method 468 242 v "Comparable").run prog w= .ok (241,v) w:=by kernel_rfl
theorem US:(prog.info? 36).map (·.comparable)=some true:=by kernel_rfl
theorem UT (v:Value) (a:TypeId) (w:World):(Instr.typeAssert (.iface 108 v) a 244 true).run prog w= .ok (.tuple #[.nilIface,false]) w:=run_typeAssert_lacksB underlying244 (by kernel_rfl) (by kernel_rfl) v a w
theorem Dz (v:Value) (a:TypeId) (w:World):(Instr.typeAssert (.iface 108 v) a 247 true).run prog w= .ok (.tuple #[.iface 108 v,true]) w:=run_typeAssert_hasB underlying247 (by kernel_rfl) v a w
theorem xz (v:Value) (w:World):(Go.method 468 108 v "Unwrap").run prog w= .ok (237,v) w:=by kernel_rfl
theorem QR (g:Nat) (e:Int) (w:World) (l:w.cell? g=some (.int .i64 e)):
  Calls prog 39 #[.iface 108 g,.iface 36 e] w fun c w'=>c= .returned true/\w'=w:=by
 obtain⟨i,hi,a⟩:=Option.map_eq_some_iff.1 US;have m:= @run_callFunc_extern prog 80 _ Extern.ReflectliteType.typeOf func80 (by kernel_rfl) (by kernel_rfl) (by kernel_rfl) (by kernel_rfl);have d:= @run_callFunc_extern prog 241 _ (Extern.ReflectliteType.method fun t=>do Rtype.noPackHeld "Comparable" t;pure (.bool (<-typeInfo t).comparable)) func241 (by kernel_rfl) (by kernel_rfl) (by kernel_rfl) (by kernel_rfl);have q:=Ns;have j:=Aw;have n:=qM;have p:=UT;have r:=Dz;have o:=xz;have b:=run_eql_iface_int (P:=prog) w (k:= .i64) e e underlying43 underlying36 hi a;have f:(e==e)=true:=beq_self_eq_true e;rw [f] at b;have h:=run_eql_iface_types (P:=prog) 108 36 g (.int .i64 e) underlying43 (by decide) w;go_enter func39,ntmps39;go_wp2;refine wp_loop_rounds 2 ?_
 rw [rounds_succ];go_wp2;rw [rounds_succ];go_wp2;go_ret;exact⟨rfl,rfl⟩
end
def yI (sl:List aX) (i:Nat):Bool:=match sl[i]? with|some s=>s.1%2==1|none=>false
def gN (sl:List aX) (k:Nat):List Int:=((List.range k).filter (yI sl)).map fun(i:Nat)=>(i:Int)+1
theorem yJ {k:Nat} (h:sl[k]? =some s) (b:s.1%2=1):gN sl (k+1)=gN sl k++ [(k:Int)+1]:=by
 have a:yI sl k=true:=by simp [yI,h,b]
 simp [gN,List.range_succ,List.filter_append,a]
theorem BZ {k:Nat} (h:sl[k]? =some s) (b:s.1%2=0):gN sl (k+1)=gN sl k:=by
 have a:yI sl k=false:=by simp [yI,h,b]
 simp [gN,List.range_succ,List.filter_append,a]
def L5 (w:World) (ks:List Int) (e:Ending) (w':World):Prop:=∃A n c,e= .returned (.slice A n c)/\It w' (From w) A n c ks/\w'.ownsRow w 3 1 (.slice A n c) n (ks.map (Value.int .i64))/\Below w w w'
theorem Qb {nodes:Int} (h:gL w F p nodes sl root) (hn:sl.length<=65536) (T:∀s∈sl,0<=s.1/\s.1<=4611686018427387904):
  Calls prog 73 #[p] w (L5 w (gN sl sl.length)):=by
 obtain⟨i0,G,iC,iD,iE⟩:=info_parts jL;obtain⟨A,n,c,bs,x⟩:=h;have O:n=sl.length:=x.len;have M:=aa O;have h4:n<=65536:=by omega
 obtain⟨c0,c1,c2,cf⟩:=x.cells;have Y:=aa x;have X:=aa T;clear O hn x T;go_enter func73,ntmps73;go_wp2
 go_loopg [3,11] n (fun g vs i wr=>∃(k m:Nat) (v:Value),g=n-k/\k<=n/\i= (k:Int)/\v=vs/\Hid (m=(gN sl k).length)/\m<=k/\wr.ownsRow w 3 1 v m ((gN sl k).map (Value.int .i64))/\Below w w wr)
 case atStart=>exact⟨0,0,_,by omega,by omega,rfl,rfl,rfl,by omega,World.ownsRow_nil _ _ _ _,mh⟩
 case round=>
  obtain⟨k,m,v,R,hk,rfl,rfl,z,ab,d,a⟩:=hrel;have L:=aa R;have f:=aa d;clear R d
  by_cases H:k<n
  ·have K:=Y.out.below a;obtain⟨r,g,rfl,o,C⟩:=K.at_ H;have I:k<sl.length:=by have:=M.out;omega
   obtain⟨s,y⟩:∃s,sl[k]? =some s:=⟨_,mP I⟩;obtain⟨hA,ac,hc,kA,kn,kc,vA,vn,vc,dA,dn,dc,Q,_⟩:=K.slot _ g s o y;obtain⟨U,z1,z2,z3,z4,z5,z6,z7⟩:=Aq Q;obtain⟨w0,w1⟩:=X.out s (nT y);have N:=aa y;have P:bits BinOp.and IntKind.u64 s.1 1=s.1%2:=and_one_u64 s.1 w0 (by omega);have J:=a.size;clear y o Q K
   by_cases q:s.1%2=1
   ·have D:(s.1%2==1)=true:=by rw [beq_iff_eq];exact q
    have l:=aa (yJ N q);clear q;go_wp2_with (first|(go_at_call 121;refine(lV U).mono ?_;rintro e w' ⟨rfl,rfl⟩)|(at_builtin;refine af _ rfl (.tmp 22) (.tmp 25) _ rfl w 3 i0 _ 1 8 underlying25 G iC iD iE rfl (by omega) v m ((gN sl k).map (Value.int .i64)) rfl (f.alloc _) (From wr) (some ⟨wr,0,none⟩) 1 1 [.int .i64 ((k:Int)+1)] rfl (Rd.one wr _ _) (by intro u S;simp at S;subst S;rfl) (by simp only [maxLen];omega) (by omega) (by simp;omega) ?_;intro v2 w2 b E Z;have iG:=aa b;clear b Z))
    go_roundg (n-(k+1))
    case measure=>have:=L.out;omega
    case rel=>exact⟨k+1,m+1,v2,rfl,by omega,by go_num,rfl,aa (by rw [l.out];simp [z.out.symm]),by omega,by rw [l.out,List.map_append];exact iG,(a.alloc J _).grown E (by simp;omega) (fun j hj=>(ah f j hj).1)⟩
   ·have t:s.1%2=0:=by omega
    have D:(s.1%2==1)=false:=by rw [mi];exact q
    have l:=aa (BZ N t);clear q t;go_wp2_with (first|(go_at_call 121;refine(lV U).mono ?_;rintro e w' ⟨rfl,rfl⟩))
    go_roundg (n-(k+1))
    case measure=>have:=L.out;omega
    case rel=>exact⟨k+1,m,v,rfl,by omega,by go_num,rfl,aa (by rw [l.out];exact z),by omega,by rw [l.out];exact f,a⟩
  ·have W:Hid (k=sl.length):=aa (by have:=M.out;omega);go_wp2;go_ret;obtain⟨V,c',hv,h1,h2⟩:=ax f;have B:=f.out;rw [hv] at B;rw [<-W.out];exact⟨V,m,c',by rw [hv];rfl,⟨h1,h2,z,Rd.of_own B⟩,B,a⟩
section
def kH (w:World) (F:Nat->Prop) (vs:List Value) (s:aX):Prop:=
 ∃hA hn hc kA kn kc vA vn vc dA dn dc,vs= [.int .u64 s.1,.int .i64 s.2.lev,.slice hA hn hc,.int .i64 s.2.right,.slice kA kn kc,.slice vA vn vc,.slice dA dn dc]/\
  Bt w F hA hn hc s.2.high/\Tx w F kA kn kc s.2.keys/\Tx w F vA vn vc s.2.vals/\It w F dA dn dc s.2.kids
def uU (w:World) (F:Nat->Prop) (A:Option Addr) (n:Nat) (sl:List aX):Prop:=
 Hid (n=sl.length)/\∃vs,Rd w F 7 A n vs/\∀(i:Nat) (s:aX),sl[i]? =some s->kH w F ((vs.drop (i*7)).take 7) s
def pG (w:World) (F:Nat->Prop) (p:Nat) (nodes:Int) (sl:List aX) (top:Int):Prop:=
 ∃A n c,F p/\ak w p 223 #[.int .i64 nodes,.slice A n c,.int .i64 top]/\uU w F A n sl
section
variable {S F G:Nat->Prop} {w w':World} {A:Option Addr} {n:Nat} {sl:List aX} {p:Nat} {nodes top:Int}
theorem kH.weak {vs:List Value} {s:aX} (h:kH w F vs s) (K:∀b,F b->G b):kH w G vs s:=by
 obtain⟨hA,hn,hc,kA,kn,kc,vA,vn,vc,dA,dn,dc,a,c,d,e,f⟩:=h;exact⟨hA,hn,hc,kA,kn,kc,vA,vn,vc,dA,dn,dc,a,c.weak K,d.weak K,e.weak K,f.weak K⟩
theorem kH.chg {vs:List Value} {s:aX} (h:kH w F vs s) (hc:ag S w w') (Q:∀b,F b->¬S b):kH w' F vs s:=by
 obtain⟨hA,hn,a,kA,kn,kc,vA,vn,vc,dA,dn,dc,c,d,e,f,g⟩:=h;exact⟨hA,hn,a,kA,kn,kc,vA,vn,vc,dA,dn,dc,c,d.chg hc Q,e.chg hc Q,f.chg hc Q,g.chg hc Q⟩
theorem kH.lt {vs:List Value} {s:aX} (h:kH w F vs s):kH w (fun b=>F b/\b<w.heap.size) vs s:=by
 obtain⟨hA,hn,a,kA,kn,kc,vA,vn,vc,dA,dn,dc,c,d,e,f,g⟩:=h;exact⟨hA,hn,a,kA,kn,kc,vA,vn,vc,dA,dn,dc,c,d.lt,e.lt,f.lt,g.lt⟩
theorem uU.weak (h:uU w F A n sl) (K:∀b,F b->G b):uU w G A n sl:=let⟨a,vs,c,d⟩:=h;⟨a,vs,c.weak K,fun i s e=>(d i s e).weak K⟩
theorem uU.chg (h:uU w F A n sl) (hc:ag S w w') (Q:∀b,F b->¬S b):uU w' F A n sl:=let⟨c,vs,d,e⟩:=h;⟨c,vs,d.chg hc Q,fun i s a=>(e i s a).chg hc Q⟩
theorem pG.weak (h:pG w F p nodes sl top) (K:∀b,F b->G b):pG w G p nodes sl top:=let⟨A,n,c,a,d,e⟩:=h;⟨A,n,c,K _ a,d,e.weak K⟩
theorem pG.chg (h:pG w F p nodes sl top) (hc:ag S w w') (Q:∀b,F b->¬S b):pG w' F p nodes sl top:=let⟨A,n,c,a,d,e⟩:=h;⟨A,n,c,a,d.chg hc (Q _ a),e.chg hc Q⟩
theorem pG.below (h:pG w F p nodes sl top) (a:Below w.heap.size w w'):pG w' F p nodes sl top:=h.chg (ag.of_below (S:=Nil) a) (fun _ _ b=>b)
theorem uU.at_ {k:Nat} (h:uU w F A n sl) (v:k<n):∃b o s hA hn hc kA kn kc vA vn vc dA dn dc,A=some ⟨b,o,none⟩/\sl[k]? =some s/\
  w.cell? ⟨b,o+k*7,none⟩=some (.int .u64 s.1)/\w.cell? ⟨b,o+k*7+1,none⟩=some (.int .i64 s.2.lev)/\w.cell? ⟨b,o+k*7+1+1,none⟩=some (.slice hA hn hc)/\w.cell? ⟨b,o+k*7+1+2,none⟩=some (.int .i64 s.2.right)/\
  w.cell? ⟨b,o+k*7+1+3,none⟩=some (.slice kA kn kc)/\w.cell? ⟨b,o+k*7+1+4,none⟩=some (.slice vA vn vc)/\w.cell? ⟨b,o+k*7+1+5,none⟩=some (.slice dA dn dc)/\
  Bt w F hA hn hc s.2.high/\Tx w F kA kn kc s.2.keys/\Tx w F vA vn vc s.2.vals/\It w F dA dn dc s.2.kids:=by
 obtain⟨g,vs,i,l⟩:=h;have hl:k<sl.length:=by have:n=sl.length:=g;omega
 obtain⟨b,o,d,_,c⟩:=i.2 (by omega);obtain⟨hA,hn,hc,kA,kn,kc,vA,vn,vc,dA,dn,dc,e,p,q,r,t⟩:=l k sl[k] (List.getElem?_eq_getElem hl)
 have a:∀(j:Nat) (u:Value),j<7->((vs.drop (k*7)).take 7)[j]? =some u->w.cell? ⟨b,o+k*7+j,none⟩=some u:=by
  intro j u m f;rw [List.getElem?_take,if_pos m,List.getElem?_drop] at f;rw [Nat.add_assoc];exact c _ u f
 rw [e] at a;exact⟨b,o,sl[k],hA,hn,hc,kA,kn,kc,vA,vn,vc,dA,dn,dc,d,List.getElem?_eq_getElem hl,a 0 _ (by omega) rfl,a 1 _ (by omega) rfl,a 2 _ (by omega) rfl,a 3 _ (by omega) rfl,a 4 _ (by omega) rfl,a 5 _ (by omega) rfl,a 6 _ (by omega) rfl,p,q,r,t⟩
end
theorem wM {x y:Bool} (h:y=x):Ending.returned (.bool x)= .returned (.bool y):=by rw [h]
theorem kT {F:Nat->Prop} {p:Nat} {nodes top:Int} {sl:List aX} (id:Int) {w:World} (h:pG w F p nodes sl top) (x:Bool) (j:x=decide (1<=id/\id<=sl.length)):
  Calls prog 157 #[.pointer (some ⟨p,0,none⟩),.int .i64 id] w fun e w'=>e= .returned (.bool x)/\w=w':=by
 obtain⟨A,n,c,_,g,i⟩:=h;have b:n=sl.length:=i.1;obtain⟨c0,c1,l,m⟩:=oW g;have a:Hid (x=decide (1<=id/\id<=(n:Int))):=aa (by rw [j,b]);clear j b g i
 by_cases k:1<=id
 ·by_cases d:id<=(n:Int)
  ·have f:decide (id<=(n:Int))=true:=by simpa using d
   go_enter func157,ntmps157
   go_wp2;go_ret
   exact⟨wM (by rw [a.out];exact decide_eq_true (by omega)),rfl⟩
  ·have f:decide (id<=(n:Int))=false:=by simpa using d
   go_enter func157,ntmps157
   go_wp2;go_ret
   exact⟨wM (by rw [a.out];exact decide_eq_false (by omega)),rfl⟩
 ·have f:decide (1<=id)=false:=by simpa using k
  go_enter func157,ntmps157
  go_wp2;go_ret
  exact⟨wM (by rw [a.out];exact decide_eq_false (by omega)),rfl⟩
theorem TM {F:Nat->Prop} {p:Nat} {nodes top:Int} {sl:List aX} (id:Int) (s:aX) {w:World} (h:pG w F p nodes sl top) (a:1<=id) (h2:id<=sl.length) (hn:sl.length<=65536) (i:sl[id.toNat-1]? =some s):
  Calls prog 123 #[.pointer (some ⟨p,0,none⟩),.int .i64 id] w fun e w'=>e= .returned (.tuple #[.int .u64 s.1,.int .i64 0])/\w=w':=by
 have j:=aa h;obtain⟨A,n,c,_,g,f⟩:=h;have m:n=sl.length:=f.1;obtain⟨b,o,x,hA,q,hc,kA,kn,kc,vA,vn,vc,dA,dn,dc,rfl,d,y,z,B,C,D,E,G,_⟩:=f.at_ (k:=id.toNat-1) (by omega);rw [i] at d;injection d with d
 subst d;obtain⟨c0,c1,r,t⟩:=oW g;have u:id<=n:=by omega
 have v:n<=65536:=by omega
 have l:Hid (true=decide (1<=id/\id<=(sl.length:Int))):=aa (by simp [a,h2]);clear i h2 hn m g f;go_enter func123,ntmps123;go_wp2_with (first|(go_at_call 157;refine(kT id j true l).mono ?_;rintro e w' ⟨rfl,rfl⟩))
 go_ret2
 exact⟨rfl,rfl⟩
theorem Pg {F:Nat->Prop} {p:Nat} {nodes top:Int} {sl:List aX} (id:Int) {w:World} (h:pG w F p nodes sl top) (c:id<1\/(sl.length:Int)<id):
  Calls prog 123 #[.pointer (some ⟨p,0,none⟩),.int .i64 id] w fun e w'=>e= .returned (.tuple #[.int .u64 0,.int .i64 101])/\w=w':=by
 have a:=aa h;have b:Hid (false=decide (1<=id/\id<=(sl.length:Int))):=aa (by symm;rw [decide_eq_false_iff_not];omega);clear h c;go_enter func123,ntmps123;go_wp2_with (first|(go_at_call 157;refine(kT id a false b).mono ?_;rintro e w' ⟨rfl,rfl⟩))
 go_ret2
 exact⟨rfl,rfl⟩
theorem TN {F:Nat->Prop} {p:Nat} {nodes top:Int} {sl:List aX} (id:Int) {s:aX} {w:World} (h:pG w F p nodes sl top) (a:1<=id) (h2:id<=sl.length) (hn:sl.length<=65536) (y:sl[id.toNat-1]? =some s) (M:Small s.2):
  Calls prog 124 #[.pointer (some ⟨p,0,none⟩),.int .i64 id] w (Df w s.2.lev s.2.high s.2.right 0):=by
 have r:Below w.heap.size w (w.alloc (.cells #[.int .i64 0,.slice none 0 0,.int .i64 0] 127)):=(Below.refl _ _).alloc (Nat.le_refl _) _;have z:=aa (h.below r);obtain⟨A,n,c,_,f,j⟩:=h.below r;have D:n=sl.length:=j.1;obtain⟨b,o,s',hA,E,hc,kA,kn,kc,vA,vn,vc,dA,dn,dc,rfl,g,z0,z1,z2,z3,z4,z5,z6,J,K,L,N⟩:=j.at_ (k:=id.toNat-1) (by omega);rw [y] at g;injection g with g
 subst g;obtain⟨c0,c1,T,W⟩:=oW f;have X:id<=n:=by omega
 have Y:n<=65536:=by omega
 have B:Hid (true=decide (1<=id/\id<=(sl.length:Int))):=aa (by simp [a,h2]);have I:=aa M;clear y h2 hn D f j h M;go_enter func124,ntmps124;go_wp2_with (first|(go_at_call 157;refine(kT id z true B).mono ?_;rintro e w' ⟨rfl,rfl⟩))
 refine(lZ J K L N I).mono ?_;rintro e w1 ⟨t,u,i,Q,Z,C,R,n3,U,S,n4,V,rfl,O,r2,r3,r4,d⟩;have P:=aj (b:=w.heap.size) (o:=0) (v:= .int .i64 0) d (by simp);have y1:=aj (b:=w.heap.size) (o:=1) (v:= .slice none 0 0) d (by simp);have y2:=aj (b:=w.heap.size) (o:=2) (v:= .int .i64 0) d (by simp);have yf:∀o,w1.frozen? ⟨w.heap.size,o,none⟩=false:=((ak.new w 127 #[.int .i64 0,.slice none 0 0,.int .i64 0]).below d).frozen;have H:w.heap.size<w1.heap.size:=eU P;go_wp2;refine bodyPost_ret (v:= .tuple #[.agg #[.int .i64 s.2.lev,.slice t u i,.int .i64 s.2.right],.int .i64 0]) (by simp [results,results124,go_sem, *]) rfl ?_;have q:ag (jX w.heap.size) w1 (((w1.setCell ⟨w.heap.size,0,none⟩ (.int .i64 s.2.lev)).setCell ⟨w.heap.size,1,none⟩ (.slice t u i)).setCell ⟨w.heap.size,2,none⟩ (.int .i64 s.2.right)):=(chg2 w1 w.heap.size 0 1 _ _).setCell (p:=⟨w.heap.size,2,none⟩) (fun _=>rfl) _;have l:=r.trans (d.mono r.size);have up:∀b,From (w.heap.size+1) b->From w.heap.size b:=fun b f=>by simp only [From] at f|-;omega
 have no:∀b,From (w.heap.size+1) b->¬jX w.heap.size b:=fun b f e=>by simp only [From,jX] at f e;omega
 have m:=l.trans (q.below_of l.size (fun b f e=>by simp only [jX] at e;omega));have x:=((O.weak (G:=From (w.heap.size+1)) (fun b f=>by simpa [From] using f)).chg q no).weak up;exact⟨t,u,i,rfl,x.below ((Below.refl _ _).alloc (Nat.le_refl _) _),m.alloc m.size _⟩
theorem TP {F:Nat->Prop} {p:Nat} {nodes top:Int} {sl:List aX} (id:Int) {s:aX} {w:World} (h:pG w F p nodes sl top) (a:1<=id) (h2:id<=sl.length) (hn:sl.length<=65536) (J:sl[id.toNat-1]? =some s) (M:Small s.2):
  Calls prog 125 #[.pointer (some ⟨p,0,none⟩),.int .i64 id] w (Dg w s.2.keys s.2.vals s.2.kids 0):=by
 have r:Below w.heap.size w (w.alloc (.cells #[.slice none 0 0,.slice none 0 0,.slice none 0 0] 130)):=(Below.refl _ _).alloc (Nat.le_refl _) _;have K:=aa (h.below r);obtain⟨A,n,c,_,d,l⟩:=h.below r;have O:n=sl.length:=l.1;obtain⟨b,o,s',hA,P,hc,kA,kn,kc,vA,vn,vc,dA,dn,dc,rfl,i,z0,z1,z2,z3,z4,z5,z6,S,T,U,V⟩:=l.at_ (k:=id.toNat-1) (by omega);rw [J] at i;injection i with i
 subst i;obtain⟨c0,c1,c2,cf⟩:=oW d;have h3:id<=n:=by omega
 have h4:n<=65536:=by omega
 have L:Hid (true=decide (1<=id/\id<=(sl.length:Int))):=aa (by simp [a,h2]);have R:=aa M;clear J h2 hn O d l h M;go_enter func125,ntmps125;go_wp2_with (first|(go_at_call 157;refine(kT id K true L).mono ?_;rintro e w' ⟨rfl,rfl⟩))
 refine(lZ S T U V R).mono ?_;rintro e w1 ⟨A1,n1,N,t,B,j,u,C,y,x,D,z,rfl,r1,W,X,Y,f⟩;have Z:=aj (b:=w.heap.size) (o:=0) (v:= .slice none 0 0) f (by simp);have y1:=aj (b:=w.heap.size) (o:=1) (v:= .slice none 0 0) f (by simp);have y2:=aj (b:=w.heap.size) (o:=2) (v:= .slice none 0 0) f (by simp);have yf:∀o,w1.frozen? ⟨w.heap.size,o,none⟩=false:=((ak.new w 130 #[.slice none 0 0,.slice none 0 0,.slice none 0 0]).below f).frozen;have Q:w.heap.size<w1.heap.size:=eU Z;go_wp2;refine bodyPost_ret (v:= .tuple #[.agg #[.slice t B j,.slice u C y,.slice x D z],.int .i64 0]) (by simp [results,results125,go_sem, *]) rfl ?_;have g:ag (jX w.heap.size) w1 (((w1.setCell ⟨w.heap.size,0,none⟩ (.slice t B j)).setCell ⟨w.heap.size,1,none⟩ (.slice u C y)).setCell ⟨w.heap.size,2,none⟩ (.slice x D z)):=(chg2 w1 w.heap.size 0 1 _ _).setCell (p:=⟨w.heap.size,2,none⟩) (fun _=>rfl) _;have m:=r.trans (f.mono r.size);have up:∀b,From (w.heap.size+1) b->From w.heap.size b:=fun b d=>by simp only [From] at d|-;omega
 have no:∀b,From (w.heap.size+1) b->¬jX w.heap.size b:=fun b d e=>by simp only [From,jX] at d e;omega
 have q:=m.trans (g.below_of m.size (fun b d e=>by simp only [jX] at e;omega));have E:=((W.weak (G:=From (w.heap.size+1)) (fun b d=>by simpa [From] using d)).chg g no).weak up;have H:=((X.weak (G:=From (w.heap.size+1)) (fun b d=>by simpa [From] using d)).chg g no).weak up;have I:=((Y.weak (G:=From (w.heap.size+1)) (fun b d=>by simpa [From] using d)).chg g no).weak up;exact⟨t,B,j,u,C,y,x,D,z,rfl,E.below ((Below.refl _ _).alloc (Nat.le_refl _) _),H.below ((Below.refl _ _).alloc (Nat.le_refl _) _),I.below ((Below.refl _ _).alloc (Nat.le_refl _) _),q.alloc q.size _⟩
theorem Ph {F:Nat->Prop} {p:Nat} {nodes top:Int} {sl:List aX} (id:Int) {w:World} (h:pG w F p nodes sl top) (d:id<1\/(sl.length:Int)<id):
  Calls prog 124 #[.pointer (some ⟨p,0,none⟩),.int .i64 id] w (Df w 0 [] 0 101):=by
 have a:Below w.heap.size w (w.alloc (.cells #[.int .i64 0,.slice none 0 0,.int .i64 0] 127)):=(Below.refl _ _).alloc (Nat.le_refl _) _;have b:=aa (h.below a);have c:Hid (false=decide (1<=id/\id<=(sl.length:Int))):=aa (by symm;rw [decide_eq_false_iff_not];omega);clear h d;go_enter func124,ntmps124;go_wp2_with (first|(go_at_call 157;refine(kT id b false c).mono ?_;rintro e w' ⟨rfl,rfl⟩))
 refine bodyPost_ret (v:= .tuple #[.agg #[.int .i64 0,.slice none 0 0,.int .i64 0],.int .i64 101]) (by simp [results,results124,go_sem]) rfl ?_;exact⟨none,0,0,rfl,Bt.nil _ _,a⟩
theorem Pi {F:Nat->Prop} {p:Nat} {nodes top:Int} {sl:List aX} (id:Int) {w:World} (h:pG w F p nodes sl top) (d:id<1\/(sl.length:Int)<id):
  Calls prog 125 #[.pointer (some ⟨p,0,none⟩),.int .i64 id] w (Dg w [] [] [] 101):=by
 have a:Below w.heap.size w (w.alloc (.cells #[.slice none 0 0,.slice none 0 0,.slice none 0 0] 130)):=(Below.refl _ _).alloc (Nat.le_refl _) _;have b:=aa (h.below a);have c:Hid (false=decide (1<=id/\id<=(sl.length:Int))):=aa (by symm;rw [decide_eq_false_iff_not];omega);clear h d;go_enter func125,ntmps125;go_wp2_with (first|(go_at_call 157;refine(kT id b false c).mono ?_;rintro e w' ⟨rfl,rfl⟩))
 refine bodyPost_ret (v:= .tuple #[.agg #[.slice none 0 0,.slice none 0 0,.slice none 0 0],.int .i64 101]) (by simp [results,results125,go_sem]) rfl ?_;exact⟨none,0,0,none,0,0,none,0,0,rfl,Tx.nil _ _,Tx.nil _ _,It.nil _ _,a⟩
theorem MW {F:Nat->Prop} {p:Nat} {nodes top:Int} {sl:List aX} {w:World} (h:pG w F p nodes sl top):
  Calls prog 72 #[.pointer (some ⟨p,0,none⟩)] w fun e w'=>e= .returned (.int .i64 sl.length)/\w=w':=by
 obtain⟨A,n,c,_,a,b⟩:=h;have d:=aa b.1;obtain⟨c0,c1,f,g⟩:=oW a;clear b a;go_enter func72,ntmps72;go_wp2;go_ret
 exact⟨bR (by have:n=sl.length:=d.out.out;omega),rfl⟩
theorem MY {F:Nat->Prop} {p:Nat} {nodes top:Int} {sl:List aX} {w:World} (h:pG w F p nodes sl top) (f:sl.length<=65536) (k:0<=nodes) (l:nodes<=65536):
  Calls prog 77 #[.pointer (some ⟨p,0,none⟩)] w fun e w'=>e= .returned (.int .i64 (nodes-sl.length))/\∃q,w'=w.drewN q:=by
 obtain⟨A,n,c,_,b,a⟩:=h;have d:=aa a.1;have m:n<=65536:=by have:n=sl.length:=a.1;omega
 obtain⟨c0,c1,g,i⟩:=oW b;clear a b f;go_enter func77,ntmps77;have j:=IntWalk.i64_in (nodes-(n:Int)) (by omega);go_wp2;go_quiet (fail);go_wp2;go_ret;exact⟨bR (by have:n=sl.length:=d.out.out;omega),_,rfl⟩
theorem MZ {F:Nat->Prop} {p:Nat} {nodes top:Int} {sl:List aX} {w:World} (h:pG w F p nodes sl top):
  Calls prog 78 #[.pointer (some ⟨p,0,none⟩)] w fun e w'=>e= .returned (.int .i64 top)/\w=w':=by
 obtain⟨A,n,c,_,a,b⟩:=h;obtain⟨c0,c1,d,f⟩:=oW a;clear b a;go_enter func78,ntmps78;go_wp2;go_ret
 exact⟨rfl,rfl⟩
end
theorem MX {nodes:Int} (h:pG w F p nodes sl root) (hn:sl.length<=65536) (O:∀s∈sl,0<=s.1/\s.1<=4611686018427387904):
  Calls prog 74 #[p] w (L5 w (gN sl sl.length)):=by
 obtain⟨i0,B,iC,iD,iE⟩:=info_parts jL;have HA:=aa h;obtain⟨A,n,c,ET,K,l⟩:=h;have J:n=sl.length:=l.1;have U:=aa J;have h4:n<=65536:=by omega
 have R:=aa K;have W:=aa l;have V:=aa O;clear J hn l O K;go_enter func74,ntmps74;go_wp2
 go_loopg [3,4] n (fun g vs i wr=>∃(k m:Nat) (v:Value),g=n-k/\k<=n/\i= (k:Int)/\v=vs/\Hid (m=(gN sl k).length)/\m<=k/\wr.ownsRow w 3 1 v m ((gN sl k).map (Value.int .i64))/\Below w w wr)
 case atStart=>exact⟨0,0,_,by omega,by omega,rfl,rfl,rfl,by omega,World.ownsRow_nil _ _ _ _,mh⟩
 case round=>
  obtain⟨k,m,v,L,hk,rfl,rfl,t,ab,e,a⟩:=hrel;have H:=aa L;have q:=aa e;obtain⟨c0,c1,c2,cf⟩:=oW (R.below a);clear L e
  by_cases C:k<n
  ·have P:=W.out.chg (S:=Nil) (ag.of_below a) (fun _ _ hf=>hf);obtain⟨b,o,s,hA,ac,hc,kA,kn,kc,vA,vn,vc,dA,dn,dc,rfl,E,z0,z1,z2,z3,z4,z5,z6,_⟩:=P.at_ C;obtain⟨w0,w1⟩:=V.out s (nT E);have I:=aa E;have G:=a.size;have M:IntKind.u64.wrap (s.1.tmod 2)=s.1%2:=by rw [Int.tmod_eq_emod_of_nonneg w0];exact IntWalk.u64_in _ (by omega)
   clear E P
   by_cases D:s.1%2=1
   ·have y:(s.1%2==0)=false:=by rw [mi];omega
    have r:=aa (yJ I D);clear D;go_wp2_with (at_builtin;refine af _ rfl (.tmp 24) (.tmp 27) _ rfl w 3 i0 _ 1 8 underlying25 B iC iD iE rfl (by omega) v m ((gN sl k).map (Value.int .i64)) rfl (q.alloc _) (From wr) (some ⟨wr,0,none⟩) 1 1 [.int .i64 ((k:Int)+1)] rfl (Rd.one wr _ _) (by intro u N;simp at N;subst N;rfl) (by simp only [maxLen];omega) (by omega) (by simp;omega) ?_;intro v2 w2 d z X;have iG:=aa d;clear d X)
    go_roundg (n-(k+1))
    case measure=>have:=H.out;omega
    case rel=>exact⟨k+1,m+1,v2,rfl,by omega,by go_num,rfl,aa (by rw [r.out];simp [t.out.symm]),by omega,by rw [r.out,List.map_append];exact iG,(a.alloc G _).grown z (by simp;omega) (fun j hj=>(ah q j hj).1)⟩
   ·have f:s.1%2=0:=by omega
    have y:(s.1%2==0)=true:=by rw [beq_iff_eq];exact f
    have r:=aa (BZ I f);clear D f;go_wp2
    go_roundg (n-(k+1))
    case measure=>have:=H.out;omega
    case rel=>exact⟨k+1,m,v,rfl,by omega,by go_num,rfl,aa (by rw [r.out];exact t),by omega,by rw [r.out];exact q,a⟩
  ·have T:Hid (k=sl.length):=aa (by have:=U.out;omega);go_wp2;go_ret;obtain⟨Q,Y,hv,Z,h2⟩:=ax q;have x:=q.out;rw [hv] at x;rw [<-T.out];exact⟨Q,m,Y,by rw [hv];rfl,⟨Z,h2,t,Rd.of_own x⟩,x,a⟩
theorem Fh (h:∀s∈sl,s.1%2=0) (k:Nat):gN sl k= []:=by
 have:(List.range k).filter (yI sl)= []:=by
  rw [List.filter_eq_nil_iff];intro i _;unfold yI
  cases hs:sl[i]? with
  |none=>simp
  |some s=>have:=h s (nT hs);simp;omega
 simp [gN,this]
end Go.Proofs.YtepgcjbhabnciaaGreat
