/- Part 28. -/
import Derived.Test.YtepgcjbhabnciaaGreatLe27
namespace Go.Proofs.YtepgcjbhabnciaaGreat
set_option maxRecDepth 100000
set_option maxHeartbeats 8000000
open Go.Proofs.Tryz Go.RowKit
open Go.Lib (compareBytes)
variable {u2 u3 u4 u5 r u9 M E I Z N U O f C u20 u21 u22 D u25 u28 u29 u30 k u32 u33 u35 u36 u37 u38 R u40 X u42 G u44 u45 u46 l u48 u49 z u51 eO eQ u55 fE fF u58 u59 u60 gJ gY u63 u64 J u66 iq u68 u69 u70 H u72 u73 jJ u75 A mF mG mH mI mJ mV mW mX l8 nT rM qC qD wu y wB u93 xM xP S jC jD jE jF jQ u105 jR jS d jU L V jY g v kV s kX u119 P lg lh u124 lm W u6 Y m T j F B xN xO wJ e u u8 u16 u23 u24 u26 u27 u31 u34 u53 jW kY:Value}
noncomputable def Z7:Code:=aV (f184.body.bind (aJ 12))
theorem OO (q pb n p bn bc i b o x:Nat) (v0:Value) (w:World) (Q:Exit->Act->World->Prop) (mQ:Hid (∀c t (a:Act) w,Q (.panic c) ⟨t,a.defers⟩ w->Q (.panic c) a w))
  (S0:w.drew.cell? ⟨q,0,none⟩=some (.slice (some ⟨b,o,none⟩) bn bc)/\w.drew.cell? ⟨q,5,none⟩=some (.int .i64 p)/\w.drew.cell? ⟨b,o+(p+i),none⟩=some (.int .u8 x)) (d0:w.drew.cell? ⟨pb,i,none⟩=some v0) (df:w.drew.frozen? ⟨pb,i,none⟩=false)
  (hi:i<n) (hn:n<=1152921504606) (aq:bn<=1152921504606) (ar:p+i<bn)
  (ax:∀(ab ac ad ae al am Ps an Pt ao Pv ap Yg Yh Yi Yj:Value),Q .normal ⟨(.pointer (some ⟨q,0,none⟩):: .slice (some ⟨pb,0,none⟩) n n::u2::u3::u4::u5::u6:: .int .i64 i::r::u9::M::E::I::Z::N::U::Y::O::f::C::u20::u21::u22::m::D::u25::T::j::u28::u29::u30::k::u32::u33::F::u35::u36::u37::u38::R::u40::X::u42::G::u44::u45::u46::l::u48::u49::z::u51::eO::B::eQ::u55::fE::fF::u58::u59::u60::gJ::gY::u63::u64::J::u66::iq::u68::u69::u70::H::u72::u73::jJ::u75::A::mF::mG::mH::mI::mJ::ab::ac::ad::ae::al::am::Ps::an::Pt::ao::Pv::ap::Yg::Yh::Yi::Yj::S::wJ::jC::jD::jE::jF::jQ::u105::jR::jS::d::jU::L::e::V::jY::g::v::kV::s::kX::u119::u::P::lg::lh::u124::lm::W:: []).toArray,[]⟩ (w.drew.setCell ⟨pb,i,none⟩ (.int .u8 x))):
  Code.wp prog Z7 Q ⟨(.pointer (some ⟨q,0,none⟩):: .slice (some ⟨pb,0,none⟩) n n::u2::u3::u4::u5::u6:: .int .i64 i::r::u9::M::E::I::Z::N::U::Y::O::f::C::u20::u21::u22::m::D::u25::T::j::u28::u29::u30::k::u32::u33::F::u35::u36::u37::u38::R::u40::X::u42::G::u44::u45::u46::l::u48::u49::z::u51::eO::B::eQ::u55::fE::fF::u58::u59::u60::gJ::gY::u63::u64::J::u66::iq::u68::u69::u70::H::u72::u73::jJ::u75::A::mF::mG::mH::mI::mJ::mV::mW::mX::l8::nT::rM::qC::qD::wu::y::wB::u93::xM::xN::xO::xP::S::wJ::jC::jD::jE::jF::jQ::u105::jR::jS::d::jU::L::e::V::jY::g::v::kV::s::kX::u119::u::P::lg::lh::u124::lm::W:: []).toArray,[]⟩ w:=by
 have dP:=aa ax;have a0:IntKind.i64.wrap ((p:Int)+i)=(p:Int)+i:=IntWalk.i64_in _ (by omega);have aw:(0:Int)<=(p:Int)+i:=by omega
 have aA:(p:Int)+i<(bn:Int):=by omega
 have aE:((p:Int)+(i:Int)).toNat=p+i:=by omega
 clear ax;conv=>arg 2;whnf
 refine aS (fun w'=>w'.cell? ⟨q,0,none⟩=some (.slice (some ⟨b,o,none⟩) bn bc)/\w'.cell? ⟨q,5,none⟩=some (.int .i64 p)/\w'.cell? ⟨b,o+(p+i),none⟩=some (.int .u8 x)) 16 (by kernel_rfl) ?_;refine uF 0 (fun _=>S0) ?_;refine uF 1 (fun _=>S0) ?_;refine uF 2 (fun _=>S0) ?_;refine uF 3 (fun _=>S0) ?_;refine uF 4 (fun _=>S0) ?_;refine uF 5 (fun _=>S0) ?_;refine uF 7 (fun _=>S0) ?_;refine uF 8 (fun _=>S0) ?_;refine uF 9 (fun _=>S0) ?_;refine uF 11 (fun _=>S0) ?_;refine uT 6 S0 ?_;refine uT 10 S0 ?_;refine uF 12 (fun _=>S0) ?_;refine uF 13 (fun _=>S0) ?_;refine uT 14 S0 ?_;refine uF 15 (fun _=>S0) ?_;refine aH (i:=16) (by kernel_rfl) rfl (fun K hK=> ?_);go_simp
 refine hK.out _ _ (fun h=>absurd h (by decide)) ?_;clear hK K;try simp only [aL,aN,aZ,aC]
 refine bS (by kernel_rfl) ?_ _;exact dP _ _ _ _ _ _ _ _ _ _ _ _ _ _ _ _
theorem OP (F:Nat->Prop) (q pb n p bn bc m:Nat) (bA:Option Addr) (B:List UInt8) (w:World) (Q:Exit->Act->World->Prop) (mQ:Hid (∀c t (a:Act) w,Q (.panic c) ⟨t,a.defers⟩ w->Q (.panic c) a w))
  (c0:w.cell? ⟨q,0,none⟩=some (.slice bA bn bc)) (c5:w.cell? ⟨q,5,none⟩=some (.int .i64 p)) (HR:Hid (SB w F (.slice bA bn bc) B)) (HP:Hid (Bf w pb n [])) (ja:Hid (∀b,F b->b<pb)) (hq:q<pb) (T:n<=1152921504606) (a4:bn<=1152921504606) (bh:m<=n) (bj:p+m<=bn)
  (ax:∀(v7 a5 a6 a7 a8 a9 an ao ap aq ar aw Ps aA Pt aE Pv a0 Yg Yh Yi Yj:Value) (w':World),Bf w' pb n ((B.drop p).take m)->ag (fun b=>b=pb) w w'->Q (.exit 0) ⟨(.pointer (some ⟨q,0,none⟩):: .slice (some ⟨pb,0,none⟩) n n::u2::u3::u4::u5:: .int .i64 m::v7::u8::u9::M::E::I::Z::N::U::u16::O::f::C::u20::u21::u22::u23::u24::u25::u26::u27::u28::u29::u30::u31::u32::u33::u34::u35::u36::u37::u38::R::u40::X::u42::G::u44::u45::u46::l::u48::u49::z::u51::eO::u53::eQ::u55::fE::fF::u58::u59::u60::gJ::gY::u63::u64::J::u66::iq::u68::u69::u70::H::u72::u73::jJ::u75::A::a5::a6::a7::a8::a9::an::ao::ap::aq::ar::aw::Ps::aA::Pt::aE::Pv::a0::Yg::Yh::Yi::Yj::S::r::jC::jD::jE::jF::jQ::u105::jR::jS::d::jU::L::jW::V::jY::g::v::kV::s::kX::u119::kY::P::lg::lh::u124::lm::W:: []).toArray,[]⟩ w'):
  Code.wp prog z8 Q ⟨(.pointer (some ⟨q,0,none⟩):: .slice (some ⟨pb,0,none⟩) n n::u2::u3::u4::u5:: .int .i64 m:: .int .i64 0::u8::u9::M::E::I::Z::N::U::u16::O::f::C::u20::u21::u22::u23::u24::u25::u26::u27::u28::u29::u30::u31::u32::u33::u34::u35::u36::u37::u38::R::u40::X::u42::G::u44::u45::u46::l::u48::u49::z::u51::eO::u53::eQ::u55::fE::fF::u58::u59::u60::gJ::gY::u63::u64::J::u66::iq::u68::u69::u70::H::u72::u73::jJ::u75::A::mF::mG::mH::mI::mJ::mV::mW::mX::l8::nT::rM::qC::qD::wu::y::wB::u93::xM::D::k::xP::S::r::jC::jD::jE::jF::jQ::u105::jR::jS::d::jU::L::jW::V::jY::g::v::kV::s::kX::u119::kY::P::lg::lh::u124::lm::W:: []).toArray,[]⟩ w:=by
 have dP:=aa ax;have C0:=aa c0;have C5:=aa c5;have HQ:=aa hq;clear ax c0 c5 hq;conv=>arg 2;whnf
 go_loopg [7] m (fun g' iv wz=>∃i:Nat,g'=m-i/\i<=m/\iv= .int .i64 i/\Bf wz pb n ((B.drop p).take i)/\ag (fun b=>b=pb) w wz)
 case atStart=>exact⟨0,by omega,by omega,rfl,by simpa using HP.out,ag.refl _ _⟩
 case round=>
  obtain⟨i,hg,hi,rfl,hb,hc⟩:=hrel;have HG:=aa hg;have JO:=aa hb;have HC:=aa hc;clear hg hb hc
  by_cases be:i<m
  ·have ba:(i:Int)<(m:Int):=by omega
   have hj:p+i<bn:=by omega
   have a3:=aa (HR.chg HC (fun b hb e=>by have:=ja.out b hb;have e:b=pb:=e;omega));obtain⟨b,o,u,rfl,_,hx,j⟩:=a3.out.parts.2.2.2.at_ hj;obtain⟨x,al,rfl⟩:=dX hx;have HX:=aa al;simp only [bv] at j;have c0:=HC.out.cell (show¬(q=pb) from fun e=>by have:=HQ.out;omega) C0.out;have c5:=HC.out.cell (show¬(q=pb) from fun e=>by have:=HQ.out;omega) C5.out;obtain⟨cur,Y,ac,K⟩:=JO.out;have ab:i<n:=by omega
   obtain⟨v0,ae⟩:∃v0,cur[i]? =some v0:=⟨_,List.getElem?_eq_getElem (by omega)⟩;have d0:wr.cell? ⟨pb,i,none⟩=some v0:=by rw [Y.cell];simpa using ae
   have df:=Y.frozen i;have a1:=aa Y;have Kz:=aa ac;have a2:=aa K;clear hx al Y ac K ae;go_upto_region 12 with fail
   refine OO q pb n p bn bc i b o x.toNat v0 wr _ (by exact aa (fun c t a w h=>mQ c t a w h)) ⟨c0,c5,j⟩ d0 df ab T a4 hj ?_;intro an ao ap aq ar aw Ps aA Pt aE Pv a0 Yg Yh Yi Yj;go_wp2
   go_roundg (m-(i+1))
   case measure=>have:=HG.out;omega
   case rel=>
    have wU:((B.drop p).take m)[i]? =some x\/(B.drop p)[i]? =some x:= .inr (by rw [List.getElem?_drop];exact HX);have am:(B.drop p)[i]? =some x:=by rw [List.getElem?_drop];exact HX
    have bb:i<(B.drop p).length:=(List.getElem?_eq_some_iff.1 am).1;have ad:((B.drop p).take i).length=i:=by rw [List.length_take];omega
    have K:=a2.out;rw [ad] at K
    refine⟨i+1,rfl,by omega,by go_num,⟨cur.set i (.int .u8 x.toNat),?_,by rw [List.length_set];exact Kz,?_⟩,?_⟩
    ·have h1:=(a1.out.drew).set_ i (.int .u8 x.toNat);rw [List.setIfInBounds_toArray] at h1
     exact h1
    ·rw [List.take_add_one,am];show(cur.set i _).take (((B.drop p).take i)++ [x]).length=_;rw [List.length_append,ad,List.length_singleton,List.take_add_one,List.take_set_of_le (Nat.le_refl _),K,List.getElem?_set_self (by have:=Kz.out;omega)]
     simp [aF,bv]
    ·exact(HC.drew).setCell (p:=⟨pb,i,none⟩) (fun _=>rfl) _
  ·have ab:i=m:=by omega
   subst ab;go_wp2;exact dP _ _ _ _ _ _ _ _ _ _ _ _ _ _ _ _ _ _ _ _ _ _ _ JO HC
def iG (F:Nat->Prop) (q pb n:Nat) (s:Src) (w:World) (e:Ending) (w':World):Prop:=
 e= .returned (.tuple #[.int .i64 ((s.read n).1.length:Nat),.int .i64 (s.read n).2.1])/\dO w' F q (s.read n).2.2/\Bf w' pb n (s.read n).1/\ag (fun b=>b=q\/pb<=b) w w'
theorem xR (F:Nat->Prop) (q pb n:Nat) (s:Src) (w:World) (h:dO w F q s) (x:¬F q) (t:∀b,F b->b<pb) (hp:Bf w pb n []) (a:q<pb) (O:s.calls<4611686018427387904) (_T:n<=1152921504606) (P:s.gives.length<=1152921504606) (j:0<s.fail) (d:s.fail<=(s.calls:Int)+1):
  Calls prog 184 #[.pointer (some ⟨q,0,none⟩),.slice (some ⟨pb,0,none⟩) n n] w (iG F q pb n s w):=by
 refine letter fun R K=> ?_;obtain⟨bA,gA,bn,bc,gn,gc,p,B,n7,n8,n9,n10,n11,l⟩:=h;have N:=l.bd;obtain⟨cur,f,r,_⟩:=hp;have m:=aa l;have D:=aa x;have U:=aa t;have I:=aa f;have M:=aa r;have S:Hid (gn<=1152921504606):=aa (by have:=l.gn_len;omega);have J:=aa a;obtain⟨fl,k⟩:∃fl,fl=s.fail:=⟨_,rfl⟩;obtain⟨o,c⟩:∃o,o=s.calls:=⟨_,rfl⟩;have E:=aa k;have y:=aa c;rw [<-c] at O;have G:w.cell? ⟨q,4,none⟩=some (.int .i64 o):=by rw [c];exact l.blk.cell 4
 have H:w.cell? ⟨q,6,none⟩=some (.bool false):=l.blk.cell 6;have L:=l.blk.frozen 4
 (rw [<-k] at j d;rw [<-c] at d;have A:=aa j;have C:=aa d;clear j d)
 clear l x t f r k c P;go_enter func184,ntmps184
 go_upto_region 2 with fail
 obtain⟨w1,i⟩:∃W,W=w.setCell ⟨q,4,none⟩ (.int .i64 ((o:Int)+1)):=⟨_,rfl⟩;rw [<-i];have z:Hid (ag (fun b=>b=q) w w1):=aa (by rw [i];exact(ag.refl (fun b=>b=q) w).setCell (p:=⟨q,4,none⟩) (fun _=>rfl) _)
 have u:Hid (lz w1 F q s.asked bA gA bn bc gn gc p B n7 n8 n9 n10 n11):=aa (by
  have g:=z.out;rw [i] at g|-;have f:=m.out.blk.set_ 4 (.int .i64 ((o:Int)+1));rw [y.out] at f g|-;exact⟨f,m.gv.chg g (fun b f e=>D (e▸f)),m.sb.chg g (fun b f e=>D (e▸f)),m.left,m.le,m.bd⟩)
 have v:Hid (aj w1 pb 5 cur.toArray):=aa (I.chg z (fun e=>by have:=J.out;omega));have Q:Hid (ag (fun b=>b=q\/pb<=b) w w1):=aa (z.mono (fun b _ e=> .inl e));clear G H L i;have V:w1.cell? ⟨q,2,none⟩=some (.int .i64 fl):=by rw [E.out];exact u.blk.cell 2
 have G:w1.cell? ⟨q,4,none⟩=some (.int .i64 ((o:Int)+1)):=by rw [y.out];exact u.blk.cell 4
 have H:w1.cell? ⟨q,6,none⟩=some (.bool false):=u.out.blk.cell 6
 (have j:1<=fl:=(by have:=A.out;omega);have d:=C.out)
 go_wp2;go_quiet (fail)
 go_wp2
 (rw [K.out];unfold iG;have j:=A.out;have d:=C.out;rw [E.out] at j d;rw [y.out] at d;rw [Src.read_broken ⟨j,d⟩];exact⟨rfl,⟨bA,gA,bn,bc,gn,gc,p,B,n7,n8,n9,n10,n11,u.chg ((ag.refl Nil w1).drewN _) (fun h=>h) (fun _ _ h=>h)⟩,⟨cur,v.chg ((ag.refl Nil w1).drewN _) (fun h=>h),M,by simp [aF]⟩,Q.drewN _⟩)
theorem D3 (F:Nat->Prop) (q pb n:Nat) (s:Src) (w:World) (h:dO w F q s) (x:¬F q) (t:∀b,F b->b<pb) (hp:Bf w pb n []) (a:q<pb) (hc:s.calls<4611686018427387904) (T:n<=1152921504606) (hg:s.gives.length<=1152921504606) (L:¬0<s.fail):
  Calls prog 184 #[.pointer (some ⟨q,0,none⟩),.slice (some ⟨pb,0,none⟩) n n] w (iG F q pb n s w):=by
 refine letter fun R HR=> ?_;obtain⟨bA,gA,bn,bc,gn,gc,p,B,n7,n8,n9,n10,n11,D⟩:=h;have N:=D.bd;obtain⟨cur,f,O,_⟩:=hp;have E:=aa D;have Y:=aa x;have ja:=aa t;have HB:=aa f;have Kz:=aa O;have Vo:Hid (gn<=1152921504606):=aa (by have:=D.gn_len;omega);have Z:=aa a;obtain⟨fl,C⟩:∃fl,fl=s.fail:=⟨_,rfl⟩;obtain⟨y,o⟩:∃y,y=s.calls:=⟨_,rfl⟩;have iH:=aa C;have fC:=aa o;rw [<-o] at hc;have z4:w.cell? ⟨q,4,none⟩=some (.int .i64 y):=by rw [o];exact D.blk.cell 4
 have z6:w.cell? ⟨q,6,none⟩=some (.bool false):=D.blk.cell 6;have Jm:=D.blk.frozen 4
 (have gK:Hid (¬(0<s.fail/\s.fail<=(s.calls:Int)+1)):=aa (fun h=>L h.1);rw [<-C] at L;have H0:=aa L;clear L)
 clear D x t f O C o hg;go_enter func184,ntmps184
 go_upto_region 2 with fail
 obtain⟨w1,r⟩:∃W,W=w.setCell ⟨q,4,none⟩ (.int .i64 ((y:Int)+1)):=⟨_,rfl⟩;rw [<-r];have iZ:Hid (ag (fun b=>b=q) w w1):=aa (by rw [r];exact(ag.refl (fun b=>b=q) w).setCell (p:=⟨q,4,none⟩) (fun _=>rfl) _)
 have l9:Hid (lz w1 F q s.asked bA gA bn bc gn gc p B n7 n8 n9 n10 n11):=aa (by
  have c:=iZ.out;rw [r] at c|-;have f:=E.out.blk.set_ 4 (.int .i64 ((y:Int)+1));rw [fC.out] at f c|-;exact⟨f,E.gv.chg c (fun b f e=>Y (e▸f)),E.sb.chg c (fun b f e=>Y (e▸f)),E.left,E.le,E.bd⟩)
 have ab:Hid (aj w1 pb 5 cur.toArray):=aa (HB.chg iZ (fun e=>by have:=Z.out;omega));have jL:Hid (ag (fun b=>b=q\/pb<=b) w w1):=aa (iZ.mono (fun b _ e=> .inl e));clear z4 z6 Jm r;have z2:w1.cell? ⟨q,2,none⟩=some (.int .i64 fl):=by rw [iH.out];exact l9.blk.cell 2
 have z4:w1.cell? ⟨q,4,none⟩=some (.int .i64 ((y:Int)+1)):=by rw [fC.out];exact l9.blk.cell 4
 have z6:w1.cell? ⟨q,6,none⟩=some (.bool false):=l9.out.blk.cell 6
 (have L:decide (1<=fl)=false:=decide_eq_false (by have:=H0.out;omega))
 go_wp2;go_quiet (fail)
 go_wp2;generalize Q:w1.drewN nq=w2
 have tV:ag Nil w1 w2:=by rw [<-Q];exact(ag.refl Nil w1).drewN nq
 have u:Hid (lz w2 F q s.asked bA gA bn bc gn gc p B n7 n8 n9 n10 n11):=aa (l9.chg tV (fun h=>h) (fun _ _ h=>h));have J:Hid (aj w2 pb 5 cur.toArray):=aa (ab.chg tV (fun h=>h));have bB:Hid (ag (fun b=>b=q\/pb<=b) w w2):=aa (jL.out.trans tV (fun _ _ h=>h.elim));have v:Hid (bn=B.length):=aa u.sb.parts.2.2.1;have Ez:=aa u.le;have y0:w2.cell? ⟨q,0,none⟩=some (.slice bA bn bc):=u.out.blk.cell 0;have y5:w2.cell? ⟨q,5,none⟩=some (.int .i64 p):=u.out.blk.cell 5;clear Q tV z2 z4 z6
 by_cases P:p=bn
 ·have Vp:(p:Int)=(bn:Int):=by omega
  have y9:Hid (s.left= []):=aa (by have d:s.left=B.drop p:=u.out.left;rw [d];exact List.drop_of_length_le (by have:=v.out;omega));have Z8:=aa (Src.read_end (n:=n) gK y9);clear P;go_quiet (fail);go_wp2;rw [HR.out];unfold iG;rw [Z8.out]
  exact⟨rfl,⟨bA,gA,bn,bc,gn,gc,p,B,n7,n8,n9,n10,n11,u.chg ((ag.refl Nil w2).drewN _) (fun h=>h) (fun _ _ h=>h)⟩,⟨cur,J.chg ((ag.refl Nil w2).drewN _) (fun h=>h),Kz,by simp [aF]⟩,bB.drewN _⟩
 ·have Vp:¬((p:Int)=(bn:Int)):=by omega
  have y9:Hid (s.left≠ []):=aa (fun e=>by have d:s.left=B.drop p:=u.out.left;rw [d] at e;have:=congrArg List.length e;rw [List.length_drop] at this;simp at this;have:=v.out;have:=Ez.out;omega);clear P;go_quiet (fail);go_upto_region 8 with fail
  generalize S:w2.drewN nq=w3
  have X:ag Nil w2 w3:=by rw [<-S];exact(ag.refl Nil w2).drewN nq
  have I:=aa (u.chg X (fun h=>h) (fun _ _ h=>h));have ac:=aa (J.chg X (fun h=>h));have eH:Hid (ag (fun b=>b=q\/pb<=b) w w3):=aa (bB.out.trans X (fun _ _ h=>h.elim));obtain⟨m,hm⟩:∃m,m=min (s.most n) (bn-p):=⟨_,rfl⟩;have K:=aa hm;have ad:p<=bn:=by have:=Ez.out;have:=v.out;omega
  clear S X y0 y5 hm;refine IR F q pb n p bn bc gn gc y m bA gA s w3 _ (by exact aa (fun _ _ _ _ h=>h)) ⟨I.blk.cell 0,I.blk.cell 1,by rw [fC.out];exact I.blk.cell 4,I.blk.cell 5⟩ (aa I.gv) fC hc T Vo N ad K ?_;intro an ao ap aq ar aw ax aA aE a0 a1 a2 a3 a4 a5 a6 a7 a8 a9 ba bb be bh bj w4 l;have Rh:=aa (I.chg l (fun h=>h) (fun _ _ h=>h));have dR:=aa (ac.chg l (fun h=>h));have fV:Hid (ag (fun b=>b=q\/pb<=b) w w4):=aa (eH.out.trans l (fun _ _ h=>h.elim));clear l;go_upto_region 10 with fail
  refine OP F q pb n p bn bc m bA B w4 _ (by exact aa (fun _ _ _ _ h=>h)) (Rh.blk.cell 0) (Rh.blk.cell 5) (aa Rh.sb) (aa ⟨cur,dR,Kz,by simp [aF]⟩) ja Z T N (by have:=K.out;have:=s.most_le n;omega) (by have:=K.out;omega) ?_;intro v7 bk bm bo bp bx bE bK bL bM bN bO Ps bP Pt bQ Pv bX Yg Yh Yi Yj U M j6;have eG:=aa M;have G:=aa (Rh.chg j6 (fun e=>by have e:q=pb:=e;have:=Z.out;omega) (fun b f e=>by have e:b=pb:=e;have:=ja.out b f;omega));have dF:Hid (ag (fun b=>b=q\/pb<=b) w U):=aa (fV.out.trans (j6.mono (fun b _ e=> .inr (by have e:b=pb:=e;omega))) (fun _ _ h=>h));clear M j6;have y5:U.cell? ⟨q,5,none⟩=some (.int .i64 p):=G.out.blk.cell 5;have al:=G.out.blk.frozen 5;have am:(p:Int)+m<=(bn:Int):=by have:=K.out;omega
  go_upto_region 14 with fail
  obtain⟨g,gL⟩:∃W,W=U.setCell ⟨q,5,none⟩ (.int .i64 ((p:Int)+m)):=⟨_,rfl⟩;rw [<-gL]
  have j:Hid (s.left.drop (s.most n)=B.drop (p+m)/\s.left.take (s.most n)=(B.drop p).take m):=aa (by
   have d:s.left=B.drop p:=u.out.left;have k:(B.drop p).length=bn-p:=by rw [List.length_drop,<-v.out]
   rw [d,K.out,<-List.drop_drop]
   rcases Nat.le_total (s.most n) (bn-p) with h|h
   ·rw [Nat.min_eq_left h];exact⟨rfl,rfl⟩
   ·rw [Nat.min_eq_right h,List.drop_of_length_le (by omega),List.drop_of_length_le (i:=bn-p) (by omega),List.take_of_length_le (by omega),List.take_of_length_le (i:=bn-p) (by omega)];exact⟨rfl,rfl⟩)
  have dV:Hid (ag (fun b=>b=q) U g):=aa (by rw [gL];exact(ag.refl (fun b=>b=q) U).setCell (p:=⟨q,5,none⟩) (fun _=>rfl) _)
  have H:Hid (lz g F q {s.asked with left:=s.left.drop (s.most n)} bA gA bn bc gn gc (p+m) B n7 n8 n9 n10 n11):=aa (by
   have c:=dV.out;rw [gL] at c|-;exact⟨G.blk.set_ 5 _,G.gv.chg c (fun b f e=>Y (e▸f)),G.sb.chg c (fun b f e=>Y (e▸f)),j.1,by have:=v.out;omega,G.bd⟩)
  have fT:Hid (Bf g pb n (s.left.take (s.most n))):=aa (by
   obtain⟨z,d,k,A⟩:=eG.out;rw [j.out.2];exact⟨z,d.chg dV (fun e=>by have e:pb=q:=e;have:=Z.out;omega),k,A⟩)
  have fU:Hid (ag (fun b=>b=q\/pb<=b) w g):=aa (dF.out.trans (dV.mono (fun b _ e=> .inl e)) (fun _ _ h=>h));have Vq:=aa (Src.read_go (n:=n) gK y9);have Px:Hid ((s.left.take (s.most n)).length=m):=aa (by rw [j.out.2,List.length_take,List.length_drop];have:=v.out;omega);obtain⟨eg,MW⟩:∃eg,eg=s.eager:=⟨_,rfl⟩;have IU:=aa MW;clear y5 al gL MW;have x0:g.cell? ⟨q,0,none⟩=some (.slice bA bn bc):=H.out.blk.cell 0;have x5:g.cell? ⟨q,5,none⟩=some (.int .i64 ((p:Int)+m)):=(H.out.blk.cell 5).trans rfl;have x3:g.cell? ⟨q,3,none⟩=some (.bool eg):=(H.out.blk.cell 3).trans (by rw [IU.out];rfl)
  cases eg with
  |true=>
   by_cases hz:p+m=bn
   ·have ae:(p:Int)+m=(bn:Int):=by omega
    have V:Hid (s.eager=true/\s.left.drop (s.most n)= []):=aa ⟨IU.out.symm,by rw [j.out.1];exact List.drop_of_length_le (by have:=v.out;omega)⟩;clear hz;go_wp2;go_quiet (fail);go_wp2;rw [HR.out];unfold iG;rw [Vq.out,if_pos V.out,Px.out]
    exact⟨rfl,⟨bA,gA,bn,bc,gn,gc,_,B,n7,n8,n9,n10,n11,H.chg ((ag.refl Nil g).drewN _) (fun h=>h) (fun _ _ h=>h)⟩,(by obtain⟨z,d,k,A⟩:=fT.out;exact⟨z,d.chg ((ag.refl Nil g).drewN _) (fun h=>h),k,A⟩),fU.drewN _⟩
   ·have ae:¬((p:Int)+m=(bn:Int)):=by omega
    have V:Hid (¬(s.eager=true/\s.left.drop (s.most n)= [])):=aa (fun h=>by have k:=h.2;rw [j.out.1] at k;have:=congrArg List.length k;rw [List.length_drop] at this;simp at this;have:=v.out;omega);clear hz;go_wp2;go_quiet (fail);go_wp2;rw [HR.out];unfold iG;rw [Vq.out,if_neg V.out,Px.out]
    exact⟨rfl,⟨bA,gA,bn,bc,gn,gc,_,B,n7,n8,n9,n10,n11,H.chg ((ag.refl Nil g).drewN _) (fun h=>h) (fun _ _ h=>h)⟩,(by obtain⟨z,d,k,A⟩:=fT.out;exact⟨z,d.chg ((ag.refl Nil g).drewN _) (fun h=>h),k,A⟩),fU.drewN _⟩
  |false=>
   have V:Hid (¬(s.eager=true/\s.left.drop (s.most n)= [])):=aa (fun h=>by have d:=h.1;rw [<-IU.out] at d;cases d);go_wp2;go_quiet (fail);go_wp2;rw [HR.out];unfold iG;rw [Vq.out,if_neg V.out,Px.out];exact⟨rfl,⟨bA,gA,bn,bc,gn,gc,_,B,n7,n8,n9,n10,n11,H.chg ((ag.refl Nil g).drewN _) (fun h=>h) (fun _ _ h=>h)⟩,(by obtain⟨z,d,k,A⟩:=fT.out;exact⟨z,d.chg ((ag.refl Nil g).drewN _) (fun h=>h),k,A⟩),fU.drewN _⟩
theorem D4 (F:Nat->Prop) (q pb n:Nat) (s:Src) (w:World) (h:dO w F q s) (x:¬F q) (t:∀b,F b->b<pb) (hp:Bf w pb n []) (a:q<pb) (hc:s.calls<4611686018427387904) (T:n<=1152921504606) (hg:s.gives.length<=1152921504606) (h0:0<s.fail) (c:¬s.fail<=(s.calls:Int)+1):
  Calls prog 184 #[.pointer (some ⟨q,0,none⟩),.slice (some ⟨pb,0,none⟩) n n] w (iG F q pb n s w):=by
 refine letter fun R Z=> ?_;obtain⟨bA,gA,bn,bc,gn,gc,p,B,n7,n8,n9,n10,n11,D⟩:=h;have M:=D.bd;obtain⟨cur,f,N,_⟩:=hp;have E:=aa D;have X:=aa x;have ja:=aa t;have HB:=aa f;have Kz:=aa N;have Vo:Hid (gn<=1152921504606):=aa (by have:=D.gn_len;omega);have Y:=aa a;obtain⟨fl,C⟩:∃fl,fl=s.fail:=⟨_,rfl⟩;obtain⟨v,l⟩:∃v,v=s.calls:=⟨_,rfl⟩;have iH:=aa C;have fC:=aa l;rw [<-l] at hc;have z4:w.cell? ⟨q,4,none⟩=some (.int .i64 v):=by rw [l];exact D.blk.cell 4
 have z6:w.cell? ⟨q,6,none⟩=some (.bool false):=D.blk.cell 6;have Jm:=D.blk.frozen 4
 (have gK:Hid (¬(0<s.fail/\s.fail<=(s.calls:Int)+1)):=aa (fun h=>c h.2);rw [<-C] at h0 c;rw [<-l] at c;have H0:=aa h0;have H1:=aa c;clear h0 c)
 clear D x t f N C l hg;go_enter func184,ntmps184
 go_upto_region 2 with fail
 obtain⟨w1,r⟩:∃W,W=w.setCell ⟨q,4,none⟩ (.int .i64 ((v:Int)+1)):=⟨_,rfl⟩;rw [<-r];have iZ:Hid (ag (fun b=>b=q) w w1):=aa (by rw [r];exact(ag.refl (fun b=>b=q) w).setCell (p:=⟨q,4,none⟩) (fun _=>rfl) _)
 have l9:Hid (lz w1 F q s.asked bA gA bn bc gn gc p B n7 n8 n9 n10 n11):=aa (by
  have d:=iZ.out;rw [r] at d|-;have f:=E.out.blk.set_ 4 (.int .i64 ((v:Int)+1));rw [fC.out] at f d|-;exact⟨f,E.gv.chg d (fun b f e=>X (e▸f)),E.sb.chg d (fun b f e=>X (e▸f)),E.left,E.le,E.bd⟩)
 have ab:Hid (aj w1 pb 5 cur.toArray):=aa (HB.chg iZ (fun e=>by have:=Y.out;omega));have jL:Hid (ag (fun b=>b=q\/pb<=b) w w1):=aa (iZ.mono (fun b _ e=> .inl e));clear z4 z6 Jm r;have z2:w1.cell? ⟨q,2,none⟩=some (.int .i64 fl):=by rw [iH.out];exact l9.blk.cell 2
 have z4:w1.cell? ⟨q,4,none⟩=some (.int .i64 ((v:Int)+1)):=by rw [fC.out];exact l9.blk.cell 4
 have z6:w1.cell? ⟨q,6,none⟩=some (.bool false):=l9.out.blk.cell 6
 (have h0:1<=fl:=(by have:=H0.out;omega);have c:¬(fl<=(v:Int)+1):=(by have:=H1.out;omega))
 go_wp2;go_quiet (fail)
 go_wp2;generalize P:w1.drewN nq=w2
 have tV:ag Nil w1 w2:=by rw [<-P];exact(ag.refl Nil w1).drewN nq
 have u:Hid (lz w2 F q s.asked bA gA bn bc gn gc p B n7 n8 n9 n10 n11):=aa (l9.chg tV (fun h=>h) (fun _ _ h=>h));have J:Hid (aj w2 pb 5 cur.toArray):=aa (ab.chg tV (fun h=>h));have bB:Hid (ag (fun b=>b=q\/pb<=b) w w2):=aa (jL.out.trans tV (fun _ _ h=>h.elim));have y:Hid (bn=B.length):=aa u.sb.parts.2.2.1;have Ez:=aa u.le;have y0:w2.cell? ⟨q,0,none⟩=some (.slice bA bn bc):=u.out.blk.cell 0;have y5:w2.cell? ⟨q,5,none⟩=some (.int .i64 p):=u.out.blk.cell 5;clear P tV z2 z4 z6
 by_cases O:p=bn
 ·have Vp:(p:Int)=(bn:Int):=by omega
  have y9:Hid (s.left= []):=aa (by have c:s.left=B.drop p:=u.out.left;rw [c];exact List.drop_of_length_le (by have:=y.out;omega));have Z8:=aa (Src.read_end (n:=n) gK y9);clear O;go_quiet (fail);go_wp2;rw [Z.out];unfold iG;rw [Z8.out]
  exact⟨rfl,⟨bA,gA,bn,bc,gn,gc,p,B,n7,n8,n9,n10,n11,u.chg ((ag.refl Nil w2).drewN _) (fun h=>h) (fun _ _ h=>h)⟩,⟨cur,J.chg ((ag.refl Nil w2).drewN _) (fun h=>h),Kz,by simp [aF]⟩,bB.drewN _⟩
 ·have Vp:¬((p:Int)=(bn:Int)):=by omega
  have y9:Hid (s.left≠ []):=aa (fun e=>by have c:s.left=B.drop p:=u.out.left;rw [c] at e;have:=congrArg List.length e;rw [List.length_drop] at this;simp at this;have:=y.out;have:=Ez.out;omega);clear O;go_quiet (fail);go_upto_region 8 with fail
  generalize Q:w2.drewN nq=w3
  have V:ag Nil w2 w3:=by rw [<-Q];exact(ag.refl Nil w2).drewN nq
  have I:=aa (u.chg V (fun h=>h) (fun _ _ h=>h));have ac:=aa (J.chg V (fun h=>h));have eH:Hid (ag (fun b=>b=q\/pb<=b) w w3):=aa (bB.out.trans V (fun _ _ h=>h.elim));obtain⟨m,hm⟩:∃m,m=min (s.most n) (bn-p):=⟨_,rfl⟩;have K:=aa hm;have ad:p<=bn:=by have:=Ez.out;have:=y.out;omega
  clear Q V y0 y5 hm;refine IR F q pb n p bn bc gn gc v m bA gA s w3 _ (by exact aa (fun _ _ _ _ h=>h)) ⟨I.blk.cell 0,I.blk.cell 1,by rw [fC.out];exact I.blk.cell 4,I.blk.cell 5⟩ (aa I.gv) fC hc T Vo M ad K ?_;intro an ao ap aq ar aw ax aA aE a0 a1 a2 a3 a4 a5 a6 a7 a8 a9 ba bb be bh bj w4 o;have Rh:=aa (I.chg o (fun h=>h) (fun _ _ h=>h));have dR:=aa (ac.chg o (fun h=>h));have fV:Hid (ag (fun b=>b=q\/pb<=b) w w4):=aa (eH.out.trans o (fun _ _ h=>h.elim));clear o;go_upto_region 10 with fail
  refine OP F q pb n p bn bc m bA B w4 _ (by exact aa (fun _ _ _ _ h=>h)) (Rh.blk.cell 0) (Rh.blk.cell 5) (aa Rh.sb) (aa ⟨cur,dR,Kz,by simp [aF]⟩) ja Y T M (by have:=K.out;have:=s.most_le n;omega) (by have:=K.out;omega) ?_;intro v7 bk bm bo bp bx bE bK bL bM bN bO Ps bP Pt bQ Pv bX Yg Yh Yi Yj S L j6;have eG:=aa L;have G:=aa (Rh.chg j6 (fun e=>by have e:q=pb:=e;have:=Y.out;omega) (fun b f e=>by have e:b=pb:=e;have:=ja.out b f;omega));have dF:Hid (ag (fun b=>b=q\/pb<=b) w S):=aa (fV.out.trans (j6.mono (fun b _ e=> .inr (by have e:b=pb:=e;omega))) (fun _ _ h=>h));clear L j6;have y5:S.cell? ⟨q,5,none⟩=some (.int .i64 p):=G.out.blk.cell 5;have al:=G.out.blk.frozen 5;have am:(p:Int)+m<=(bn:Int):=by have:=K.out;omega
  go_upto_region 14 with fail
  obtain⟨g,gL⟩:∃W,W=S.setCell ⟨q,5,none⟩ (.int .i64 ((p:Int)+m)):=⟨_,rfl⟩;rw [<-gL]
  have j:Hid (s.left.drop (s.most n)=B.drop (p+m)/\s.left.take (s.most n)=(B.drop p).take m):=aa (by
   have c:s.left=B.drop p:=u.out.left;have k:(B.drop p).length=bn-p:=by rw [List.length_drop,<-y.out]
   rw [c,K.out,<-List.drop_drop]
   rcases Nat.le_total (s.most n) (bn-p) with h|h
   ·rw [Nat.min_eq_left h];exact⟨rfl,rfl⟩
   ·rw [Nat.min_eq_right h,List.drop_of_length_le (by omega),List.drop_of_length_le (i:=bn-p) (by omega),List.take_of_length_le (by omega),List.take_of_length_le (i:=bn-p) (by omega)];exact⟨rfl,rfl⟩)
  have dV:Hid (ag (fun b=>b=q) S g):=aa (by rw [gL];exact(ag.refl (fun b=>b=q) S).setCell (p:=⟨q,5,none⟩) (fun _=>rfl) _)
  have H:Hid (lz g F q {s.asked with left:=s.left.drop (s.most n)} bA gA bn bc gn gc (p+m) B n7 n8 n9 n10 n11):=aa (by
   have d:=dV.out;rw [gL] at d|-;exact⟨G.blk.set_ 5 _,G.gv.chg d (fun b f e=>X (e▸f)),G.sb.chg d (fun b f e=>X (e▸f)),j.1,by have:=y.out;omega,G.bd⟩)
  have fT:Hid (Bf g pb n (s.left.take (s.most n))):=aa (by
   obtain⟨z,c,k,A⟩:=eG.out;rw [j.out.2];exact⟨z,c.chg dV (fun e=>by have e:pb=q:=e;have:=Y.out;omega),k,A⟩)
  have fU:Hid (ag (fun b=>b=q\/pb<=b) w g):=aa (dF.out.trans (dV.mono (fun b _ e=> .inl e)) (fun _ _ h=>h));have Vq:=aa (Src.read_go (n:=n) gK y9);have Px:Hid ((s.left.take (s.most n)).length=m):=aa (by rw [j.out.2,List.length_take,List.length_drop];have:=y.out;omega);obtain⟨eg,MW⟩:∃eg,eg=s.eager:=⟨_,rfl⟩;have IU:=aa MW;clear y5 al gL MW;have x0:g.cell? ⟨q,0,none⟩=some (.slice bA bn bc):=H.out.blk.cell 0;have x5:g.cell? ⟨q,5,none⟩=some (.int .i64 ((p:Int)+m)):=(H.out.blk.cell 5).trans rfl;have x3:g.cell? ⟨q,3,none⟩=some (.bool eg):=(H.out.blk.cell 3).trans (by rw [IU.out];rfl)
  cases eg with
  |true=>
   by_cases hz:p+m=bn
   ·have ae:(p:Int)+m=(bn:Int):=by omega
    have U:Hid (s.eager=true/\s.left.drop (s.most n)= []):=aa ⟨IU.out.symm,by rw [j.out.1];exact List.drop_of_length_le (by have:=y.out;omega)⟩;clear hz;go_wp2;go_quiet (fail);go_wp2;rw [Z.out];unfold iG;rw [Vq.out,if_pos U.out,Px.out]
    exact⟨rfl,⟨bA,gA,bn,bc,gn,gc,_,B,n7,n8,n9,n10,n11,H.chg ((ag.refl Nil g).drewN _) (fun h=>h) (fun _ _ h=>h)⟩,(by obtain⟨z,c,k,A⟩:=fT.out;exact⟨z,c.chg ((ag.refl Nil g).drewN _) (fun h=>h),k,A⟩),fU.drewN _⟩
   ·have ae:¬((p:Int)+m=(bn:Int)):=by omega
    have U:Hid (¬(s.eager=true/\s.left.drop (s.most n)= [])):=aa (fun h=>by have k:=h.2;rw [j.out.1] at k;have:=congrArg List.length k;rw [List.length_drop] at this;simp at this;have:=y.out;omega);clear hz;go_wp2;go_quiet (fail);go_wp2;rw [Z.out];unfold iG;rw [Vq.out,if_neg U.out,Px.out]
    exact⟨rfl,⟨bA,gA,bn,bc,gn,gc,_,B,n7,n8,n9,n10,n11,H.chg ((ag.refl Nil g).drewN _) (fun h=>h) (fun _ _ h=>h)⟩,(by obtain⟨z,c,k,A⟩:=fT.out;exact⟨z,c.chg ((ag.refl Nil g).drewN _) (fun h=>h),k,A⟩),fU.drewN _⟩
  |false=>
   have U:Hid (¬(s.eager=true/\s.left.drop (s.most n)= [])):=aa (fun h=>by have c:=h.1;rw [<-IU.out] at c;cases c);go_wp2;go_quiet (fail);go_wp2;rw [Z.out];unfold iG;rw [Vq.out,if_neg U.out,Px.out];exact⟨rfl,⟨bA,gA,bn,bc,gn,gc,_,B,n7,n8,n9,n10,n11,H.chg ((ag.refl Nil g).drewN _) (fun h=>h) (fun _ _ h=>h)⟩,(by obtain⟨z,c,k,A⟩:=fT.out;exact⟨z,c.chg ((ag.refl Nil g).drewN _) (fun h=>h),k,A⟩),fU.drewN _⟩
theorem Gl (F:Nat->Prop) (q pb n:Nat) (s:Src) (w:World) (h:dO w F q s) (x:¬F q) (t:∀b,F b->b<pb) (hp:Bf w pb n []) (a:q<pb) (d:s.calls<4611686018427387904) (T:n<=1152921504606) (e:s.gives.length<=1152921504606):
  Calls prog 184 #[.pointer (some ⟨q,0,none⟩),.slice (some ⟨pb,0,none⟩) n n] w (iG F q pb n s w):=by
 by_cases c:0<s.fail
 ·by_cases f:s.fail<=(s.calls:Int)+1
  ·exact xR F q pb n s w h x t hp a d T e c f
  ·exact D4 F q pb n s w h x t hp a d T e c f
 ·exact D3 F q pb n s w h x t hp a d T e c
section
theorem wQ:∀(k:Nat) (l:List Nat) (j:Nat),l.length<=k->(eighth l)[j]? =l[8*j]? :=by
 intro k
 induction k with
 |zero=>intro l j h;have:l= []:=List.eq_nil_of_length_eq_zero (by omega);subst this;simp [eighth]
 |succ k a=>
  intro l j h
  cases l with
  |nil=>simp [eighth]
  |cons x r=>
   unfold eighth
   cases j with
   |zero=>simp
   |succ j=>
    rw [List.length_cons] at h;rw [List.getElem?_cons_succ,a _ _ (by rw [List.length_drop];omega),List.getElem?_drop,show 8*(j+1)=7+8*j+1 by omega,List.getElem?_cons_succ]
structure Gb (w:World) (base:Nat) (Z:Nat->Prop) (out:Value) (us:List Value) (l:List aK):Prop where
 own:w.ownsRow base 69 2 out l.length us
 ne:∀g,out.ownBlock=some g->¬Z g
 at_:∀(i:Nat) (e:aK),l[i]? =some e->∃u v,us[2*i]? =some u/\us[2*i+1]? =some v/\SB w (fun g=>base<=g/\¬Z g/\out.ownBlock≠some g) u e.1/\SB w (fun g=>base<=g/\¬Z g/\out.ownBlock≠some g) v e.2
section
variable {S Z Z':Nat->Prop} {w w':World} {base:Nat} {out:Value} {us:List Value} {l:List aK}
theorem Gb.nil (w:World) (base:Nat) (Z:Nat->Prop):Gb w base Z (.slice none 0 0) [] []:=⟨World.ownsRow_nil _ _ _ _,fun g a=>by simp [Value.ownBlock] at a,fun i e h=>by simp at h⟩
theorem Gb.step (h:Gb w base Z out us l) (y:ag S w w') (d:∀g,g<w.heap.size->base<=g->S g->Z g) (f:∀g,g<w.heap.size->Z' g->Z g):Gb w' base Z' out us l:=by
 refine⟨aD h.own y (fun g c e=>h.ne g c (d g (ah h.own g c).2 (ah h.own g c).1 e)),fun g c e=>h.ne g c (f g (ah h.own g c).2 e),fun i e j=> ?_⟩;obtain⟨u,v,a,b,k,m⟩:=h.at_ i e j;exact⟨u,v,a,b,k.next3 y (fun g hl c e=>c.2.1 (d g hl c.1 e)) (fun g hl c=>⟨c.1,fun e=>c.2.1 (f g hl e),c.2.2⟩),m.next3 y (fun g hl c e=>c.2.1 (d g hl c.1 e)) (fun g hl c=>⟨c.1,fun e=>c.2.1 (f g hl e),c.2.2⟩)⟩
theorem Gb.below (h:Gb w base Z out us l) (a:Below w.heap.size w w'):Gb w' base Z out us l:=h.step (ag.of_below (S:=Nil) a) (fun _ _ _ h=>h.elim) (fun _ _ h=>h)
theorem Gb.push {v2 u v:Value} {e:aK} (h:Gb w base Z out us l) (q:∀g,Z g->g<w.heap.size) (s:w'.ownsRow base 69 2 v2 (l.length+1) (us++ [u,v])) (r:w.grownBy w' out.ownBlock) (d:v2.ownBlock=out.ownBlock\/v2.ownBlock=some w.heap.size)
  (t:SB w (fun g=>base<=g/\¬Z g/\out.ownBlock≠some g) u e.1) (hv:SB w (fun g=>base<=g/\¬Z g/\out.ownBlock≠some g) v e.2):Gb w' base Z v2 (us++ [u,v]) (l++ [e]):=by
 have hl:us.length=l.length*2:=h.own.1
 have key:∀g,g<w.heap.size->(base<=g/\¬Z g/\out.ownBlock≠some g)->(base<=g/\¬Z g/\v2.ownBlock≠some g):=fun g o f=>⟨f.1,f.2.1,fun e=>by
  rcases d with h|h
  ·exact f.2.2 (h▸e)
  ·rw [h] at e;injection e with e;omega⟩
 have j:∀{x:Value} {bs:List UInt8},SB w (fun g=>base<=g/\¬Z g/\out.ownBlock≠some g) x bs->SB w' (fun g=>base<=g/\¬Z g/\v2.ownBlock≠some g) x bs:=fun f=>f.next3 (ag.of_grown r) (fun b _ o e=>o.2.2 e) key
 refine⟨by rw [List.length_append];exact s,fun g c p=> ?_,fun i c hi=> ?_⟩
 ·rcases d with k|k
  ·exact h.ne g (k▸c) p
  ·rw [k] at c;injection c with c;have:=q g p;omega
 ·rcases Nat.lt_or_ge i l.length with m|m
  ·rw [List.getElem?_append_left m] at hi;obtain⟨x,y,a,b,z,A⟩:=h.at_ i c hi
   exact⟨x,y,by rw [List.getElem?_append_left (by omega)];exact a,by rw [List.getElem?_append_left (by omega)];exact b,j z,j A⟩
  ·rw [List.getElem?_append_right m] at hi;have n:i=l.length:=by have:=(List.getElem?_eq_some_iff.1 hi).1;simp at this;omega
   subst n;simp at hi;subst hi
   refine⟨u,v,?_,?_,j t,j hv⟩
   ·rw [List.getElem?_append_right (by omega),show 2*l.length-us.length=0 by omega];rfl
   ·rw [List.getElem?_append_right (by omega),show 2*l.length+1-us.length=1 by omega];rfl
theorem Gb.ents {A:Option Addr} {n c:Nat} (h:Gb w base Z (.slice A n c) us l) (j:n=l.length):bz w (From base) A n l:=by
 subst j;exact⟨aa rfl,us,Rd.of_own h.own,fun i e f=>let⟨u,v,a,b,g,k⟩:=h.at_ i e f;⟨u,v,a,b,g.weak (fun _ d=>d.1),k.weak (fun _ d=>d.1)⟩⟩
end
theorem Ot (A:Option Addr) (n c i:Nat) (w:World) (hi:i%8=0) (b:i<=1000):Calls prog 152 #[.slice A n c,.int .i64 i] w fun e w'=>e= .returned (.slice none 0 0)/\w=w':=by
 have a:((i:Int)%8==0)=true:=by rw [beq_iff_eq];omega
 have d:(i:Int)%8=0:=by omega
 go_enter func152,ntmps152
 go_wp2;go_ret
 exact⟨rfl,rfl⟩
theorem Ou (A:Option Addr) (n c i:Nat) (F:Nat->Prop) (l:List aK) (w:World) (h:bz w F A n l) (g:i=n) (hi:¬i%8=0) (H:i<=1000):Calls prog 152 #[.slice A n c,.int .i64 i] w fun e w'=>∃K a d,e= .returned (.slice K a d)/\a<=d/\d<=maxLen/\Hid (a=(az l).length)/\Rd w F 1 K a (aF (az l))/\w=w':=by
 have q:((i:Int)%8==0)=false:=by rw [beq_eq_false_iff_ne];omega
 have C:¬(i:Int)%8=0:=by omega
 have v:=h.len;have u:i-1<n:=by omega
 obtain⟨b,o,K,a,d,V,P,O,key,val,rfl,_,hl,c1,E,k1,k2,x,y,L,v2,M,N⟩:=h.at_ u;have f:az l=key:=by rw [gH (l:=l) (e:=(key,val)) (by rw [<-v,<-g];exact hl)]
 have m:Hid (a<=d/\d<=maxLen/\Hid (a=(az l).length)/\Rd w F 1 K a (aF (az l))):=aa ⟨k1,k2,by rw [f];exact x,by rw [f];exact y⟩;obtain⟨j,t⟩:∃j,j=i-1:=⟨_,rfl⟩;have k:i=j+1:=by omega
 have J:j<n:=by omega
 have D:(j:Int)<(n:Int):=by omega
 have G:((i:Int)-1)=(j:Int):=by omega
 rw [<-t] at c1;obtain⟨R,p⟩:∃R:Ending->World->Prop,R=fun e w'=>∃K a d,e= .returned (.slice K a d)/\a<=d/\d<=maxLen/\Hid (a=(az l).length)/\Rd w F 1 K a (aF (az l))/\w=w':=⟨_,rfl⟩;have B:=aa p;rw [<-p];have z:=aa k;clear p h v u hl E k1 k2 x y L v2 M N f g hi q t;subst k;have s:((j+1:Nat):Int)%8=((j:Int)+1)%8:=by omega
 have r:¬((j:Int)+1)%8=0:=by omega
 have I:(((j:Int)+1)%8==0)=false:=by rw [beq_eq_false_iff_ne];exact r
 clear C s G z;go_enter func152,ntmps152
 go_wp2;rw [B.out]
 exact⟨K,a,d,rfl,m.1,m.2.1,m.2.2.1,m.2.2.2,rfl⟩
theorem Kr (A:Option Addr) (n c i:Nat) (F:Nat->Prop) (l:List aK) (w:World) (h:bz w F A n l) (a:i=n) (d:i<=1000):Calls prog 152 #[.slice A n c,.int .i64 i] w fun e w'=>∃K b f,e= .returned (.slice K b f)/\b<=f/\f<=maxLen/\Hid (b=(aP l).length)/\Rd w F 1 K b (aF (aP l))/\w=w':=by
 have g:=h.len
 by_cases hi:i%8=0
 ·refine(Ot A n c i w hi d).mono ?_;rintro e w' ⟨rfl,rfl⟩;rw [yN (by rw [<-g,<-a];exact hi)]
  exact⟨none,0,0,rfl,Nat.le_refl _,by simp [maxLen],rfl,Rd.none_ _ _ _ _,rfl⟩
 ·refine(Ou A n c i F l w h a hi d).mono ?_;rintro e w' ⟨K,b,f,rfl,j,k,m,o,rfl⟩;rw [yO (by rw [<-g,<-a];exact hi)];exact⟨K,b,f,rfl,j,k,m,o,rfl⟩
end
end Go.Proofs.YtepgcjbhabnciaaGreat
