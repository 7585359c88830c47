/- Part 20. -/
import Derived.Test.YtepgcjbhabnciaaGreatLp19
namespace Go.Proofs.YtepgcjbhabnciaaGreat
set_option maxRecDepth 100000
set_option maxHeartbeats 8000000
open Go.Proofs.Tryz Go.RowKit
variable {u2 u5 u8 u9 L E O W Z U f C I u20 u24 u26 u27 u29 u31 u32 u33 u34 u35 u36 u37 u38 N u40 R u42 X u44 u45 u46 v u48 u49 H u51 A u53 u55 S dZ u58 u59 u60 fw fJ u63 u64 gm u66 l u68 u69 u70 T u72 u73 iN u75 iV jY jZ j6 kg kG kP kQ kR ko kU ng mI mJ pF pu rX u93 vw vz vC vE sS jh k jU kD u105 M lH lJ lK lL lM lN lQ lS D nG nH u119 nI y nK g u124 nO v0 B J u6 G P V d z r j u e m u3 u4 u16 u21 u22 u23 u25 u28 u30 dR sQ jg nN:Value} {q pb p bn bc n i b o x K:Nat} {w:World} {F:Nat->Prop} {s:Src} {Q:Exit->Act->World->Prop}
noncomputable def Q3:Code:=aQ (f184.body.bind (aF 12))
theorem Tv (n:Nat) {F s:Value} (kF:Hid (∀c t (a:Act) w,Q (.panic c) ⟨t,a.defers⟩ w->Q (.panic c) a w))
  (Y:w.drew.cell? q=some (.slice (some ⟨b,o,none⟩) bn bc)/\w.drew.cell? ⟨q,5,none⟩=some (.int .i64 p)/\w.drew.cell? ⟨b,o+(p+i),none⟩=some (.int .u8 x)) (d0:w.drew.cell? ⟨pb,i,none⟩=some v0) (df:w.drew.frozen? ⟨pb,i,none⟩=false)
  (hi:i<n) (hn:n<=1152921504606) (aq:bn<=1152921504606) (ar:p+i<bn)
  (au:∀(ab ac ad ae al am sU an sV ao xF ap Mg Mh Mi Mj:Value),Q .normal ⟨(.pointer (some ⟨q,0,none⟩):: .slice (some ⟨pb,0,none⟩) n n::u2::B::J::u5::u6:: .int .i64 i::u8::u9::L::E::O::W::Z::U::G::f::C::I::u20::P::V::d::u24::z::u26::u27::r::u29::j::u31::u32::u33::u34::u35::u36::u37::u38::N::u40::R::u42::X::u44::u45::u46::v::u48::u49::H::u51::A::u53::F::u55::S::dZ::u58::u59::u60::fw::fJ::u63::u64::gm::u66::l::u68::u69::u70::T::u72::u73::iN::u75::iV::jY::jZ::j6::kg::kG::ab::ac::ad::ae::al::am::sU::an::sV::ao::xF::ap::Mg::Mh::Mi::Mj::u::sS::e::jh::k::jU::kD::u105::M::lH::s::lJ::lK::lL::lM::lN::lQ::lS::D::nG::nH::u119::nI::y::nK::g::u124::m::nO:: []).toArray,[]⟩ (w.drew.setCell ⟨pb,i,none⟩ (.int .u8 x))):
  Code.wp prog Q3 Q ⟨(.pointer (some ⟨q,0,none⟩):: .slice (some ⟨pb,0,none⟩) n n::u2::B::J::u5::u6:: .int .i64 i::u8::u9::L::E::O::W::Z::U::G::f::C::I::u20::P::V::d::u24::z::u26::u27::r::u29::j::u31::u32::u33::u34::u35::u36::u37::u38::N::u40::R::u42::X::u44::u45::u46::v::u48::u49::H::u51::A::u53::F::u55::S::dZ::u58::u59::u60::fw::fJ::u63::u64::gm::u66::l::u68::u69::u70::T::u72::u73::iN::u75::iV::jY::jZ::j6::kg::kG::kP::kQ::kR::ko::kU::ng::mI::mJ::pF::pu::rX::u93::vw::vz::vC::vE::u::sS::e::jh::k::jU::kD::u105::M::lH::s::lJ::lK::lL::lM::lN::lQ::lS::D::nG::nH::u119::nI::y::nK::g::u124::m::nO:: []).toArray,[]⟩ w:=by
 have dz:=aa au;have a0:IntKind.i64.wrap ((p:Int)+i)=(p:Int)+i:=IntWalk.i64_in _ (by omega);have aw:(0:Int)<=(p:Int)+i:=by omega
 have aA:(p:Int)+i<(bn:Int):=by omega
 have aE:((p:Int)+(i:Int)).toNat=p+i:=by omega
 clear au;conv=>arg 2;whnf
 refine aM (fun w'=>w'.cell? q=some (.slice (some ⟨b,o,none⟩) bn bc)/\w'.cell? ⟨q,5,none⟩=some (.int .i64 p)/\w'.cell? ⟨b,o+(p+i),none⟩=some (.int .u8 x)) 16 (by kernel_rfl) ?_;refine uF 0 (fun _=>Y) ?_;refine uF 1 (fun _=>Y) ?_;refine uF 2 (fun _=>Y) ?_;refine uF 3 (fun _=>Y) ?_;refine uF 4 (fun _=>Y) ?_;refine uF 5 (fun _=>Y) ?_;refine uF 7 (fun _=>Y) ?_;refine uF 8 (fun _=>Y) ?_;refine uF 9 (fun _=>Y) ?_;refine uF 11 (fun _=>Y) ?_;refine uT 6 Y ?_;refine uT 10 Y ?_;refine uF 12 (fun _=>Y) ?_;refine uF 13 (fun _=>Y) ?_;refine uT 14 Y ?_;refine uF 15 (fun _=>Y) ?_;refine az (i:=16) (by kernel_rfl) rfl (fun K hK=> ?_);go_simp;refine hK.out _ _ (fun h=>absurd h (by decide)) ?_;clear hK K;try simp only [aL,aN,aZ,aC]
 refine bH (by kernel_rfl) ?_ _;exact dz _ _ _ _ _ _ _ _ _ _ _ _ _ _ _ _
theorem Tw (m:Nat) {bA:Option Addr} {B:List UInt8} {s:Value} (kF:Hid (∀c t (a:Act) w,Q (.panic c) ⟨t,a.defers⟩ w->Q (.panic c) a w))
  (c0:w.cell? ⟨q,0,none⟩=some (.slice bA bn bc)) (c5:w.cell? ⟨q,5,none⟩=some (.int .i64 p)) (HR:Hid (SB w F (.slice bA bn bc) B)) (HP:Hid (Bf w pb n [])) (mG:Hid (∀b,F b->b<pb)) (hq:q<pb) (hn:n<=1152921504606) (aw:bn<=1152921504606) (a6:m<=n) (a7:p+m<=bn)
  (au:∀(v7 aA aE a0 a1 a2 ab ac ad ae al am sU an sV ao xF ap Mg Mh Mi Mj:Value) (w':World),Bf w' pb n ((B.drop p).take m)->ag (fun b=>b=pb) w w'->Q (.exit 0) ⟨(.pointer (some ⟨q,0,none⟩):: .slice (some ⟨pb,0,none⟩) n n::u2::u3::u4::u5:: .int .i64 m::v7::u8::u9::L::E::O::W::Z::U::u16::f::C::I::u20::u21::u22::u23::u24::u25::u26::u27::u28::u29::u30::u31::u32::u33::u34::u35::u36::u37::u38::N::u40::R::u42::X::u44::u45::u46::v::u48::u49::H::u51::A::u53::dR::u55::S::dZ::u58::u59::u60::fw::fJ::u63::u64::gm::u66::l::u68::u69::u70::T::u72::u73::iN::u75::iV::aA::aE::a0::a1::a2::ab::ac::ad::ae::al::am::sU::an::sV::ao::xF::ap::Mg::Mh::Mi::Mj::sQ::sS::jg::jh::k::jU::kD::u105::M::lH::s::lJ::lK::lL::lM::lN::lQ::lS::D::nG::nH::u119::nI::y::nK::g::u124::nN::nO:: []).toArray,[]⟩ w'):
  Code.wp prog QX Q ⟨(.pointer (some ⟨q,0,none⟩):: .slice (some ⟨pb,0,none⟩) n n::u2::u3::u4::u5:: .int .i64 m:: .int .i64 0::u8::u9::L::E::O::W::Z::U::u16::f::C::I::u20::u21::u22::u23::u24::u25::u26::u27::u28::u29::u30::u31::u32::u33::u34::u35::u36::u37::u38::N::u40::R::u42::X::u44::u45::u46::v::u48::u49::H::u51::A::u53::dR::u55::S::dZ::u58::u59::u60::fw::fJ::u63::u64::gm::u66::l::u68::u69::u70::T::u72::u73::iN::u75::iV::jY::jZ::j6::kg::kG::kP::kQ::kR::ko::kU::ng::mI::mJ::pF::pu::rX::u93::vw::vz::vC::vE::sQ::sS::jg::jh::k::jU::kD::u105::M::lH::s::lJ::lK::lL::lM::lN::lQ::lS::D::nG::nH::u119::nI::y::nK::g::u124::nN::nO:: []).toArray,[]⟩ w:=by
 have dz:=aa au;have C0:=aa c0;have C5:=aa c5;have HQ:=aa hq;clear au c0 c5 hq;conv=>arg 2;whnf
 go_loopg [7] m (fun g' iv wz=>∃i:Nat,g'=m-i/\i<=m/\iv= (i:Int)/\Bf wz pb n ((B.drop p).take i)/\ag (fun b=>b=pb) w wz)
 case atStart=>exact⟨0,by omega,by omega,rfl,by simpa using HP.out,ag.refl _ _⟩
 case round=>
  obtain⟨i,hg,hi,rfl,hb,hc⟩:=hrel;have HG:=aa hg;have Ay:=aa hb;have G:=aa hc;clear hg hb hc
  by_cases a5:i<m
  ·have a3:(i:Int)<(m:Int):=by omega
   have hj:p+i<bn:=by omega
   have ar:=aa (HR.chg G (fun b hb e=>by have:=mG.out b hb;have e:b=pb:=e;omega));obtain⟨b,o,u,rfl,_,hx,d⟩:=ar.out.parts.2.2.2.at_ hj;obtain⟨x,V,rfl⟩:=eO hx;have HX:=aa V;simp only [bv] at d;have c0:=G.out.cell (show¬(q=pb) from fun e=>by have:=HQ.out;omega) C0.out;have c5:=G.out.cell (show¬(q=pb) from fun e=>by have:=HQ.out;omega) C5.out;obtain⟨cur,r,J,j⟩:=Ay.out;have z:i<n:=by omega
   obtain⟨v0,P⟩:∃v0,cur[i]? =some v0:=⟨_,mP (by omega)⟩;have d0:wr.cell? ⟨pb,i,none⟩=some v0:=by rw [r.cell];simpa using P
   have df:=r.frozen i;have Zw:=aa r;have OH:=aa J;have aq:=aa j;clear hx V r J j P;go_upto_region 12 with fail
   refine Tv n (by exact aa (fun c t a w h=>kF c t a w h)) ⟨c0,c5,d⟩ d0 df z hn aw hj ?_;intro ab ac ad ae al am sU an sV ao xF ap Mg Mh Mi Mj;go_wp2
   go_roundg (m-(i+1))
   case measure=>have:=HG.out;omega
   case rel=>
    have zJ:((B.drop p).take m)[i]? =some x\/(B.drop p)[i]? =some x:= .inr (by rw [List.getElem?_drop];exact HX);have Y:(B.drop p)[i]? =some x:=by rw [List.getElem?_drop];exact HX
    have a4:i<(B.drop p).length:=(nE.1 Y).1;have K:((B.drop p).take i).length=i:=by rw [List.length_take];omega
    have j:=aq.out;rw [K] at j
    refine⟨i+1,rfl,by omega,by go_num,⟨cur.set i (.int .u8 x.toNat),?_,by rw [List.length_set];exact OH,?_⟩,?_⟩
    ·have h1:=(Zw.out.drew).set_ i (.int .u8 x.toNat);rw [List.setIfInBounds_toArray] at h1
     exact h1
    ·rw [List.take_add_one,Y];show(cur.set i _).take (((B.drop p).take i)++ [x]).length=_;rw [mq,K,List.length_singleton,List.take_add_one,List.take_set_of_le jO,j,List.getElem?_set_self (by have:=OH.out;omega)]
     simp [aI,bv]
    ·exact(G.drew).setCell (p:=⟨pb,i,none⟩) (fun _=>rfl) _
  ·have z:i=m:=by omega
   subst z;go_wp2;exact dz _ _ _ _ _ _ _ _ _ _ _ _ _ _ _ _ _ _ _ _ _ _ _ Ay G
def jC (F:Nat->Prop) (q pb n:Nat) (s:Src) (w:World) (e:Ending) (w':World):Prop:=
 e= .returned (.tuple #[.int .i64 ((s.read n).1.length:Nat),.int .i64 (s.read n).2.1])/\eP w' F q (s.read n).2.2/\Bf w' pb n (s.read n).1/\ag (fun b=>b=q\/pb<=b) w w'
theorem AO (h:eP w F q s) (hF:¬F q) (c:∀b,F b->b<pb) (T:Bf w pb n []) (hq:q<pb) (hc:s.calls<4611686018427387904) (_hn:n<=1152921504606) (M:s.gives.length<=1152921504606) (j:0<s.fail) (d:s.fail<=(s.calls:Int)+1):
  Calls prog 184 #[q,.slice (some ⟨pb,0,none⟩) n n] w (jC F q pb n s w):=by
 refine letter fun R I=> ?_;obtain⟨bA,gA,bn,bc,gn,gc,p,B,n7,n8,n9,n10,n11,l⟩:=h;have L:=l.bd;obtain⟨cur,f,o,_⟩:=T;have m:=aa l;have z:=aa hF;have O:=aa c;have E:=aa f;have K:=aa o;have G:Hid (gn<=1152921504606):=aa (by have:=l.gn_len;omega);have H:=aa hq;obtain⟨fl,k⟩:=gF s.fail;obtain⟨cl,a⟩:=gF s.calls;have A:=aa k;have u:=aa a;rw [<-a] at hc;have C:w.cell? ⟨q,4,none⟩=some (.int .i64 cl):=by rw [a];exact l.blk.cell 4
 have D:w.cell? ⟨q,6,none⟩=some (.bool false):=l.blk.cell 6;have J:=l.blk.frozen 4
 (rw [<-k] at j d;rw [<-a] at d;have x:=aa j;have y:=aa d;clear j d)
 clear l hF c f o k a M;go_enter func184,ntmps184;go_upto_region 2 with fail
 obtain⟨w1,i⟩:=gF (w.setCell ⟨q,4,none⟩ (.int .i64 ((cl:Int)+1)));rw [<-i];have v:Hid (ag (fun b=>b=q) w w1):=aa (by rw [i];exact(ag.refl (fun b=>b=q) w).setCell (p:=⟨q,4,none⟩) (fun _=>rfl) _)
 have r:Hid (nR w1 F q s.asked bA gA bn bc gn gc p B n7 n8 n9 n10 n11):=aa (by
  have g:=v.out;rw [i] at g|-;have f:=m.out.blk.set_ 4 (.int .i64 ((cl:Int)+1));rw [u.out] at f g|-;exact⟨f,m.gv.chg g (fun b f e=>z (e▸f)),m.sb.chg g (fun b f e=>z (e▸f)),m.left,m.le,m.bd⟩)
 have t:Hid (ak w1 pb 5 cur.toArray):=aa (E.chg v (fun e=>by have:=H.out;omega));have N:Hid (ag (fun b=>b=q\/pb<=b) w w1):=aa (v.mono (fun b _ e=> .inl e));clear C D J i;have P:w1.cell? ⟨q,2,none⟩=some (.int .i64 fl):=by rw [A.out];exact r.blk.cell 2
 have C:w1.cell? ⟨q,4,none⟩=some (.int .i64 ((cl:Int)+1)):=by rw [u.out];exact r.blk.cell 4
 have D:w1.cell? ⟨q,6,none⟩=some (.bool false):=r.out.blk.cell 6
 (have j:1<=fl:=(by have:=x.out;omega);have d:=y.out)
 go_wp2;go_quiet (fail)
 go_wp2
 (rw [I.out];unfold jC;have j:=x.out;have d:=y.out;rw [A.out] at j d;rw [u.out] at d;rw [Src.read_broken ⟨j,d⟩];exact⟨rfl,⟨bA,gA,bn,bc,gn,gc,p,B,n7,n8,n9,n10,n11,r.chg ((ag.refl Nil w1).drewN _) (fun h=>h) (fun _ _ h=>h)⟩,⟨cur,t.chg ((ag.refl Nil w1).drewN _) (fun h=>h),K,by simp [aI]⟩,N.drewN _⟩)
theorem Hz (h:eP w F q s) (hF:¬F q) (c:∀b,F b->b<pb) (T:Bf w pb n []) (hq:q<pb) (hc:s.calls<4611686018427387904) (hn:n<=1152921504606) (hg:s.gives.length<=1152921504606) (J:¬0<s.fail):
  Calls prog 184 #[q,.slice (some ⟨pb,0,none⟩) n n] w (jC F q pb n s w):=by
 refine letter fun R W=> ?_;obtain⟨bA,gA,bn,bc,gn,gc,p,B,n7,n8,n9,n10,n11,z⟩:=h;have L:=z.bd;obtain⟨cur,f,M,_⟩:=T;have A:=aa z;have U:=aa hF;have mG:=aa c;have HB:=aa f;have OH:=aa M;have ae:Hid (gn<=1152921504606):=aa (by have:=z.gn_len;omega);have V:=aa hq;obtain⟨fl,y⟩:=gF s.fail;obtain⟨cl,o⟩:=gF s.calls;have jE:=aa y;have Y:=aa o;rw [<-o] at hc;have z4:w.cell? ⟨q,4,none⟩=some (.int .i64 cl):=by rw [o];exact z.blk.cell 4
 have z6:w.cell? ⟨q,6,none⟩=some (.bool false):=z.blk.cell 6;have Ni:=z.blk.frozen 4
 (have iW:Hid (¬(0<s.fail/\s.fail<=(s.calls:Int)+1)):=aa (fun h=>J h.1);rw [<-y] at J;have H0:=aa J;clear J)
 clear z hF c f M y o hg;go_enter func184,ntmps184;go_upto_region 2 with fail
 obtain⟨w1,r⟩:=gF (w.setCell ⟨q,4,none⟩ (.int .i64 ((cl:Int)+1)));rw [<-r];have jo:Hid (ag (fun b=>b=q) w w1):=aa (by rw [r];exact(ag.refl (fun b=>b=q) w).setCell (p:=⟨q,4,none⟩) (fun _=>rfl) _)
 have oO:Hid (nR w1 F q s.asked bA gA bn bc gn gc p B n7 n8 n9 n10 n11):=aa (by
  have a:=jo.out;rw [r] at a|-;have f:=A.out.blk.set_ 4 (.int .i64 ((cl:Int)+1));rw [Y.out] at f a|-;exact⟨f,A.gv.chg a (fun b f e=>U (e▸f)),A.sb.chg a (fun b f e=>U (e▸f)),A.left,A.le,A.bd⟩)
 have ac:Hid (ak w1 pb 5 cur.toArray):=aa (HB.chg jo (fun e=>by have:=V.out;omega));have kV:Hid (ag (fun b=>b=q\/pb<=b) w w1):=aa (jo.mono (fun b _ e=> .inl e));clear z4 z6 Ni r;have z2:w1.cell? ⟨q,2,none⟩=some (.int .i64 fl):=by rw [jE.out];exact oO.blk.cell 2
 have z4:w1.cell? ⟨q,4,none⟩=some (.int .i64 ((cl:Int)+1)):=by rw [Y.out];exact oO.blk.cell 4
 have z6:w1.cell? ⟨q,6,none⟩=some (.bool false):=oO.out.blk.cell 6
 (have J:decide (1<=fl)=false:=decide_eq_false (by have:=H0.out;omega))
 go_wp2;go_quiet (fail)
 go_wp2;generalize O:w1.drewN nq=w2
 have o6:ag Nil w1 w2:=by rw [<-O];exact(ag.refl Nil w1).drewN nq
 have t:Hid (nR w2 F q s.asked bA gA bn bc gn gc p B n7 n8 n9 n10 n11):=aa (oO.chg o6 (fun h=>h) (fun _ _ h=>h));have H:Hid (ak w2 pb 5 cur.toArray):=aa (ac.chg o6 (fun h=>h));have bz:Hid (ag (fun b=>b=q\/pb<=b) w w2):=aa (kV.out.trans o6 (fun _ _ h=>h.elim));have u:Hid (bn=B.length):=aa t.sb.parts.2.2.1;have EU:=aa t.le;have y0:w2.cell? q=some (.slice bA bn bc):=t.out.blk.cell 0;have y5:w2.cell? ⟨q,5,none⟩=some (.int .i64 p):=t.out.blk.cell 5;clear O o6 z2 z4 z6
 by_cases N:p=bn
 ·have al:(p:Int)=(bn:Int):=by omega
  have xE:Hid (s.left= []):=aa (by have d:s.left=B.drop p:=t.out.left;rw [d];exact List.drop_of_length_le (by have:=u.out;omega));have ab:=aa (Src.read_end (n:=n) iW xE);clear N;go_quiet (fail);go_wp2;rw [W.out];unfold jC;rw [ab.out]
  exact⟨rfl,⟨bA,gA,bn,bc,gn,gc,p,B,n7,n8,n9,n10,n11,t.chg ((ag.refl Nil w2).drewN _) (fun h=>h) (fun _ _ h=>h)⟩,⟨cur,H.chg ((ag.refl Nil w2).drewN _) (fun h=>h),OH,by simp [aI]⟩,bz.drewN _⟩
 ·have al:¬((p:Int)=(bn:Int)):=by omega
  have xE:Hid (s.left≠ []):=aa (fun e=>by have d:s.left=B.drop p:=t.out.left;rw [d] at e;have:=congrArg List.length e;rw [List.length_drop] at this;simp at this;have:=u.out;have:=EU.out;omega);clear N;go_quiet (fail);go_upto_region 8 with fail
  generalize P:w2.drewN nq=w3
  have S:ag Nil w2 w3:=by rw [<-P];exact(ag.refl Nil w2).drewN nq
  have E:=aa (t.chg S (fun h=>h) (fun _ _ h=>h));have ad:=aa (H.chg S (fun h=>h));have fu:Hid (ag (fun b=>b=q\/pb<=b) w w3):=aa (bz.out.trans S (fun _ _ h=>h.elim));obtain⟨m,hm⟩:=gF (min (s.most n) (bn-p));have I:=aa hm;have am:p<=bn:=by have:=EU.out;have:=u.out;omega
  clear P S y0 y5 hm;refine ME (F:=F) (q:=q) pb (n:=n) (p:=p) (bn:=bn) (bc:=bc) (gn:=gn) (gc:=gc) (cl:=cl) (m:=m) (bA:=bA) (gA:=gA) (s:=s) (w:=w3) (by exact aa (fun _ _ _ _ h=>h)) ⟨E.blk.cell 0,E.blk.cell 1,by rw [Y.out];exact E.blk.cell 4,E.blk.cell 5⟩ (aa E.gv) Y hc hn ae L am I ?_;intro ap aq ar au aw aA aE a0 a1 a2 a3 a4 a5 a6 a7 a8 a9 ba be bh bj bk bm bo w4 l;have X:=aa (E.chg l (fun h=>h) (fun _ _ h=>h));have dE:=aa (ad.chg l (fun h=>h));have gK:Hid (ag (fun b=>b=q\/pb<=b) w w4):=aa (fu.out.trans l (fun _ _ h=>h.elim));clear l;go_upto_region 10 with fail
  refine Tw m (by exact aa (fun _ _ _ _ h=>h)) (X.blk.cell 0) (X.blk.cell 5) (aa X.sb) (aa ⟨cur,dE,OH,by simp [aI]⟩) mG V hn L (by have:=I.out;have:=s.most_le n;omega) (by have:=I.out;omega) ?_;intro v7 bp bx bE bF bG bI bL bN bP bQ bT sU bU sV bX xF b0 Mg Mh Mi Mj Q K lF;have eF:=aa K;have C:=aa (X.chg lF (fun e=>by have e:q=pb:=e;have:=V.out;omega) (fun b f e=>by have e:b=pb:=e;have:=mG.out b f;omega));have ed:Hid (ag (fun b=>b=q\/pb<=b) w Q):=aa (gK.out.trans (lF.mono (fun b _ e=> .inr (by have e:b=pb:=e;omega))) (fun _ _ h=>h));clear K lF;have y5:Q.cell? ⟨q,5,none⟩=some (.int .i64 p):=C.out.blk.cell 5;have Zl:=C.out.blk.frozen 5;have ao:(p:Int)+m<=(bn:Int):=by have:=I.out;omega
  go_upto_region 14 with fail
  obtain⟨g,Z⟩:=gF (Q.setCell ⟨q,5,none⟩ (.int .i64 ((p:Int)+m)));rw [<-Z]
  have j:Hid (s.left.drop (s.most n)=B.drop (p+m)/\s.left.take (s.most n)=(B.drop p).take m):=aa (by
   have d:s.left=B.drop p:=t.out.left;have k:(B.drop p).length=bn-p:=by rw [List.length_drop,<-u.out]
   rw [d,I.out,<-List.drop_drop]
   rcases Nat.le_total (s.most n) (bn-p) with h|h
   ·rw [Nat.min_eq_left h];exact⟨rfl,rfl⟩
   ·rw [Nat.min_eq_right h,List.drop_of_length_le (by omega),List.drop_of_length_le (i:=bn-p) (by omega),List.take_of_length_le (by omega),List.take_of_length_le (i:=bn-p) (by omega)];exact⟨rfl,rfl⟩)
  have eY:Hid (ag (fun b=>b=q) Q g):=aa (by rw [Z];exact(ag.refl (fun b=>b=q) Q).setCell (p:=⟨q,5,none⟩) (fun _=>rfl) _)
  have D:Hid (nR g F q {s.asked with left:=s.left.drop (s.most n)} bA gA bn bc gn gc (p+m) B n7 n8 n9 n10 n11):=aa (by
   have a:=eY.out;rw [Z] at a|-;exact⟨C.blk.set_ 5 _,C.gv.chg a (fun b f e=>U (e▸f)),C.sb.chg a (fun b f e=>U (e▸f)),j.1,by have:=u.out;omega,C.bd⟩)
  have gG:Hid (Bf g pb n (s.left.take (s.most n))):=aa (by
   obtain⟨v,d,k,x⟩:=eF.out;rw [j.out.2];exact⟨v,d.chg eY (fun e=>by have e:pb=q:=e;have:=V.out;omega),k,x⟩)
  have fK:Hid (ag (fun b=>b=q\/pb<=b) w g):=aa (ed.out.trans (eY.mono (fun b _ e=> .inl e)) (fun _ _ h=>h));have RE:=aa (Src.read_go (n:=n) iW xE);have Uo:Hid ((s.left.take (s.most n)).length=m):=aa (by rw [j.out.2,List.length_take,List.length_drop];have:=u.out;omega);obtain⟨eg,Ud⟩:=gF s.eager;have MF:=aa Ud;clear y5 Zl Z Ud;have x0:g.cell? q=some (.slice bA bn bc):=D.out.blk.cell 0;have x5:g.cell? ⟨q,5,none⟩=some (.int .i64 ((p:Int)+m)):=(D.out.blk.cell 5).trans rfl;have x3:g.cell? ⟨q,3,none⟩=some (.bool eg):=(D.out.blk.cell 3).trans (by rw [MF.out];rfl)
  cases eg with
  |true=>
   by_cases hz:p+m=bn
   ·have an:(p:Int)+m=(bn:Int):=by omega
    have G:Hid (s.eager=true/\s.left.drop (s.most n)= []):=aa ⟨MF.out.symm,by rw [j.out.1];exact List.drop_of_length_le (by have:=u.out;omega)⟩;clear hz;go_wp2;go_quiet (fail);go_wp2;rw [W.out];unfold jC;rw [RE.out,if_pos G.out,Uo.out]
    exact⟨rfl,⟨bA,gA,bn,bc,gn,gc,_,B,n7,n8,n9,n10,n11,D.chg ((ag.refl Nil g).drewN _) (fun h=>h) (fun _ _ h=>h)⟩,(by obtain⟨v,d,k,x⟩:=gG.out;exact⟨v,d.chg ((ag.refl Nil g).drewN _) (fun h=>h),k,x⟩),fK.drewN _⟩
   ·have an:¬((p:Int)+m=(bn:Int)):=by omega
    have G:Hid (¬(s.eager=true/\s.left.drop (s.most n)= [])):=aa (fun h=>by have k:=h.2;rw [j.out.1] at k;have:=congrArg List.length k;rw [List.length_drop] at this;simp at this;have:=u.out;omega);clear hz;go_wp2;go_quiet (fail);go_wp2;rw [W.out];unfold jC;rw [RE.out,if_neg G.out,Uo.out]
    exact⟨rfl,⟨bA,gA,bn,bc,gn,gc,_,B,n7,n8,n9,n10,n11,D.chg ((ag.refl Nil g).drewN _) (fun h=>h) (fun _ _ h=>h)⟩,(by obtain⟨v,d,k,x⟩:=gG.out;exact⟨v,d.chg ((ag.refl Nil g).drewN _) (fun h=>h),k,x⟩),fK.drewN _⟩
  |false=>
   have G:Hid (¬(s.eager=true/\s.left.drop (s.most n)= [])):=aa (fun h=>by have d:=h.1;rw [<-MF.out] at d;cases d);go_wp2;go_quiet (fail);go_wp2;rw [W.out];unfold jC;rw [RE.out,if_neg G.out,Uo.out];exact⟨rfl,⟨bA,gA,bn,bc,gn,gc,_,B,n7,n8,n9,n10,n11,D.chg ((ag.refl Nil g).drewN _) (fun h=>h) (fun _ _ h=>h)⟩,(by obtain⟨v,d,k,x⟩:=gG.out;exact⟨v,d.chg ((ag.refl Nil g).drewN _) (fun h=>h),k,x⟩),fK.drewN _⟩
theorem Ia (h:eP w F q s) (hF:¬F q) (c:∀b,F b->b<pb) (T:Bf w pb n []) (hq:q<pb) (hc:s.calls<4611686018427387904) (hn:n<=1152921504606) (hg:s.gives.length<=1152921504606) (X:0<s.fail) (a:¬s.fail<=(s.calls:Int)+1):
  Calls prog 184 #[q,.slice (some ⟨pb,0,none⟩) n n] w (jC F q pb n s w):=by
 refine letter fun R V=> ?_;obtain⟨bA,gA,bn,bc,gn,gc,p,B,n7,n8,n9,n10,n11,z⟩:=h;have K:=z.bd;obtain⟨cur,f,L,_⟩:=T;have A:=aa z;have S:=aa hF;have mG:=aa c;have HB:=aa f;have OH:=aa L;have ae:Hid (gn<=1152921504606):=aa (by have:=z.gn_len;omega);have U:=aa hq;obtain⟨fl,y⟩:=gF s.fail;obtain⟨cl,l⟩:=gF s.calls;have jE:=aa y;have Y:=aa l;rw [<-l] at hc;have z4:w.cell? ⟨q,4,none⟩=some (.int .i64 cl):=by rw [l];exact z.blk.cell 4
 have z6:w.cell? ⟨q,6,none⟩=some (.bool false):=z.blk.cell 6;have Ni:=z.blk.frozen 4
 (have iW:Hid (¬(0<s.fail/\s.fail<=(s.calls:Int)+1)):=aa (fun h=>a h.2);rw [<-y] at X a;rw [<-l] at a;have H0:=aa X;have H1:=aa a;clear X a)
 clear z hF c f L y l hg;go_enter func184,ntmps184;go_upto_region 2 with fail
 obtain⟨w1,r⟩:=gF (w.setCell ⟨q,4,none⟩ (.int .i64 ((cl:Int)+1)));rw [<-r];have jo:Hid (ag (fun b=>b=q) w w1):=aa (by rw [r];exact(ag.refl (fun b=>b=q) w).setCell (p:=⟨q,4,none⟩) (fun _=>rfl) _)
 have oO:Hid (nR w1 F q s.asked bA gA bn bc gn gc p B n7 n8 n9 n10 n11):=aa (by
  have d:=jo.out;rw [r] at d|-;have f:=A.out.blk.set_ 4 (.int .i64 ((cl:Int)+1));rw [Y.out] at f d|-;exact⟨f,A.gv.chg d (fun b f e=>S (e▸f)),A.sb.chg d (fun b f e=>S (e▸f)),A.left,A.le,A.bd⟩)
 have ac:Hid (ak w1 pb 5 cur.toArray):=aa (HB.chg jo (fun e=>by have:=U.out;omega));have kV:Hid (ag (fun b=>b=q\/pb<=b) w w1):=aa (jo.mono (fun b _ e=> .inl e));clear z4 z6 Ni r;have z2:w1.cell? ⟨q,2,none⟩=some (.int .i64 fl):=by rw [jE.out];exact oO.blk.cell 2
 have z4:w1.cell? ⟨q,4,none⟩=some (.int .i64 ((cl:Int)+1)):=by rw [Y.out];exact oO.blk.cell 4
 have z6:w1.cell? ⟨q,6,none⟩=some (.bool false):=oO.out.blk.cell 6
 (have X:1<=fl:=(by have:=H0.out;omega);have a:¬(fl<=(cl:Int)+1):=(by have:=H1.out;omega))
 go_wp2;go_quiet (fail)
 go_wp2;generalize N:w1.drewN nq=w2
 have o6:ag Nil w1 w2:=by rw [<-N];exact(ag.refl Nil w1).drewN nq
 have t:Hid (nR w2 F q s.asked bA gA bn bc gn gc p B n7 n8 n9 n10 n11):=aa (oO.chg o6 (fun h=>h) (fun _ _ h=>h));have H:Hid (ak w2 pb 5 cur.toArray):=aa (ac.chg o6 (fun h=>h));have bz:Hid (ag (fun b=>b=q\/pb<=b) w w2):=aa (kV.out.trans o6 (fun _ _ h=>h.elim));have u:Hid (bn=B.length):=aa t.sb.parts.2.2.1;have EU:=aa t.le;have y0:w2.cell? q=some (.slice bA bn bc):=t.out.blk.cell 0;have y5:w2.cell? ⟨q,5,none⟩=some (.int .i64 p):=t.out.blk.cell 5;clear N o6 z2 z4 z6
 by_cases M:p=bn
 ·have al:(p:Int)=(bn:Int):=by omega
  have xE:Hid (s.left= []):=aa (by have a:s.left=B.drop p:=t.out.left;rw [a];exact List.drop_of_length_le (by have:=u.out;omega));have ab:=aa (Src.read_end (n:=n) iW xE);clear M;go_quiet (fail);go_wp2;rw [V.out];unfold jC;rw [ab.out]
  exact⟨rfl,⟨bA,gA,bn,bc,gn,gc,p,B,n7,n8,n9,n10,n11,t.chg ((ag.refl Nil w2).drewN _) (fun h=>h) (fun _ _ h=>h)⟩,⟨cur,H.chg ((ag.refl Nil w2).drewN _) (fun h=>h),OH,by simp [aI]⟩,bz.drewN _⟩
 ·have al:¬((p:Int)=(bn:Int)):=by omega
  have xE:Hid (s.left≠ []):=aa (fun e=>by have a:s.left=B.drop p:=t.out.left;rw [a] at e;have:=congrArg List.length e;rw [List.length_drop] at this;simp at this;have:=u.out;have:=EU.out;omega);clear M;go_quiet (fail);go_upto_region 8 with fail
  generalize O:w2.drewN nq=w3
  have Q:ag Nil w2 w3:=by rw [<-O];exact(ag.refl Nil w2).drewN nq
  have E:=aa (t.chg Q (fun h=>h) (fun _ _ h=>h));have ad:=aa (H.chg Q (fun h=>h));have fu:Hid (ag (fun b=>b=q\/pb<=b) w w3):=aa (bz.out.trans Q (fun _ _ h=>h.elim));obtain⟨m,hm⟩:=gF (min (s.most n) (bn-p));have I:=aa hm;have am:p<=bn:=by have:=EU.out;have:=u.out;omega
  clear O Q y0 y5 hm;refine ME (F:=F) (q:=q) pb (n:=n) (p:=p) (bn:=bn) (bc:=bc) (gn:=gn) (gc:=gc) (cl:=cl) (m:=m) (bA:=bA) (gA:=gA) (s:=s) (w:=w3) (by exact aa (fun _ _ _ _ h=>h)) ⟨E.blk.cell 0,E.blk.cell 1,by rw [Y.out];exact E.blk.cell 4,E.blk.cell 5⟩ (aa E.gv) Y hc hn ae K am I ?_;intro ap aq ar au aw aA aE a0 a1 a2 a3 a4 a5 a6 a7 a8 a9 ba be bh bj bk bm bo w4 o;have W:=aa (E.chg o (fun h=>h) (fun _ _ h=>h));have dE:=aa (ad.chg o (fun h=>h));have gK:Hid (ag (fun b=>b=q\/pb<=b) w w4):=aa (fu.out.trans o (fun _ _ h=>h.elim));clear o;go_upto_region 10 with fail
  refine Tw m (by exact aa (fun _ _ _ _ h=>h)) (W.blk.cell 0) (W.blk.cell 5) (aa W.sb) (aa ⟨cur,dE,OH,by simp [aI]⟩) mG U hn K (by have:=I.out;have:=s.most_le n;omega) (by have:=I.out;omega) ?_;intro v7 bp bx bE bF bG bI bL bN bP bQ bT sU bU sV bX xF b0 Mg Mh Mi Mj P J lF;have eF:=aa J;have C:=aa (W.chg lF (fun e=>by have e:q=pb:=e;have:=U.out;omega) (fun b f e=>by have e:b=pb:=e;have:=mG.out b f;omega));have ed:Hid (ag (fun b=>b=q\/pb<=b) w P):=aa (gK.out.trans (lF.mono (fun b _ e=> .inr (by have e:b=pb:=e;omega))) (fun _ _ h=>h));clear J lF;have y5:P.cell? ⟨q,5,none⟩=some (.int .i64 p):=C.out.blk.cell 5;have Zl:=C.out.blk.frozen 5;have ao:(p:Int)+m<=(bn:Int):=by have:=I.out;omega
  go_upto_region 14 with fail
  obtain⟨g,Z⟩:=gF (P.setCell ⟨q,5,none⟩ (.int .i64 ((p:Int)+m)));rw [<-Z]
  have j:Hid (s.left.drop (s.most n)=B.drop (p+m)/\s.left.take (s.most n)=(B.drop p).take m):=aa (by
   have a:s.left=B.drop p:=t.out.left;have k:(B.drop p).length=bn-p:=by rw [List.length_drop,<-u.out]
   rw [a,I.out,<-List.drop_drop]
   rcases Nat.le_total (s.most n) (bn-p) with h|h
   ·rw [Nat.min_eq_left h];exact⟨rfl,rfl⟩
   ·rw [Nat.min_eq_right h,List.drop_of_length_le (by omega),List.drop_of_length_le (i:=bn-p) (by omega),List.take_of_length_le (by omega),List.take_of_length_le (i:=bn-p) (by omega)];exact⟨rfl,rfl⟩)
  have eY:Hid (ag (fun b=>b=q) P g):=aa (by rw [Z];exact(ag.refl (fun b=>b=q) P).setCell (p:=⟨q,5,none⟩) (fun _=>rfl) _)
  have D:Hid (nR g F q {s.asked with left:=s.left.drop (s.most n)} bA gA bn bc gn gc (p+m) B n7 n8 n9 n10 n11):=aa (by
   have d:=eY.out;rw [Z] at d|-;exact⟨C.blk.set_ 5 _,C.gv.chg d (fun b f e=>S (e▸f)),C.sb.chg d (fun b f e=>S (e▸f)),j.1,by have:=u.out;omega,C.bd⟩)
  have gG:Hid (Bf g pb n (s.left.take (s.most n))):=aa (by
   obtain⟨v,a,k,x⟩:=eF.out;rw [j.out.2];exact⟨v,a.chg eY (fun e=>by have e:pb=q:=e;have:=U.out;omega),k,x⟩)
  have fK:Hid (ag (fun b=>b=q\/pb<=b) w g):=aa (ed.out.trans (eY.mono (fun b _ e=> .inl e)) (fun _ _ h=>h));have RE:=aa (Src.read_go (n:=n) iW xE);have Uo:Hid ((s.left.take (s.most n)).length=m):=aa (by rw [j.out.2,List.length_take,List.length_drop];have:=u.out;omega);obtain⟨eg,Ud⟩:=gF s.eager;have MF:=aa Ud;clear y5 Zl Z Ud;have x0:g.cell? q=some (.slice bA bn bc):=D.out.blk.cell 0;have x5:g.cell? ⟨q,5,none⟩=some (.int .i64 ((p:Int)+m)):=(D.out.blk.cell 5).trans rfl;have x3:g.cell? ⟨q,3,none⟩=some (.bool eg):=(D.out.blk.cell 3).trans (by rw [MF.out];rfl)
  cases eg with
  |true=>
   by_cases hz:p+m=bn
   ·have an:(p:Int)+m=(bn:Int):=by omega
    have G:Hid (s.eager=true/\s.left.drop (s.most n)= []):=aa ⟨MF.out.symm,by rw [j.out.1];exact List.drop_of_length_le (by have:=u.out;omega)⟩;clear hz;go_wp2;go_quiet (fail);go_wp2;rw [V.out];unfold jC;rw [RE.out,if_pos G.out,Uo.out]
    exact⟨rfl,⟨bA,gA,bn,bc,gn,gc,_,B,n7,n8,n9,n10,n11,D.chg ((ag.refl Nil g).drewN _) (fun h=>h) (fun _ _ h=>h)⟩,(by obtain⟨v,a,k,x⟩:=gG.out;exact⟨v,a.chg ((ag.refl Nil g).drewN _) (fun h=>h),k,x⟩),fK.drewN _⟩
   ·have an:¬((p:Int)+m=(bn:Int)):=by omega
    have G:Hid (¬(s.eager=true/\s.left.drop (s.most n)= [])):=aa (fun h=>by have k:=h.2;rw [j.out.1] at k;have:=congrArg List.length k;rw [List.length_drop] at this;simp at this;have:=u.out;omega);clear hz;go_wp2;go_quiet (fail);go_wp2;rw [V.out];unfold jC;rw [RE.out,if_neg G.out,Uo.out]
    exact⟨rfl,⟨bA,gA,bn,bc,gn,gc,_,B,n7,n8,n9,n10,n11,D.chg ((ag.refl Nil g).drewN _) (fun h=>h) (fun _ _ h=>h)⟩,(by obtain⟨v,a,k,x⟩:=gG.out;exact⟨v,a.chg ((ag.refl Nil g).drewN _) (fun h=>h),k,x⟩),fK.drewN _⟩
  |false=>
   have G:Hid (¬(s.eager=true/\s.left.drop (s.most n)= [])):=aa (fun h=>by have a:=h.1;rw [<-MF.out] at a;cases a);go_wp2;go_quiet (fail);go_wp2;rw [V.out];unfold jC;rw [RE.out,if_neg G.out,Uo.out];exact⟨rfl,⟨bA,gA,bn,bc,gn,gc,_,B,n7,n8,n9,n10,n11,D.chg ((ag.refl Nil g).drewN _) (fun h=>h) (fun _ _ h=>h)⟩,(by obtain⟨v,a,k,x⟩:=gG.out;exact⟨v,a.chg ((ag.refl Nil g).drewN _) (fun h=>h),k,x⟩),fK.drewN _⟩
theorem Ky (h:eP w F q s) (hF:¬F q) (c:∀b,F b->b<pb) (T:Bf w pb n []) (hq:q<pb) (hc:s.calls<4611686018427387904) (hn:n<=1152921504606) (d:s.gives.length<=1152921504606):
  Calls prog 184 #[q,.slice (some ⟨pb,0,none⟩) n n] w (jC F q pb n s w):=by
 by_cases a:0<s.fail
 ·by_cases e:s.fail<=(s.calls:Int)+1
  ·exact AO h hF c T hq hc hn d a e
  ·exact Ia h hF c T hq hc hn d a e
 ·exact Hz h hF c T hq hc hn d a
structure fV (w:World) (F:Nat->Prop) (q p:Nat) (c:ay):Prop where
 blk:ak w q 142 #[p,.int .i64 4611686018427387904,(c.at_:Int),(c.err:Int),(),(c.idle:Int)]
 src:eP w F p c.src
 hl:c.held=none
def Te (F:Nat->Prop) (q p n:Nat) (c:ay) (w:World) (e:Ending) (w':World):Prop:=
 ∃pb,w.heap.size<=pb/\e= .returned (.tuple #[.slice (some ⟨pb,0,none⟩) (c.ask n).1.length (min n 4096),.int .i64 (c.ask n).2.1])/\Bf w' pb (min n 4096) (c.ask n).1/\fV w' F q p (c.ask n).2.2/\ag (Cs q p w) w w'
theorem Tf (n:Nat) {c:ay} (s:Sit F q p w) (h:fV w F q p c) (a:c.Fine K) (hK:K<=1152921504606846976) (hn:n<=1152921504606) (t:0<n) (hg:c.src.gives.length<=1152921504606):
  Calls prog 148 #[q,(n:Int)] w (Te F q p n c w):=by
 obtain⟨i0,X,Z,an,ab⟩:=info_parts bD;refine letter fun R T=> ?_;obtain⟨m,G⟩:=gF (min n 4096);have LB:min (n:Int) 4096=(m:Int):=by omega
 have Vh:m<=4096:=by omega
 have Jv:=aa G;have Y:=mg (P:=prog) 24 5 i0 _ underlying24 X Z .i64 .i64 m m jO (by rw [ab];omega) (by omega) w;have S:=aa h;have Vj:=aa a;have k:=aa s;have HG:=aa hg;clear G h a s hg;go_enter func148,ntmps148;go_upto_region 3 with fail
 obtain⟨pb,i⟩:=gF w.heap.size;obtain⟨w1,j⟩:=gF (w.alloc (.cells (madeCells #[Value.int .u8 0] m) 5));simp only [<-j,<-i];have I:=aa i;have l:Hid (Below w w w1):=aa (by rw [j];exact gV);have Ay:Hid (Bf w1 pb m []):=aa ⟨(madeCells #[Value.int .u8 0] m).toList,by rw [j,i,Array.toArray_toList];exact ak.new _ _ _,by rw [Array.length_toList,size_madeCells],by simp [aI]⟩;have tL:=aa (Ky (S.src.below l) k.nFp (fun b E=>by have:=k.out.lt b E;omega) Ay (by have:=k.out.pB;omega) (by have L:=Vj.out.pot;unfold ay.pot at L;omega) (by omega) HG);have O:Hid (ak w1 q 142 #[p,.int .i64 4611686018427387904,(c.at_:Int),(c.err:Int),(),(c.idle:Int)]):=aa (S.blk.below l);obtain⟨u,v⟩:=gF c.idle;have M9:=aa v;have ad:u<=16:=by have:=Vj.out.idle;omega
 rw [<-v] at O;have z0:w1.cell? q=some (p:Value):=O.out.cell 0;have NI:Hid (c.ask n=((c.src.read m).1,(c.src.read m).2.1,{c with src:=(c.src.read m).2.2,idle:=if(c.src.read m).1≠ []\/(c.src.read m).2.1≠0 then 0 else c.idle+1})):=aa (by rw [Jv.out];rfl);obtain⟨M,wU⟩:=gF ((c.src.read m).1);obtain⟨J,L6⟩:=gF ((c.src.read m).2.1);obtain⟨z,y⟩:=gF M.length;have vg:z<=m:=by rw [y,wU];exact Src.read_len _ _
 have V:=aa wU;have NK:=aa L6;have f:=aa y;have ac:(z:Int)<=(m:Int):=by omega
 clear j i Y wU L6 y v;go_upto_region 4 with(go_at_call 184;go_loud (refine tL.mono ?_);rintro e w2 ⟨rfl,D,B,C⟩;have U:=aa D;have Q:=aa B;have bz:=aa C;rw [<-V.out,<-NK.out,<-f.out];clear D B C)
 have A:Hid (ak w2 q 142 #[p,.int .i64 4611686018427387904,(c.at_:Int),(c.err:Int),(),(u:Int)]):=aa (O.chg bz (fun e=>by have L:=k.out.qB;have h2:=I.out;have W:=k.out.ne;rcases e with e|e<;>omega));have z5:w2.cell? ⟨q,5,none⟩=some (.int .i64 u):=A.out.cell 5;have ao:=A.out.frozen 5;clear z0;have oZ:Hid (ag (Cs q p w) w w2):=aa ((ag.of_below l).trans (bz.mono (fun b _ e=>by rcases e with e|e;exact .inr (.inl e);exact .inr (.inr (by have:=I.out;omega)))) (fun _ _ h=>h))
 have d:Hid (∀(r:Nat) (N:World),r=(if M≠ []\/J≠0 then 0 else u+1)->ak N q 142 #[p,.int .i64 4611686018427387904,(c.at_:Int),(c.err:Int),(),(r:Int)]->ag (fun b=>b=q) w2 N->Te F q p n c w (.returned (.tuple #[.slice (some ⟨pb,0,none⟩) z m,.int .i64 J])) N):=aa (by
  intro r N hr E hc;unfold Te;rw [NI.out,<-V.out,<-NK.out,<-Jv.out];refine⟨pb,by have:=I.out;omega,by rw [f.out],?_,⟨by rw [<-M9.out,<-hr];exact E,U.chg hc (fun e=>k.ne e.symm) (fun b E e=>k.nFq (e▸E)),S.hl⟩,oZ.out.trans (hc.mono (fun b _ e=> .inl e)) (fun _ _ h=>h)⟩;obtain⟨cur,L,h2,W⟩:=Q.out;rw [<-V.out] at W;exact⟨cur,L.chg hc (fun e=>by have h4:=k.out.qB;have h5:=I.out;have e:pb=q:=e;omega),h2,W⟩)
 by_cases g:z=0
 ·have H:M= []:=List.eq_nil_of_length_eq_zero (by rw [<-f.out];exact g);have o:=aa H;clear H;subst g
  by_cases x:J=0
  ·subst x;go_wp2;rw [T.out]
   refine d.out (u+1) _ (by rw [o.out];simp) (A.set_ 5 _) ((ag.refl (fun b=>b=q) w2).setCell (p:=⟨q,5,none⟩) (fun _=>rfl) _)
  ·have al:(J==0)=false:=by rw [mi];exact x
   have mM:=aa x;go_wp2;rw [T.out];refine d.out 0 _ (by rw [if_pos (.inr mM.out)]) ?_ (((ag.refl (fun b=>b=q) w2).setCell (p:=⟨q,5,none⟩) (fun _=>rfl) _).setCell (p:=⟨q,5,none⟩) (fun _=>rfl) _);have:=(A.out.set_ 5 (.int .i64 ((u:Int)+1))).set_ 5 (.int .i64 0)
   rwa [Array.setIfInBounds_setIfInBounds] at this
 ·have am:(0:Int)<(z:Int):=by omega
  have ae:0<z:=by omega
  have o:Hid (M≠ []):=aa (fun e=>g (by rw [f.out,e];rfl));clear g;go_wp2;rw [T.out];refine d.out 0 _ (by rw [if_pos (.inl o.out)]) ?_ (((ag.refl (fun b=>b=q) w2).setCell (p:=⟨q,5,none⟩) (fun _=>rfl) _).setCell (p:=⟨q,5,none⟩) (fun _=>rfl) _);have:=(A.out.set_ 5 (.int .i64 ((u:Int)+1))).set_ 5 (.int .i64 0);rwa [Array.setIfInBounds_setIfInBounds] at this
end Go.Proofs.YtepgcjbhabnciaaGreat
