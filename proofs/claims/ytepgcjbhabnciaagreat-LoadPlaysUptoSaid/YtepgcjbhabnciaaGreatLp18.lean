/- Part 18. -/
import Derived.Test.YtepgcjbhabnciaaGreatLp17
namespace Go.Proofs.YtepgcjbhabnciaaGreat
set_option maxRecDepth 100000
set_option maxHeartbeats 8000000
open Go.Proofs.Tryz Go.RowKit
open Go.Lib (compareBytes)
variable {v r v1 v2 u1 u2 u3 u5 u6 u8 u9 O bT U I u20 u21 u22 u23 u24 u25 u26 u27 u28 u29 u30 u31 u32 u33 u34 u35 u36 u37 u38 N u40 u42 dx u44 u45 u46 dG u48 u49 dI u51 dP u53 u55 dY dZ u58 u59 u60 fw fJ u63 u64 gm u66 gH u68 u69 u70 iM u72 u73 iN u75 iV jY jZ j6 kg kG kP kQ kR ko kU ng mI mJ pF pu rX u93 vw vz vC vE sQ sS jg jh ji jU kD u105 lG lH lI lJ lK lL lM lN lQ lS nD nG nH u119 nI y nK nM u124 nO u127 ui uj uk u131 um uo uq ut uu uw u138 u139 uy uz uB uC uD uE uG uH uI uJ uK uL u152 uM u154 AU AV AX AY s d X u162 Bh u164 Bi Bj H M Bq Bu E D9 Ea L Ed Ee Ef Eg Eh Ei Ej C W En Eo R Es F Eu u193 u194 Ev u196 f u198 m Ey u201 Ez EA Z u v3 i v6 u4 bX bQ bP bF bG dw dR nN J KJ al KL am KM an KN KO KP KQ KR KS KT KU KV KW KX KY KZ K6 K8 K9 Lb OX OY OZ O0 O1 O3 ao O4 ap O5 Wn Wo Wp Wq Ws Wt Wu Wv Ww Wx Wy Wz WA WB WC WE WF WG WH WI WJ WK WL WM WN WO WP WQ WR WS WT WU WV WW WX WY WZ W9 Xa Xb Xc Xe Xf Xg Xh Xi Xj Xk Xl Xm Xn Xo Xp Xq Xr Xt Xv Xw Xx Xy Xz XA XB a8 a9 ba be bh bj bk bm bo bp bx bz bE bU b0 b1 b2 b3 b4 b5 b6 b7 b8 b9 ca cb cd ce cf XC v4 v5 u7 u16 Eb Ec El Em Ep Et Ew Ex:Value} {base n z q P eb eo en cc c B p:Nat} {S D D':Nat->Prop} {w w':World} {l:List Row} {us:List Value} {A:Option Addr} {es:List aR} {Q:Exit->Act->World->Prop}
theorem qw:(prog.info? 100).map (fun i=>(i.zero,i.size,i.bytes))=some (some (.agg #[(),.int .i64 0,.int .i64 0,.int .i64 0]),4,48):=by kernel_rfl
structure bu (w:World) (base:Nat) (D:Nat->Prop) (v:Value) (n:Nat) (l:List Row) (us:List Value):Prop where
 own:w.ownsRow base 100 4 v n us
 len:n=l.length
 at_:∀(i:Nat) (x:Row),l[i]? =some x->∃u,us[i*4]? =some u/\us[i*4+1]? =some (.int .i64 x.at_)/\us[i*4+2]? =some (.int .i64 x.len)/\us[i*4+3]? =some (.int .i64 x.ents)/\SB w (fun b=>D b/\v.ownBlock≠some b) u x.last
 lo:∀b,D b->base<=b
 dom:∀g,v.ownBlock=some g->D g
theorem bu.nil (w:World) (base:Nat):bu w base Nil () 0 [] []:=⟨World.ownsRow_nil _ _ _ _,rfl,fun i x h=>by simp at h,fun _ h=>h.elim,fun g h=>by simp [Value.ownBlock] at h⟩
theorem bu.chgD (h:bu w base D v n l us) (hc:ag S w w') (f:∀b,D b->b<w->¬S b):bu w' base D v n l us:=
 ⟨aB h.own hc (fun g e=>f g (h.dom g e) (ah h.own g e).2),h.len,fun i x j=>by
  obtain⟨u,a,b,c,d,s⟩:=h.at_ i x j;exact⟨u,a,b,c,d,(s.lt.chg hc (fun g e=>f g e.1.1 e.2)).weak (fun g e=>e.1)⟩,h.lo,h.dom⟩
theorem bu.chg (h:bu w base D v n l us) (hc:ag S w w') (c:∀b,base<=b->b<w->¬S b):bu w' base D v n l us:=h.chgD hc (fun b a=>c b (h.lo b a))
theorem bu.wider (h:bu w base D v n l us) (f:∀b,D b->D' b) (hl:∀b,D' b->base<=b):bu w base D' v n l us:=
 ⟨h.own,h.len,fun i x j=>by
  obtain⟨u,a,b,c,d,s⟩:=h.at_ i x j;exact⟨u,a,b,c,d,s.weak (fun g e=>⟨f g e.1,e.2⟩)⟩,hl,fun g e=>f g (h.dom g e)⟩
theorem bu.below (h:bu w base D v n l us) (o:Below w w w'):bu w' base D v n l us:=h.chg (S:=Nil) (ag.of_below o) (fun _ _ _ h=>h)
theorem bu.sps (h:bu w base D (.slice A n c) n l us):mF w (fun b=>base<=b/\b<w) A n l:=
 ⟨h.len,us,(Rd.of_own h.own).lt (by omega),fun i x f=>by
  obtain⟨u,a,b,c,d,s⟩:=h.at_ i x f;exact⟨u,a,b,c,d,s.lt.weak (fun g e=>⟨h.lo g e.1.1,e.2⟩)⟩⟩
theorem bu.snoc {x:Row} (h:bu w base D v n l us) (q:w.grownBy w' v.ownBlock) (A:w'.ownsRow base 100 4 r (n+1) (us++ [u,(x.at_:Int),(x.len:Int),(x.ents:Int)]))
  (hv:r.ownBlock=v.ownBlock\/r.ownBlock=some w) (z:∀b,D b->D' b) (hl:∀b,D' b->base<=b) (hn:w.heap.size<w'->D' w) (C:SB w (fun b=>D' b/\b<w/\v.ownBlock≠some b) u x.last):bu w' base D' r (n+1) (l++ [x]) (us++ [u,(x.at_:Int),(x.len:Int),(x.ents:Int)]):=by
 have m:us.length=l.length*4:=by rw [h.own.1,h.len]
 have k:∀(t:List UInt8) (y:Value),SB w (fun b=>D' b/\b<w/\v.ownBlock≠some b) y t->SB w' (fun b=>D' b/\r.ownBlock≠some b) y t:=fun t y o=>
  (o.chg (ag.of_grown q) (fun b p e=>p.2.2 e)).weak (fun b p=>⟨p.1,fun e=>by
   rcases hv with hv|hv
   ·rw [hv] at e;exact p.2.2 e
   ·rw [hv] at e;injection e with e;have:=p.2.1;omega⟩)
 refine⟨A,by rw [mq,h.len];rfl,fun i y o=> ?_,hl,fun g f=> ?_⟩
 ·by_cases hi:i<l.length
  ·rw [qK hi] at o;obtain⟨E,a,b,c,d,s⟩:=h.at_ i y o
   refine⟨E,?_,?_,?_,?_,k _ _ (s.lt.weak (fun g q=>⟨z g q.1.1,q.2,q.1.2⟩))⟩
   ·rw [qK (by omega)];exact a
   ·rw [qK (by omega)];exact b
   ·rw [qK (by omega)];exact c
   ·rw [qK (by omega)];exact d
  ·have j:i=l.length:=by
    have:=(nE.mp o).1;simp at this;omega
   rw [j,q9 jO,Nat.sub_self] at o;simp at o;subst o
   refine⟨u,?_,?_,?_,?_,k _ _ C⟩
   ·rw [j,<-m,q9 (by omega),Nat.sub_self];rfl
   ·rw [j,<-m,q9 (by omega),show us.length+1-us.length=1 by omega];rfl
   ·rw [j,<-m,q9 (by omega),show us.length+2-us.length=2 by omega];rfl
   ·rw [j,<-m,q9 (by omega),show us.length+3-us.length=3 by omega];rfl
 ·rcases hv with hv|hv
  ·exact z g (h.dom g (hv▸f))
  ·have B:=(ah A g f).2;rw [hv] at f;injection f with f
   subst f;exact hn B
noncomputable def RQ:Code:=aQ (f35.body.bind (aF 50))
theorem Ic (G:Nat->Prop) (at_:Nat) (ec:Nat) (kF:Hid (∀c t (a:Act) w,Q (.panic c) ⟨t,a.defers⟩ w->Q (.panic c) a w))
  (HB:Hid (ak w z 103 #[q,v1,v2,v3,i,.slice A n cc,v6])) (HM:Hid (bu w base D (.slice A n cc) n l us)) (HE:Hid (dh w G (some ⟨eb,eo,none⟩) en es)) (a6:Hid (w.cell? ⟨q,2,none⟩=some (.int .i64 P))) (he:0<en) (cR:en<=64) (_hk:∀e∈es,e.1.length<=64)
  (cQ:at_<=P) (hP:P<=1152921504606846976) (hn:n<=8388608) (GI:base<=B) (aw:B<=w) (c5:z<base) (c4:q<base) (HG:Hid (∀b,G b->B<=b/\b<w/\(Value.slice A n cc).ownBlock≠some b))
  (au:∀(cg ch ci cj ck cl cn co cp cq cr ct cu cv cw cx cy cA cC cD cE cF cG cH cI cJ cK cL cM:Value) (A':Option Addr) (kz:Nat) (jJ:List Value) (w':World),bu w' base (fun b=>D b\/(B<=b/\b<w')) (.slice A' (n+1) kz) (n+1) (l++ [⟨aD es,at_,P-at_,es.length⟩]) jJ->ak w' z 103 #[q,v1,v2,v3,i,.slice A' (n+1) kz,v6]->ag (fun b=>b=z\/(Value.slice A n cc).ownBlock=some b) w w'->(∀g,(Value.slice A' (n+1) kz).ownBlock=some g->(Value.slice A n cc).ownBlock=some g\/w<=g)->Q .normal ⟨(.pointer (some ⟨z,0,none⟩)::u1::u2::u3::u4::u5::u6:: .int .i64 (at_:Nat)::u8::u9::bX::bQ::O::bP::bT::U:: .slice (some ⟨eb,eo,none⟩) en ec::bF::bG::I::u20::u21::u22::u23::u24::u25::u26::u27::u28::u29::u30::u31::u32::u33::u34::u35::u36::u37::u38::N::u40::dw::u42::dx::u44::u45::u46::dG::u48::u49::dI::u51::dP::u53::dR::u55::dY::dZ::u58::u59::u60::fw::fJ::u63::u64::gm::u66::gH::u68::u69::u70::iM::u72::u73::iN::u75::iV::jY::jZ::j6::kg::kG::kP::kQ::kR::ko::kU::ng::mI::mJ::pF::pu::rX::u93::vw::vz::vC::vE::sQ::sS::jg::jh::ji::jU::kD::u105::lG::lH::lI::lJ::lK::lL::lM::lN::lQ::lS::nD::nG::nH::u119::nI::y::nK::nM::u124::nN::nO::u127::ui::uj::uk::u131::um::uo::uq::ut::uu::uw::u138::u139::uy::uz::uB::uC::uD::uE::uG::uH::uI::uJ::uK::uL::u152::uM::u154::AU::AV::AX::AY::s::d::X::u162::Bh::u164::Bi::Bj::r::v::H::M::Bq::Bu::E::D9::Ea::J::L::Ed::Ee::Ef::Eg::Eh::Ei::Ej::C::W::En::Eo::R::Es::F::Eu::u193::u194::Ev::u196::f::u198::m::Ey::u201::Ez::EA::Z::KJ::al::KL::am::KM::an::KN::KO::KP::KQ::KR::KS::KT::KU::KV::KW::KX::KY::KZ::K6::K8::K9::Lb::OX::OY::OZ::O0::O1::O3::ao::O4::ap::O5::Wn::Wo::Wp::Wq::Ws::Wt::Wu::Wv::Ww::Wx::Wy::Wz::WA::WB::WC::WE::WF::WG::WH::WI::WJ::WK::WL::WM::WN::WO::WP::WQ::WR::WS::WT::WU::WV::WW::WX::WY::WZ::W9::Xa::Xb::Xc::Xe::Xf::Xg::Xh::Xi::Xj::Xk::Xl::Xm::Xn::Xo::Xp::Xq::Xr::Xt::Xv::Xw::Xx::Xy::Xz::XA::XB::cg::ch::ci::cj::ck::cl::cn::co::cp::cq::cr::ct::cu::cv::cw::cx::cy::cA::cC::cD::cE::cF::cG::cH::cI::cJ::cK::cL::cM::XC:: []).toArray,[]⟩ w'):
  Code.wp prog RQ Q ⟨(.pointer (some ⟨z,0,none⟩)::u1::u2::u3::u4::u5::u6:: .int .i64 (at_:Nat)::u8::u9::bX::bQ::O::bP::bT::U:: .slice (some ⟨eb,eo,none⟩) en ec::bF::bG::I::u20::u21::u22::u23::u24::u25::u26::u27::u28::u29::u30::u31::u32::u33::u34::u35::u36::u37::u38::N::u40::dw::u42::dx::u44::u45::u46::dG::u48::u49::dI::u51::dP::u53::dR::u55::dY::dZ::u58::u59::u60::fw::fJ::u63::u64::gm::u66::gH::u68::u69::u70::iM::u72::u73::iN::u75::iV::jY::jZ::j6::kg::kG::kP::kQ::kR::ko::kU::ng::mI::mJ::pF::pu::rX::u93::vw::vz::vC::vE::sQ::sS::jg::jh::ji::jU::kD::u105::lG::lH::lI::lJ::lK::lL::lM::lN::lQ::lS::nD::nG::nH::u119::nI::y::nK::nM::u124::nN::nO::u127::ui::uj::uk::u131::um::uo::uq::ut::uu::uw::u138::u139::uy::uz::uB::uC::uD::uE::uG::uH::uI::uJ::uK::uL::u152::uM::u154::AU::AV::AX::AY::s::d::X::u162::Bh::u164::Bi::Bj::r::v::H::M::Bq::Bu::E::D9::Ea::J::L::Ed::Ee::Ef::Eg::Eh::Ei::Ej::C::W::En::Eo::R::Es::F::Eu::u193::u194::Ev::u196::f::u198::m::Ey::u201::Ez::EA::Z::KJ::al::KL::am::KM::an::KN::KO::KP::KQ::KR::KS::KT::KU::KV::KW::KX::KY::KZ::K6::K8::K9::Lb::OX::OY::OZ::O0::O1::O3::ao::O4::ap::O5::Wn::Wo::Wp::Wq::Ws::Wt::Wu::Wv::Ww::Wx::Wy::Wz::WA::WB::WC::WE::WF::WG::WH::WI::WJ::WK::WL::WM::WN::WO::WP::WQ::WR::WS::WT::WU::WV::WW::WX::WY::WZ::W9::Xa::Xb::Xc::Xe::Xf::Xg::Xh::Xi::Xj::Xk::Xl::Xm::Xn::Xo::Xp::Xq::Xr::Xt::Xv::Xw::Xx::Xy::Xz::XA::XB::a8::a9::ba::be::bh::bj::bk::bm::bo::bp::bx::bz::bE::bU::b0::b1::b2::b3::b4::b5::b6::b7::b8::b9::ca::cb::cd::ce::cf::XC:: []).toArray,[]⟩ w:=by
 obtain⟨i0,cN,iC,iD,iE⟩:=info_parts qw;have dz:=aa au;obtain⟨j,hj⟩:∃j,en=j+1:=⟨en-1,by omega⟩;obtain⟨b,o,Y,kn,kc,V,vn,vc,key,val,yF,ar,a0,aA,_,a1,vg,a2,a3,_⟩:=HE.out.at_ (k:=j) (by omega);injection yF with yF;injection yF with e1 e2
 subst e1;subst e2;have a5:Hid (aD es=key):=aa (iP (e:=(key,val)) (by rw [<-HE.out.len,show en-1=j by omega];exact a0));have qX:Hid (en=es.length):=HE.out.len;have HJ:Hid (SB w G (.slice Y kn kc) key):=aa (SB.mk a1 vg a2 a3);have Ua:=aa (HG _ ar);have cT:(en:Int)-1=(j:Int):=by omega
 have cU:IntKind.i64.wrap ((en:Int)-1)=(j:Int):=by rw [IntWalk.i64_in _ (by omega)];omega
 have cV:IntKind.i64.wrap (j:Int)=(j:Int):=IntWalk.i64_in _ (by omega);have cS:(0:Int)<=(j:Int):=by omega
 have c2:IntKind.i64.wrap ((P-at_:Nat):Int)=((P-at_:Nat):Int):=IntWalk.i64_in _ (by omega);have cW:j<en:=by omega
 have yD:(j:Int)<(en:Int):=by omega
 have cX:(P:Int)-(at_:Int)=((P-at_:Nat):Int):=by omega
 have cY:IntKind.i64.wrap ((P:Int)-(at_:Int))=((P-at_:Nat):Int):=by rw [IntWalk.i64_in _ (by omega)];omega
 have c3:=HB.out.lt;have aq:Hid ((Value.slice A n cc).ownBlock≠some z):=aa (fun e=>by have:=(ah HM.own z e).1;omega);have S0:w.drew.cell? ⟨z,5,none⟩=some (.slice A n cc)/\w.drew.cell? z=some (q:Value)/\w.drew.cell? ⟨eb,eo+j*2,none⟩=some (.slice Y kn kc)/\w.drew.cell? ⟨q,2,none⟩=some (.int .i64 P):=⟨(HB.cell 5).trans rfl,(HB.cell 0).trans rfl,aA,a6⟩;have a7:Hid ((Value.slice A n cc).ownBlock≠some q):=aa (fun e=>by have:=(ah HM.own q e).1;omega);clear au a0 aA a1 vg a2 a3 _hk ar hj;conv=>arg 2;whnf
 refine aM (fun w'=>w'.cell? ⟨z,5,none⟩=some (.slice A n cc)/\w'.cell? z=some (q:Value)/\w'.cell? ⟨eb,eo+j*2,none⟩=some (.slice Y kn kc)/\w'.cell? ⟨q,2,none⟩=some (.int .i64 P)) 29 (by kernel_rfl) ?_;refine uF 0 (fun _=>S0) ?_;refine uF 1 (fun _=>S0) ?_;refine uF 2 (fun _=>S0) ?_;refine uF 3 (fun _=>S0) ?_;refine uF 5 (fun _=>S0) ?_;refine uF 6 (fun _=>S0) ?_;refine uF 7 (fun _=>S0) ?_;refine uF 8 (fun _=>S0) ?_;refine uF 9 (fun _=>S0) ?_;refine uF 10 (fun _=>S0) ?_;refine uF 12 (fun _=>S0) ?_;refine uF 13 (fun _=>S0) ?_;refine uF 14 (fun _=>S0) ?_;refine uF 15 (fun _=>S0) ?_;refine uF 20 (fun _=>S0) ?_;refine uF 22 (fun _=>S0) ?_;refine uF 23 (fun _=>S0) ?_;refine uT 4 S0 ?_;refine uT 11 S0 ?_;refine uT 16 S0 ?_;refine uF 17 (fun _=>S0) ?_;refine uF 18 (fun _=>S0) ?_;refine uT 19 S0 ?_;refine uF 21 (fun _=>S0) ?_;refine uF 24 (fun _=>S0) ?_;refine mR 25 fun K hK=> ?_;go_simp;obtain⟨w3,ae⟩:=gF ((w.alloc (.cells #[.slice Y kn kc,.int .i64 at_,.int .i64 ((P-at_:Nat):Int),.int .i64 en] 100)).drew);rw [<-ae];have ad:Below w w w3:=(by rw [ae];exact gV.drew);have ab:Hid (Below w w w3):=aa ad;have a4:=aa (HJ.below ab);have tL:Hid (Rd w3 (From w) 4 (some ⟨w,0,none⟩) 1 [.slice Y kn kc,(at_:Int),.int .i64 ((P-at_:Nat):Int),(en:Int)]):=aa (by rw [ae];exact⟨rfl,fun _=>⟨_,0,rfl,jO,fun k u _hk=>by show(w.alloc _).cell? _=_;rw [(ak.new w _ _).cell];simpa using _hk⟩⟩);have Ie:=aa (HM.below ab);have S3:w3.cell? ⟨z,5,none⟩=some (.slice A n cc)/\w3.cell? z=some (q:Value)/\w3.cell? ⟨eb,eo+j*2,none⟩=some (.slice Y kn kc)/\w3.cell? ⟨q,2,none⟩=some (.int .i64 P):=⟨aj ad S0.1,aj ad S0.2.1,aj ad S0.2.2.1,aj ad S0.2.2.2⟩;clear ae ad;refine hK.out _ _ (fun _=>S3) ?_;clear hK K;try simp only [aL,aN,aZ,aC]
 refine mR 26 fun K hK=> ?_;refine aG _ rfl (.tmp 305) (.tmp 326) _ rfl base 100 i0 _ 4 48 underlying97 cN iC iD iE rfl (by omega) (.slice A n cc) n us rfl Ie.own (From w) (some ⟨w,0,none⟩) 1 1 _ rfl tL (by intro u hu;simp at hu;rcases hu with rfl|rfl|rfl|rfl<;>rfl) (by simp only [maxLen];omega) (by omega) (ma GI (ma aw ab.size)) ?_;intro x w4 di ac gp;obtain⟨K4,IE,cP,_,_⟩:=ax di;subst cP;have jM:=aa di;have IX:=aa ac;have Af:=aa gp;have xO:w4.cell? ⟨z,5,none⟩=some (.slice A n cc):=(ag.of_grown ac).cell aq S3.1;have dE:Hid (ak w4 z 103 #[q,v1,v2,v3,i,.slice A n cc,v6]):=aa ((HB.below ab).chg (ag.of_grown ac) aq);have YK:∀o,w4.frozen? ⟨z,o,none⟩=false:=dE.out.frozen;have S4:w4.cell? ⟨z,5,none⟩=some (.slice A n cc)/\w4.cell? z=some (q:Value)/\w4.cell? ⟨eb,eo+j*2,none⟩=some (.slice Y kn kc)/\w4.cell? ⟨q,2,none⟩=some (.int .i64 P):=⟨xO,(ag.of_grown ac).cell aq S3.2.1,(ag.of_grown ac).cell Ua.2.2 S3.2.2.1,(ag.of_grown ac).cell a7 S3.2.2.2⟩;clear di ac gp;refine rR hK (fun _=>S4) ?_;clear hK K;refine uF 27 (fun _=>S4) ?_;refine uF 28 (fun _=>S4) ?_;refine mR 29 fun K hK=> ?_;go_simp;refine hK.out _ _ (fun h=>absurd h (by decide)) ?_;clear hK K;try simp only [aL,aN,aZ,aC]
 refine bH (by kernel_rfl) ?_ _
 have cO:bu w4 base (fun b=>D b\/(B<=b/\b<w4)) (.slice K4 (n+1) IE) (n+1) (l++ [⟨aD es,at_,P-at_,es.length⟩]) _:=Ie.out.snoc (x:=⟨aD es,at_,P-at_,es.length⟩) (u:= .slice Y kn kc) IX (by have h9:=jM.out;rw [<-qX.out];exact h9) Af (fun b hb=> .inl hb) (fun b hb=>hb.elim (HM.lo b) (fun h=>ma GI h.1)) (fun h=> .inr ⟨ma aw ab.size,h⟩) (by rw [a5.out];exact a4.weak (fun b hb=>by
   have h1:=HG.out b hb;have h2:=ab.out.size;have h3:w3.heap.size<=w4:=(ag.of_grown IX).size;exact⟨.inr ⟨h1.1,by omega⟩,by omega,h1.2.2⟩))
 have aE:=(ag.refl (fun b=>b=z) w4).setCell (p:=⟨z,5,none⟩) (fun _=>rfl) (.slice K4 (n+1) IE)
 refine dz _ _ _ _ _ _ _ _ _ _ _ _ _ _ _ _ _ _ _ _ _ _ _ _ _ _ _ _ _ K4 IE _ _ ((cO.chg (S:=fun b=>b=z) aE (fun b hb _ e=>by have e:b=z:=e;omega)).wider (fun b hb=>hb.imp id (fun h=>⟨h.1,mU h.2 aE.size⟩)) (fun b hb=>hb.elim (HM.lo b) (fun h=>ma GI h.1))) (dE.set_ 5 _) ?_ (fun g hg=>by
  rcases Af.out with h|h
  ·exact .inl (h▸hg)
  ·rw [h] at hg;injection hg with hg;have h2:=ab.out.size;exact .inr (by omega))
 exact((ag.of_below ab).trans (T:=fun b=>(Value.slice A n cc).ownBlock=some b) (ag.of_grown IX) (fun b _ e=> .inr e)).setCell (p:=⟨z,5,none⟩) (fun _=> .inl rfl) _
noncomputable def Xu:Code:=aQ (f92.body.bind (aF 26))
theorem Iw (G:Nat->Prop) (at_:Nat) (ec:Nat) (kF:Hid (∀c t (a:Act) w,Q (.panic c) ⟨t,a.defers⟩ w->Q (.panic c) a w))
  (HB:Hid (ak w z 140 #[q,v1,v2,.slice A n cc,v4,v5])) (HM:Hid (bu w base D (.slice A n cc) n l us)) (HE:Hid (dh w G (some ⟨eb,eo,none⟩) en es)) (ba:Hid (w.cell? q=some (.int .i64 P))) (he:0<en) (cg:en<=64) (hk:∀e∈es,e.1.length<=64)
  (cf:at_<=P) (hP:P<=1152921504606846976) (hn:n<=8388608) (B:base<=w) (ct:z<base) (HG:Hid (∀b,G b->b<w/\(Value.slice A n cc).ownBlock≠some b))
  (au:∀(be aA bh bj bk bm bo bp aE a0 bx bz bE bQ bU b0 b1 b2 b3 a1 a2 b4 a3 b5 a4 b6 b7 a5 b8 a6:Value) (A':Option Addr) (kz:Nat) (jJ:List Value) (w':World),bu w' base (fun b=>D b\/(w<=b/\b<w')) (.slice A' (n+1) kz) (n+1) (l++ [⟨aD es,at_,P-at_,es.length⟩]) jJ->ak w' z 140 #[q,v1,v2,.slice A' (n+1) kz,v4,v5]->ag (fun b=>b=z\/(Value.slice A n cc).ownBlock=some b) w w'->(∀g,(Value.slice A' (n+1) kz).ownBlock=some g->(Value.slice A n cc).ownBlock=some g\/w<=g)->Q .normal ⟨(.pointer (some ⟨z,0,none⟩)::u1::u2::u3:: .int .i64 (at_:Nat)::u5::u6::u7::u8::u9::L:: .slice (some ⟨eb,eo,none⟩) en ec::O::W::bT::U::u16::f::C::I::u20::u21::u22::u23::u24::u25::u26::u27::u28::u29::u30::u31::u32::u33::u34::u35::u36::u37::u38::N::u40::R::u42::dx::u44::u45::u46::dG::u48::u49::dI::u51::dP::u53::F::u55::dY::dZ::u58::u59::u60::fw::fJ::u63::u64::gm::u66::gH::u68::u69::u70::iM::u72::u73::iN::u75::iV::jY::jZ::j6::kg::kG::kP::kQ::kR::ko::kU::ng::mI::mJ::pF::pu::rX::u93::vw::vz::vC::vE::sQ::sS::jg::jh::ji::jU::kD::u105::lG::lH::lI::lJ::lK::lL::lM::lN::lQ::lS::nD::nG::nH::u119::nI::y::nK::nM::u124::m::nO::u127::ui::uj::uk::u131::um::uo::uq::ut::uu::uw::u138::u139::uy::uz::uB::uC::uD::uE::uG::uH::uI::uJ::uK::uL::u152::uM::u154::AU::AV::AX::AY::s::d::X::u162::Bh::u164::Bi::Bj::r::v::H::M::Bq::Bu::E::be::aA::bh::bj::bk::bm::bo::bp::aE::a0::bx::bz::bE::bQ::bU::b0::b1::b2::b3::a1::a2::b4::a3::b5::a4::b6::b7::a5::b8::a6::Z:: []).toArray,[]⟩ w'):
  Code.wp prog Xu Q ⟨(.pointer (some ⟨z,0,none⟩)::u1::u2::u3:: .int .i64 (at_:Nat)::u5::u6::u7::u8::u9::L:: .slice (some ⟨eb,eo,none⟩) en ec::O::W::bT::U::u16::f::C::I::u20::u21::u22::u23::u24::u25::u26::u27::u28::u29::u30::u31::u32::u33::u34::u35::u36::u37::u38::N::u40::R::u42::dx::u44::u45::u46::dG::u48::u49::dI::u51::dP::u53::F::u55::dY::dZ::u58::u59::u60::fw::fJ::u63::u64::gm::u66::gH::u68::u69::u70::iM::u72::u73::iN::u75::iV::jY::jZ::j6::kg::kG::kP::kQ::kR::ko::kU::ng::mI::mJ::pF::pu::rX::u93::vw::vz::vC::vE::sQ::sS::jg::jh::ji::jU::kD::u105::lG::lH::lI::lJ::lK::lL::lM::lN::lQ::lS::nD::nG::nH::u119::nI::y::nK::nM::u124::m::nO::u127::ui::uj::uk::u131::um::uo::uq::ut::uu::uw::u138::u139::uy::uz::uB::uC::uD::uE::uG::uH::uI::uJ::uK::uL::u152::uM::u154::AU::AV::AX::AY::s::d::X::u162::Bh::u164::Bi::Bj::r::v::H::M::Bq::Bu::E::D9::Ea::Eb::Ec::Ed::Ee::Ef::Eg::Eh::Ei::Ej::El::Em::En::Eo::Ep::Es::Et::Eu::u193::u194::Ev::u196::Ew::u198::Ex::Ey::u201::Ez::EA::Z:: []).toArray,[]⟩ w:=by
 obtain⟨i0,ca,iC,iD,iE⟩:=info_parts qw;have dz:=aa au;obtain⟨j,hj⟩:∃j,en=j+1:=⟨en-1,by omega⟩;obtain⟨b,o,Y,kn,kc,V,vn,vc,key,val,yF,ap,an,aq,_,cb,vg,ao,aw,_⟩:=HE.out.at_ (k:=j) (by omega);injection yF with yF;injection yF with e1 e2
 subst e1;subst e2;have a9:Hid (aD es=key):=aa (iP (e:=(key,val)) (by rw [<-HE.out.len,show en-1=j by omega];exact an));have cn:kn<=64:=by have h1:key.length<=64:=hk _ (nT an);have h2:kn=key.length:=ao;omega
 have qX:Hid (en=es.length):=HE.out.len;have a8:Hid (kn=key.length):=ao;have Y7:=aa aw;have Ua:=aa (HG _ ap);have ci:(en:Int)-1=(j:Int):=by omega
 have cj:IntKind.i64.wrap ((en:Int)-1)=(j:Int):=by rw [IntWalk.i64_in _ (by omega)];omega
 have ck:IntKind.i64.wrap (j:Int)=(j:Int):=IntWalk.i64_in _ (by omega);have ch:(0:Int)<=(j:Int):=by omega
 have cq:IntKind.i64.wrap ((P-at_:Nat):Int)=((P-at_:Nat):Int):=IntWalk.i64_in _ (by omega);have cl:j<en:=by omega
 have yD:(j:Int)<(en:Int):=by omega
 have co:(P:Int)-(at_:Int)=((P-at_:Nat):Int):=by omega
 have cp:IntKind.i64.wrap ((P:Int)-(at_:Int))=((P-at_:Nat):Int):=by rw [IntWalk.i64_in _ (by omega)];omega
 have cr:=HB.out.lt;have am:Hid ((Value.slice A n cc).ownBlock≠some z):=aa (fun e=>by have:=(ah HM.own z e).1;omega);have iI:Hid (∀w1,Below w w w1->Calls prog 24 #[.slice Y kn kc] w1 (Dt w1 key)):=aa (fun w1 b9=>eG kc (Y7.below b9) a8 (by omega));have S0:w.drew.cell? ⟨z,3,none⟩=some (.slice A n cc)/\w.drew.cell? z=some (q:Value)/\w.drew.cell? ⟨eb,eo+j*2,none⟩=some (.slice Y kn kc):=⟨(HB.cell 3).trans rfl,(HB.cell 0).trans rfl,aq⟩;clear au an aq cb vg ao aw hk ap hj;conv=>arg 2;whnf
 refine aM (fun w'=>w'.cell? ⟨z,3,none⟩=some (.slice A n cc)/\w'.cell? z=some (q:Value)/\w'.cell? ⟨eb,eo+j*2,none⟩=some (.slice Y kn kc)) 30 (by kernel_rfl) ?_;refine uF 0 (fun _=>S0) ?_;refine uF 1 (fun _=>S0) ?_;refine uF 2 (fun _=>S0) ?_;refine uF 3 (fun _=>S0) ?_;refine uF 5 (fun _=>S0) ?_;refine uF 6 (fun _=>S0) ?_;refine uF 7 (fun _=>S0) ?_;refine uF 8 (fun _=>S0) ?_;refine uF 9 (fun _=>S0) ?_;refine uF 10 (fun _=>S0) ?_;refine uF 13 (fun _=>S0) ?_;refine uF 14 (fun _=>S0) ?_;refine uF 15 (fun _=>S0) ?_;refine uF 16 (fun _=>S0) ?_;refine uF 21 (fun _=>S0) ?_;refine uF 23 (fun _=>S0) ?_;refine uF 24 (fun _=>S0) ?_;refine uT 4 S0 ?_;refine uT 11 S0 ?_;refine uT 17 S0 ?_;refine uF 18 (fun _=>S0) ?_;refine uF 19 (fun _=>S0) ?_;refine mR 12 fun K hK=> ?_;go_simp;go_loud (refine(iI _ (mh.drew)).mono ?_);rintro e w2 ⟨J,jn,jc,rfl,q1,q2,q3,q4,q5⟩;have HJ:Hid (SB w2 (From w) (.slice J jn jc) key):=aa ⟨J,jn,jc,rfl,q1,q2,q3,q4.weak (fun b hb=>hb.1)⟩;have al:Hid (Below w w w2):=aa (mh.drew.trans q5);have S1:w2.cell? ⟨z,3,none⟩=some (.slice A n cc)/\w2.cell? z=some (q:Value)/\w2.cell? ⟨eb,eo+j*2,none⟩=some (.slice Y kn kc):=⟨aj q5 S0.1,aj q5 S0.2.1,aj q5 S0.2.2⟩;have rJ:Hid (w2.cell? q=some (.int .i64 P)):=aa (aj al ba);clear q1 q2 q3 q4 q5
 refine hK.out _ _ (fun _=>S1) ?_;clear hK K;try simp only [aL,aN,aZ,aC]
 refine mR 20 fun K hK=> ?_;go_simp;go_loud (refine(jK (P:Nat) rJ).mono ?_);rintro e w3 ⟨rfl,rfl⟩
 refine hK.out _ _ (fun _=>S1) ?_;clear hK K;try simp only [aL,aN,aZ,aC]
 refine uF 22 (fun _=>S1) ?_;refine uF 25 (fun _=>S1) ?_;refine mR 26 fun K hK=> ?_;go_simp;obtain⟨w3,ae⟩:=gF (w2.alloc (.cells #[.slice J jn jc,.int .i64 at_,.int .i64 ((P-at_:Nat):Int),.int .i64 en] 100));rw [<-ae];have ac:Below w2 w2 w3:=(by rw [ae];exact gV);have ab:Hid (Below w w w3):=aa (al.out.trans (ac.mono al.size));have a7:=aa (HJ.below ac);have tL:Hid (Rd w3 (From w2) 4 (some ⟨w2,0,none⟩) 1 [.slice J jn jc,(at_:Int),.int .i64 ((P-at_:Nat):Int),(en:Int)]):=aa (by rw [ae];exact⟨rfl,fun _=>⟨_,0,rfl,jO,fun k u hk=>by rw [(ak.new w2 _ _).cell];simpa using hk⟩⟩);have Ie:=aa (HM.below ab);have S3:w3.cell? ⟨z,3,none⟩=some (.slice A n cc)/\w3.cell? z=some (q:Value)/\w3.cell? ⟨eb,eo+j*2,none⟩=some (.slice Y kn kc):=⟨aj ac S1.1,aj ac S1.2.1,aj ac S1.2.2⟩;clear ae ac;refine hK.out _ _ (fun _=>S3) ?_;clear hK K;try simp only [aL,aN,aZ,aC]
 refine az (i:=27) (by kernel_rfl) rfl (fun K hK=> ?_);refine aG _ rfl (.tmp 178) (.tmp 200) _ rfl base 100 i0 _ 4 48 underlying97 ca iC iD iE rfl (by omega) (.slice A n cc) n us rfl Ie.own (From w2) (some ⟨w2,0,none⟩) 1 1 _ rfl tL (by intro u hu;simp at hu;rcases hu with rfl|rfl|rfl|rfl<;>rfl) (by simp only [maxLen];omega) (by omega) (ma B ab.size) ?_;intro x w4 di ad gp;obtain⟨K4,IE,ce,_,_⟩:=ax di;subst ce;have jM:=aa di;have IX:=aa ad;have Af:=aa gp;have xO:w4.cell? ⟨z,3,none⟩=some (.slice A n cc):=(ag.of_grown ad).cell am S3.1;have dE:Hid (ak w4 z 140 #[q,v1,v2,.slice A n cc,v4,v5]):=aa ((HB.below ab).chg (ag.of_grown ad) am);have YK:∀o,w4.frozen? ⟨z,o,none⟩=false:=dE.out.frozen;have S4:w4.cell? ⟨z,3,none⟩=some (.slice A n cc)/\w4.cell? z=some (q:Value)/\w4.cell? ⟨eb,eo+j*2,none⟩=some (.slice Y kn kc):=⟨xO,(ag.of_grown ad).cell am S3.2.1,(ag.of_grown ad).cell Ua.2 S3.2.2⟩;clear di ad gp;refine hK.out _ _ (fun _=>S4) ?_;clear hK K;try simp only [aL,aN,aZ,aC]
 refine uF 28 (fun _=>S4) ?_;refine uF 29 (fun _=>S4) ?_;refine az (i:=30) (by kernel_rfl) rfl (fun K hK=> ?_);go_simp;refine hK.out _ _ (fun h=>absurd h (by decide)) ?_;clear hK K;try simp only [aL,aN,aZ,aC]
 refine bH (by kernel_rfl) ?_ _
 have cd:bu w4 base (fun b=>D b\/(w<=b/\b<w4)) (.slice K4 (n+1) IE) (n+1) (l++ [⟨aD es,at_,P-at_,es.length⟩]) _:=Ie.out.snoc (x:=⟨aD es,at_,P-at_,es.length⟩) (u:= .slice J jn jc) IX (by have h9:=jM.out;rw [<-qX.out];exact h9) Af (fun b hb=> .inl hb) (fun b hb=>hb.elim (HM.lo b) (fun h=>ma B h.1)) (fun h=> .inr ⟨ab.size,h⟩) (by rw [a9.out];exact a7.lt.weak (fun b hb=>by
   have h1:w<=b:=hb.1;exact⟨.inr ⟨h1,mU hb.2 (ag.of_grown IX).size⟩,hb.2,fun e=>by have h2:=(ah HM.own b e).2;omega⟩))
 have ar:=(ag.refl (fun b=>b=z) w4).setCell (p:=⟨z,3,none⟩) (fun _=>rfl) (.slice K4 (n+1) IE)
 refine dz _ _ _ _ _ _ _ _ _ _ _ _ _ _ _ _ _ _ _ _ _ _ _ _ _ _ _ _ _ _ K4 IE _ _ ((cd.chg (S:=fun b=>b=z) ar (fun b hb _ e=>by have e:b=z:=e;omega)).wider (fun b hb=>hb.imp id (fun h=>⟨h.1,mU h.2 ar.size⟩)) (fun b hb=>hb.elim (HM.lo b) (fun h=>ma B h.1))) (dE.set_ 3 _) ?_ (fun g hg=>by
  rcases Af.out with h|h
  ·exact .inl (h▸hg)
  ·rw [h] at hg;injection hg with hg;have h2:=ab.out.size;exact .inr (by omega))
 exact((ag.of_below ab).trans (T:=fun b=>(Value.slice A n cc).ownBlock=some b) (ag.of_grown IX) (fun b _ e=> .inr e)).setCell (p:=⟨z,3,none⟩) (fun _=> .inl rfl) _
theorem ru {prev b:List UInt8} (c:p<=b.length):(pread prev b p).next<=b.length:=by
 have d:=(gz b p c).2;have e:=(gz b _ d).2;have k:=(gz b _ e).2
 by_cases a:(pread prev b p).err=0
 ·exact(kY c a).next
 ·unfold pread at a|-
  split
  ·exact d
  ·rename_i k1;rw [if_neg k1] at a
   split
   ·exact e
   ·rename_i k2;rw [if_neg k2] at a
    split
    ·exact k
    ·rename_i l;rw [if_neg l] at a;unfold bZ at a|-;repeat' split
     all_goals first
      |exact c
      |exact jO
      |(rename_i f g h i j;exact absurd (by rw [if_neg f,if_neg g,if_neg h,if_neg i,if_neg j]) a)
theorem qd (b:List UInt8):∀(m:Nat) (l:List aR) (ats:List Nat) (p:Nat),p<=b.length->(bO b m l ats p).place<=b.length
 |0,l,ats,p,a=>Nat.zero_le _
 |m+1,l,ats,p,a=>by
  unfold bO
  split
  ·exact ru a
  ·rename_i c
   split
   ·exact a
   ·exact qd b m _ _ _ (ru a)
theorem MI:∀(l:List Nat),(l.flatMap two).length=2*l.length
 | []=>rfl
 |a::l=>by rw [List.flatMap_cons,mq,MI l,List.length_cons];simp [two];omega
theorem qc (b:List UInt8):(aH b).2.2<=b.length+128:=by
 have hv:=(gz b 0 (Nat.zero_le _)).2;unfold aH
 split
 ·exact ma hv (Nat.le_add_right _ _)
 ·split
  ·exact Nat.zero_le _
  ·rename_i f;have a:=uP b (ai b 0).1 [] [] (ai b 0).2.1 hv gQ rfl
   split
   ·exact ma (qd b _ _ _ _ hv) (Nat.le_add_right _ _)
   ·rename_i g
    split
    ·rename_i h;have d:=a.le
     have i:((eighth (bO b (ai b 0).1 [] [] (ai b 0).2.1).ats).flatMap two).length<=128:=by
      have j:=oo (bO b (ai b 0).1 [] [] (ai b 0).2.1).ats _ jO;have k:=a.ats;have e:=a.most;rw [MI];simp only [List.length_nil] at e;omega
     show(bO b (ai b 0).1 [] [] (ai b 0).2.1).at_+stand b _ _<=_;have c:=tC b ((eighth (bO b (ai b 0).1 [] [] (ai b 0).2.1).ats).flatMap two) (bO b (ai b 0).1 [] [] (ai b 0).2.1).at_
     omega
    ·split
     ·rename_i d;show(bO b (ai b 0).1 [] [] (ai b 0).2.1).at_+_<=_
      omega
     ·exact Nat.zero_le _
end Go.Proofs.YtepgcjbhabnciaaGreat
