/- Part 25. -/
import Derived.Test.YtepgcjbhabnciaaGreatLp24
namespace Go.Proofs.YtepgcjbhabnciaaGreat
set_option maxRecDepth 100000
set_option maxHeartbeats 8000000
open Go.Proofs.Tryz Go.RowKit
open Go.Lib (compareBytes)
variable {v u1 u4 u5 u6 u7 u8 u9 bX bQ O bP bT U u16 bF bG I u20 u21 V u23 u24 u25 u26 u27 u28 u29 u30 u31 u32 u33 u34 u35 u36 u37 u38 dm u40 dw u42 dx u44 u45 u46 dG u48 u49 dI u51 dP u53 dR u55 dY dZ u58 u59 u60 fw fJ u63 u64 gm u66 gH u68 u69 u70 iM u72 u73 iN u75 iV jY jZ j6 kg kG kP kQ kR ko kU ng mI mJ c pu rX u93 vw vz vC vE sQ sS jg jh ji jU kD u105 lG lH lI lJ lK lL lM lN lQ lS D nG nH u119 nI nJ nK nM u124 nN nO u127 ui uj uk u131 um uo uq ut uu uw u138 u139 uy uz uB uC uD uE uG uH uI uJ uK uL u152 uM u154 Q AV AY s d X u162 Bh u164 Bi Bj Bl H Bp Bq T E D9 Ea J Ec Ed Ee Ef Eg Eh u G C W En Eo Ep Es Et Eu u193 u194 Ev u196 f u198 m Ey u201 Ez EA Z KJ cW KL cX KM cY KN KO KP KQ KR KS KT KU KV KW KX KY KZ K6 K8 K9 Lb OX OY OZ O0 O1 O3 c2 O4 c3 O5 Wn Wo Wp Wq Ws Wt Wu Wv Ww Wx Wy Wz WA WB WC WE WF WG WH WI WJ WK WL WM WN WO WP WQ WR WS WT WU WV WW WX WY WZ W9 Xa Xb Xc Xe Xf Xg Xh Xi Xj Xk Xl Xm Xn Xo Xp Xq Xr Xt Xv Xw Xx Xy Xz XA XB dy dz dA dF dK dN dT d2 d3 d4 d5 d6 d7 d8 ea ee ef eg eh ei ej el em ep et ev ew ex ey XC:Value} {z q p B base n K cc:Nat} {w w' w1 w2 P:World} {F Dr:Nat->Prop} {r r1:dM} {us:List Value} {A:Option Addr}
def Cz (z q p B:Nat):Nat->Prop:=fun b=>b=z\/Cs q p B b
theorem R4 (h:ag (Cs q p B) w w'):ag (Cz z q p B) w w':=h.mono (fun _ _ a=> .inr a)
theorem oM (h:ag (Cz z q p w) w w1) (k:ag (Cs q p w1) w1 w2):ag (Cz z q p w) w w2:=
 h.trans k (fun b _ e=>by
  rcases e with e|e|e
  ·exact .inr (.inl e)
  ·exact .inr (.inr (.inl e))
  ·exact .inr (.inr (.inr (ma h.size e))))
theorem qa (h:ag (Cz z q p w) w w1) (k:Below w1 w1 w2):ag (Cz z q p w) w w2:=h.then k
theorem Ig (h:ag (Cz z q p B) w w'):ag (Fs z q p B v) w w':=h.mono (fun b _ a=>by
 rcases a with a|a|a|a
 ·exact .inl a
 ·exact .inr (.inl a)
 ·exact .inr (.inr (.inl a))
 ·exact .inr (.inr (.inr (.inr a))))
theorem bu.cz {l:List Row} (h:bu w base Dr v n l us) (a:Sit F q p base) (i:z<base) (f:w<=B) (hc:ag (Cz z q p B) w w'):bu w' base Dr v n l us:=
 h.chg hc (fun b g hl e=>by
  have c:=a.pB;have d:=a.qB
  rcases e with e|e|e|e
  ·omega
  ·omega
  ·omega
  ·omega)
structure qy (F:Nat->Prop) (z q p base:Nat) (Dr:Nat->Prop) (A:Option Addr) (n cc:Nat) (us:List Value) (o:Option (List aR)) (r:dM) (w:World) (e:Ending) (w':World):Prop where
 chg:ag (Fs z q p w (.slice A n cc)) w w'
 no:o=none->e= .returned (.tuple #[(),false])/\bu w' base Dr (.slice A n cc) n r.rows us/\
  (∃v1,ak w' z 103 #[q,v1,true,(r.err:Int),(r.bad:Int),.slice A n cc,()])/\eP w' F p r.cur.src
 yes:∀es,o=some es->∃eA en ec A' n' kz jJ,e= .returned (.tuple #[.slice eA en ec,true])/\en<=ec/\ec<=maxLen/\dh w' (fun b=>w<=b/\b<w'/\(Value.slice A' n' kz).ownBlock≠some b) eA en es/\
  bu w' base (fun b=>Dr b\/(w<=b/\b<w')) (.slice A' n' kz) n' r.rows jJ/\fV w' F q p r.cur/\
  ak w' z 103 #[q,true,false,(r.err:Int),(r.bad:Int),.slice A' n' kz,()]/\(∀g,(Value.slice A' n' kz).ownBlock=some g->(Value.slice A n cc).ownBlock=some g\/w<=g)
noncomputable def S9:Code:=aQ (f35.body.bind (aF 14))
noncomputable def TQ:Code:=aQ (f35.body.bind (jR 15))
theorem xm {R:Ending->World->Prop} {l:Value} (KK:Act->World->Prop)
  (HR:Hid (R=qy F z q p base Dr A n cc us r.next.1 r.next.2 w)) (HS:Hid (Sit F q p base)) (HZ:Hid (Zs z q p base)) (HM:Hid (bu w base Dr (.slice A n cc) n r.rows us)) (dW:Hid (base<=w)) (AQ:Hid (¬F z)) (HX:Hid (r.next=r1.frame)) (cx:Hid (r1.rows=r.rows)) (zK:Hid (r1.Ok K)) (Ih:Hid (r1.st=1)) (jo:Hid (ag (Cz z q p w) w P))
  (co:Hid (ak P z 103 #[q,true,false,(r1.err:Int),(r1.bad:Int),.slice A n cc,()])) (cq:Hid (fV P F q p r1.cur)) (hK:K<=1152921504606846976)
  (YF:∀a w,Code.wp prog TQ (bodyPost prog f35 R) a w->KK a w):
  Code.wp prog S9 (Exit.then KK (bodyPost prog f35 R)) ⟨(.pointer (some ⟨z,0,none⟩)::u1:: .slice none 0 0:: .bool false::u4::u5::u6::u7::u8::u9::bX::bQ::O::bP::bT::U::u16::bF::bG::I::u20::u21::V::u23::u24::u25::u26::u27::u28::u29::u30::u31::u32::u33::u34::u35::u36::u37::u38::dm::u40::dw::u42::dx::u44::u45::u46::dG::u48::u49::dI::u51::dP::u53::dR::u55::dY::dZ::u58::u59::u60::fw::fJ::u63::u64::gm::u66::gH::u68::u69::u70::iM::u72::u73::iN::u75::iV::jY::jZ::j6::kg::kG::kP::kQ::kR::ko::kU::ng::mI::mJ::c::pu::rX::u93::vw::vz::vC::vE::sQ::sS::jg::jh::ji::jU::kD::u105::lG::lH::lI::lJ::lK::lL::lM::lN::lQ::lS::D::nG::nH::u119::nI::nJ::nK::nM::u124::nN::nO::u127::ui::uj::uk::u131::um::uo::uq::ut::uu::uw::u138::u139::uy::uz::uB::uC::uD::uE::uG::uH::uI::uJ::uK::uL::u152::uM::u154::Q::AV::l::AY::s::d::X::u162::Bh::u164::Bi::Bj::Bl::v::H::Bp::Bq::T::E::D9::Ea::J::Ec::Ed::Ee::Ef::Eg::Eh::u::G::C::W::En::Eo::Ep::Es::Et::Eu::u193::u194::Ev::u196::f::u198::m::Ey::u201::Ez::EA::Z::KJ::cW::KL::cX::KM::cY::KN::KO::KP::KQ::KR::KS::KT::KU::KV::KW::KX::KY::KZ::K6::K8::K9::Lb::OX::OY::OZ::O0::O1::O3::c2::O4::c3::O5::Wn::Wo::Wp::Wq::Ws::Wt::Wu::Wv::Ww::Wx::Wy::Wz::WA::WB::WC::WE::WF::WG::WH::WI::WJ::WK::WL::WM::WN::WO::WP::WQ::WR::WS::WT::WU::WV::WW::WX::WY::WZ::W9::Xa::Xb::Xc::Xe::Xf::Xg::Xh::Xi::Xj::Xk::Xl::Xm::Xn::Xo::Xp::Xq::Xr::Xt::Xv::Xw::Xx::Xy::Xz::XA::XB::dy::dz::dA::dF::dK::dN::dT::d2::d3::d4::d5::d6::d7::d8::ea::ee::ef::eg::eh::ei::ej::el::em::ep::et::ev::ew::ex::ey::XC:: []).toArray,[]⟩ P:=by
 conv=>arg 2;whnf
 obtain⟨L,hL⟩:=gF (r1.cur.bytes 1);obtain⟨kd,cf⟩:=gF (L.1.headD 0);obtain⟨at_,bo⟩:=gF r1.cur.at_;have a0:=zK.out.cur (by rw [Ih.out];decide);have cL:=zK.out.held (by rw [Ih.out];decide);have JO:Hid (r.next=if L.2.1≠0 then(none,r1.fail L.2.2 L.2.1 at_) else if kd=70 then(none,r1.footR L.2.2 at_) else if kd≠66 then(none,r1.fail L.2.2 82 at_) else r1.block L.2.2 at_):=aa (by rw [HX.out];subst bo;subst cf;subst hL;rfl);have Au:=aa hL;have de:=aa cf;have Al:Hid (L.2.2.Ok K/\L.2.2.held=none/\(L.2.1=0->L.2.2.at_=at_+1)):=aa ⟨by rw [hL];exact ay.bytes_ok a0 1,by rw [hL];exact ay.bytes_held a0 1 cL,by rw [hL,bo];exact ay.bytes_step a0 1⟩;have db:Hid (at_<=1152921504606):=aa (by have:=a0.sum;omega)
 have ab:Hid (∀(cu:ay) (e:Int) (a:Nat) (wk:World) (en:Ending) (w':World) (v1:Value),eP wk F p cu.src->r.next=(none,r1.fail cu e a)->ag (Cz z q p w) w wk->D8 z q v1 (.slice A n cc) () e a wk en w'->qy F z q p base Dr A n cc us r.next.1 r.next.2 w en w'):=aa (fun cu e a wk en w' v1 fX hx hc hf=>by
  rw [hx];refine⟨(Ig hc).trans hf.2.2 (fun b _ e=> .inl e),fun _=>⟨hf.1,?_,⟨_,hf.2.1⟩,fX.own hf.2.2 HZ.zp AQ⟩,fun es h=>by cases h⟩;have cS:=(HM.out.cz HS HZ.lt jO hc).chg hf.2.2 (fun b hb _ e=>by have e:b=z:=e;have:=HZ.out.lt;omega);rw [<-cx.out] at cS;exact cS)
 have f8:n<=cc:=by
  obtain⟨_,_,hv,h8,_⟩:=ax HM.own;injection hv with _ h9 aE;omega
 have cr:Hid (bu P base Dr (.slice A n cc) n r1.rows us):=aa (by rw [cx.out];exact HM.cz HS HZ.lt jO jo);have cg:n=r1.rows.length:=cr.out.len;have Cb:=aa cg;have X9:n<=8388608:=by rw [cg];exact zK.rows.many
 have cT:w.heap.size<=P:=jo.out.size;have f1:P.cell? z=some (q:Value):=co.out.cell 0;have fH:P.cell? ⟨q,2,none⟩=some (.int .i64 at_):=(cq.out.blk.cell 2).trans (by rw [bo];rfl);have rQ:=aa (CS (HS.up (ma dW cT)) cq a0 hK);clear hL cf bo a0 cL cg;go_wp2;conv=>arg 2;whnf
 go_upto_region 16 with(go_at_call 62;go_loud (refine rQ.mono ?_);rintro e w2 ⟨rfl,hI,hC⟩;rw [<-Au.out] at hI|-;rw [<-de.out];have a4:=aa hI;have bz:=aa (oM jo hC);have TB:=aa hC;clear hI hC)
 have ci:w.heap.size<=w2:=bz.out.size;have am:=aa (co.chg TB (HZ.up (ma dW cT)).no);have tQ:=aa (cr.cs HS jO TB);obtain⟨e1,cM⟩:=gF L.2.1;rw [<-cM] at JO Al|-;clear cM f1 fH
 by_cases h1:e1=0
 ·subst h1;obtain⟨N,hN⟩:=gF L.2.2.number;have TC:=ay.number_ok Al.1;have TD:=ay.number_step Al.1 Al.2.1;rw [<-hN] at TC TD;have oQ:=aa TC;have Aj:=aa TD;have TE:=aa hN;have cU:w2.cell? z=some (q:Value):=am.out.cell 0;have Tk:w2.cell? ⟨z,5,none⟩=some (.slice A n cc):=am.out.cell 5;have cJ:w2.cell? ⟨q,2,none⟩=some (.int .i64 L.2.2.at_):=a4.out.blk.cell 2;have ct:=aa (Hu (HS.up (ma dW ci)) a4 Al.1 hK);clear TC TD hN
  by_cases PY:kd=70
  ·have XD:=aa PY;subst PY;obtain⟨fb,Uk⟩:=gF (aJ r1.rows);obtain⟨LL,ap⟩:=gF (N.2.2.bytes fb.length);obtain⟨MM,aq⟩:=gF (LL.2.2.bytes 4);obtain⟨Y,hY⟩:=gF (r1.footR L.2.2 at_);have HF:Hid (r.next=(none,Y)):=aa (by rw [JO.out,if_neg (by simp),if_pos XD.out,hY])
   have HY:Hid (Y=if N.2.1≠0 then r1.fail N.2.2 N.2.1 L.2.2.at_ else if N.1≠fb.length then r1.fail N.2.2 84 L.2.2.at_ else if LL.2.1≠0 then r1.fail LL.2.2 LL.2.1 N.2.2.at_ else if MM.2.1≠0 then r1.fail MM.2.2 MM.2.1 LL.2.2.at_
    else if MM.1≠four (bg LL.1) then r1.fail MM.2.2 22 LL.2.2.at_ else r1.rest MM.2.2 LL.1 fb N.2.2.at_ at_):=aa (by rw [hY,dM.footR_eq,aq,ap,Uk,TE.out])
   have dc:=aa Uk;have TF:=aa ap;have zL:=aa aq
   have cv:Hid (∀x∈r1.rows,x.at_<=1152921504606):=aa (fun x hx=>by
    obtain⟨i,hi,f0⟩:=List.mem_iff_getElem.mp hx;have h9:=zM zK.rows i x (by rw [mP hi,f0]);have aE:=zK.out.one Ih;have gh:=(zK.out.cur (by rw [Ih.out];decide)).sum;omega)
   have jE:=aa (zN (zK.rows.few cv));rw [<-Uk] at jE;clear Uk ap aq hY JO;go_upto_region 24 with(go_at_call 63;go_loud (refine ct.mono ?_);rintro e w3 ⟨rfl,hI,hC⟩;rw [<-TE.out] at hI|-;have ad:=aa hI;have fu:=aa (oM bz hC);have zO:=aa hC;clear hI hC)
   have ae:w.heap.size<=w3:=fu.out.size;have ac:=aa (am.chg zO (HZ.up (ma dW ci)).no);have Ie:=aa (tQ.cs HS jO zO);obtain⟨e2,au⟩:=gF N.2.1;obtain⟨n1,a2⟩:=gF N.1;rw [<-au] at oQ Aj;rw [<-au,<-a2] at HY|-;clear cU Tk cJ au a2
   by_cases h2:e2=0
   ·subst h2;have Ze:=aa (yH (F:=(fun b=>base<=b/\b<w3)) cc Ie.sps zK.rows cv (fun b hb=>hb.2));have di:w3.cell? ⟨z,5,none⟩=some (.slice A n cc):=ac.out.cell 5;go_upto_region 29 with(go_at_call 64;go_loud (refine Ze.mono ?_);rintro e XE ⟨vB,rfl,hO,hB⟩;rw [<-dc.out] at hO;have HO:=aa hO;have XF:=aa hB;clear hO hB)
    obtain⟨fA,fn,fc,rfl,_,_,cN,fM⟩:=HO.out.sb;have Co:Hid (fn=fb.length):=aa cN;have dj:Hid (fV XE F q p N.2.2):=aa (ad.chg (S:=Nil) (ag.of_below XF) (fun h=>h) (fun h=>h) (fun _ _ h=>h));have dk:=aa (ac.below XF);have dl:=aa (Ie.below XF);have dn:=aa (qa fu XF);have dg:=aa HO;have cP:IntKind.u64.wrap (fn:Int)=(fn:Int):=IntWalk.u64_in _ (by have h9:=jE.out;rw [<-Co.out] at h9;omega);have cQ:IntKind.i64.wrap (fn:Int)=(fn:Int):=IntWalk.i64_in _ (by have h9:=jE.out;rw [<-Co.out] at h9;omega);have dp:=fu;clear ac Ie ad fu ae di cN fM;have ac:=dk;have Ie:=dl;have ad:=dj;have fu:=dn;have ae:w.heap.size<=XE:=fu.out.size
    by_cases cH:n1=fn
    ·subst cH;have zP:Hid (LL=N.2.2.bytes n1):=aa (by rw [Co.out];exact TF);have L8:Hid (¬n1≠fb.length):=aa (fun h=>h Co);have fN:1<=n1:=by have h9:=jE.out;rw [<-Co.out] at h9;omega
     have fR:n1<=872415300:=by have h9:=jE.out;rw [<-Co.out] at h9;omega
     have qW:Hid (∀wx,ag (Cs q p XE) XE wx->Rd wx (fun b=>b<wx) 1 fA n1 (aI fb)):=aa (fun wx hx=>((Ii (q:=q) (p:=p) dg (HS.up (ma dW dp.size)) hx).sb.parts.2.2.2.lt (by omega)).weak (fun b hb=>hb.2));clear cQ cP;have cP:IntKind.u64.wrap (n1:Int)=(n1:Int):=IntWalk.u64_in _ (by omega);have ck:XE.cell? z=some (q:Value):=ac.out.cell 0;have ca:XE.cell? ⟨q,2,none⟩=some (.int .i64 N.2.2.at_):=ad.out.blk.cell 2;have fY:IntKind.i64.wrap (n1:Int)=(n1:Int):=IntWalk.i64_in _ (by omega);have rQ:=aa (gY n1 (HS.up (ma dW ae)) ad oQ.1 hK (by omega) (by omega));have pE:Hid (LL.2.2.Ok K/\LL.2.2.held=none/\(LL.2.1=0->LL.1.length=n1)/\(LL.2.1=0->LL.2.2.at_=N.2.2.at_+n1)):=aa ⟨by rw [zP.out];exact ay.bytes_ok oQ.1 n1,by rw [zP.out];exact ay.bytes_held oQ.1 n1 Aj.1,by rw [zP.out];exact ay.bytes_len oQ.1 n1 (by omega),by rw [zP.out];exact ay.bytes_step oQ.1 n1⟩;go_upto_region 35 with(go_at_call 59;go_loud (refine rQ.mono ?_);rintro e w4 ⟨vL,rfl,hO,hI,hC⟩;rw [<-zP.out] at hO hI|-;have jM:=aa hO;have an:=aa hI;have gK:=aa (oM fu hC);have wL:=aa hC;clear hO hI hC)
     have be:w.heap.size<=w4:=gK.out.size;have dE:=aa (ac.chg wL (HZ.up (ma dW ae)).no);have mH:=aa (Ie.cs HS jO wL);obtain⟨eL,a7⟩:=gF LL.2.1;rw [<-a7] at HY jM pE|-;clear a7 ck ca
     by_cases h3:eL=0
     ·subst h3;obtain⟨bA,bn,bc,rfl,cI,_,ar,b9⟩:=(jM.out rfl).sb;have b8:bn=n1:=by rw [ar];exact pE.2.2.1 rfl
      subst b8;have b2:=aa (jM rfl);have lD:Hid (bn=LL.1.length):=aa ar;have cl:w4.cell? z=some (q:Value):=dE.out.cell 0;have cb:w4.cell? ⟨q,2,none⟩=some (.int .i64 LL.2.2.at_):=an.out.blk.cell 2;have b3:=aa (gY 4 (HS.up (ma dW be)) an pE.1 hK (by omega) (by omega));have NY:Hid (MM.2.2.Ok K/\MM.2.2.held=none/\(MM.2.1=0->MM.1.length=4)/\(MM.2.1=0->MM.2.2.at_=LL.2.2.at_+4)):=aa ⟨by rw [zL.out];exact ay.bytes_ok pE.1 4,by rw [zL.out];exact ay.bytes_held pE.1 4 pE.2.1,by rw [zL.out];exact ay.bytes_len pE.1 4 (by omega),by rw [zL.out];exact ay.bytes_step pE.1 4⟩;clear ar b9;go_upto_region 39 with(go_at_call 59;go_loud (refine b3.mono ?_);rintro e w5 ⟨vM,rfl,hO,hI,hC⟩;rw [<-zL.out] at hO hI|-;have pq:=aa hO;have AR:=aa hI;have ed:=aa (oM gK hC);have Ij:=aa hC;clear hO hI hC)
      have fW:w.heap.size<=w5:=ed.out.size;have eF:=aa (dE.chg Ij (HZ.up (ma dW be)).no);have yO:=aa (mH.cs HS jO Ij);have b4:=aa (Ii b2 (HS.up (ma dW ae)) Ij);obtain⟨eM,a8⟩:=gF MM.2.1;rw [<-a8] at HY pq NY|-;clear a8 cl cb
      by_cases h4:eM=0
      ·subst h4;obtain⟨sA,sn,sc,rfl,_,_,aw,AF⟩:=(pq.out rfl).sb;have b0:Hid (sn=MM.1.length):=aa aw;have b5:sn<=64:=by rw [aw,NY.out.2.2.1 rfl];decide
       have b1:Hid (Rd w5 (fun b=>b<w5) 1 sA sn (aI MM.1)):=aa ((AF.lt (by omega)).weak (fun b hb=>hb.2));have lC:Hid (Rd w5 (fun b=>b<w5) 1 bA bn (aI LL.1)):=aa ((b4.sb.parts.2.2.2.lt (by omega)).weak (fun b hb=>hb.2));clear aw AF;go_upto_region 41 with fail
       refine Ib bc sc (aa (fun _ _ _ _ h=>h)) lC lD (by omega) b1 b0 b5 ?_;intro c4 c5 ds dt c6 c7 c8 du c9 rb w6 ba iO;have MC:=aa iO;have EO:=aa ba;have My:Hid (fV w6 F q p MM.2.2):=aa (AR.chg (S:=Nil) (ag.of_below iO) (fun h=>h) (fun h=>h) (fun _ _ h=>h));have gG:=aa (eF.below iO);have EV:=aa (yO.below iO);have eY:=aa (qa ed iO);have b6:=aa (lC.below iO);have bh:w.heap.size<=w6:=eY.out.size;have cy:w5.heap.size<=w6:=iO.size;clear ba iO
       cases rb with
       |true=>
        have iq:Hid (MM.1≠four (bg LL.1)):=aa (fun e=>by have h9:=EO.out;rw [e] at h9;simp at h9);go_wp2_with (go_at_call 60;go_loud (refine(bi 22 (LL.2.2.at_:Nat) gG).mono ?_);rintro e9 w9 ⟨rfl,cK,cO⟩;have fC:=aa cK;have fD:=aa cO;clear cK cO);rw [HR.out]
        exact ab MM.2.2 22 (LL.2.2.at_:Nat) w6 _ w9 _ My.src (by rw [HF.out,HY.out,if_neg (by simp),if_neg L8.out,if_neg (by simp),if_neg (by simp),if_pos iq.out]) eY ⟨rfl,fC,fD⟩
       |false=>
        have iq:Hid (¬MM.1≠four (bg LL.1)):=aa (fun h=>by have h9:=EO.out;simp at h9;exact h h9.symm);have Yi:=aa (OW (fun b=>b<w5) (fun b=>b<w6) at_ N.2.2.at_ bc fc (HS.up (ma dW bh)) (HZ.up (ma dW bh)) AQ gG b6 (qW w6 (p9 (kL wL Ij) MC)) lD Co (by omega) (by have h9:=oQ.out.1.sum;omega) My NY.1 hK (by have h9:=db.out;omega));go_wp2_with (go_at_call 66;go_loud (refine Yi.mono ?_);rintro e w7 ⟨PY,rfl,NV,cG⟩;have dq:=aa PY;have dr:=aa NV;have cA:=aa cG;clear PY NV cG);rw [HR.out,HF.out,HY.out,if_neg (by simp),if_neg L8.out,if_neg (by simp),if_neg (by simp),if_neg iq.out]
        refine⟨(Ig eY).trans cA (fun b hb e=>by
         rcases e with e|e|e|e
         ·exact .inl e
         ·exact .inr (.inl e)
         ·exact .inr (.inr (.inl e))
         ·exact .inr (.inr (.inr (.inr (ma eY.size e))))),fun _=>⟨rfl,?_,⟨_,dr⟩,dq⟩,fun es h=>by cases h⟩
        show bu w7 base Dr _ n (r1.rest MM.2.2 LL.1 fb N.2.2.at_ at_).rows us;rw [O6]
        exact EV.cz HS HZ.lt jO cA
      ·have fz:(eM==0)=false:=by rw [mi];exact h4
       have H4:=aa h4;go_wp2_with (go_at_call 60;go_loud (refine(bi eM (LL.2.2.at_:Nat) eF).mono ?_);rintro e9 w9 ⟨rfl,cK,cO⟩;have fC:=aa cK;have fD:=aa cO;clear cK cO);rw [HR.out]
       exact ab MM.2.2 eM (LL.2.2.at_:Nat) w5 _ w9 _ AR.src (by rw [HF.out,HY.out,if_neg (by simp),if_neg L8.out,if_neg (by simp),if_pos H4.out]) ed ⟨rfl,fC,fD⟩
     ·have fy:(eL==0)=false:=by rw [mi];exact h3
      have H3:=aa h3;go_wp2_with (go_at_call 60;go_loud (refine(bi eL (N.2.2.at_:Nat) dE).mono ?_);rintro e9 w9 ⟨rfl,cK,cO⟩;have fC:=aa cK;have fD:=aa cO;clear cK cO);rw [HR.out]
      exact ab LL.2.2 eL (N.2.2.at_:Nat) w4 _ w9 _ an.src (by rw [HF.out,HY.out,if_neg (by simp),if_neg L8.out,if_pos H3.out]) gK ⟨rfl,fC,fD⟩
    ·have f4:((n1:Int)==(fn:Int))=false:=by rw [mi];omega
     have f3:¬((n1:Int)=(fn:Int)):=by omega
     have da:Hid (n1≠fb.length):=aa (by rw [<-Co.out];exact cH);go_wp2_with (go_at_call 60;go_loud (refine(bi 84 (L.2.2.at_:Nat) ac).mono ?_);rintro e9 w9 ⟨rfl,cK,cO⟩;have fC:=aa cK;have fD:=aa cO;clear cK cO);rw [HR.out]
     exact ab N.2.2 84 (L.2.2.at_:Nat) XE _ w9 _ ad.src (by rw [HF.out,HY.out,if_neg (by simp),if_pos da.out]) fu ⟨rfl,fC,fD⟩
   ·have fv:(e2==0)=false:=by rw [mi];exact h2
    have H2:=aa h2;go_wp2_with (go_at_call 60;go_loud (refine(bi e2 (L.2.2.at_:Nat) ac).mono ?_);rintro e9 w9 ⟨rfl,cK,cO⟩;have fC:=aa cK;have fD:=aa cO;clear cK cO);rw [HR.out]
    exact ab N.2.2 e2 (L.2.2.at_:Nat) w3 _ w9 _ ad.src (by rw [HF.out,HY.out,if_pos H2.out]) fu ⟨rfl,fC,fD⟩
  ·have XG:¬((kd.toNat:Int)=70):=fun e=>PY (UInt8.toNat_inj.mp (by rw [show(70:UInt8).toNat=70 from rfl];omega));have f9:((kd.toNat:Int)==70)=false:=by rw [mi];exact XG
   have XD:=aa PY
   by_cases XH:kd=66
   ·have bE:=aa XH;subst XH;obtain⟨LL,ap⟩:=gF (N.2.2.bytes N.1);obtain⟨MM,aq⟩:=gF (LL.2.2.bytes 4)
    have HF:Hid (r.next=if n=8388608 then(none,r1.fail L.2.2 71 at_) else if N.2.1≠0 then(none,r1.fail N.2.2 N.2.1 L.2.2.at_) else if N.1<1\/65535<N.1 then(none,r1.fail N.2.2 83 L.2.2.at_) else if LL.2.1≠0 then(none,r1.fail LL.2.2 LL.2.1 N.2.2.at_) else if MM.2.1≠0 then(none,r1.fail MM.2.2 MM.2.1 LL.2.2.at_)
     else if MM.1≠four (bg LL.1) then(none,r1.fail MM.2.2 22 LL.2.2.at_) else r1.bodyB MM.2.2 LL.1 N.2.2.at_ at_):=aa (by rw [JO.out,if_neg (by simp),if_neg XD.out,if_neg (fun h=>h bE.out),dM.block_eq,aq,ap,TE.out,Cb.out])
    have TF:=aa ap;have zL:=aa aq;clear ap aq JO
    by_cases NV:n=8388608
    ·have vQ:=aa NV;have fm:((n:Int)==8388608)=true:=by rw [NV];rfl
     go_wp2_with (go_at_call 60;go_loud (refine(bi 71 (at_:Nat) am).mono ?_);rintro e9 w9 ⟨rfl,cK,cO⟩;have fC:=aa cK;have fD:=aa cO;clear cK cO)
     rw [HR.out]
     exact ab L.2.2 71 (at_:Nat) w2 _ w9 _ a4.src (by rw [HF.out,if_pos vQ.out]) bz ⟨rfl,fC,fD⟩
    ·have vQ:=aa NV;have fm:((n:Int)==8388608)=false:=by rw [mi];omega
     have ga:¬((n:Int)=8388608):=by omega
     go_upto_region 24 with(go_at_call 63;go_loud (refine ct.mono ?_);rintro e w3 ⟨rfl,hI,hC⟩;rw [<-TE.out] at hI|-;have ad:=aa hI;have fu:=aa (oM bz hC);have zO:=aa hC;clear hI hC)
     have ae:w.heap.size<=w3:=fu.out.size;have ac:=aa (am.chg zO (HZ.up (ma dW ci)).no);have Ie:=aa (tQ.cs HS jO zO);obtain⟨e2,au⟩:=gF N.2.1;obtain⟨n1,a2⟩:=gF N.1;rw [<-au] at oQ Aj;rw [<-au,<-a2] at HF|-;have Ca:=aa a2;clear cU Tk cJ au a2
     by_cases h2:e2=0
     ·subst h2
      by_cases TG:n1<1\/65535<n1
      ·have EB:=aa TG
       by_cases f2:n1<1
       ·have TH:decide ((n1:Int)<1)=true:=decide_eq_true (by omega);have TI:(n1:Int)<1:=by omega
        clear TG;go_wp2_with (go_at_call 60;go_loud (refine(bi 83 (L.2.2.at_:Nat) ac).mono ?_);rintro e9 w9 ⟨rfl,cK,cO⟩;have fC:=aa cK;have fD:=aa cO;clear cK cO);rw [HR.out]
        exact ab N.2.2 83 (L.2.2.at_:Nat) w3 _ w9 _ ad.src (by rw [HF.out,if_neg vQ.out,if_neg (by simp),if_pos EB.out]) fu ⟨rfl,fC,fD⟩
       ·have TH:¬((n1:Int)<1):=by omega
        have TI:(65535:Int)<(n1:Int):=by omega
        clear TG;go_wp2_with (go_at_call 60;go_loud (refine(bi 83 (L.2.2.at_:Nat) ac).mono ?_);rintro e9 w9 ⟨rfl,cK,cO⟩;have fC:=aa cK;have fD:=aa cO;clear cK cO);rw [HR.out]
        exact ab N.2.2 83 (L.2.2.at_:Nat) w3 _ w9 _ ad.src (by rw [HF.out,if_neg vQ.out,if_neg (by simp),if_pos EB.out]) fu ⟨rfl,fC,fD⟩
      ·have EB:=aa TG;have TH:¬((n1:Int)<1):=by omega
       have TI:¬((65535:Int)<(n1:Int)):=by omega
       have zP:Hid (LL=N.2.2.bytes n1):=aa (by rw [Ca.out];exact TF);have fN:1<=n1:=by omega
       have fR:n1<=65535:=by omega
       clear TG;have ck:w3.cell? z=some (q:Value):=ac.out.cell 0;have ca:w3.cell? ⟨q,2,none⟩=some (.int .i64 N.2.2.at_):=ad.out.blk.cell 2;have fY:IntKind.i64.wrap (n1:Int)=(n1:Int):=IntWalk.i64_in _ (by omega);have rQ:=aa (gY n1 (HS.up (ma dW ae)) ad oQ.1 hK (by omega) (by omega));have pE:Hid (LL.2.2.Ok K/\LL.2.2.held=none/\(LL.2.1=0->LL.1.length=n1)/\(LL.2.1=0->LL.2.2.at_=N.2.2.at_+n1)):=aa ⟨by rw [zP.out];exact ay.bytes_ok oQ.1 n1,by rw [zP.out];exact ay.bytes_held oQ.1 n1 Aj.1,by rw [zP.out];exact ay.bytes_len oQ.1 n1 (by omega),by rw [zP.out];exact ay.bytes_step oQ.1 n1⟩;go_upto_region 35 with(go_at_call 59;go_loud (refine rQ.mono ?_);rintro e w4 ⟨vL,rfl,hO,hI,hC⟩;rw [<-zP.out] at hO hI|-;have jM:=aa hO;have an:=aa hI;have gK:=aa (oM fu hC);have wL:=aa hC;clear hO hI hC)
       have be:w.heap.size<=w4:=gK.out.size;have dE:=aa (ac.chg wL (HZ.up (ma dW ae)).no);have mH:=aa (Ie.cs HS jO wL);obtain⟨eL,a7⟩:=gF LL.2.1;rw [<-a7] at HF jM pE|-;clear a7 ck ca
       by_cases h3:eL=0
       ·subst h3;obtain⟨bA,bn,bc,rfl,cI,_,ar,b9⟩:=(jM.out rfl).sb;have b8:bn=n1:=by rw [ar];exact pE.2.2.1 rfl
        subst b8;have b2:=aa (jM rfl);have lD:Hid (bn=LL.1.length):=aa ar;have cl:w4.cell? z=some (q:Value):=dE.out.cell 0;have cb:w4.cell? ⟨q,2,none⟩=some (.int .i64 LL.2.2.at_):=an.out.blk.cell 2;have b3:=aa (gY 4 (HS.up (ma dW be)) an pE.1 hK (by omega) (by omega));have NY:Hid (MM.2.2.Ok K/\MM.2.2.held=none/\(MM.2.1=0->MM.1.length=4)/\(MM.2.1=0->MM.2.2.at_=LL.2.2.at_+4)):=aa ⟨by rw [zL.out];exact ay.bytes_ok pE.1 4,by rw [zL.out];exact ay.bytes_held pE.1 4 pE.2.1,by rw [zL.out];exact ay.bytes_len pE.1 4 (by omega),by rw [zL.out];exact ay.bytes_step pE.1 4⟩;clear ar b9;go_upto_region 39 with(go_at_call 59;go_loud (refine b3.mono ?_);rintro e w5 ⟨vM,rfl,hO,hI,hC⟩;rw [<-zL.out] at hO hI|-;have pq:=aa hO;have AR:=aa hI;have ed:=aa (oM gK hC);have Ij:=aa hC;clear hO hI hC)
        have fW:w.heap.size<=w5:=ed.out.size;have eF:=aa (dE.chg Ij (HZ.up (ma dW be)).no);have yO:=aa (mH.cs HS jO Ij);have b4:=aa (Ii b2 (HS.up (ma dW ae)) Ij);obtain⟨eM,a8⟩:=gF MM.2.1;rw [<-a8] at HF pq NY|-;clear a8 cl cb
        by_cases h4:eM=0
        ·subst h4;obtain⟨sA,sn,sc,rfl,_,_,aw,AF⟩:=(pq.out rfl).sb;have b0:Hid (sn=MM.1.length):=aa aw;have b5:sn<=64:=by rw [aw,NY.out.2.2.1 rfl];decide
         have b1:Hid (Rd w5 (fun b=>b<w5) 1 sA sn (aI MM.1)):=aa ((AF.lt (by omega)).weak (fun b hb=>hb.2));have lC:Hid (Rd w5 (fun b=>b<w5) 1 bA bn (aI LL.1)):=aa ((b4.sb.parts.2.2.2.lt (by omega)).weak (fun b hb=>hb.2));clear aw AF;go_upto_region 41 with fail
         refine Ib bc sc (aa (fun _ _ _ _ h=>h)) lC lD (by omega) b1 b0 b5 ?_;intro c4 c5 ds dt c6 c7 c8 du c9 rb w6 ba iO;have MC:=aa iO;have EO:=aa ba;have My:Hid (fV w6 F q p MM.2.2):=aa (AR.chg (S:=Nil) (ag.of_below iO) (fun h=>h) (fun h=>h) (fun _ _ h=>h));have gG:=aa (eF.below iO);have EV:=aa (yO.below iO);have eY:=aa (qa ed iO);have b6:=aa (lC.below iO);have bh:w.heap.size<=w6:=eY.out.size;have cy:w5.heap.size<=w6:=iO.size;clear ba iO
         cases rb with
         |true=>
          have iq:Hid (MM.1≠four (bg LL.1)):=aa (fun e=>by have h9:=EO.out;rw [e] at h9;simp at h9);go_wp2_with (go_at_call 60;go_loud (refine(bi 22 (LL.2.2.at_:Nat) gG).mono ?_);rintro e9 w9 ⟨rfl,cK,cO⟩;have fC:=aa cK;have fD:=aa cO;clear cK cO);rw [HR.out]
          exact ab MM.2.2 22 (LL.2.2.at_:Nat) w6 _ w9 _ My.src (by rw [HF.out,if_neg vQ.out,if_neg (by simp),if_neg EB.out,if_neg (by simp),if_neg (by simp),if_pos iq.out]) eY ⟨rfl,fC,fD⟩
         |false=>
          have iq:Hid (¬MM.1≠four (bg LL.1)):=aa (fun h=>by have h9:=EO.out;simp at h9;exact h h9.symm);have tL:=aa (Kr (fun b=>b<w6) bc (b6.weak (fun b hb=>mU hb cy)) lD cI (by omega) (fun _ h=>h));have qo:=aa (qc LL.1);obtain⟨B,hB⟩:=gF (aH LL.1)
          have jm:Hid (r1.bodyB MM.2.2 LL.1 N.2.2.at_ at_=if B.2.1≠0 then(none,r1.fail MM.2.2 B.2.1 (N.2.2.at_+B.2.2)) else if 0<n/\0<=compareBytes (r1.rows.getLast?.getD ⟨[],0,0,0⟩).last ((B.1.headD ([],[])).1) then(none,r1.fail MM.2.2 51 N.2.2.at_)
           else(some B.1,{r1 with cur:=MM.2.2,rows:=r1.rows++ [⟨aD B.1,at_,MM.2.2.at_-at_,B.1.length⟩]})):=aa (by rw [hB,Cb.out];rfl)
          have cw:Hid (B.2.1=0->bY B.1/\1<=B.1.length/\B.1.length<=64):=aa (by rw [hB];exact zQ);have fS:B.2.2<=bn+128:=by have h8:=qo.out;rw [<-hB,<-lD.out] at h8;exact h8
          have f7:N.2.2.at_<=1152921504606:=by have h9:=oQ.out.1.sum;omega
          have rF:=aa hB;clear hB;go_upto_region 46 with(go_at_call 67;go_loud (refine tL.mono ?_);rintro e w7 ⟨eA,en,ec,rfl,cD,cE,b7,cF⟩;rw [<-rF.out] at b7|-;have wO:=aa cD;have cp:=aa cE;have IM:=aa b7;have bm:=aa cF;clear cD cE b7 cF)
          have iF:=aa (gG.below bm);have Ya:=aa (EV.below bm);have fK:=aa (qa eY bm);have bj:Hid (fV w7 F q p MM.2.2):=aa (My.chg (S:=Nil) (ag.of_below bm) (fun h=>h) (fun h=>h) (fun _ _ h=>h));obtain⟨eB,cd⟩:=gF B.2.1;obtain⟨pB,ch⟩:=gF B.2.2;rw [<-cd,<-ch] at jm|-;rw [<-cd] at cw;rw [<-ch] at fS;clear cd ch
          by_cases h5:eB=0
          ·subst h5;obtain⟨QV,fq,O7⟩:=cw.out rfl;obtain⟨eb,eo,K1,Kc,cV,V1,gy,gx,key,val,yF,_,a1,bp,_,_,_,cR,TJ,_⟩:=IM.out.at_ (k:=0) (by rw [IM.out.len];omega);subst yF;have PM:=aa QV;have TK:0<en:=by rw [IM.out.len];omega
           have wV:en<=64:=by rw [IM.out.len];omega
           have dd:Hid ((B.1.headD ([],[])).1=key):=aa (by
            cases hb1:B.1 with
            |nil=>rw [hb1] at a1;simp at a1
            |cons y t=>rw [hb1] at a1;simp at a1;rw [a1];rfl)
           rw [dd.out] at jm;have sO:Hid (Kc=key.length):=cR;have ft:=aa TJ;have gb:(0:Int)<(en:Int):=by omega
           simp only [Nat.zero_mul,Nat.add_zero] at bp;clear QV fq O7 a1 cR TJ;have Um:Hid (dh w7 (fun b=>w6<=b/\b<w7) (some ⟨eb,eo,none⟩) en B.1):=aa (MG IM)
           have XI:Hid (at_<=MM.2.2.at_/\MM.2.2.at_<=1152921504606846976):=aa ⟨by
            have h7:=NY.out.2.2.2 (by trivial);have h8:=pE.out.2.2.2 (by trivial);have h9:=Aj.out.2 (by trivial);have aE:=Al.out.2.2 (by trivial);omega,by have h9:=NY.out.1.sum;omega⟩
           have cn:w7.cell? ⟨z,5,none⟩=some (.slice A n cc):=iF.out.cell 5
           by_cases n0:n=0
           ·have hd:decide (0<n)=false:=decide_eq_false (by omega);have bx:decide ((0:Int)<(n:Int))=false:=decide_eq_false (by omega);have zR:Hid (¬(0<n/\0<=compareBytes (r1.rows.getLast?.getD ⟨[],0,0,0⟩).last key)):=aa (fun h=>by omega);clear n0;go_upto_region 48 with fail
            go_quiet (fail);obtain⟨wn,zS⟩:=gF (w7.drewN nq);have lm:Hid (ag Nil w7 wn):=aa (by rw [zS];exact(ag.refl Nil w7).drewN nq);rw [<-zS];have Nw:=aa (iF.chg lm (fun h=>h));have bk:=aa (Ya.chg lm (fun _ _ _ h=>h));have PS:=aa (Um.chg lm (fun _ _ h=>h));have ao:Hid (fV wn F q p MM.2.2):=aa (bj.chg lm (fun h=>h) (fun h=>h) (fun _ _ h=>h));have qR:Hid (ag (Cz z q p w) w wn):=aa (fK.out.trans lm (fun _ _ h=>h.elim));have aA:=aa qR.size;have Ik:=aa lm.size;clear zS;clear hd bx cn bp;have bU:Hid (wn.cell? ⟨q,2,none⟩=some (.int .i64 MM.2.2.at_)):=aa (ao.blk.cell 2);go_upto_region 50 with fail
            refine Ic (fun b=>w6<=b/\b<w7) at_ ec (aa (fun _ _ _ _ h=>h)) Nw bk PS bU TK wV (fun e he=>(dB PM he).2.1) XI.1 XI.2 X9 dW aA HZ.lt HS.qB (aa (fun b hb=>⟨ma eY.size hb.1,mU hb.2 Ik,fun e=>by have h8:=(ah EV.own b e).2;have h9:=hb.1;omega⟩)) ?_;intro ez eC eD eE eI eJ eK eN eR eS eT eV eW eX e0 e3 e4 e5 e6 e7 e8 fa fd ff fg fh fi fj fk A' kz jJ w9 cK cO a5 a6;have a3:Hid (∀gg,(Value.slice A' (n+1) kz).ownBlock=some gg->(Value.slice A n cc).ownBlock=some gg\/wn<=gg):=aa a6;have fC:=aa cK;have fD:=aa cO;have XJ:=aa a5;clear cK cO a5 a6;go_wp2;rw [HR.out,HF.out,if_neg vQ.out,if_neg (by simp),if_neg EB.out,if_neg (by simp),if_neg (by simp),if_neg iq.out,jm.out,if_neg (by simp),if_neg zR.out]
            refine⟨(Ig qR).trans XJ (fun b _ e=>by
             rcases e with e|e
             ·exact .inl e
             ·exact .inr (.inr (.inr (.inl e)))),fun h=>(by cases h),fun es h=> ?_⟩
            injection h with h
            subst h;have al:∀gg,(Value.slice A n cc).ownBlock=some gg->gg<w6:=fun gg hg=>(ah EV.own gg hg).2
            refine⟨_,en,ec,A',n+1,kz,jJ,rfl,wO,cp,?_,fC,?_,fD,fun g hg=>(a3 g hg).imp id (fun h=>ma aA h)⟩
            ·refine(PS.chg XJ (fun b hb e=> ?_)).weak (fun b hb=>⟨ma bh hb.1,mU hb.2 (ma Ik XJ.size),fun e=> ?_⟩)
             ·rcases e with e|e
              ·have h8:=HZ.out.lt;have h9:=dW.out;have aE:=hb.1;omega
              ·have h8:=al b e;have h9:=hb.1;omega
             ·rcases a3.out b e with e|e
              ·have h8:=al b e;have h9:=hb.1;omega
              ·have h9:=hb.2;have aE:=Ik.out;omega
            ·refine ao.chg XJ (fun e=> ?_) (fun e=> ?_) (fun b hb e=> ?_)
             ·rcases e with e|e
              ·exact HZ.zq e.symm
              ·have h8:=(ah EV.own q e).1;have h9:=HS.out.qB;omega
             ·rcases e with e|e
              ·exact HZ.zp e.symm
              ·have h8:=(ah EV.own p e).1;have h9:=HS.out.pB;omega
             ·rcases e with e|e
              ·exact AQ (e▸hb)
              ·have h8:=(ah EV.own b e).1;have h9:=HS.out.lt b hb;omega
           ·obtain⟨j,hj⟩:∃j,n=j+1:=⟨n-1,by omega⟩;obtain⟨g,o,M,mn,mc,y,yF,_,cj,d0,_,_,_,sy⟩:=Ya.out.sps.at_ (k:=j) (by omega);have a9:r1.rows.getLast?.getD ⟨[],0,0,0⟩=y:=by rw [List.getLast?_eq_getElem?,<-Cb.out,show n-1=j by omega,cj];rfl
            rw [a9] at jm;have Dq:Hid (∀k,Calls prog 68 #[.slice M mn mc,.slice K1 Kc cV] (w7.drewN k) fun e w'=>e= .returned (.int .i64 (compareBytes y.last key))/\∃q,w'=(w7.drewN k).drewN q):=aa (fun k=>dC mc cV (sy.parts.2.2.2.drewN k) sy.parts.2.2.1 (ft.drewN k) sO (by have h9:=sy.parts.2.2.1;have h8:=(zK.out.rows.key y (nT cj)).2;omega));obtain⟨ce,cC⟩:=gF (compareBytes y.last key);rw [<-cC] at Dq jm;have hd:decide (0<n)=true:=decide_eq_true (by omega);have bx:decide ((0:Int)<(n:Int))=true:=decide_eq_true (by omega);have gp:IntKind.i64.wrap ((n:Int)-1)=(j:Int):=by rw [IntWalk.i64_in _ (by omega)];omega
            have gr:IntKind.i64.wrap (j:Int)=(j:Int):=IntWalk.i64_in _ (by omega);have gj:(0:Int)<=(j:Int):=by omega
            have gs:j<n:=by omega
            have yD:(j:Int)<(n:Int):=by omega
            have df:Hid (0<n):=aa (by omega);subst yF;clear n0 hj cj a9 cC sy;go_upto_region 48 with fail
            by_cases EC:0<=ce
            ·have zR:Hid (0<n/\0<=ce):=aa ⟨df,EC⟩;have fL:decide (0<=ce)=true:=decide_eq_true EC;go_quiet ((go_at_call 68;exact Calls.quiet_of (Dq _)));obtain⟨wn,zS⟩:=gF (w7.drewN nq);have lm:Hid (ag Nil w7 wn):=aa (by rw [zS];exact(ag.refl Nil w7).drewN nq);rw [<-zS];have Nw:=aa (iF.chg lm (fun h=>h));have bk:=aa (Ya.chg lm (fun _ _ _ h=>h));have PS:=aa (Um.chg lm (fun _ _ h=>h));have ao:Hid (fV wn F q p MM.2.2):=aa (bj.chg lm (fun h=>h) (fun h=>h) (fun _ _ h=>h));have qR:Hid (ag (Cz z q p w) w wn):=aa (fK.out.trans lm (fun _ _ h=>h.elim));have aA:=aa qR.size;have Ik:=aa lm.size;clear zS;clear hd bx cn bp d0;go_wp2_with (go_at_call 60;go_loud (refine(bi 51 (N.2.2.at_:Nat) Nw).mono ?_);rintro e9 w9 ⟨rfl,cK,cO⟩;have fC:=aa cK;have fD:=aa cO;clear cK cO);rw [HR.out]
             exact ab MM.2.2 51 (N.2.2.at_:Nat) wn _ w9 _ ao.src (by rw [HF.out,if_neg vQ.out,if_neg (by simp),if_neg EB.out,if_neg (by simp),if_neg (by simp),if_neg iq.out,jm.out,if_neg (by simp),if_pos zR.out]) qR ⟨rfl,fC,fD⟩
            ·have zR:Hid (¬(0<n/\0<=ce)):=aa (fun h=>EC h.2);have fL:decide (0<=ce)=false:=decide_eq_false EC;go_quiet ((go_at_call 68;exact Calls.quiet_of (Dq _)));obtain⟨wn,zS⟩:=gF (w7.drewN nq);have lm:Hid (ag Nil w7 wn):=aa (by rw [zS];exact(ag.refl Nil w7).drewN nq);rw [<-zS];have Nw:=aa (iF.chg lm (fun h=>h));have bk:=aa (Ya.chg lm (fun _ _ _ h=>h));have PS:=aa (Um.chg lm (fun _ _ h=>h));have ao:Hid (fV wn F q p MM.2.2):=aa (bj.chg lm (fun h=>h) (fun h=>h) (fun _ _ h=>h));have qR:Hid (ag (Cz z q p w) w wn):=aa (fK.out.trans lm (fun _ _ h=>h.elim));have aA:=aa qR.size;have Ik:=aa lm.size;clear zS;clear hd bx cn bp d0;have bU:Hid (wn.cell? ⟨q,2,none⟩=some (.int .i64 MM.2.2.at_)):=aa (ao.blk.cell 2);go_upto_region 50 with fail
             refine Ic (fun b=>w6<=b/\b<w7) at_ ec (A:=some ⟨g,o,none⟩) (aa (fun _ _ _ _ h=>h)) Nw bk PS bU TK wV (fun e he=>(dB PM he).2.1) XI.1 XI.2 X9 dW aA HZ.lt HS.qB (aa (fun b hb=>⟨ma eY.size hb.1,mU hb.2 Ik,fun e=>by have h8:=(ah EV.own b e).2;have h9:=hb.1;omega⟩)) ?_;intro ez eC eD eE eI eJ eK eN eR eS eT eV eW eX e0 e3 e4 e5 e6 e7 e8 fa fd ff fg fh fi fj fk A' kz jJ w9 cK cO a5 a6;have a3:Hid (∀gg,(Value.slice A' (n+1) kz).ownBlock=some gg->(Value.slice (some ⟨g,o,none⟩) n cc).ownBlock=some gg\/wn<=gg):=aa a6;have fC:=aa cK;have fD:=aa cO;have XJ:=aa a5;clear cK cO a5 a6;go_wp2;rw [HR.out,HF.out,if_neg vQ.out,if_neg (by simp),if_neg EB.out,if_neg (by simp),if_neg (by simp),if_neg iq.out,jm.out,if_neg (by simp),if_neg zR.out]
             refine⟨(Ig qR).trans XJ (fun b _ e=>by
              rcases e with e|e
              ·exact .inl e
              ·exact .inr (.inr (.inr (.inl e)))),fun h=>(by cases h),fun es h=> ?_⟩
             injection h with h
             subst h;have al:∀gg,(Value.slice (some ⟨g,o,none⟩) n cc).ownBlock=some gg->gg<w6:=fun gg hg=>(ah EV.own gg hg).2
             refine⟨_,en,ec,A',n+1,kz,jJ,rfl,wO,cp,?_,fC,?_,fD,fun g hg=>(a3 g hg).imp id (fun h=>ma aA h)⟩
             ·refine(PS.chg XJ (fun b hb e=> ?_)).weak (fun b hb=>⟨ma bh hb.1,mU hb.2 (ma Ik XJ.size),fun e=> ?_⟩)
              ·rcases e with e|e
               ·have h8:=HZ.out.lt;have h9:=dW.out;have aE:=hb.1;omega
               ·have h8:=al b e;have h9:=hb.1;omega
              ·rcases a3.out b e with e|e
               ·have h8:=al b e;have h9:=hb.1;omega
               ·have h9:=hb.2;have aE:=Ik.out;omega
             ·refine ao.chg XJ (fun e=> ?_) (fun e=> ?_) (fun b hb e=> ?_)
              ·rcases e with e|e
               ·exact HZ.zq e.symm
               ·have h8:=(ah EV.own q e).1;have h9:=HS.out.qB;omega
              ·rcases e with e|e
               ·exact HZ.zp e.symm
               ·have h8:=(ah EV.own p e).1;have h9:=HS.out.pB;omega
              ·rcases e with e|e
               ·exact AQ (e▸hb)
               ·have h8:=(ah EV.own b e).1;have h9:=HS.out.lt b hb;omega
          ·have gi:(eB==0)=false:=by rw [mi];exact h5
           have H5:=aa h5;have gt:IntKind.i64.wrap ((N.2.2.at_:Int)+(pB:Int))=((N.2.2.at_+pB:Nat):Int):=by rw [IntWalk.i64_in _ (by omega)];omega
           go_wp2_with (go_at_call 60;go_loud (refine(bi eB ((N.2.2.at_+pB:Nat)) iF).mono ?_);rintro e9 w9 ⟨rfl,cK,cO⟩;have fC:=aa cK;have fD:=aa cO;clear cK cO)
           rw [HR.out]
           exact ab MM.2.2 eB ((N.2.2.at_+pB:Nat)) w7 _ w9 _ bj.src (by rw [HF.out,if_neg vQ.out,if_neg (by simp),if_neg EB.out,if_neg (by simp),if_neg (by simp),if_neg iq.out,jm.out,if_pos H5.out]) fK ⟨rfl,fC,fD⟩
        ·have fz:(eM==0)=false:=by rw [mi];exact h4
         have H4:=aa h4;go_wp2_with (go_at_call 60;go_loud (refine(bi eM (LL.2.2.at_:Nat) eF).mono ?_);rintro e9 w9 ⟨rfl,cK,cO⟩;have fC:=aa cK;have fD:=aa cO;clear cK cO);rw [HR.out]
         exact ab MM.2.2 eM (LL.2.2.at_:Nat) w5 _ w9 _ AR.src (by rw [HF.out,if_neg vQ.out,if_neg (by simp),if_neg EB.out,if_neg (by simp),if_pos H4.out]) ed ⟨rfl,fC,fD⟩
       ·have fy:(eL==0)=false:=by rw [mi];exact h3
        have H3:=aa h3;go_wp2_with (go_at_call 60;go_loud (refine(bi eL (N.2.2.at_:Nat) dE).mono ?_);rintro e9 w9 ⟨rfl,cK,cO⟩;have fC:=aa cK;have fD:=aa cO;clear cK cO);rw [HR.out]
        exact ab LL.2.2 eL (N.2.2.at_:Nat) w4 _ w9 _ an.src (by rw [HF.out,if_neg vQ.out,if_neg (by simp),if_neg EB.out,if_pos H3.out]) gK ⟨rfl,fC,fD⟩
     ·have fv:(e2==0)=false:=by rw [mi];exact h2
      have H2:=aa h2;go_wp2_with (go_at_call 60;go_loud (refine(bi e2 (L.2.2.at_:Nat) ac).mono ?_);rintro e9 w9 ⟨rfl,cK,cO⟩;have fC:=aa cK;have fD:=aa cO;clear cK cO);rw [HR.out]
      exact ab N.2.2 e2 (L.2.2.at_:Nat) w3 _ w9 _ ad.src (by rw [HF.out,if_neg vQ.out,if_pos H2.out]) fu ⟨rfl,fC,fD⟩
   ·have XK:¬((kd.toNat:Int)=66):=fun e=>XH (UInt8.toNat_inj.mp (by rw [show(66:UInt8).toNat=66 from rfl];omega));have gd:((kd.toNat:Int)==66)=false:=by rw [mi];exact XK
    have bE:=aa XH;have f5:((kd.toNat:Int) !=66)=true:=by rw [bne_iff_ne];exact XK
    have f6:((kd.toNat:Int) !=70)=true:=by rw [bne_iff_ne];exact XG
    have HF:=JO;go_wp2_with (go_at_call 60;go_loud (refine(bi 82 (at_:Nat) am).mono ?_);rintro e9 w9 ⟨rfl,cK,cO⟩;have fC:=aa cK;have fD:=aa cO;clear cK cO);rw [HR.out]
    exact ab L.2.2 82 (at_:Nat) w2 _ w9 _ a4.src (by rw [HF.out,if_neg (by simp),if_neg XD.out,if_pos bE.out]) bz ⟨rfl,fC,fD⟩
 ·have gf:(e1==0)=false:=by rw [mi];exact h1
  have H1:=aa h1;have HF:=JO;go_wp2_with (go_at_call 60;go_loud (refine(bi e1 (at_:Nat) am).mono ?_);rintro e9 w9 ⟨rfl,cK,cO⟩;have fC:=aa cK;have fD:=aa cO;clear cK cO);rw [HR.out];exact ab L.2.2 e1 (at_:Nat) w2 _ w9 _ a4.src (by rw [HF.out,if_pos H1.out]) bz ⟨rfl,fC,fD⟩
theorem JI (s:Sit F q p base) (zs:Zs z q p base) (Q:¬F z) (B:base<=w)
  (g:ak w z 103 #[q,true,false,(r.err:Int),(r.bad:Int),.slice A n cc,()]) (j:bu w base Dr (.slice A n cc) n r.rows us)
  (h:fV w F q p r.cur) (u:r.Ok K) (d:r.st=1) (G:K<=1152921504606846976):
  Calls prog 35 #[z] w (qy F z q p base Dr A n cc us r.next.1 r.next.2 w):=by
 refine letter fun R o=> ?_;have t:=aa s;have x:=aa zs;have b:=aa g;have m:=aa j;have c:=aa h;have E:=aa B;have l:=aa Q;obtain⟨I,e⟩:=gF w;obtain⟨f,a⟩:=gF r;have v:Hid (r.next=f.frame):=aa (by rw [a];unfold dM.next;rw [if_neg (by omega),if_pos d]);have i:Hid (f.rows=r.rows):=aa (by rw [a]);have N:Hid (f.Ok K):=aa (by rw [a];exact u);have y:Hid (f.st=1):=aa (by rw [a];exact d);have H:Hid (ag (Cz z q p w) w I):=aa (by rw [e];exact ag.refl _ _);rw [<-a] at c;have k:Hid (r.err=f.err/\r.bad=f.bad):=aa (by rw [a];exact⟨rfl,rfl⟩);have M:w.cell? ⟨z,6,none⟩=some (.slice none 0 0):=g.cell 6;have L:w.cell? ⟨z,2,none⟩=some (.bool false):=g.cell 2;have J:w.cell? ⟨z,1,none⟩=some (.bool true):=g.cell 1;clear s zs g j h u B Q d a;go_enter func35,ntmps35;go_upto_region 14 with fail
 clear M L J;rw [k.out.1,k.out.2] at b;rw [<-e] at b c|-;clear e;rename_i C D;exact xm C o t x m E l v i N y H b c G D
end Go.Proofs.YtepgcjbhabnciaaGreat
