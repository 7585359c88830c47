/- Part 35. -/
import Derived.Test.YtepgcjbhabnciaaGreatLe33
import Derived.Test.YtepgcjbhabnciaaGreatLe34
namespace Go.Proofs.YtepgcjbhabnciaaGreat
set_option maxRecDepth 100000
set_option maxHeartbeats 8000000
open Go.Proofs.Tryz Go.RowKit
open Go.Lib (compareBytes)
variable {v u1 u4 u5 u6 u7 u8 u9 dm E bO bX bY bQ u16 bP f bN u20 u21 u22 u23 u24 u25 u26 u27 u28 u29 u30 u31 u32 u33 u34 u35 u36 u37 u38 dK u40 dM u42 dN u44 u45 u46 ed u48 u49 ek u51 eO u53 eQ u55 fE fF u58 u59 u60 gJ gY u63 u64 J u66 iq u68 u69 u70 H u72 u73 jJ u75 jK mF mG mH mI mJ mV mW mX l8 nT rM T qD wu ww wB u93 xM xN xO xP wI wJ jC jD jE jF jQ u105 jR jS jT jU jV jW V jY jZ j3 kV s kX u119 u P lg lh u124 lm lq u127 qF qG qH u131 qI qJ qK qL qM qN u138 u139 qO qP qQ qR qT qU qV qW qX qY qZ rq u152 ru u154 xW xX xY xZ yc yg yh u162 yj u164 yl ym yn yo yt yu Q yx yz AC d C I O U Z AR AV AX AY AZ A8 X Bg D Bi Bj u193 u194 Bl u196 Bn u198 Bo Bp u201 m yA Gw cF Gx cG Gy cH Gz GA GD GG GH GI GJ GK GL GM GN GQ GR GU GV GX GY KM KN KO KP KQ KR cI KS cJ KT Ri Rj Rk Rl Rm Rn Ro Rp Rq Rs Rt Ru Rv Rw Rx Ry Rz RA RB RD RE RF RG RH RI RJ RL RN RO RP RQ RS RU RV RY RZ R5 R6 R7 R8 R9 Sa Sb Sc Sd Se Sf Sg Si Sj Sk Sl Sm Sn Sq Sr Su Sv Sw Sy Sz SA SC Vz VA VB VC VD VE VF VG VH VI VJ VK VL VM VN VO VP VQ VR VS VT VU VV VW VX VY VZ V5 V6 SE:Value} {z q p B base n:Nat} {w w' w1 w2:World}
def Cz (z q p B:Nat):Nat->Prop:=fun b=>b=z\/Cs q p B b
theorem Dn (h:ag (Cs q p B) w w'):ag (Cz z q p B) w w':=h.mono (fun _ _ a=> .inr a)
theorem l7 (h:ag (Cz z q p w.heap.size) w w1) (k:ag (Cs q p w1.heap.size) w1 w2):ag (Cz z q p w.heap.size) w w2:=
 h.trans k (fun b _ e=>by
  rcases e with e|e|e
  ·exact .inr (.inl e)
  ·exact .inr (.inr (.inl e))
  ·exact .inr (.inr (.inr (Nat.le_trans h.size e))))
theorem nN (h:ag (Cz z q p w.heap.size) w w1) (k:Below w1.heap.size w1 w2):ag (Cz z q p w.heap.size) w w2:=h.then k
theorem D8 (h:ag (Cz z q p B) w w'):ag (Fs z q p B v) w w':=h.mono (fun b _ a=>by
 rcases a with a|a|a|a
 ·exact .inl a
 ·exact .inr (.inl a)
 ·exact .inr (.inr (.inl a))
 ·exact .inr (.inr (.inr (.inr a))))
theorem aX.cz {F Dr:Nat->Prop} {l:List Row} {us:List Value} (h:aX w base Dr v n l us) (a:Sit F q p base) (j:z<base) (g:w.heap.size<=B) (c:ag (Cz z q p B) w w'):aX w' base Dr v n l us:=
 h.chg c (fun b i hl e=>by
  have d:=a.pB;have f:=a.qB
  rcases e with e|e|e|e
  ·omega
  ·omega
  ·omega
  ·omega)
structure oo (F:Nat->Prop) (z q p base:Nat) (Dr:Nat->Prop) (LA:Option Addr) (LC:Nat) (A:Option Addr) (n cc:Nat) (us:List Value) (o:Option (List aK)) (r:bg) (w:World) (e:Ending) (w':World):Prop where
 chg:ag (Fs z q p w.heap.size (.slice A n cc)) w w'
 no:o=none->e= .returned (.tuple #[.slice none 0 0,.bool false])/\aX w' base Dr (.slice A n cc) n r.rows us/\
  (∃v1,aj w' z 103 #[.pointer (some ⟨q,0,none⟩),v1,.bool true,.int .i64 r.err,.int .i64 (r.bad:Nat),.slice A n cc,.slice LA 0 LC])/\dO w' F p r.cur.src
 yes:∀es,o=some es->∃eA en ec A' n' iW kF,e= .returned (.tuple #[.slice eA en ec,.bool true])/\en<=ec/\ec<=maxLen/\bz w' (fun b=>w.heap.size<=b/\b<w'.heap.size/\(Value.slice A' n' iW).ownBlock≠some b) eA en es/\
  aX w' base (fun b=>Dr b\/(w.heap.size<=b/\b<w'.heap.size)) (.slice A' n' iW) n' r.rows kF/\eY w' F q p r.cur/\
  aj w' z 103 #[.pointer (some ⟨q,0,none⟩),.bool true,.bool false,.int .i64 r.err,.int .i64 (r.bad:Nat),.slice A' n' iW,.slice LA 0 LC]/\(∀g,(Value.slice A' n' iW).ownBlock=some g->(Value.slice A n cc).ownBlock=some g\/w.heap.size<=g)
noncomputable def Et:Code:=aV (f35.body.bind (aJ 14))
noncomputable def Fz:Code:=aV (f35.body.bind (gQ 15))
theorem tO (F Dr:Nat->Prop) (z q p base K:Nat) (c:Option Addr) (LC:Nat) (A:Option Addr) (n cc:Nat) (us:List Value) (r r1:bg) (w G:World) (R:Ending->World->Prop) {l:Value} (KK:Act->World->Prop)
  (HR:Hid (R=oo F z q p base Dr c LC A n cc us r.next.1 r.next.2 w)) (HS:Hid (Sit F q p base)) (HZ:Hid (Zs z q p base)) (HM:Hid (aX w base Dr (.slice A n cc) n r.rows us)) (d9:Hid (base<=w.heap.size)) (xU:Hid (¬F z)) (HX:Hid (r.next=r1.frame)) (cf:Hid (r1.rows=r.rows)) (wV:Hid (r1.Ok K)) (D9:Hid (r1.st=1)) (iZ:Hid (ag (Cz z q p w.heap.size) w G))
  (b6:Hid (aj G z 103 #[.pointer (some ⟨q,0,none⟩),.bool true,.bool false,.int .i64 r1.err,.int .i64 (r1.bad:Nat),.slice A n cc,.slice c 0 LC])) (b8:Hid (eY G F q p r1.cur)) (hK:K<=1152921504606846976)
  (Td:∀a w,Code.wp prog Fz (bodyPost prog f35 R) a w->KK a w):
  Code.wp prog Et (Exit.then KK (bodyPost prog f35 R)) ⟨(.pointer (some ⟨z,0,none⟩)::u1:: .slice none 0 0:: .bool false::u4::u5::u6::u7::u8::u9::dm::E::bO::bX::bY::bQ::u16::bP::f::bN::u20::u21::u22::u23::u24::u25::u26::u27::u28::u29::u30::u31::u32::u33::u34::u35::u36::u37::u38::dK::u40::dM::u42::dN::u44::u45::u46::ed::u48::u49::ek::u51::eO::u53::eQ::u55::fE::fF::u58::u59::u60::gJ::gY::u63::u64::J::u66::iq::u68::u69::u70::H::u72::u73::jJ::u75::jK::mF::mG::mH::mI::mJ::mV::mW::mX::l8::nT::rM::T::qD::wu::ww::wB::u93::xM::xN::xO::xP::wI::wJ::jC::jD::jE::jF::jQ::u105::jR::jS::jT::jU::jV::jW::V::jY::jZ::j3::kV::s::kX::u119::u::P::lg::lh::u124::lm::lq::u127::qF::qG::qH::u131::qI::qJ::qK::qL::qM::qN::u138::u139::qO::qP::qQ::qR::qT::qU::qV::qW::qX::qY::qZ::rq::u152::ru::u154::xW::xX::xY::xZ::yc::yg::yh::u162::yj::u164::yl::ym::yn::yo::yt::yu::Q::yx::yz::AC::d::C::I::O::U::Z::AR::v::AV::AX::AY::AZ::A8::X::Bg::D::Bi::Bj::u193::u194::Bl::u196::Bn::u198::Bo::Bp::u201::l::m::yA::Gw::cF::Gx::cG::Gy::cH::Gz::GA::GD::GG::GH::GI::GJ::GK::GL::GM::GN::GQ::GR::GU::GV::GX::GY::KM::KN::KO::KP::KQ::KR::cI::KS::cJ::KT::Ri::Rj::Rk::Rl::Rm::Rn::Ro::Rp::Rq::Rs::Rt::Ru::Rv::Rw::Rx::Ry::Rz::RA::RB::RD::RE::RF::RG::RH::RI::RJ::RL::RN::RO::RP::RQ::RS::RU::RV::RY::RZ::R5::R6::R7::R8::R9::Sa::Sb::Sc::Sd::Se::Sf::Sg::Si::Sj::Sk::Sl::Sm::Sn::Sq::Sr::Su::Sv::Sw::Sy::Sz::SA::SC::Vz::VA::VB::VC::VD::VE::VF::VG::VH::VI::VJ::VK::VL::VM::VN::VO::VP::VQ::VR::VS::VT::VU::VV::VW::VX::VY::VZ::V5::V6::SE:: []).toArray,[]⟩ G:=by
 conv=>arg 2;whnf
 obtain⟨L,hL⟩:∃L,L=r1.cur.bytes 1:=⟨_,rfl⟩;obtain⟨kd,bE⟩:∃k,k=L.1.headD 0:=⟨_,rfl⟩;obtain⟨at_,ba⟩:∃a,a=r1.cur.at_:=⟨_,rfl⟩;have aw:=wV.out.cur (by rw [D9.out];decide);have cr:=wV.out.held (by rw [D9.out];decide);have Jz:Hid (r.next=if L.2.1≠0 then(none,r1.fail L.2.2 L.2.1 at_) else if kd=70 then(none,r1.footR L.2.2 at_) else if kd≠66 then(none,r1.fail L.2.2 82 at_) else r1.block L.2.2 at_):=aa (by rw [HX.out];subst ba;subst bE;subst hL;rfl);have xG:=aa hL;have Yl:=aa bE;have ug:Hid (L.2.2.Ok K/\L.2.2.held=none/\(L.2.1=0->L.2.2.at_=at_+1)):=aa ⟨by rw [hL];exact ay.bytes_ok aw 1,by rw [hL];exact ay.bytes_held aw 1 cr,by rw [hL,ba];exact ay.bytes_step aw 1⟩;have cT:Hid (at_<=1152921504606):=aa (by have:=aw.sum;omega)
 have ab:Hid (∀(cu:ay) (e:Int) (a:Nat) (wk:World) (en:Ending) (w':World) (v1:Value),dO wk F p cu.src->r.next=(none,r1.fail cu e a)->ag (Cz z q p w.heap.size) w wk->AB z (.pointer (some ⟨q,0,none⟩)) v1 (.slice A n cc) (.slice c 0 LC) e a wk en w'->oo F z q p base Dr c LC A n cc us r.next.1 r.next.2 w en w'):=aa (fun cu e a wk en w' v1 dn hx hc hf=>by
  rw [hx];refine⟨(D8 hc).trans hf.2.2 (fun b _ e=> .inl e),fun _=>⟨hf.1,?_,⟨_,hf.2.1⟩,dn.own hf.2.2 HZ.zp xU⟩,fun es h=>by cases h⟩;have cA:=(HM.out.cz HS HZ.lt (Nat.le_refl _) hc).chg hf.2.2 (fun b hb _ e=>by have e:b=z:=e;have:=HZ.out.lt;omega);rw [<-cf.out] at cA;exact cA)
 have ds:n<=cc:=by
  obtain⟨_,_,hv,h8,_⟩:=au HM.own;injection hv with _ h9 ar
  omega
 have b9:Hid (aX G base Dr (.slice A n cc) n r1.rows us):=aa (by rw [cf.out];exact HM.cz HS HZ.lt (Nat.le_refl _) iZ);have b0:n=r1.rows.length:=b9.out.len;have yX:=aa b0;have X5:n<=8388608:=by rw [b0];exact wV.rows.many
 have cC:w.heap.size<=G.heap.size:=iZ.out.size;have dr:G.cell? ⟨z,0,none⟩=some (.pointer (some ⟨q,0,none⟩)):=b6.out.cell 0;have dd:G.cell? ⟨q,2,none⟩=some (.int .i64 (at_:Nat)):=(b8.out.blk.cell 2).trans (by rw [ba];rfl);have pE:=aa (zB F q p K r1.cur G (HS.up (Nat.le_trans d9 cC)) b8 aw hK);clear hL bE ba aw cr b0;go_wp2;conv=>arg 2;whnf
 go_upto_region 16 with(go_at_call 62;go_loud (refine pE.mono ?_);rintro e w2 ⟨rfl,hI,hC⟩;rw [<-xG.out] at hI|-;rw [<-Yl.out];have a0:=aa hI;have bB:=aa (l7 iZ hC);have OV:=aa hC;clear hI hC)
 have b1:w.heap.size<=w2.heap.size:=bB.out.size;have am:=aa (b6.chg OV (HZ.up (Nat.le_trans d9 cC)).no);have qj:=aa (b9.cs HS (Nat.le_refl _) OV);obtain⟨e1,ct⟩:∃e,e=L.2.1:=⟨_,rfl⟩;rw [<-ct] at Jz ug|-;clear ct dr dd
 by_cases h1:e1=0
 ·subst h1;obtain⟨N,hN⟩:∃N,N=L.2.2.number:=⟨_,rfl⟩;have OW:=ay.number_ok ug.1;have OX:=ay.number_step ug.1 ug.2.1;rw [<-hN] at OW OX;have mM:=aa OW;have BO:=aa OX;have OY:=aa hN;have cD:w2.cell? ⟨z,0,none⟩=some (.pointer (some ⟨q,0,none⟩)):=am.out.cell 0;have Py:w2.cell? ⟨z,5,none⟩=some (.slice A n cc):=am.out.cell 5;have cq:w2.cell? ⟨q,2,none⟩=some (.int .i64 (L.2.2.at_:Nat)):=a0.out.blk.cell 2;have ca:=aa (DZ F q p K L.2.2 w2 (HS.up (Nat.le_trans d9 b1)) a0 ug.1 hK);clear OW OX hN
  by_cases LJ:kd=70
  ·have SF:=aa LJ;subst LJ;obtain⟨fb,Pp⟩:∃fb,fb=aG r1.rows:=⟨_,rfl⟩;obtain⟨LL,WJ⟩:∃LL,LL=N.2.2.bytes fb.length:=⟨_,rfl⟩;obtain⟨MM,WK⟩:∃MM,MM=LL.2.2.bytes 4:=⟨_,rfl⟩;obtain⟨Y,hY⟩:∃Y,Y=r1.footR L.2.2 at_:=⟨_,rfl⟩;have HF:Hid (r.next=(none,Y)):=aa (by rw [Jz.out,if_neg (by simp),if_pos SF.out,hY])
   have HY:Hid (Y=if N.2.1≠0 then r1.fail N.2.2 N.2.1 L.2.2.at_ else if N.1≠fb.length then r1.fail N.2.2 84 L.2.2.at_ else if LL.2.1≠0 then r1.fail LL.2.2 LL.2.1 N.2.2.at_ else if MM.2.1≠0 then r1.fail MM.2.2 MM.2.1 LL.2.2.at_
    else if MM.1≠four (aW LL.1) then r1.fail MM.2.2 22 LL.2.2.at_ else r1.rest MM.2.2 LL.1 fb N.2.2.at_ at_):=aa (by rw [hY,bg.footR_eq,WK,WJ,Pp,OY.out])
   have cU:=aa Pp;have OZ:=aa WJ;have wW:=aa WK
   have cb:Hid (∀x∈r1.rows,x.at_<=1152921504606):=aa (fun x hx=>by
    obtain⟨i,hi,dq⟩:=List.mem_iff_getElem.mp hx;have h9:=wX wV.rows i x (by rw [List.getElem?_eq_getElem hi,dq]);have ar:=wV.out.one D9;have d2:=(wV.out.cur (by rw [D9.out];decide)).sum;omega)
   have iH:=aa (wY (wV.rows.few cb));rw [<-Pp] at iH;clear Pp WJ WK hY Jz;go_upto_region 24 with(go_at_call 63;go_loud (refine ca.mono ?_);rintro e w3 ⟨rfl,hI,hC⟩;rw [<-OY.out] at hI|-;have ad:=aa hI;have eH:=aa (l7 bB hC);have wZ:=aa hC;clear hI hC)
   have ae:w.heap.size<=w3.heap.size:=eH.out.size;have ac:=aa (am.chg wZ (HZ.up (Nat.le_trans d9 b1)).no);have D7:=aa (qj.cs HS (Nat.le_refl _) wZ);obtain⟨e2,ap⟩:∃e,e=N.2.1:=⟨_,rfl⟩;obtain⟨n1,aA⟩:∃e,e=N.1:=⟨_,rfl⟩;rw [<-ap] at mM BO;rw [<-ap,<-aA] at HY|-;clear cD Py cq ap aA
   by_cases h2:e2=0
   ·subst h2;have UK:=aa (vF (fun b=>base<=b/\b<w3.heap.size) A n cc r1.rows w3 D7.sps wV.rows cb (fun b hb=>hb.2));have c2:w3.cell? ⟨z,5,none⟩=some (.slice A n cc):=ac.out.cell 5;go_upto_region 29 with(go_at_call 64;go_loud (refine UK.mono ?_);rintro e SG ⟨vB,rfl,hO,hB⟩;rw [<-cU.out] at hO;have HO:=aa hO;have SH:=aa hB;clear hO hB)
    obtain⟨fA,fn,fc,rfl,_,_,cv,df⟩:=HO.out.sb;have Ea:Hid (fn=fb.length):=aa cv;have c3:Hid (eY SG F q p N.2.2):=aa (ad.chg (S:=Nil) (ag.of_below SH) (fun h=>h) (fun h=>h) (fun _ _ h=>h));have c4:=aa (ac.below SH);have c5:=aa (D7.below SH);have c6:=aa (nN eH SH);have cY:=aa HO;have cw:IntKind.u64.wrap (fn:Int)=(fn:Int):=IntWalk.u64_in _ (by have h9:=iH.out;rw [<-Ea.out] at h9;omega);have cx:IntKind.i64.wrap (fn:Int)=(fn:Int):=IntWalk.i64_in _ (by have h9:=iH.out;rw [<-Ea.out] at h9;omega);have c7:=eH;clear ac D7 ad eH ae c2 cv df;have ac:=c4;have D7:=c5;have ad:=c3;have eH:=c6;have ae:w.heap.size<=SG.heap.size:=eH.out.size
    by_cases co:n1=fn
    ·subst co;have xc:Hid (LL=N.2.2.bytes n1):=aa (by rw [Ea.out];exact OZ);have Iy:Hid (¬n1≠fb.length):=aa (fun h=>h Ea);have dg:1<=n1:=by have h9:=iH.out;rw [<-Ea.out] at h9;omega
     have dj:n1<=872415300:=by have h9:=iH.out;rw [<-Ea.out] at h9;omega
     have yT:Hid (∀wx,ag (Cs q p SG.heap.size) SG wx->Rd wx (fun b=>b<wx.heap.size) 1 fA n1 (aF fb)):=aa (fun wx hx=>((Eb (q:=q) (p:=p) cY (HS.up (Nat.le_trans d9 c7.size)) hx).sb.parts.2.2.2.lt (by omega)).weak (fun b hb=>hb.2));clear cx cw;have cw:IntKind.u64.wrap (n1:Int)=(n1:Int):=IntWalk.u64_in _ (by omega);have b3:SG.cell? ⟨z,0,none⟩=some (.pointer (some ⟨q,0,none⟩)):=ac.out.cell 0;have bp:SG.cell? ⟨q,2,none⟩=some (.int .i64 (N.2.2.at_:Nat)):=ad.out.blk.cell 2;have dp:IntKind.i64.wrap (n1:Int)=(n1:Int):=IntWalk.i64_in _ (by omega);have pE:=aa (fK F q p n1 K N.2.2 SG (HS.up (Nat.le_trans d9 ae)) ad mM.1 hK (by omega) (by omega));have mE:Hid (LL.2.2.Ok K/\LL.2.2.held=none/\(LL.2.1=0->LL.1.length=n1)/\(LL.2.1=0->LL.2.2.at_=N.2.2.at_+n1)):=aa ⟨by rw [xc.out];exact ay.bytes_ok mM.1 n1,by rw [xc.out];exact ay.bytes_held mM.1 n1 BO.1,by rw [xc.out];exact ay.bytes_len mM.1 n1 (by omega),by rw [xc.out];exact ay.bytes_step mM.1 n1⟩;go_upto_region 35 with(go_at_call 59;go_loud (refine pE.mono ?_);rintro e w4 ⟨vL,rfl,hO,hI,hC⟩;rw [<-xc.out] at hO hI|-;have iV:=aa hO;have an:=aa hI;have fV:=aa (l7 eH hC);have sK:=aa hC;clear hO hI hC)
     have a7:w.heap.size<=w4.heap.size:=fV.out.size;have dR:=aa (ac.chg sK (HZ.up (Nat.le_trans d9 ae)).no);have mO:=aa (D7.cs HS (Nat.le_refl _) sK);obtain⟨eL,a3⟩:∃e,e=LL.2.1:=⟨_,rfl⟩;rw [<-a3] at HY iV mE|-;clear a3 b3 bp
     by_cases h3:eL=0
     ·subst h3;obtain⟨bA,bn,bc,rfl,cp,_,ao,bo⟩:=(iV.out rfl).sb;have bm:bn=n1:=by rw [ao];exact mE.2.2.1 rfl
      subst bm;have WL:=aa (iV rfl);have jN:Hid (bn=LL.1.length):=aa ao;have b4:w4.cell? ⟨z,0,none⟩=some (.pointer (some ⟨q,0,none⟩)):=dR.out.cell 0;have bx:w4.cell? ⟨q,2,none⟩=some (.int .i64 (LL.2.2.at_:Nat)):=an.out.blk.cell 2;have WM:=aa (fK F q p 4 K LL.2.2 w4 (HS.up (Nat.le_trans d9 a7)) an mE.1 hK (by omega) (by omega));have TQ:Hid (MM.2.2.Ok K/\MM.2.2.held=none/\(MM.2.1=0->MM.1.length=4)/\(MM.2.1=0->MM.2.2.at_=LL.2.2.at_+4)):=aa ⟨by rw [wW.out];exact ay.bytes_ok mE.1 4,by rw [wW.out];exact ay.bytes_held mE.1 4 mE.2.1,by rw [wW.out];exact ay.bytes_len mE.1 4 (by omega),by rw [wW.out];exact ay.bytes_step mE.1 4⟩;clear ao bo;go_upto_region 39 with(go_at_call 59;go_loud (refine WM.mono ?_);rintro e w5 ⟨vM,rfl,hO,hI,hC⟩;rw [<-wW.out] at hO hI|-;have lG:=aa hO;have xV:=aa hI;have dF:=aa (l7 fV hC);have Ec:=aa hC;clear hO hI hC)
      have dl:w.heap.size<=w5.heap.size:=dF.out.size;have eG:=aa (dR.chg Ec (HZ.up (Nat.le_trans d9 a7)).no);have vK:=aa (mO.cs HS (Nat.le_refl _) Ec);have WN:=aa (Eb WL (HS.up (Nat.le_trans d9 ae)) Ec);obtain⟨eM,a4⟩:∃e,e=MM.2.1:=⟨_,rfl⟩;rw [<-a4] at HY lG TQ|-;clear a4 b4 bx
      by_cases h4:eM=0
      ·subst h4;obtain⟨sA,sn,sc,rfl,_,_,aq,Ag⟩:=(lG.out rfl).sb;have bj:Hid (sn=MM.1.length):=aa aq;have WO:sn<=64:=by rw [aq,TQ.out.2.2.1 rfl];decide
       have bk:Hid (Rd w5 (fun b=>b<w5.heap.size) 1 sA sn (aF MM.1)):=aa ((Ag.lt (by omega)).weak (fun b hb=>hb.2));have jM:Hid (Rd w5 (fun b=>b<w5.heap.size) 1 bA bn (aF LL.1)):=aa ((WN.sb.parts.2.2.2.lt (by omega)).weak (fun b hb=>hb.2));clear aq Ag;go_upto_region 41 with fail
       refine D5 _ bn bc sn sc bA sA LL.1 MM.1 w5 _ (aa (fun _ _ _ _ h=>h)) jM jN (by omega) bk bj WO ?_;intro cL cM Vu Vv cN cP cQ Vw cR rb w6 a6 gL;have IQ:=aa gL;have p9:=aa a6;have IP:Hid (eY w6 F q p MM.2.2):=aa (xV.chg (S:=Nil) (ag.of_below gL) (fun h=>h) (fun h=>h) (fun _ _ h=>h));have fT:=aa (eG.below gL);have EB:=aa (vK.below gL);have dV:=aa (nN dF gL);have WP:=aa (jM.below gL);have a8:w.heap.size<=w6.heap.size:=dV.out.size;have cg:w5.heap.size<=w6.heap.size:=gL.size;clear a6 gL
       cases rb with
       |true=>
        have gm:Hid (MM.1≠four (aW LL.1)):=aa (fun e=>by have h9:=p9.out;rw [e] at h9;simp at h9);go_wp2_with (go_at_call 60;go_loud (refine(aY z _ _ _ _ _ _ _ 22 (LL.2.2.at_:Nat) w6 fT).mono ?_);rintro e9 w9 ⟨rfl,bK,bL⟩;have dY:=aa bK;have dZ:=aa bL;clear bK bL)
        rw [HR.out]
        exact ab MM.2.2 22 (LL.2.2.at_:Nat) w6 _ w9 _ IP.src (by rw [HF.out,HY.out,if_neg (by simp),if_neg Iy.out,if_neg (by simp),if_neg (by simp),if_pos gm.out]) dV ⟨rfl,dY,dZ⟩
       |false=>
        have gm:Hid (¬MM.1≠four (aW LL.1)):=aa (fun h=>by have h9:=p9.out;simp at h9;exact h h9.symm);have cX:=aa (KJ F (fun b=>b<w5.heap.size) (fun b=>b<w6.heap.size) z q p K at_ N.2.2.at_ (.bool true) (.bool false) (.slice A n cc) (.slice c 0 LC) bA fA bn bc fc LL.1 fb r1 MM.2.2 w6 (HS.up (Nat.le_trans d9 a8)) (HZ.up (Nat.le_trans d9 a8)) xU fT WP (yT w6 (nM (jh sK Ec) IQ)) jN Ea (by omega) (by have h9:=mM.out.1.sum;omega) IP TQ.1 hK (by have h9:=cT.out;omega));go_wp2_with (go_at_call 66;go_loud (refine cX.mono ?_);rintro e w7 ⟨LJ,rfl,Pz,cn⟩;have c8:=aa LJ;have c9:=aa Pz;have ch:=aa cn;clear LJ Pz cn)
        rw [HR.out,HF.out,HY.out,if_neg (by simp),if_neg Iy.out,if_neg (by simp),if_neg (by simp),if_neg gm.out]
        refine⟨(D8 dV).trans ch (fun b hb e=>by
         rcases e with e|e|e|e
         ·exact .inl e
         ·exact .inr (.inl e)
         ·exact .inr (.inr (.inl e))
         ·exact .inr (.inr (.inr (.inr (Nat.le_trans dV.size e))))),fun _=>⟨rfl,?_,⟨_,c9⟩,c8⟩,fun es h=>by cases h⟩
        show aX w7 base Dr _ n (r1.rest MM.2.2 LL.1 fb N.2.2.at_ at_).rows us;rw [KU]
        exact EB.cz HS HZ.lt (Nat.le_refl _) ch
      ·have dc:(eM==0)=false:=by rw [beq_eq_false_iff_ne];exact h4
       have H4:=aa h4;go_wp2_with (go_at_call 60;go_loud (refine(aY z _ _ _ _ _ _ _ eM (LL.2.2.at_:Nat) w5 eG).mono ?_);rintro e9 w9 ⟨rfl,bK,bL⟩;have dY:=aa bK;have dZ:=aa bL;clear bK bL)
       rw [HR.out]
       exact ab MM.2.2 eM (LL.2.2.at_:Nat) w5 _ w9 _ xV.src (by rw [HF.out,HY.out,if_neg (by simp),if_neg Iy.out,if_neg (by simp),if_pos H4.out]) dF ⟨rfl,dY,dZ⟩
     ·have db:(eL==0)=false:=by rw [beq_eq_false_iff_ne];exact h3
      have H3:=aa h3;go_wp2_with (go_at_call 60;go_loud (refine(aY z _ _ _ _ _ _ _ eL (N.2.2.at_:Nat) w4 dR).mono ?_);rintro e9 w9 ⟨rfl,bK,bL⟩;have dY:=aa bK;have dZ:=aa bL;clear bK bL)
      rw [HR.out]
      exact ab LL.2.2 eL (N.2.2.at_:Nat) w4 _ w9 _ an.src (by rw [HF.out,HY.out,if_neg (by simp),if_neg Iy.out,if_pos H3.out]) fV ⟨rfl,dY,dZ⟩
    ·have dP:((n1:Int)==(fn:Int))=false:=by rw [beq_eq_false_iff_ne];omega
     have dD:¬((n1:Int)=(fn:Int)):=by omega
     have cS:Hid (n1≠fb.length):=aa (by rw [<-Ea.out];exact co);go_wp2_with (go_at_call 60;go_loud (refine(aY z _ _ _ _ _ _ _ 84 (L.2.2.at_:Nat) SG ac).mono ?_);rintro e9 w9 ⟨rfl,bK,bL⟩;have dY:=aa bK;have dZ:=aa bL;clear bK bL)
     rw [HR.out]
     exact ab N.2.2 84 (L.2.2.at_:Nat) SG _ w9 _ ad.src (by rw [HF.out,HY.out,if_neg (by simp),if_pos cS.out]) eH ⟨rfl,dY,dZ⟩
   ·have da:(e2==0)=false:=by rw [beq_eq_false_iff_ne];exact h2
    have H2:=aa h2;go_wp2_with (go_at_call 60;go_loud (refine(aY z _ _ _ _ _ _ _ e2 (L.2.2.at_:Nat) w3 ac).mono ?_);rintro e9 w9 ⟨rfl,bK,bL⟩;have dY:=aa bK;have dZ:=aa bL;clear bK bL)
    rw [HR.out]
    exact ab N.2.2 e2 (L.2.2.at_:Nat) w3 _ w9 _ ad.src (by rw [HF.out,HY.out,if_pos H2.out]) eH ⟨rfl,dY,dZ⟩
  ·have SI:¬((kd.toNat:Int)=70):=fun e=>LJ (UInt8.toNat_inj.mp (by rw [show(70:UInt8).toNat=70 from rfl];omega));have dt:((kd.toNat:Int)==70)=false:=by rw [beq_eq_false_iff_ne];exact SI
   have SF:=aa LJ
   by_cases SK:kd=66
   ·have WQ:=aa SK;subst SK;obtain⟨LL,WJ⟩:∃LL,LL=N.2.2.bytes N.1:=⟨_,rfl⟩;obtain⟨MM,WK⟩:∃MM,MM=LL.2.2.bytes 4:=⟨_,rfl⟩
    have HF:Hid (r.next=if n=8388608 then(none,r1.fail L.2.2 71 at_) else if N.2.1≠0 then(none,r1.fail N.2.2 N.2.1 L.2.2.at_) else if N.1<1\/65535<N.1 then(none,r1.fail N.2.2 83 L.2.2.at_) else if LL.2.1≠0 then(none,r1.fail LL.2.2 LL.2.1 N.2.2.at_) else if MM.2.1≠0 then(none,r1.fail MM.2.2 MM.2.1 LL.2.2.at_)
     else if MM.1≠four (aW LL.1) then(none,r1.fail MM.2.2 22 LL.2.2.at_) else r1.bodyB MM.2.2 LL.1 N.2.2.at_ at_):=aa (by rw [Jz.out,if_neg (by simp),if_neg SF.out,if_neg (fun h=>h WQ.out),bg.block_eq,WK,WJ,OY.out,yX.out])
    have OZ:=aa WJ;have wW:=aa WK;clear WJ WK Jz
    by_cases Pz:n=8388608
    ·have ui:=aa Pz;have WR:((n:Int)==8388608)=true:=by rw [Pz];rfl
     go_wp2_with (go_at_call 60;go_loud (refine(aY z _ _ _ _ _ _ _ 71 (at_:Nat) w2 am).mono ?_);rintro e9 w9 ⟨rfl,bK,bL⟩;have dY:=aa bK;have dZ:=aa bL;clear bK bL)
     rw [HR.out]
     exact ab L.2.2 71 (at_:Nat) w2 _ w9 _ a0.src (by rw [HF.out,if_pos ui.out]) bB ⟨rfl,dY,dZ⟩
    ·have ui:=aa Pz;have WR:((n:Int)==8388608)=false:=by rw [beq_eq_false_iff_ne];omega
     have du:¬((n:Int)=8388608):=by omega
     go_upto_region 24 with(go_at_call 63;go_loud (refine ca.mono ?_);rintro e w3 ⟨rfl,hI,hC⟩;rw [<-OY.out] at hI|-;have ad:=aa hI;have eH:=aa (l7 bB hC);have wZ:=aa hC;clear hI hC)
     have ae:w.heap.size<=w3.heap.size:=eH.out.size;have ac:=aa (am.chg wZ (HZ.up (Nat.le_trans d9 b1)).no);have D7:=aa (qj.cs HS (Nat.le_refl _) wZ);obtain⟨e2,ap⟩:∃e,e=N.2.1:=⟨_,rfl⟩;obtain⟨n1,aA⟩:∃e,e=N.1:=⟨_,rfl⟩;rw [<-ap] at mM BO;rw [<-ap,<-aA] at HF|-;have yV:=aa aA;clear cD Py cq ap aA
     by_cases h2:e2=0
     ·subst h2
      by_cases O0:n1<1\/65535<n1
      ·have Bu:=aa O0
       by_cases dA:n1<1
       ·have O1:decide ((n1:Int)<1)=true:=decide_eq_true (by omega);have O3:(n1:Int)<1:=by omega
        clear O0;go_wp2_with (go_at_call 60;go_loud (refine(aY z _ _ _ _ _ _ _ 83 (L.2.2.at_:Nat) w3 ac).mono ?_);rintro e9 w9 ⟨rfl,bK,bL⟩;have dY:=aa bK;have dZ:=aa bL;clear bK bL)
        rw [HR.out]
        exact ab N.2.2 83 (L.2.2.at_:Nat) w3 _ w9 _ ad.src (by rw [HF.out,if_neg ui.out,if_neg (by simp),if_pos Bu.out]) eH ⟨rfl,dY,dZ⟩
       ·have O1:¬((n1:Int)<1):=by omega
        have O3:(65535:Int)<(n1:Int):=by omega
        clear O0;go_wp2_with (go_at_call 60;go_loud (refine(aY z _ _ _ _ _ _ _ 83 (L.2.2.at_:Nat) w3 ac).mono ?_);rintro e9 w9 ⟨rfl,bK,bL⟩;have dY:=aa bK;have dZ:=aa bL;clear bK bL)
        rw [HR.out]
        exact ab N.2.2 83 (L.2.2.at_:Nat) w3 _ w9 _ ad.src (by rw [HF.out,if_neg ui.out,if_neg (by simp),if_pos Bu.out]) eH ⟨rfl,dY,dZ⟩
      ·have Bu:=aa O0;have O1:¬((n1:Int)<1):=by omega
       have O3:¬((65535:Int)<(n1:Int)):=by omega
       have xc:Hid (LL=N.2.2.bytes n1):=aa (by rw [yV.out];exact OZ);have dg:1<=n1:=by omega
       have dj:n1<=65535:=by omega
       clear O0;have b3:w3.cell? ⟨z,0,none⟩=some (.pointer (some ⟨q,0,none⟩)):=ac.out.cell 0;have bp:w3.cell? ⟨q,2,none⟩=some (.int .i64 (N.2.2.at_:Nat)):=ad.out.blk.cell 2;have dp:IntKind.i64.wrap (n1:Int)=(n1:Int):=IntWalk.i64_in _ (by omega);have pE:=aa (fK F q p n1 K N.2.2 w3 (HS.up (Nat.le_trans d9 ae)) ad mM.1 hK (by omega) (by omega));have mE:Hid (LL.2.2.Ok K/\LL.2.2.held=none/\(LL.2.1=0->LL.1.length=n1)/\(LL.2.1=0->LL.2.2.at_=N.2.2.at_+n1)):=aa ⟨by rw [xc.out];exact ay.bytes_ok mM.1 n1,by rw [xc.out];exact ay.bytes_held mM.1 n1 BO.1,by rw [xc.out];exact ay.bytes_len mM.1 n1 (by omega),by rw [xc.out];exact ay.bytes_step mM.1 n1⟩;go_upto_region 35 with(go_at_call 59;go_loud (refine pE.mono ?_);rintro e w4 ⟨vL,rfl,hO,hI,hC⟩;rw [<-xc.out] at hO hI|-;have iV:=aa hO;have an:=aa hI;have fV:=aa (l7 eH hC);have sK:=aa hC;clear hO hI hC)
       have a7:w.heap.size<=w4.heap.size:=fV.out.size;have dR:=aa (ac.chg sK (HZ.up (Nat.le_trans d9 ae)).no);have mO:=aa (D7.cs HS (Nat.le_refl _) sK);obtain⟨eL,a3⟩:∃e,e=LL.2.1:=⟨_,rfl⟩;rw [<-a3] at HF iV mE|-;clear a3 b3 bp
       by_cases h3:eL=0
       ·subst h3;obtain⟨bA,bn,bc,rfl,cp,_,ao,bo⟩:=(iV.out rfl).sb;have bm:bn=n1:=by rw [ao];exact mE.2.2.1 rfl
        subst bm;have WL:=aa (iV rfl);have jN:Hid (bn=LL.1.length):=aa ao;have b4:w4.cell? ⟨z,0,none⟩=some (.pointer (some ⟨q,0,none⟩)):=dR.out.cell 0;have bx:w4.cell? ⟨q,2,none⟩=some (.int .i64 (LL.2.2.at_:Nat)):=an.out.blk.cell 2;have WM:=aa (fK F q p 4 K LL.2.2 w4 (HS.up (Nat.le_trans d9 a7)) an mE.1 hK (by omega) (by omega));have TQ:Hid (MM.2.2.Ok K/\MM.2.2.held=none/\(MM.2.1=0->MM.1.length=4)/\(MM.2.1=0->MM.2.2.at_=LL.2.2.at_+4)):=aa ⟨by rw [wW.out];exact ay.bytes_ok mE.1 4,by rw [wW.out];exact ay.bytes_held mE.1 4 mE.2.1,by rw [wW.out];exact ay.bytes_len mE.1 4 (by omega),by rw [wW.out];exact ay.bytes_step mE.1 4⟩;clear ao bo;go_upto_region 39 with(go_at_call 59;go_loud (refine WM.mono ?_);rintro e w5 ⟨vM,rfl,hO,hI,hC⟩;rw [<-wW.out] at hO hI|-;have lG:=aa hO;have xV:=aa hI;have dF:=aa (l7 fV hC);have Ec:=aa hC;clear hO hI hC)
        have dl:w.heap.size<=w5.heap.size:=dF.out.size;have eG:=aa (dR.chg Ec (HZ.up (Nat.le_trans d9 a7)).no);have vK:=aa (mO.cs HS (Nat.le_refl _) Ec);have WN:=aa (Eb WL (HS.up (Nat.le_trans d9 ae)) Ec);obtain⟨eM,a4⟩:∃e,e=MM.2.1:=⟨_,rfl⟩;rw [<-a4] at HF lG TQ|-;clear a4 b4 bx
        by_cases h4:eM=0
        ·subst h4;obtain⟨sA,sn,sc,rfl,_,_,aq,Ag⟩:=(lG.out rfl).sb;have bj:Hid (sn=MM.1.length):=aa aq;have WO:sn<=64:=by rw [aq,TQ.out.2.2.1 rfl];decide
         have bk:Hid (Rd w5 (fun b=>b<w5.heap.size) 1 sA sn (aF MM.1)):=aa ((Ag.lt (by omega)).weak (fun b hb=>hb.2));have jM:Hid (Rd w5 (fun b=>b<w5.heap.size) 1 bA bn (aF LL.1)):=aa ((WN.sb.parts.2.2.2.lt (by omega)).weak (fun b hb=>hb.2));clear aq Ag;go_upto_region 41 with fail
         refine D5 _ bn bc sn sc bA sA LL.1 MM.1 w5 _ (aa (fun _ _ _ _ h=>h)) jM jN (by omega) bk bj WO ?_;intro cL cM Vu Vv cN cP cQ Vw cR rb w6 a6 gL;have IQ:=aa gL;have p9:=aa a6;have IP:Hid (eY w6 F q p MM.2.2):=aa (xV.chg (S:=Nil) (ag.of_below gL) (fun h=>h) (fun h=>h) (fun _ _ h=>h));have fT:=aa (eG.below gL);have EB:=aa (vK.below gL);have dV:=aa (nN dF gL);have WP:=aa (jM.below gL);have a8:w.heap.size<=w6.heap.size:=dV.out.size;have cg:w5.heap.size<=w6.heap.size:=gL.size;clear a6 gL
         cases rb with
         |true=>
          have gm:Hid (MM.1≠four (aW LL.1)):=aa (fun e=>by have h9:=p9.out;rw [e] at h9;simp at h9);go_wp2_with (go_at_call 60;go_loud (refine(aY z _ _ _ _ _ _ _ 22 (LL.2.2.at_:Nat) w6 fT).mono ?_);rintro e9 w9 ⟨rfl,bK,bL⟩;have dY:=aa bK;have dZ:=aa bL;clear bK bL)
          rw [HR.out]
          exact ab MM.2.2 22 (LL.2.2.at_:Nat) w6 _ w9 _ IP.src (by rw [HF.out,if_neg ui.out,if_neg (by simp),if_neg Bu.out,if_neg (by simp),if_neg (by simp),if_pos gm.out]) dV ⟨rfl,dY,dZ⟩
         |false=>
          have gm:Hid (¬MM.1≠four (aW LL.1)):=aa (fun h=>by have h9:=p9.out;simp at h9;exact h h9.symm);have uf:=aa (Gg (fun b=>b<w6.heap.size) bA bn bc LL.1 w6 (WP.weak (fun b hb=>Nat.lt_of_lt_of_le hb cg)) jN cp (by omega) (fun _ h=>h));have sU:=aa (nO LL.1);obtain⟨B,hB⟩:∃B,B=aB LL.1:=⟨_,rfl⟩
          have oG:Hid (r1.bodyB MM.2.2 LL.1 N.2.2.at_ at_=if B.2.1≠0 then(none,r1.fail MM.2.2 B.2.1 (N.2.2.at_+B.2.2)) else if 0<n/\0<=compareBytes (r1.rows.getLast?.getD ⟨[],0,0,0⟩).last ((B.1.headD ([],[])).1) then(none,r1.fail MM.2.2 51 N.2.2.at_)
           else(some B.1,{r1 with cur:=MM.2.2,rows:=r1.rows++ [⟨az B.1,at_,MM.2.2.at_-at_,B.1.length⟩]})):=aa (by rw [hB,yX.out];rfl)
          have cd:Hid (B.2.1=0->bH B.1/\1<=B.1.length/\B.1.length<=64):=aa (by rw [hB];exact xg);have dk:B.2.2<=bn+128:=by have h8:=sU.out;rw [<-hB,<-jN.out] at h8;exact h8
          have Vk:N.2.2.at_<=1152921504606:=by have h9:=mM.out.1.sum;omega
          have xF:=aa hB;clear hB;go_upto_region 46 with(go_at_call 67;go_loud (refine uf.mono ?_);rintro e w7 ⟨eA,en,ec,rfl,cj,ck,WS,cl⟩;rw [<-xF.out] at WS|-;have xA:=aa cj;have b7:=aa ck;have Fa:=aa WS;have XZ:=aa cl;clear cj ck WS cl)
          have jb:=aa (fT.below XZ);have Tw:=aa (EB.below XZ);have fU:=aa (nN dV XZ);have X3:Hid (eY w7 F q p MM.2.2):=aa (IP.chg (S:=Nil) (ag.of_below XZ) (fun h=>h) (fun h=>h) (fun _ _ h=>h));obtain⟨eB,WT⟩:∃e,e=B.2.1:=⟨_,rfl⟩;obtain⟨pB,WU⟩:∃e,e=B.2.2:=⟨_,rfl⟩;rw [<-WT,<-WU] at oG|-;rw [<-WT] at cd;rw [<-WU] at dk;clear WT WU
          by_cases h5:eB=0
          ·subst h5;obtain⟨Nf,WV,KV⟩:=cd.out rfl;obtain⟨eb,eo,K1,F8,cE,V1,ee,ea,key,val,vC,_,ax,bb,_,_,_,cy,O4,_⟩:=Fa.out.at_ (k:=0) (by rw [Fa.out.len];omega);subst vC;have Lu:=aa Nf;have O5:0<en:=by rw [Fa.out.len];omega
           have za:en<=64:=by rw [Fa.out.len];omega
           have cV:Hid ((B.1.headD ([],[])).1=key):=aa (by
            cases hb1:B.1 with
            |nil=>rw [hb1] at ax;simp at ax
            |cons y t=>rw [hb1] at ax;simp at ax;rw [ax];rfl)
           rw [cV.out] at oG;have xB:Hid (F8=key.length):=cy;have WW:=aa O4;have dy:(0:Int)<(en:Int):=by omega
           simp only [Nat.zero_mul,Nat.add_zero] at bb;clear Nf WV KV ax cy O4;have Pq:Hid (bz w7 (fun b=>w6.heap.size<=b/\b<w7.heap.size) (some ⟨eb,eo,none⟩) en B.1):=aa (IV Fa)
           have SL:Hid (at_<=MM.2.2.at_/\MM.2.2.at_<=1152921504606846976):=aa ⟨by
            have h7:=TQ.out.2.2.2 (by trivial);have h8:=mE.out.2.2.2 (by trivial);have h9:=BO.out.2 (by trivial);have ar:=ug.out.2.2 (by trivial);omega,by have h9:=TQ.out.1.sum;omega⟩
           have b5:w7.cell? ⟨z,5,none⟩=some (.slice A n cc):=jb.out.cell 5
           by_cases n0:n=0
           ·have hd:decide (0<n)=false:=decide_eq_false (by omega);have be:decide ((0:Int)<(n:Int))=false:=decide_eq_false (by omega);have xh:Hid (¬(0<n/\0<=compareBytes (r1.rows.getLast?.getD ⟨[],0,0,0⟩).last key)):=aa (fun h=>by omega);clear n0;go_upto_region 48 with fail
            go_quiet (fail);obtain⟨wn,xk⟩:∃W,W=w7.drewN nq:=⟨_,rfl⟩;have kG:Hid (ag Nil w7 wn):=aa (by rw [xk];exact(ag.refl Nil w7).drewN nq);rw [<-xk];have Qo:=aa (jb.chg kG (fun h=>h));have a9:=aa (Tw.chg kG (fun _ _ _ h=>h));have Ym:=aa (Pq.chg kG (fun _ _ h=>h));have WX:Hid (eY wn F q p MM.2.2):=aa (X3.chg kG (fun h=>h) (fun h=>h) (fun _ _ h=>h));have oJ:Hid (ag (Cz z q p w.heap.size) w wn):=aa (fU.out.trans kG (fun _ _ h=>h.elim));have Yn:=aa oJ.size;have Ed:=aa kG.size;clear xk;clear hd be b5 bb;have bh:Hid (wn.cell? ⟨q,2,none⟩=some (.int .i64 (MM.2.2.at_:Nat))):=aa (WX.blk.cell 2);go_upto_region 50 with fail
            refine D6 (fun b=>w6.heap.size<=b/\b<w7.heap.size) Dr base w.heap.size z q at_ MM.2.2.at_ eb eo en ec A n cc r1.rows us B.1 _ _ _ _ _ wn _ (aa (fun _ _ _ _ h=>h)) Qo a9 Ym bh O5 za (fun e he=>(cK Lu he).2.1) SL.1 SL.2 X5 d9 Yn HZ.lt HS.qB (aa (fun b hb=>⟨Nat.le_trans dV.size hb.1,Nat.lt_of_lt_of_le hb.2 Ed,fun e=>by have h8:=(ah EB.own b e).2;have h9:=hb.1;omega⟩)) ?_;intro V7 V9 Wd We Wh Wi Wj Wk Wl Wm Wn Wo Wp Wq Ws Wt Wu Wv Ww Wx Wy Wz WA WB WC WE WF WG WH A' iW kF w9 bK bL a1 a2;have aE:Hid (∀gg,(Value.slice A' (n+1) iW).ownBlock=some gg->(Value.slice A n cc).ownBlock=some gg\/wn.heap.size<=gg):=aa a2;have dY:=aa bK;have dZ:=aa bL;have SN:=aa a1;clear bK bL a1 a2;go_wp2;rw [HR.out,HF.out,if_neg ui.out,if_neg (by simp),if_neg Bu.out,if_neg (by simp),if_neg (by simp),if_neg gm.out,oG.out,if_neg (by simp),if_neg xh.out]
            refine⟨(D8 oJ).trans SN (fun b _ e=>by
             rcases e with e|e
             ·exact .inl e
             ·exact .inr (.inr (.inr (.inl e)))),fun h=>(by cases h),fun es h=> ?_⟩
            injection h with h
            subst h;have al:∀gg,(Value.slice A n cc).ownBlock=some gg->gg<w6.heap.size:=fun gg hg=>(ah EB.own gg hg).2
            refine⟨_,en,ec,A',n+1,iW,kF,rfl,xA,b7,?_,dY,?_,dZ,fun g hg=>(aE g hg).imp id (fun h=>Nat.le_trans Yn h)⟩
            ·refine(Ym.chg SN (fun b hb e=> ?_)).weak (fun b hb=>⟨Nat.le_trans a8 hb.1,Nat.lt_of_lt_of_le hb.2 (Nat.le_trans Ed SN.size),fun e=> ?_⟩)
             ·rcases e with e|e
              ·have h8:=HZ.out.lt;have h9:=d9.out;have ar:=hb.1;omega
              ·have h8:=al b e;have h9:=hb.1;omega
             ·rcases aE.out b e with e|e
              ·have h8:=al b e;have h9:=hb.1;omega
              ·have h9:=hb.2;have ar:=Ed.out;omega
            ·refine WX.chg SN (fun e=> ?_) (fun e=> ?_) (fun b hb e=> ?_)
             ·rcases e with e|e
              ·exact HZ.zq e.symm
              ·have h8:=(ah EB.own q e).1;have h9:=HS.out.qB;omega
             ·rcases e with e|e
              ·exact HZ.zp e.symm
              ·have h8:=(ah EB.own p e).1;have h9:=HS.out.pB;omega
             ·rcases e with e|e
              ·exact xU (e▸hb)
              ·have h8:=(ah EB.own b e).1;have h9:=HS.out.lt b hb;omega
           ·obtain⟨j,hj⟩:∃j,n=j+1:=⟨n-1,by omega⟩;obtain⟨g,o,M,mn,mc,y,vC,_,b2,d0,_,_,_,sy⟩:=Tw.out.sps.at_ (k:=j) (by omega);have a5:r1.rows.getLast?.getD ⟨[],0,0,0⟩=y:=by rw [List.getLast?_eq_getElem?,<-yX.out,show n-1=j by omega,b2];rfl
            rw [a5] at oG;have zW:Hid (∀k,Calls prog 68 #[.slice M mn mc,.slice K1 F8 cE] (w7.drewN k) fun e w'=>e= .returned (.int .i64 (compareBytes y.last key))/\∃q,w'=(w7.drewN k).drewN q):=aa (fun k=>eX M K1 mn F8 mc cE _ _ y.last key (w7.drewN k) (sy.parts.2.2.2.drewN k) sy.parts.2.2.1 (WW.drewN k) xB (by have h9:=sy.parts.2.2.1;have h8:=(wV.out.rows.key y (List.mem_of_getElem? b2)).2;omega));obtain⟨ce,ci⟩:∃ce,ce=compareBytes y.last key:=⟨_,rfl⟩;rw [<-ci] at zW oG;have hd:decide (0<n)=true:=decide_eq_true (by omega);have be:decide ((0:Int)<(n:Int))=true:=decide_eq_true (by omega);have d5:IntKind.i64.wrap ((n:Int)-1)=(j:Int):=by rw [IntWalk.i64_in _ (by omega)];omega
            have d6:IntKind.i64.wrap (j:Int)=(j:Int):=IntWalk.i64_in _ (by omega);have d4:(0:Int)<=(j:Int):=by omega
            have d7:j<n:=by omega
            have xI:(j:Int)<(n:Int):=by omega
            have cW:Hid (0<n):=aa (by omega);subst vC;clear n0 hj b2 a5 ci sy;go_upto_region 48 with fail
            by_cases Bw:0<=ce
            ·have xh:Hid (0<n/\0<=ce):=aa ⟨cW,Bw⟩;have de:decide (0<=ce)=true:=decide_eq_true Bw;go_quiet ((go_at_call 68;exact Calls.quiet_of (zW _)));obtain⟨wn,xk⟩:∃W,W=w7.drewN nq:=⟨_,rfl⟩;have kG:Hid (ag Nil w7 wn):=aa (by rw [xk];exact(ag.refl Nil w7).drewN nq);rw [<-xk];have Qo:=aa (jb.chg kG (fun h=>h));have a9:=aa (Tw.chg kG (fun _ _ _ h=>h));have Ym:=aa (Pq.chg kG (fun _ _ h=>h));have WX:Hid (eY wn F q p MM.2.2):=aa (X3.chg kG (fun h=>h) (fun h=>h) (fun _ _ h=>h));have oJ:Hid (ag (Cz z q p w.heap.size) w wn):=aa (fU.out.trans kG (fun _ _ h=>h.elim));have Yn:=aa oJ.size;have Ed:=aa kG.size;clear xk;clear hd be b5 bb d0;go_wp2_with (go_at_call 60;go_loud (refine(aY z _ _ _ _ _ _ _ 51 (N.2.2.at_:Nat) wn Qo).mono ?_);rintro e9 w9 ⟨rfl,bK,bL⟩;have dY:=aa bK;have dZ:=aa bL;clear bK bL)
             rw [HR.out]
             exact ab MM.2.2 51 (N.2.2.at_:Nat) wn _ w9 _ WX.src (by rw [HF.out,if_neg ui.out,if_neg (by simp),if_neg Bu.out,if_neg (by simp),if_neg (by simp),if_neg gm.out,oG.out,if_neg (by simp),if_pos xh.out]) oJ ⟨rfl,dY,dZ⟩
            ·have xh:Hid (¬(0<n/\0<=ce)):=aa (fun h=>Bw h.2);have de:decide (0<=ce)=false:=decide_eq_false Bw;go_quiet ((go_at_call 68;exact Calls.quiet_of (zW _)));obtain⟨wn,xk⟩:∃W,W=w7.drewN nq:=⟨_,rfl⟩;have kG:Hid (ag Nil w7 wn):=aa (by rw [xk];exact(ag.refl Nil w7).drewN nq);rw [<-xk];have Qo:=aa (jb.chg kG (fun h=>h));have a9:=aa (Tw.chg kG (fun _ _ _ h=>h));have Ym:=aa (Pq.chg kG (fun _ _ h=>h));have WX:Hid (eY wn F q p MM.2.2):=aa (X3.chg kG (fun h=>h) (fun h=>h) (fun _ _ h=>h));have oJ:Hid (ag (Cz z q p w.heap.size) w wn):=aa (fU.out.trans kG (fun _ _ h=>h.elim));have Yn:=aa oJ.size;have Ed:=aa kG.size;clear xk;clear hd be b5 bb d0;have bh:Hid (wn.cell? ⟨q,2,none⟩=some (.int .i64 (MM.2.2.at_:Nat))):=aa (WX.blk.cell 2);go_upto_region 50 with fail
             refine D6 (fun b=>w6.heap.size<=b/\b<w7.heap.size) Dr base w.heap.size z q at_ MM.2.2.at_ eb eo en ec (some ⟨g,o,none⟩) n cc r1.rows us B.1 _ _ _ _ _ wn _ (aa (fun _ _ _ _ h=>h)) Qo a9 Ym bh O5 za (fun e he=>(cK Lu he).2.1) SL.1 SL.2 X5 d9 Yn HZ.lt HS.qB (aa (fun b hb=>⟨Nat.le_trans dV.size hb.1,Nat.lt_of_lt_of_le hb.2 Ed,fun e=>by have h8:=(ah EB.own b e).2;have h9:=hb.1;omega⟩)) ?_;intro V7 V9 Wd We Wh Wi Wj Wk Wl Wm Wn Wo Wp Wq Ws Wt Wu Wv Ww Wx Wy Wz WA WB WC WE WF WG WH A' iW kF w9 bK bL a1 a2;have aE:Hid (∀gg,(Value.slice A' (n+1) iW).ownBlock=some gg->(Value.slice (some ⟨g,o,none⟩) n cc).ownBlock=some gg\/wn.heap.size<=gg):=aa a2;have dY:=aa bK;have dZ:=aa bL;have SN:=aa a1;clear bK bL a1 a2;go_wp2;rw [HR.out,HF.out,if_neg ui.out,if_neg (by simp),if_neg Bu.out,if_neg (by simp),if_neg (by simp),if_neg gm.out,oG.out,if_neg (by simp),if_neg xh.out]
             refine⟨(D8 oJ).trans SN (fun b _ e=>by
              rcases e with e|e
              ·exact .inl e
              ·exact .inr (.inr (.inr (.inl e)))),fun h=>(by cases h),fun es h=> ?_⟩
             injection h with h
             subst h;have al:∀gg,(Value.slice (some ⟨g,o,none⟩) n cc).ownBlock=some gg->gg<w6.heap.size:=fun gg hg=>(ah EB.own gg hg).2
             refine⟨_,en,ec,A',n+1,iW,kF,rfl,xA,b7,?_,dY,?_,dZ,fun g hg=>(aE g hg).imp id (fun h=>Nat.le_trans Yn h)⟩
             ·refine(Ym.chg SN (fun b hb e=> ?_)).weak (fun b hb=>⟨Nat.le_trans a8 hb.1,Nat.lt_of_lt_of_le hb.2 (Nat.le_trans Ed SN.size),fun e=> ?_⟩)
              ·rcases e with e|e
               ·have h8:=HZ.out.lt;have h9:=d9.out;have ar:=hb.1;omega
               ·have h8:=al b e;have h9:=hb.1;omega
              ·rcases aE.out b e with e|e
               ·have h8:=al b e;have h9:=hb.1;omega
               ·have h9:=hb.2;have ar:=Ed.out;omega
             ·refine WX.chg SN (fun e=> ?_) (fun e=> ?_) (fun b hb e=> ?_)
              ·rcases e with e|e
               ·exact HZ.zq e.symm
               ·have h8:=(ah EB.own q e).1;have h9:=HS.out.qB;omega
              ·rcases e with e|e
               ·exact HZ.zp e.symm
               ·have h8:=(ah EB.own p e).1;have h9:=HS.out.pB;omega
              ·rcases e with e|e
               ·exact xU (e▸hb)
               ·have h8:=(ah EB.own b e).1;have h9:=HS.out.lt b hb;omega
          ·have d3:(eB==0)=false:=by rw [beq_eq_false_iff_ne];exact h5
           have H5:=aa h5;have d8:IntKind.i64.wrap ((N.2.2.at_:Int)+(pB:Int))=((N.2.2.at_+pB:Nat):Int):=by rw [IntWalk.i64_in _ (by omega)];omega
           go_wp2_with (go_at_call 60;go_loud (refine(aY z _ _ _ _ _ _ _ eB ((N.2.2.at_+pB:Nat)) w7 jb).mono ?_);rintro e9 w9 ⟨rfl,bK,bL⟩;have dY:=aa bK;have dZ:=aa bL;clear bK bL)
           rw [HR.out]
           exact ab MM.2.2 eB ((N.2.2.at_+pB:Nat)) w7 _ w9 _ X3.src (by rw [HF.out,if_neg ui.out,if_neg (by simp),if_neg Bu.out,if_neg (by simp),if_neg (by simp),if_neg gm.out,oG.out,if_pos H5.out]) fU ⟨rfl,dY,dZ⟩
        ·have dc:(eM==0)=false:=by rw [beq_eq_false_iff_ne];exact h4
         have H4:=aa h4;go_wp2_with (go_at_call 60;go_loud (refine(aY z _ _ _ _ _ _ _ eM (LL.2.2.at_:Nat) w5 eG).mono ?_);rintro e9 w9 ⟨rfl,bK,bL⟩;have dY:=aa bK;have dZ:=aa bL;clear bK bL)
         rw [HR.out]
         exact ab MM.2.2 eM (LL.2.2.at_:Nat) w5 _ w9 _ xV.src (by rw [HF.out,if_neg ui.out,if_neg (by simp),if_neg Bu.out,if_neg (by simp),if_pos H4.out]) dF ⟨rfl,dY,dZ⟩
       ·have db:(eL==0)=false:=by rw [beq_eq_false_iff_ne];exact h3
        have H3:=aa h3;go_wp2_with (go_at_call 60;go_loud (refine(aY z _ _ _ _ _ _ _ eL (N.2.2.at_:Nat) w4 dR).mono ?_);rintro e9 w9 ⟨rfl,bK,bL⟩;have dY:=aa bK;have dZ:=aa bL;clear bK bL)
        rw [HR.out]
        exact ab LL.2.2 eL (N.2.2.at_:Nat) w4 _ w9 _ an.src (by rw [HF.out,if_neg ui.out,if_neg (by simp),if_neg Bu.out,if_pos H3.out]) fV ⟨rfl,dY,dZ⟩
     ·have da:(e2==0)=false:=by rw [beq_eq_false_iff_ne];exact h2
      have H2:=aa h2;go_wp2_with (go_at_call 60;go_loud (refine(aY z _ _ _ _ _ _ _ e2 (L.2.2.at_:Nat) w3 ac).mono ?_);rintro e9 w9 ⟨rfl,bK,bL⟩;have dY:=aa bK;have dZ:=aa bL;clear bK bL)
      rw [HR.out]
      exact ab N.2.2 e2 (L.2.2.at_:Nat) w3 _ w9 _ ad.src (by rw [HF.out,if_neg ui.out,if_pos H2.out]) eH ⟨rfl,dY,dZ⟩
   ·have SQ:¬((kd.toNat:Int)=66):=fun e=>SK (UInt8.toNat_inj.mp (by rw [show(66:UInt8).toNat=66 from rfl];omega));have dz:((kd.toNat:Int)==66)=false:=by rw [beq_eq_false_iff_ne];exact SQ
    have WQ:=aa SK;have dT:((kd.toNat:Int) !=66)=true:=by rw [bne_iff_ne];exact SQ
    have dU:((kd.toNat:Int) !=70)=true:=by rw [bne_iff_ne];exact SI
    have HF:=Jz;go_wp2_with (go_at_call 60;go_loud (refine(aY z _ _ _ _ _ _ _ 82 (at_:Nat) w2 am).mono ?_);rintro e9 w9 ⟨rfl,bK,bL⟩;have dY:=aa bK;have dZ:=aa bL;clear bK bL)
    rw [HR.out]
    exact ab L.2.2 82 (at_:Nat) w2 _ w9 _ a0.src (by rw [HF.out,if_neg (by simp),if_neg SF.out,if_pos WQ.out]) bB ⟨rfl,dY,dZ⟩
 ·have d1:(e1==0)=false:=by rw [beq_eq_false_iff_ne];exact h1
  have H1:=aa h1;have HF:=Jz;go_wp2_with (go_at_call 60;go_loud (refine(aY z _ _ _ _ _ _ _ e1 (at_:Nat) w2 am).mono ?_);rintro e9 w9 ⟨rfl,bK,bL⟩;have dY:=aa bK;have dZ:=aa bL;clear bK bL)
  rw [HR.out];exact ab L.2.2 e1 (at_:Nat) w2 _ w9 _ a0.src (by rw [HF.out,if_pos H1.out]) bB ⟨rfl,dY,dZ⟩
theorem Gj (F Dr:Nat->Prop) (z q p base K:Nat) (c:Option Addr) (t:Nat) (A:Option Addr) (n cc:Nat) (us:List Value) (r:bg) (w:World) (s:Sit F q p base) (zs:Zs z q p base) (v:¬F z) (G:base<=w.heap.size)
  (i:aj w z 103 #[.pointer (some ⟨q,0,none⟩),.bool true,.bool false,.int .i64 r.err,.int .i64 (r.bad:Nat),.slice A n cc,.slice c 0 t]) (l:aX w base Dr (.slice A n cc) n r.rows us)
  (h:eY w F q p r.cur) (u:r.Ok K) (f:r.st=1) (J:K<=1152921504606846976):
  Calls prog 35 #[.pointer (some ⟨z,0,none⟩)] w (oo F z q p base Dr c t A n cc us r.next.1 r.next.2 w):=by
 refine letter fun R y=> ?_;have B:=aa s;have D:=aa zs;have d:=aa i;have x:=aa l;have e:=aa h;have I:=aa G;have N:=aa v;obtain⟨j,g⟩:∃j,j=w:=⟨_,rfl⟩;obtain⟨b,a⟩:∃b,b=r:=⟨_,rfl⟩;have C:Hid (r.next=b.frame):=aa (by rw [a];unfold bg.next;rw [if_neg (by omega),if_pos f]);have k:Hid (b.rows=r.rows):=aa (by rw [a]);have M:Hid (b.Ok K):=aa (by rw [a];exact u);have o:Hid (b.st=1):=aa (by rw [a];exact f);have L:Hid (ag (Cz z q p w.heap.size) w j):=aa (by rw [g];exact ag.refl _ _);rw [<-a] at e;have m:Hid (r.err=b.err/\r.bad=b.bad):=aa (by rw [a];exact⟨rfl,rfl⟩);have Q:w.cell? ⟨z,6,none⟩=some (.slice c 0 t):=i.cell 6;have P:w.cell? ⟨z,2,none⟩=some (.bool false):=i.cell 2;have O:w.cell? ⟨z,1,none⟩=some (.bool true):=i.cell 1;clear s zs i l h u G v f a;go_enter func35,ntmps35
 go_upto_region 14 with fail
 clear Q P O;rw [m.out.1,m.out.2] at d;rw [<-g] at d e|-;clear g;rename_i E H;exact tO F Dr z q p base K c t A n cc us r b w j R E y B D x I N C k M o L d e J H
end Go.Proofs.YtepgcjbhabnciaaGreat
