/- Part 21. -/
import Derived.Test.YtepgcjbhabnciaaGreatLe19
import Derived.Test.YtepgcjbhabnciaaGreatLe20
import Derived.Laws.EntriesVeiled
namespace Go.Proofs.YtepgcjbhabnciaaGreat
set_option maxRecDepth 100000
set_option maxHeartbeats 8000000
open Go.Proofs.Tryz Go.RowKit
open Go.Lib (compareBytes)
variable {u1 J L H v u6 u7 M E I Z N U Y O f C s V P m D g u26 j W u A k u32 p F u35 u36 u37 c R u40 X K G u44 u45 u46 l u48 u49 z d o B n u55 fE t u58 u59 u60 gJ gY u63 u64 gZ u66 iq u68 u69 u70 u30 u34 u38 u42 u51 u53 eQ e u2 u3 u4 u5 u8 u9 u16 u20 u21 u22 u23 u24 u25 u27 u28 u29 u31 u33 eO a u72 u73 jJ u75 jK mF mG mH mI mJ mV mW mX l8 T q h b ed fF:Value} {S:List Value} {w:World}
noncomputable def Iz:Code:=aV (f134.body.bind (aJ 10))
theorem Nq (q a i r:Nat) (x:Int) (cs:Array Value) (T:TypeId) (w:World) (Q:Exit->Act->World->Prop) (h:Hid (aj w q T cs)) (h2:Hid (cs[2]? =some (.int .i64 i))) (hi:i<=1000) (hr:Hid (r=if a≠0\/x≠0 then 0 else i+1)) (h0:a≠0)
  (ax:∀(al am an ao ap aq ar aw aA aE:Value) (w':World),aj w' q T (cs.setIfInBounds 2 (.int .i64 (r:Nat)))->ag (fun b=>b=q) w w'->Q .normal ⟨(.pointer (some ⟨q,0,none⟩)::u1::J::L::H::v::u6::u7:: .int .i64 a:: .int .i64 x:: .bool (decide (r=16))::E::I::Z::N::U::Y::O::f::C::s::V::P::m::D::g::u26::j::W::u::A::k::u32::p::F::u35::u36::u37::c::R::u40::X::K::G::u44::u45::u46::l::u48::u49::z::d::o::B::n::u55::fE::t::u58::u59::u60::al::am::an::ao::ap::aq::ar::aw::aA::aE::S).toArray,[]⟩ w'):
  Code.wp prog Iz Q ⟨(.pointer (some ⟨q,0,none⟩)::u1::J::L::H::v::u6::u7:: .int .i64 a:: .int .i64 x::M::E::I::Z::N::U::Y::O::f::C::s::V::P::m::D::g::u26::j::W::u::A::k::u32::p::F::u35::u36::u37::c::R::u40::X::K::G::u44::u45::u46::l::u48::u49::z::d::o::B::n::u55::fE::t::u58::u59::u60::gJ::gY::u63::u64::gZ::u66::iq::u68::u69::u70::S).toArray,[]⟩ w:=by
 have dP:=aa ax;have hw:=rW q i true cs T w h.out h2.out hi;have ad:(if(true:Bool)=true then 0 else i+1:Nat)=r:=by rw [hr.out];simp [h0]
 rw [ad] at hw;obtain⟨rb,ac⟩:∃rb,rb=decide (r=16):=⟨_,rfl⟩;rw [<-ac] at hw dP;have HW:=aa hw
 (have a1:decide (0<a)=true:=decide_eq_true (by omega);have a0:decide ((0:Int)<(a:Int))=true:=decide_eq_true (by omega);clear h0)
 clear ax hw ad ac hr h h2;conv=>arg 2;whnf
 go_wp2_with (go_at_call 161;go_loud (refine HW.mono ?_);rintro e w2 ⟨rfl,y,ab⟩;have ae:=aa y;have bB:=aa ab;clear y ab)
 exact dP _ _ _ _ _ _ _ _ _ _ w2 ae bB
theorem Nr (q a i r:Nat) (x:Int) (cs:Array Value) (T:TypeId) (w:World) (Q:Exit->Act->World->Prop) (h:Hid (aj w q T cs)) (h2:Hid (cs[2]? =some (.int .i64 i))) (hi:i<=1000) (hr:Hid (r=if a≠0\/x≠0 then 0 else i+1)) (h0:a=0) (h1:x≠0)
  (ax:∀(al am an ao ap aq ar aw aA aE:Value) (w':World),aj w' q T (cs.setIfInBounds 2 (.int .i64 (r:Nat)))->ag (fun b=>b=q) w w'->Q .normal ⟨(.pointer (some ⟨q,0,none⟩)::u1::J::L::H::v::u6::u7:: .int .i64 a:: .int .i64 x:: .bool (decide (r=16))::E::I::Z::N::U::Y::O::f::C::s::V::P::m::D::g::u26::j::W::u::A::k::u32::p::F::u35::u36::u37::c::R::u40::X::K::G::u44::u45::u46::l::u48::u49::z::d::o::B::n::u55::fE::t::u58::u59::u60::al::am::an::ao::ap::aq::ar::aw::aA::aE::S).toArray,[]⟩ w'):
  Code.wp prog Iz Q ⟨(.pointer (some ⟨q,0,none⟩)::u1::J::L::H::v::u6::u7:: .int .i64 a:: .int .i64 x::M::E::I::Z::N::U::Y::O::f::C::s::V::P::m::D::g::u26::j::W::u::A::k::u32::p::F::u35::u36::u37::c::R::u40::X::K::G::u44::u45::u46::l::u48::u49::z::d::o::B::n::u55::fE::t::u58::u59::u60::gJ::gY::u63::u64::gZ::u66::iq::u68::u69::u70::S).toArray,[]⟩ w:=by
 have dP:=aa ax;have hw:=rW q i true cs T w h.out h2.out hi;have ad:(if(true:Bool)=true then 0 else i+1:Nat)=r:=by rw [hr.out];simp [h1]
 rw [ad] at hw;obtain⟨rb,ac⟩:∃rb,rb=decide (r=16):=⟨_,rfl⟩;rw [<-ac] at hw dP;have HW:=aa hw
 (subst h0;have a0:(x==0)=false:=(by rw [beq_eq_false_iff_ne];exact h1);have a1:decide (x=0)=false:=decide_eq_false h1;have a2:(x !=0)=true:=(by rw [bne_iff_ne];exact h1))
 clear ax hw ad ac hr h h2;conv=>arg 2;whnf
 go_wp2_with (go_at_call 161;go_loud (refine HW.mono ?_);rintro e w2 ⟨rfl,y,ab⟩;have ae:=aa y;have bB:=aa ab;clear y ab)
 exact dP _ _ _ _ _ _ _ _ _ _ w2 ae bB
theorem QC (q a i r:Nat) (x:Int) (cs:Array Value) (T:TypeId) (w:World) (Q:Exit->Act->World->Prop) (h:Hid (aj w q T cs)) (h2:Hid (cs[2]? =some (.int .i64 i))) (hi:i<=1000) (hr:Hid (r=if a≠0\/x≠0 then 0 else i+1)) (h0:a=0) (h1:x=0)
  (ax:∀(al am an ao ap aq ar aw aA aE:Value) (w':World),aj w' q T (cs.setIfInBounds 2 (.int .i64 (r:Nat)))->ag (fun b=>b=q) w w'->Q .normal ⟨(.pointer (some ⟨q,0,none⟩)::u1::J::L::H::v::u6::u7:: .int .i64 a:: .int .i64 x:: .bool (decide (r=16))::E::I::Z::N::U::Y::O::f::C::s::V::P::m::D::g::u26::j::W::u::A::k::u32::p::F::u35::u36::u37::c::R::u40::X::K::G::u44::u45::u46::l::u48::u49::z::d::o::B::n::u55::fE::t::u58::u59::u60::al::am::an::ao::ap::aq::ar::aw::aA::aE::S).toArray,[]⟩ w'):
  Code.wp prog Iz Q ⟨(.pointer (some ⟨q,0,none⟩)::u1::J::L::H::v::u6::u7:: .int .i64 a:: .int .i64 x::M::E::I::Z::N::U::Y::O::f::C::s::V::P::m::D::g::u26::j::W::u::A::k::u32::p::F::u35::u36::u37::c::R::u40::X::K::G::u44::u45::u46::l::u48::u49::z::d::o::B::n::u55::fE::t::u58::u59::u60::gJ::gY::u63::u64::gZ::u66::iq::u68::u69::u70::S).toArray,[]⟩ w:=by
 have dP:=aa ax;have hw:=rW q i false cs T w h.out h2.out hi;have ad:(if(false:Bool)=true then 0 else i+1:Nat)=r:=by rw [hr.out];simp [h0,h1]
 rw [ad] at hw;obtain⟨rb,ac⟩:∃rb,rb=decide (r=16):=⟨_,rfl⟩;rw [<-ac] at hw dP;have HW:=aa hw
 (subst h0;subst h1)
 clear ax hw ad ac hr h h2;conv=>arg 2;whnf
 go_wp2_with (go_at_call 161;go_loud (refine HW.mono ?_);rintro e w2 ⟨rfl,y,ab⟩;have ae:=aa y;have bB:=aa ab;clear y ab)
 exact dP _ _ _ _ _ _ _ _ _ _ w2 ae bB
theorem Nn (q a i r:Nat) (x:Int) (cs:Array Value) (T:TypeId) (w:World) (Q:Exit->Act->World->Prop) (h:Hid (aj w q T cs)) (h2:Hid (cs[2]? =some (.int .i64 i))) (hi:i<=1000) (hr:Hid (r=if a≠0\/x≠0 then 0 else i+1))
  (y:∀(ab ac ad ae al am an ao ap aq:Value) (w':World),aj w' q T (cs.setIfInBounds 2 (.int .i64 (r:Nat)))->ag (fun b=>b=q) w w'->Q .normal ⟨(.pointer (some ⟨q,0,none⟩)::u1::J::L::H::v::u6::u7:: .int .i64 a:: .int .i64 x:: .bool (decide (r=16))::E::I::Z::N::U::Y::O::f::C::s::V::P::m::D::g::u26::j::W::u::A::k::u32::p::F::u35::u36::u37::c::R::e::X::K::G::u44::u45::u46::l::u48::u49::z::d::o::B::n::u55::fE::t::u58::u59::u60::ab::ac::ad::ae::al::am::an::ao::ap::aq::S).toArray,[]⟩ w'):
  Code.wp prog Iz Q ⟨(.pointer (some ⟨q,0,none⟩)::u1::J::L::H::v::u6::u7:: .int .i64 a:: .int .i64 x::M::E::I::Z::N::U::Y::O::f::C::s::V::P::m::D::g::u26::j::W::u::A::k::u32::p::F::u35::u36::u37::c::R::e::X::K::G::u44::u45::u46::l::u48::u49::z::d::o::B::n::u55::fE::t::u58::u59::u60::gJ::gY::u63::u64::gZ::u66::iq::u68::u69::u70::S).toArray,[]⟩ w:=by
 by_cases h0:a=0
 ·by_cases h1:x=0
  ·exact QC q a i r x cs T w Q h h2 hi hr h0 h1 y
  ·exact Nr q a i r x cs T w Q h h2 hi hr h0 h1 y
 ·exact Nq q a i r x cs T w Q h h2 hi hr h0 y
def Cs (q p base:Nat):Nat->Prop:=fun b=>b=q\/b=p\/base<=b
structure Mid (F:Nat->Prop) (q p base n hv K:Nat) (c0:ay) (b0:List UInt8) (w0:World) (c:ay) (bs:List UInt8) (v:Value) (w:World):Prop where
 iny:lW w F q p c hv
 row:Ow w base v bs
 fine:c.Fine K
 len:bs.length<=n
 eq:c0.loop b0 n=c.loop bs n
 chg:ag (Cs q p base) w0 w
 gl:c.src.gives.length<=1152921504606
 ll:c.src.left.length<=1152921504606
noncomputable def sG:Code:=aV (f134.body.bind (fB 0))
theorem Nl (F:Nat->Prop) (q p base n hv K:Nat) (c0:ay) (b0:List UInt8) (v0:Value) (w:World) (Q:Exit->Act->World->Prop)
  (H0:Hid (Mid F q p base n hv K c0 b0 w c0 b0 v0 w)) (hF:Hid (¬F p)) (db:q<base) (uB:p<base) (B:q≠p) (o:¬F q) (BM:Hid (∀b,F b->b<base)) (hbw:base<=w.heap.size) (hK:K<=1152921504606846976) (T:n<=1152921504606)
  (ax:∀(v4 v5 v7 v8 v9 bx bE bK bL b1 b2 b3 b4 b5 b6 b7 ao ap aq ar aw aA aE a0 a1 b8 b9 ca cb cd ce cf cg ch ci cj ck cl a2 a3 a4 a5 a6 a7 a8 a9 ba bb cn co cq cr ct cu cv cw cx cy cA cC cD cE:Value) (c:ay) (bs:List UInt8) (vv:Value) (w':World),c0.loop b0 n=(bs,0,c)->lW w' F q p c hv->Ow w' base vv bs->ag (Cs q p base) w w'->Q (.exit 0) ⟨(.pointer (some ⟨q,0,none⟩):: .int .i64 n::u2::u3::v4::v5::vv::v7::v8::v9::bx::E::I::Z::N::U::u16::O::f::C::u20::u21::u22::u23::u24::u25::u26::u27::u28::bE::bK::bL::b1::b2::b3::b4::b5::b6::b7::ao::ap::aq::ar::aw::aA::aE::a0::a1::b8::b9::ca::cb::cd::ce::cf::cg::ch::ci::cj::ck::cl::a2::a3::a4::a5::a6::a7::a8::a9::ba::bb::cn::co::cq::cr::ct::cu::cv::cw::cx::cy::cA::cC::cD::cE::l8:: []).toArray,[]⟩ w')
  (be:∀(v6 v7 v8 v9 bx bE bK bL b1 b2 b3 b4 b5 b6 b7 ao ap aq ar aw aA aE a0 a1 b8 b9 ca cb cd ce cf cg ch ci cj ck cl a2 a3 a4 a5 a6 a7 a8 a9 ba bb cn co cq cr ct cu cv cw cx cy cA cC cD cE:Value) (c:ay) (ez:Int) (w':World),c0.loop b0 n=([],ez,c)->ez≠0->lW w' F q p c hv->ag (Cs q p base) w w'->Q .ret ⟨(.pointer (some ⟨q,0,none⟩):: .int .i64 n::u2::u3:: .slice none 0 0:: .int .i64 ez::v6::v7::v8::v9::bx::E::I::Z::N::U::u16::O::f::C::u20::u21::u22::u23::u24::u25::u26::u27::u28::bE::bK::bL::b1::b2::b3::b4::b5::b6::b7::ao::ap::aq::ar::aw::aA::aE::a0::a1::b8::b9::ca::cb::cd::ce::cf::cg::ch::ci::cj::ck::cl::a2::a3::a4::a5::a6::a7::a8::a9::ba::bb::cn::co::cq::cr::ct::cu::cv::cw::cx::cy::cA::cC::cD::cE::l8:: []).toArray,[]⟩ w'):
  Code.wp prog sG Q ⟨(.pointer (some ⟨q,0,none⟩):: .int .i64 n::u2::u3::u4::u5::v0::u7::u8::u9::M::E::I::Z::N::U::u16::O::f::C::u20::u21::u22::u23::u24::u25::u26::u27::u28::u29::u30::u31::u32::u33::u34::u35::u36::u37::u38::R::u40::X::u42::G::u44::u45::u46::l::u48::u49::z::u51::eO::u53::eQ::u55::a::t::u58::u59::u60::gJ::gY::u63::u64::J::u66::iq::u68::u69::u70::H::u72::u73::jJ::u75::jK::mF::mG::mH::mI::mJ::mV::mW::mX::l8:: []).toArray,[]⟩ w:=by
 have dP:=aa ax;have Zb:=aa be;obtain⟨i0,cM,cR,cX,cS⟩:=info_parts bu;have al:=fun(m:Nat) (hm:m<=4096) (w:World)=>kz (P:=prog) 24 5 i0 _ underlying24 cM cR .i64 .i64 m m (Nat.le_refl _) (by rw [cS];omega) (by omega) w;have cT:=aa al;clear ax be al;conv=>arg 2;whnf
 go_loopg [6] ((n-b0.length)*17+(16-c0.idle)) (fun g' QA wz=>∃(c:ay) (bs:List UInt8),g'=(n-bs.length)*17+(16-c.idle)/\Mid F q p base n hv K c0 b0 w c bs QA wz)
 case atStart=>exact⟨c0,b0,rfl,H0⟩
 case round=>
  obtain⟨c,bs,hg,hm⟩:=hrel;have HG:=aa hg;have i:=aa hm;obtain⟨A,cp,bp,c6,bk⟩:=au hm.row;subst bp;have cY:=hm.len;clear hg hm
  by_cases da:bs.length<n
  ·obtain⟨m,cN⟩:∃m,m=min (n-bs.length) 4096:=⟨_,rfl⟩;have Hu:min ((n:Int)-(bs.length:Int)) 4096=(m:Int):=by omega
   have QB:m<=4096:=by omega
   have al:=cT.out m QB wr;have CX:=aa cN;clear cN;go_upto_region 6 with fail
   obtain⟨pb,am⟩:∃pb,pb=wr.heap.size:=⟨_,rfl⟩;obtain⟨w1,an⟩:∃W,W=wr.alloc (.cells (madeCells #[Value.int .u8 0] m) 5):=⟨_,rfl⟩;simp only [<-an,<-am];have Ig:=aa am;have D:Hid (Below wr.heap.size wr w1):=aa (by rw [an];exact(Below.refl _ _).alloc (Nat.le_refl _) _);have JO:Hid (Bf w1 pb m []):=aa ⟨(madeCells #[Value.int .u8 0] m).toList,by rw [an,am,Array.toArray_toList];exact aj.new _ _ _,by rw [Array.length_toList,size_madeCells],by simp [aF]⟩;have c5:base<=pb:=by have:=i.out.chg.size;omega
   have z3:w1.cell? ⟨q,3,none⟩=some (.iface 29 (.pointer (some ⟨p,0,none⟩))):=ak D (i.iny.blk.cell 3);have ae:c.src.calls<4611686018427387904:=by have L:=i.out.fine.pot;unfold ay.pot at L;omega
   clear an am al;refine Qz F q p pb m c.src w1 _ z3 (aa (i.iny.src.below D)) hF (aa (fun b hb=>by have:=BM.out b hb;omega)) JO (by omega) ae QB i.gl i.ll ?_;intro ao ap aq ar aw aA aE a0 a1 w2 cQ cI bk;have cH:=aa cQ;have cF:=aa cI;have JP:Hid (c.ask (n-bs.length)=((c.src.read m).1,(c.src.read m).2.1,{c with src:=(c.src.read m).2.2,idle:=if(c.src.read m).1≠ []\/(c.src.read m).2.1≠0 then 0 else c.idle+1})):=aa (by rw [CX.out];rfl);have ut:(c.src.read m).1.length<=m:=Src.read_len _ _;obtain⟨s,UJ⟩:∃s,s=(c.src.read m).1:=⟨_,rfl⟩;obtain⟨y,Iw⟩:∃y,y=(c.src.read m).2.1:=⟨_,rfl⟩;obtain⟨ss,bo⟩:∃ss,ss=(c.src.read m).2.2:=⟨_,rfl⟩;rw [<-UJ] at JP cF ut|-;rw [<-Iw] at JP|-;rw [<-bo] at JP cH;obtain⟨x,bm⟩:∃x,x=s.length:=⟨_,rfl⟩;rw [<-bm] at ut|-;have S:=aa bm;have JQ:=aa UJ;have JR:=aa Iw;have cV:=aa bo;have dc:¬((m:Int)<(x:Int)):=by omega
   have dd:decide (m<x)=false:=decide_eq_false (by omega);have cU:=aa (i.row.below D);have bB:=aa bk;clear cQ cI bk UJ Iw bo bm z3;have JS:Hid (Ow w2 base (.slice A bs.length cp) bs):=aa (cU.chg bB (fun g hg e=>by have L:=(ah i.row g hg);have v:=Ig.out;rcases e with e|e<;>omega));obtain⟨cur,cJ,cW,cL⟩:=cF.out
   have uf:Hid (Rd w2 (fun b=>b=pb) 1 (some ⟨pb,0,none⟩) x (aF s)):=aa ⟨by rw [cO,<-S.out];omega,fun _=>⟨pb,0,rfl,rfl,fun j u hj=>by
    rw [cJ.cell];rw [<-cL] at hj;rw [List.getElem?_take] at hj
    split at hj
    ·simpa using hj
    ·cases hj⟩⟩
   have c8:(x:Int)<=(m:Int):=by omega
   clear cJ cW cL;go_upto_region 10 with(at_builtin;go_loud (refine af _ rfl (.tmp 56) (.tmp 59) _ rfl base 5 i0 _ 1 1 underlying24 cM cR cX cS rfl (by omega) (.slice A bs.length cp) _ (aF bs) rfl JS (fun b=>b=pb) (some ⟨pb,0,none⟩) x m (aF s) rfl uf (bC _) (by simp only [maxLen];omega) (by omega) (by have L:=bB.out.size;have v:=D.out.size;have d:=Ig.out;omega) ?_);intro v6 w6 Y fu dD;have lU:=aa Y;have kE:=aa fu;have xJ:=aa dD;clear Y fu dD)
   obtain⟨r,hr⟩:∃r,r=if x≠0\/y≠0 then 0 else c.idle+1:=⟨_,rfl⟩;have Fw:=aa hr;have rP:Hid (aj w6 q 188 #[.int .i64 c.at_,.int .i64 c.err,.int .i64 c.idle,.iface 29 (.pointer (some ⟨p,0,none⟩)),.int .i64 9223372036854775807,.int .u8 hv,.bool c.held.isSome]):=aa (((i.iny.blk.below D).chg bB (fun e=>by rcases e with e|e<;>omega)).chg ((ag.refl _ _).grown kE (fun _ hk _=>hk)) (fun e=>by have:=(ah JS q e).1;omega));clear hr;refine Nn q x c.idle r y _ _ w6 _ rP (aa rfl) (by have:=i.out.fine.idle;omega) Fw ?_;intro a2 a3 a4 a5 a6 a7 a8 a9 ba bb w7 JU ad;obtain⟨k,V⟩:∃k:ay,k={c with src:=ss,idle:=r}:=⟨_,rfl⟩
   have Lu:Hid (r=if s≠ []\/y≠0 then 0 else c.idle+1):=aa (by
    rw [Fw.out];have e:(x≠0)=(s≠ []):=by rw [S.out];simp
    simp only [e])
   have bh:Hid (c.ask (n-bs.length)=(s,y,k)):=aa (by rw [JP.out,V,Lu.out]);have fu:ag (fun b=>base<=b) w2 w6:=(ag.refl _ _).grown kE (fun g hg _=>(ah JS g hg).1)
   have Zc:Hid (lW w7 F q p k hv):=aa (by
    rw [V];refine⟨JU,?_,i.iny.hl⟩;exact(cH.chg fu (by omega) (fun b hb e=>by have:=BM.out b hb;omega)).chg ad (fun e=>B e.symm) (fun b hb e=>o (e▸hb)))
   have xK:Hid (Ow w7 base v6 (bs++s)):=aa (by
    have L:=lU.out;have v:Ow w6 base v6 (bs++s):=by unfold Ow;rw [List.length_append,<-S.out];simpa [aF] using L
    exact v.chg ad (fun g hg e=>by have:=(ah v g hg).1;have e:g=q:=e;omega))
   have rH:Hid (ag (Cs q p base) w w7):=aa ((((i.chg.then D).trans (bB.mono (fun b _ e=>by rcases e with e|e;exact .inr (.inl e);exact .inr (.inr (by omega)))) (fun _ _ h=>h)).trans (fu.mono (fun b _ e=> .inr (.inr e))) (fun _ _ h=>h)).trans (ad.mono (fun b _ e=> .inl e)) (fun _ _ h=>h));have Iy:=aa i.eq;have Ez:=ay.loop_eq c bs n;rw [if_neg (by omega),bh.out] at Ez;have cG:=aa Ez;obtain⟨A6,c3,bp,_,_⟩:=au xK;subst bp;have ae:(bs++s).length=bs.length+x:=by rw [List.length_append,S.out]
   have BK:=aa ae;have c9:bs.length+x<=n:=by have:=CX.out;omega
   have Fx:Hid (k.src.gives.length<=1152921504606/\k.src.left.length<=1152921504606):=aa (by
    rw [V,cV.out];refine⟨?_,by have L:=Src.read_left c.src m;have v:=i.out.ll;simp only [];omega⟩;have:(c.src.read m).2.2.gives=c.src.gives:=by unfold Src.read;split;rfl;split<;>rfl
    rw [this];exact i.gl)
   have X0:Hid (k.idle=r):=aa (by rw [V]);clear V JU ad fu Ez ae;rw [BK.out]
   have ja:Hid ((x≠0\/y=0)->k.pot<=K):=aa (fun h=>by
    have L:=ay.ask_pot (n-bs.length) i.fine (by
     rw [bh.out]
     rcases h with h|h
     ·exact .inl (fun e=>h (by rw [S.out];exact congrArg List.length e))
     ·exact .inr h)
    rw [bh.out] at L;exact L)
   by_cases e1:n<=bs.length+x
   ·have e2:n=bs.length+x:=by omega
    have c4:(bs.length:Int)+(x:Int)=(n:Int):=by omega
    have bj:Hid (x≠0/\r=0):=aa ⟨by omega,by rw [Fw.out,if_pos (.inl (by omega))]⟩;have xA:=aa e1;clear e1 e2;go_wp2
    go_roundg ((n-(bs++s).length)*17+(16-k.idle))
    case measure=>have L:=HG.out;have v:=BK.out;have d:=X0.out;have h4:=bj.out;have h5:=xA.out;rw [v,d];omega
    case rel=>
     have d:=cG.out;have v:=BK.out;have h5:=xA.out;rw [if_pos (by show n<=(bs++s).length;omega)] at d;have h4:k.loop (bs++s) n=(bs++s,0,k):=by rw [ay.loop_eq,if_pos (by omega)]
     exact⟨k,bs++s,rfl,Zc,(by have h9:=xK.out;rw [v] at h9;exact h9),⟨by rw [X0.out,bj.out.2];omega,ja (.inl bj.1)⟩,by omega,by rw [Iy.out,d,h4],rH,Fx.1,Fx.2⟩
   ·have UB:¬((bs.length:Int)+(x:Int)=(n:Int)):=by omega
    have d:=cG.out;have v:=BK.out;rw [if_neg (by show¬n<=(bs++s).length;omega)] at d;have yV:=aa e1;clear e1
    by_cases ac:y=31
    ·rw [if_pos ac] at d;have H3:=aa d;have c2:(y==31)=true:=by rw [beq_iff_eq];exact ac
     clear d v;subst ac;go_wp2
     exact Zb _ _ _ _ _ _ _ _ _ _ _ _ _ _ _ _ _ _ _ _ _ _ _ _ _ _ _ _ _ _ _ _ _ _ _ _ _ _ _ _ _ _ _ _ _ _ _ _ _ _ _ _ _ _ _ _ _ _ _ _ _ k 41 w7 (by rw [Iy.out,H3.out]) (by decide) Zc rH
    ·rw [if_neg (show¬((s,y,k).2.1=31) from ac)] at d
     by_cases e0:y=0
     ·rw [if_neg (show¬((s,y,k).2.1≠0) from fun h=>h e0)] at d;subst e0
      by_cases ab:r=16
      ·rw [if_pos (by show 16<=k.idle;rw [X0.out];omega)] at d;have H3:=aa d;have hd:decide (r=16)=true:=decide_eq_true ab;clear d v;subst ab;go_wp2
       exact Zb _ _ _ _ _ _ _ _ _ _ _ _ _ _ _ _ _ _ _ _ _ _ _ _ _ _ _ _ _ _ _ _ _ _ _ _ _ _ _ _ _ _ _ _ _ _ _ _ _ _ _ _ _ _ _ _ _ _ _ _ _ k 33 w7 (by rw [Iy.out,H3.out]) (by decide) Zc rH
      ·have Np:r<=15:=by have L:=Fw.out;have v:=i.out.fine.idle;split at L<;>omega
       rw [if_neg (by show¬16<=k.idle;rw [X0.out];omega)] at d;have H3:=aa d;have Zd:=aa Np;have hd:decide (r=16)=false:=decide_eq_false ab;obtain⟨rb,cP⟩:∃rb,rb=decide (r=16):=⟨_,rfl⟩;rw [<-cP] at hd|-;subst hd;clear d v cP ab Np;go_wp2
       go_roundg ((n-(bs++s).length)*17+(16-k.idle))
       case measure=>
        have L:=HG.out;have v:=BK.out;have d:=X0.out;have h4:=Fw.out;have h5:=Zd.out;have h6:=i.out.fine.idle;rw [v,d]
        by_cases h7:x=0
        ·rw [if_neg (by simp [h7])] at h4;omega
        ·omega
       case rel=>
        have v:=BK.out;have h5:=yV.out
        exact⟨k,bs++s,rfl,Zc,(by have h9:=xK.out;rw [v] at h9;exact h9),⟨by rw [X0.out];exact Zd,ja (.inr trivial)⟩,by omega,by rw [Iy.out,H3.out],rH,Fx.1,Fx.2⟩
     ·rw [if_pos (show(s,y,k).2.1≠0 from e0)] at d;have H3:=aa d;have kK:=aa e0;clear d v;go_wp2
      exact Zb _ _ _ _ _ _ _ _ _ _ _ _ _ _ _ _ _ _ _ _ _ _ _ _ _ _ _ _ _ _ _ _ _ _ _ _ _ _ _ _ _ _ _ _ _ _ _ _ _ _ _ _ _ _ _ _ _ _ _ _ _ k y w7 (by rw [Iy.out,H3.out]) kK Zc rH
  ·have c7:¬((bs.length:Int)<(n:Int)):=by omega
   go_wp2;have he:=i.out.eq
   rw [ay.loop_eq c,if_pos (by omega)] at he;exact dP _ _ _ _ _ _ _ _ _ _ _ _ _ _ _ _ _ _ _ _ _ _ _ _ _ _ _ _ _ _ _ _ _ _ _ _ _ _ _ _ _ _ _ _ _ _ _ _ _ _ _ _ _ _ _ _ _ _ _ _ _ _ c bs _ _ he i.iny i.row i.chg
theorem Fq (F G:Nat->Prop) (A L:Option Addr) (n c p D:Nat) (l:List Row) (key:List UInt8) (w:World) (h:lF w F A n l) (s:SB w G (.slice L p D) key) (P:n<=8388608) (b:∀x,l[n-1]? =some x->compareBytes x.last key<0):
  Calls prog 203 #[.slice A n c,.slice L p D] w fun e w'=>e= .returned (.bool true)/\w=w':=by
 refine letter fun R m=> ?_;have v:=aa h;have i:=aa s;have z:=aa b;clear h s b
 by_cases t:n=0
 ·subst t;go_enter func203,ntmps203
  go_wp2;rw [m.out]
  exact⟨rfl,rfl⟩
 ·obtain⟨j,I⟩:∃j,n=j+1:=⟨n-1,by omega⟩;obtain⟨g,o,M,K,mc,y,rfl,_,d,d0,C,E,H,f⟩:=v.out.at_ (k:=j) (by omega);have u:=aa (dE M L K p mc D F G y.last key w f.parts.2.2.2 f.parts.2.2.1 i.parts.2.2.2 i.parts.2.2.1);have q:=z.out y (by rw [show n-1=j by omega];exact d);obtain⟨r,a⟩:∃r,r=compareBytes y.last key:=⟨_,rfl⟩;rw [<-a] at u q;have O:((n:Int)-1)=(j:Int):=by omega
  have J:j<n:=by omega
  have Q:(j:Int)<(n:Int):=by omega
  have N:((n:Int)==0)=false:=by rw [beq_eq_false_iff_ne];omega
  have B:¬((n:Int)=0):=by omega
  clear I d C E H f a t;go_enter func203,ntmps203
  go_wp2_with (go_at_call 56;go_loud (refine u.mono ?_);rintro e w2 ⟨rfl,rfl⟩)
  rw [m.out];exact⟨by simp,rfl⟩
theorem Nb (F:Nat->Prop) (A:Option Addr) (n c:Nat) (l:List Row) (w:World) (h:lF w F A n l) (G:n<=8388608) (d:∀x∈l,x.at_<=1152921504606/\x.len<=131072):
  Calls prog 204 #[.slice A n c] w fun e w'=>e= .returned (.int .i64 (bV l:Nat))/\Below w.heap.size w w':=by
 refine letter fun R m=> ?_;have p:=aa h;have i:Hid (n=l.length):=h.len;clear h
 by_cases f:n=0
 ·have b:Hid (bV l=8):=aa (by have:l= []:=List.eq_nil_of_length_eq_zero (by rw [<-i.out];exact f);rw [this];rfl);clear d;subst f;go_enter func204,ntmps204
  go_wp2;rw [m.out]
  exact⟨by rw [b.out];rfl,Below.refl _ _⟩
 ·obtain⟨j,r⟩:∃j,n=j+1:=⟨n-1,by omega⟩;obtain⟨g,o,M,H,mc,y,rfl,_,a,d0,B,C,D,t⟩:=p.out.at_ (k:=j) (by omega)
  have b:Hid (bV l=y.at_+y.len):=aa (by
   unfold bV;rw [List.getLast?_eq_getElem?,<-i.out,show n-1=j by omega,a])
  obtain⟨v,z⟩:=d y (List.mem_of_getElem? a);have E:((n:Int)-1)=(j:Int):=by omega
  have s:j<n:=by omega
  have I:(j:Int)<(n:Int):=by omega
  have u:((n:Int)==0)=false:=by rw [beq_eq_false_iff_ne];omega
  have q:¬((n:Int)=0):=by omega
  clear r a t f d;go_enter func204,ntmps204
  go_wp2;rw [m.out]
  exact⟨by rw [b.out];simp,(Below.refl _ _).alloc (Nat.le_refl _) _⟩
def gT:Array Value:= #[.func (.func 211) #[] #[],.func (.func 212) #[] #[],.int .i64 73,.func (.func 213) #[] #[],.func (.func 214) #[] #[],.int .i64 74,.func (.func 215) #[] #[],.func (.func 216) #[] #[],.int .i64 75]
theorem Fu (w:World):Calls prog 202 #[] w fun e w'=>e= .returned (.agg gT)/\Below w.heap.size w w':=by
 obtain⟨q,f⟩:∃q,q=w.heap.size:=⟨_,rfl⟩;obtain⟨w1,c⟩:∃W,W=w.alloc (.cells #[.nilFunc,.nilFunc,.int .i64 0,.nilFunc,.nilFunc,.int .i64 0,.nilFunc,.nilFunc,.int .i64 0] 321):=⟨_,rfl⟩;have a:aj w1 q 321 #[.nilFunc,.nilFunc,.int .i64 0,.nilFunc,.nilFunc,.int .i64 0,.nilFunc,.nilFunc,.int .i64 0]:=by rw [c,f];exact aj.new _ _ _
 have D:=aa a;have G:Hid (Below w.heap.size w w1):=aa (by rw [c];exact(Below.refl _ _).alloc (Nat.le_refl _) _);have E:=aa f;have Q:w1.cell? ⟨q,0,none⟩=some .nilFunc:=a.cell 0;have S:w1.cell? ⟨q,1,none⟩=some .nilFunc:=a.cell 1;have T:w1.cell? ⟨q,2,none⟩=some (.int .i64 0):=a.cell 2;have U:w1.cell? ⟨q,3,none⟩=some .nilFunc:=a.cell 3;have V:w1.cell? ⟨q,4,none⟩=some .nilFunc:=a.cell 4;have X:w1.cell? ⟨q,5,none⟩=some (.int .i64 0):=a.cell 5;have Y:w1.cell? ⟨q,6,none⟩=some .nilFunc:=a.cell 6;have Z:w1.cell? ⟨q,7,none⟩=some .nilFunc:=a.cell 7;have y8:w1.cell? ⟨q,8,none⟩=some (.int .i64 0):=a.cell 8;have H:=a.frozen 0;have I:=a.frozen 1;have J:=a.frozen 2;have K:=a.frozen 3;have L:=a.frozen 4;have M:=a.frozen 5;have N:=a.frozen 6;have O:=a.frozen 7;have P:=a.frozen 8;obtain⟨R,g⟩:∃R:Ending->World->Prop,R=fun e w'=>e= .returned (.agg gT)/\Below w.heap.size w w':=⟨_,rfl⟩;have F:=aa g;rw [<-g];clear g a;go_enter func202,ntmps202
 go_upto_region 1 with fail
 rw [<-c];simp only [<-f];clear c f;go_wp2;have b:=(((((((((D.set_ 0 (.func (.func 211) #[] #[])).set_ 1 (.func (.func 212) #[] #[])).set_ 2 (.int .i64 73)).set_ 3 (.func (.func 213) #[] #[])).set_ 4 (.func (.func 214) #[] #[])).set_ 5 (.int .i64 74)).set_ 6 (.func (.func 215) #[] #[])).set_ 7 (.func (.func 216) #[] #[])).set_ 8 (.int .i64 75));have h:=b.cell 0;have i:=b.cell 1;have v2:=b.cell 2;have j:=b.cell 3;have k:=b.cell 4;have l:=b.cell 5;have m:=b.cell 6;have n:=b.cell 7;have o:=b.cell 8;simp at h i v2 j k l m n o;refine bodyPost_ret (v:= .agg gT) (by simp [results,results202,go_sem,gT,h,i,v2,j,k,l,m,n,o]) rfl ?_;rw [F.out];refine⟨rfl,?_⟩;have d:w.heap.size<=q:=by rw [E.out];exact Nat.le_refl _
 have r:=G.out;have s:=r.setCell (p:=⟨q,0,none⟩) d (.func (.func 211) #[] #[]);have t:=s.setCell (p:=⟨q,1,none⟩) d (.func (.func 212) #[] #[]);have u:=t.setCell (p:=⟨q,2,none⟩) d (.int .i64 73);have x:=u.setCell (p:=⟨q,3,none⟩) d (.func (.func 213) #[] #[]);have y:=x.setCell (p:=⟨q,4,none⟩) d (.func (.func 214) #[] #[]);have z:=y.setCell (p:=⟨q,5,none⟩) d (.int .i64 74);have A:=z.setCell (p:=⟨q,6,none⟩) d (.func (.func 215) #[] #[]);have B:=A.setCell (p:=⟨q,7,none⟩) d (.func (.func 216) #[] #[]);have C:=B.setCell (p:=⟨q,8,none⟩) d (.int .i64 75);exact C
theorem JG (w:World):(sizeOf (prog.elem 97)).run prog w= .ok 4 w:=by kernel_rfl
theorem Qp:prog.underlying 97=some (.slice (prog.elem 97)):=by kernel_rfl
theorem lF.take {w:World} {F:Nat->Prop} {A:Option Addr} {n:Nat} {l:List Row} (h:lF w F A n l) {k:Nat} (p:k<=n):lF w F A k (l.take k):=by
 obtain⟨g,vs,m,o⟩:=h;refine⟨by have j:n=l.length:=g;show k=_;rw [List.length_take];omega,vs.take (k*4),m.take p,fun i e a=> ?_⟩
 have hi:i<k:=by
  have:=(List.getElem?_eq_some_iff.mp a).1;rw [List.length_take] at this;omega
 rw [List.getElem?_take_of_lt hi] at a;obtain⟨u,b,c,d,f,s⟩:=o i e a
 refine⟨u,?_,?_,?_,?_,s⟩
 ·rw [List.getElem?_take_of_lt (by omega)];exact b
 ·rw [List.getElem?_take_of_lt (by omega)];exact c
 ·rw [List.getElem?_take_of_lt (by omega)];exact d
 ·rw [List.getElem?_take_of_lt (by omega)];exact f
theorem lF.cut0 {F:Nat->Prop} {A:Option Addr} {n c:Nat} {l:List Row} (h:lF w F A n l) (Q:n<=c):lF w F (if c=0 then A else A.map (·.add 0)) n l:=by
 obtain⟨b,vs,d,e⟩:=h;have a:=d.cut (k:=0) (cap:=c) (by omega) Q;rw [Nat.zero_mul,List.drop_zero] at a;exact⟨b,vs,a,e⟩
theorem Nc {F:Nat->Prop} {A:Option Addr} {n c:Nat} {l:List Row} {p:Nat} (h:lF w F A n l) (hp:p<=n) (Q:n<=c):
  ∃a,(∀w',(Instr.slice 97 (.slice A n c) none (some (.int .i64 p)) none).run prog w'= .ok (.slice a p c) w')/\lF w F a p (l.take p):=by
 refine⟨if c=0 then A else A.map (·.add 0),fun w'=> ?_,(h.cut0 Q).take hp⟩;rw [run_slice_h w' _ A n c Qp .i64 p (by omega) (by omega),JG];simp [Result.andThen,sliced]
theorem Qq (x:Nat) (w:World):Calls prog 211 #[.pointer (some ⟨x,0,none⟩)] w fun e w'=>e= .returned (.pointer (some ⟨x,1,none⟩))/\w=w':=by
 refine letter fun R a=> ?_;go_enter func211,ntmps211
 go_wp2;rw [a.out]
 exact⟨rfl,rfl⟩
theorem Qr (x:Nat) (w:World):Calls prog 213 #[.pointer (some ⟨x,0,none⟩)] w fun e w'=>e= .returned (.pointer (some ⟨x,2,none⟩))/\w=w':=by
 refine letter fun R a=> ?_;go_enter func213,ntmps213
 go_wp2;rw [a.out]
 exact⟨rfl,rfl⟩
theorem Qs (x:Nat) (w:World):Calls prog 215 #[.pointer (some ⟨x,0,none⟩)] w fun e w'=>e= .returned (.pointer (some ⟨x,3,none⟩))/\w=w':=by
 refine letter fun R a=> ?_;go_enter func215,ntmps215
 go_wp2;rw [a.out]
 exact⟨rfl,rfl⟩
theorem Qt (v:Nat) (w:World) (hv:v<18446744073709551616):Calls prog 212 #[.int .u64 v,.int .i64 v] w fun e w'=>e= .returned (.bool true)/\w=w':=by
 refine letter fun R a=> ?_;have b:IntKind.u64.wrap (v:Int)=(v:Int):=IntWalk.u64_in _ (by omega);go_enter func212,ntmps212
 go_wp2;rw [a.out]
 exact⟨by simp,rfl⟩
theorem Qu (v:Nat) (u:Value) (w:World) (d:1<=v) (f:v<=131072):Calls prog 214 #[.int .u64 v,u] w fun e w'=>e= .returned (.bool true)/\w=w':=by
 refine letter fun R a=> ?_;have b:(1:Int)<=(v:Int):=by omega
 have c:(v:Int)<=131072:=by omega
 go_enter func214,ntmps214
 go_wp2;rw [a.out]
 exact⟨by simp<;>omega,rfl⟩
theorem Qv (v:Nat) (u:Value) (w:World) (d:1<=v) (f:v<=64):Calls prog 216 #[.int .u64 v,u] w fun e w'=>e= .returned (.bool true)/\w=w':=by
 refine letter fun R a=> ?_;have b:(1:Int)<=(v:Int):=by omega
 have c:(v:Int)<=64:=by omega
 go_enter func216,ntmps216
 go_wp2;rw [a.out]
 exact⟨by simp<;>omega,rfl⟩
noncomputable def Y8:Code:=aV (f186.body.bind (aJ 13))
theorem vz (F:Nat->Prop) (A:Option Addr) (n c i v x8:Nat) (fk:Nat) (gv kv:Value) (l:List Row) (w:World) (Q:Exit->Act->World->Prop) (mQ:Hid (∀c t (a:Act) w,Q (.panic c) ⟨t,a.defers⟩ w->Q (.panic c) a w))
  (HB:Hid (aj w x8 320 #[gv,.func (.func fk) #[] #[],kv])) (HS:Hid (lF w F A n l)) (hi:i<=n) (hnc:n<=c) (hn:n<=8388608) (hv:v<9223372036854775808) (ha:Hid (∀x∈l,x.at_<=1152921504606/\x.len<=131072))
  (HF:Hid (∀w',Calls prog fk #[.int .u64 v,.int .i64 (bV (l.take i):Nat)] w' fun e w2=>e= .returned (.bool true)/\w'=w2))
  (MW:∀args w',(callFunc fk args).run prog w'= .ok (.enter fk args) w')
  (ax:∀(al am an ao ap aq ar aw aA aE a0 a1 a2:Value) (w':World),Below w.heap.size w w'->Q .normal ⟨(.slice A n c::u1::J::L::H:: .int .i64 (i:Nat)::d::B:: .pointer (some ⟨x8,0,none⟩):: .int .i64 (v:Nat)::M::E::I::Z::N::U::Y::O::f::C::s::V::P::m::D::g::T::j::W::u::u30::k::u32::p::u34::q::h::b::u38::R::u40::X::u42::G::al::am::an::ao::ap::aq::ar::aw::aA::aE::a0::a1::a2:: .bool false::S).toArray,[]⟩ w'):
  Code.wp prog Y8 Q ⟨(.slice A n c::u1::J::L::H:: .int .i64 (i:Nat)::d::B:: .pointer (some ⟨x8,0,none⟩):: .int .i64 (v:Nat)::M::E::I::Z::N::U::Y::O::f::C::s::V::P::m::D::g::T::j::W::u::u30::k::u32::p::u34::q::h::b::u38::R::u40::X::u42::G::u44::u45::u46::ed::u48::u49::z::u51::o::u53::eQ::u55::fE::fF::S).toArray,[]⟩ w:=by
 have dP:=aa ax;obtain⟨A',hcut,ac⟩:=Nc HS hi hnc;have Y9:=aa ac;have y:∀w1,Below w.heap.size w w1->Calls prog 204 #[.slice A' i c] w1 fun e w'=>e= .returned (.int .i64 (bV (l.take i):Nat))/\Below w1.heap.size w1 w':=fun w1 hb=>Nb F A' i c _ w1 (Y9.below hb) (by omega) (fun x hx=>ha.out x (List.mem_of_mem_take hx));have pX:=aa y;have hw:IntKind.u64.wrap (v:Int)=(v:Int):=IntWalk.u64_in _ (by omega);have ae:¬((v:Int)<0):=by omega
 have a3:decide ((v:Int)<0)=false:=decide_eq_false ae;have r:w.drew.cell? ⟨x8,1,none⟩=some (.func (.func fk) #[] #[]):=(HB.out.cell 1).trans rfl;clear ax ac y;conv=>arg 2;whnf
 refine aU (fun w'=>w'.cell? ⟨x8,1,none⟩=some (.func (.func fk) #[] #[])) (by kernel_rfl) ?_;refine vT 0 r ?_;refine vT 1 r ?_;refine vT 2 r ?_;refine vT 3 r ?_;refine vT 5 r ?_;refine vT 7 r ?_;refine vT 8 r ?_;refine vT 9 r ?_;refine vT 4 r ?_;refine vT 6 r ?_;refine aO (i:=10) (by kernel_rfl) rfl (fun K hK=> ?_);go_simp
 go_loud (refine(pX _ ((Below.refl _ _).drew)).mono ?_);rintro e w2 ⟨rfl,ab⟩;have ad:Hid (Below w.heap.size w w2):=aa ((Below.refl _ _).drew.trans ab);have S1:w2.cell? ⟨x8,1,none⟩=some (.func (.func fk) #[] #[]):=ak ab r;clear ab
 refine hK.out _ _ S1 ?_;clear hK K;try simp only [aL,aN,aZ,aC]
 refine aO (i:=11) (by kernel_rfl) rfl (fun K hK=> ?_);go_simp
 go_loud (refine(HF _).mono ?_);rintro e w3 ⟨rfl,rfl⟩
 refine hK.out _ _ S1 ?_;clear hK K;try simp only [aL,aN,aZ,aC]
 refine vT 12 S1 ?_;refine vT 13 S1 ?_;refine bG (by kernel_rfl) ?_ _;exact dP _ _ _ _ _ _ _ _ _ _ _ _ _ _ ad
def oP (F:Nat->Prop) (q p hv n:Nat) (c:ay) (w:World) (e:Ending) (w':World):Prop:=
 ∃v,e= .returned (.tuple #[v,.int .i64 (ay.loop {c with held:=none} c.held.toList n).2.1])/\((ay.loop {c with held:=none} c.held.toList n).2.1=0->Ow w' w.heap.size v (ay.loop {c with held:=none} c.held.toList n).1)/\lW w' F q p (ay.loop {c with held:=none} c.held.toList n).2.2 hv/\ag (Cs q p w.heap.size) w w'
theorem JV (F:Nat->Prop) (q p hv n K:Nat) (c:ay) (w:World) (h:lW w F q p c hv) (hf:c.Fine K) (hF:¬F p) (j:p<w.heap.size) (B:q≠p) (o:¬F q) (BM:∀b,F b->b<w.heap.size) (hK:K<=1152921504606846976) (T:n<=1152921504606) (_a:0<n) (hg:c.src.gives.length<=1152921504606) (hl:c.src.left.length<=1152921504606) (i:c.held=none):
  Calls prog 134 #[.pointer (some ⟨q,0,none⟩),.int .i64 n] w (oP F q p hv n c w):=by
 refine letter fun R HR=> ?_;have z6:w.cell? ⟨q,6,none⟩=some (.bool false):=(h.blk.cell 6).trans (by rw [i];rfl);have HH:=aa h;have QD:=aa hf;have Ns:=aa i;have HG:=aa hg;have HL:=aa hl;have BL:=h.blk.lt;have UK:=aa BM;have pU:Hid (({c with held:=none}:ay)=c):=aa (by cases c;simp only at i;subst i;rfl);clear h hf i hg hl BM;go_enter func134,ntmps134
 go_upto_region 4 with fail
 refine Nl F q p w.heap.size n hv K c [] (.slice none 0 0) w _ (aa ⟨HH,Ow.nil _ _,QD,by simp,rfl,ag.refl _ _,HG,HL⟩) (aa hF) BL j B o UK (Nat.le_refl _) hK T ?_ ?_
 ·intro v4 v5 v7 v8 v9 l m r s t u x y z A C D E G H I J L M N O P Q S U V W X Y Z ab ac ad ae al am an ao ap aq ar aw ax aA aE a0 a1 a2 a3 a4 a5 a6 a7 a8 a9 ba bb c2 bs vv w2 e hi ho d;have g:=aa e;have k:=aa hi;have HO:=aa ho;have f:=aa d;clear e hi ho d;go_wp2;rw [HR.out];unfold oP;rw [pU.out,Ns.out];show∃v,_;rw [show(none:Option UInt8).toList= [] from rfl,g.out]
  exact⟨_,rfl,fun _=>HO,k,f⟩
 ·intro v6 v7 v8 v9 l m r s t u x y z A C D E G H I J L M N O P Q S U V W X Y Z ab ac ad ae al am an ao ap aq ar aw ax aA aE a0 a1 a2 a3 a4 a5 a6 a7 a8 a9 ba bb c2 ez w2 e hz hi d;have g:=aa e;have HZ:=aa hz;have k:=aa hi;have f:=aa d;clear e hz hi d;go_ret2
  rw [HR.out];unfold oP;rw [pU.out,Ns.out];rw [show(none:Option UInt8).toList= [] from rfl,g.out];exact⟨_,rfl,fun h=>absurd h HZ,k,f⟩
theorem JW (F:Nat->Prop) (q p hv n K:Nat) (x:UInt8) (c:ay) (w:World) (h:lW w F q p c hv) (i:c.Fine K) (hF:¬F p) (j:p<w.heap.size) (B:q≠p) (o:¬F q) (BM:∀b,F b->b<w.heap.size) (hK:K<=1152921504606846976) (T:n<=1152921504606) (a:0<n) (u:c.src.gives.length<=1152921504606) (hl:c.src.left.length<=1152921504606) (v:c.held=some x):
  Calls prog 134 #[.pointer (some ⟨q,0,none⟩),.int .i64 n] w (oP F q p hv n c w):=by
 obtain⟨i0,I,J,L,M⟩:=info_parts bu;refine letter fun R HR=> ?_;have z6:w.cell? ⟨q,6,none⟩=some (.bool true):=(h.blk.cell 6).trans (by rw [v];rfl);have z5:w.cell? ⟨q,5,none⟩=some (.int .u8 hv):=h.blk.cell 5;have r:hv=x.toNat:=h.hl x v;have HX:=aa r;have HH:=aa h;have QD:=aa i;have E:=aa v;have HG:=aa u;have HL:=aa hl;have BL:=h.blk.lt;have UK:=aa BM;have b1:(0:Int)<(n:Int):=by omega
 clear h i v u hl BM r;go_enter func134,ntmps134
 go_upto_region 4 with(at_builtin;go_loud (refine af _ rfl (.tmp 20) (.tmp 25) _ rfl w.heap.size 5 i0 _ 1 1 underlying24 I J L M rfl (by omega) (.slice none 0 0) 0 [] rfl (World.ownsRow_nil _ _ _ _) (From w.heap.size) (some ⟨w.heap.size,0,none⟩) 1 1 [.int .u8 hv] rfl (Rd.one w _ _) (by simp [Value.oneCell']) (by simp only [maxLen];omega) (by omega) (by simp) ?_);intro z s d H dD;have lU:=aa d;have kE:=aa H;have k:aj s q 188 #[.int .i64 c.at_,.int .i64 c.err,.int .i64 c.idle,.iface 29 (.pointer (some ⟨p,0,none⟩)),.int .i64 9223372036854775807,.int .u8 hv,.bool c.held.isSome]:=(HH.out.blk.alloc _).chg (ag.of_grown H) (fun e=>by simp [Value.ownBlock] at e);have fT:=aa k;have y6:s.cell? ⟨q,6,none⟩=some (.bool true):=(k.cell 6).trans (by rw [E.out];rfl);have b0:=k.frozen 6;clear d H dD k z5 z6)
 obtain⟨t,f⟩:∃W,W=s.setCell ⟨q,6,none⟩ (.bool false):=⟨_,rfl⟩;rw [<-f]
 have G:Hid (ag (fun b=>b=q) w t):=aa (by
  rw [f];exact(((ag.refl (fun b=>b=q) w).then ((Below.refl _ _).alloc (Nat.le_refl _) _)).trans (ag.of_grown kE) (fun g _ e=>by simp [Value.ownBlock] at e)).setCell (p:=⟨q,6,none⟩) (fun _=>rfl) _)
 have rV:Hid (Ow t w.heap.size z [x]):=aa (by
  have h1:=lU.out;rw [HX.out] at h1;have h2:Ow s w.heap.size z [x]:=by unfold Ow;simpa [aF,bv] using h1
  rw [f];exact h2.chg ((ag.refl (fun b=>b=q) s).setCell (p:=⟨q,6,none⟩) (fun _=>rfl) _) (fun g u e=>by have:=(ah h2 g u).1;have e:g=q:=e;omega))
 have X3:Hid (lW t F q p {c with held:=none} hv):=aa ⟨by rw [f];exact fT.set_ 6 _,HH.src.chg G (fun e=>B e.symm) (fun b hb e=>o (e▸hb)),fun y hy=>by cases hy⟩;have Ij:Hid (ag (Cs q p w.heap.size) w t):=aa (G.mono (fun b _ e=> .inl e));clear f y6 b0
 refine Nl F q p w.heap.size n hv K {c with held:=none} [x] z t _ (aa ⟨X3,rV,⟨QD.idle,QD.pot⟩,by simp;omega,rfl,ag.refl _ _,HG,HL⟩) (aa hF) BL j B o UK G.size hK T ?_ ?_
 ·intro v4 v5 v7 v8 v9 N O P Q S U V X Y Z ab ac ad ae al am an ao ap aq ar aw ax aA aE a0 a1 a2 a3 a4 a5 a6 a7 a8 a9 ba bb be bh bj bk bm bo bp bx bB bE bK bL bM bN bO bP bQ bX bY bZ c2 bs vv w2 m hi ho l;have C:=aa m;have D:=aa hi;have HO:=aa ho;have A:=aa l;clear m hi ho l;go_wp2;rw [HR.out];unfold oP;rw [E.out,show(some x).toList= [x] from rfl,C.out]
  exact⟨_,rfl,fun _=>HO,D,Ij.out.trans A (fun _ _ h=>h)⟩
 ·intro z v7 v8 v9 N O P Q S U V X Y Z ab ac ad ae al am an ao ap aq ar aw ax aA aE a0 a1 a2 a3 a4 a5 a6 a7 a8 a9 ba bb be bh bj bk bm bo bp bx bB bE bK bL bM bN bO bP bQ bX bY bZ c2 ez w2 m hz hi l;have C:=aa m;have HZ:=aa hz;have D:=aa hi;have A:=aa l;clear m hz hi l;go_ret2
  rw [HR.out];unfold oP;rw [E.out,show(some x).toList= [x] from rfl,C.out];exact⟨_,rfl,fun h=>absurd h HZ,D,Ij.out.trans A (fun _ _ h=>h)⟩
end Go.Proofs.YtepgcjbhabnciaaGreat
