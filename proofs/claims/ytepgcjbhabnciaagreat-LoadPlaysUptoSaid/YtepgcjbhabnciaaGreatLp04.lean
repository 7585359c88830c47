/- Part 4. -/
import Derived.Test.YtepgcjbhabnciaaGreatLp03
namespace Go.Proofs.YtepgcjbhabnciaaGreat
set_option maxRecDepth 100000
set_option maxHeartbeats 8000000
open Go.Proofs.Tryz Go.RowKit
variable {v u u0 u1 u2 u3 u4 u5 u6 u7 u8 u9 bX bQ O bT u16 bF bG I u20 u21 V u23 u24 u25 u26 u27 u28 u29 u30 u31 u32 u33 u34 u35 u36 u37 u38 N u40 dw u42 dx u44 u45 u46 dG u48 u49 dI u51 dP u53 dR u55 dY dZ u58 u59 u60 fw fJ u63 u64 gm u66 gH u68 u69 u70 iM u72 u73 iN u75 iV jY jZ j6 kg kG kP kQ kR U kU ng mI mJ pF pu rX u93 vw vz vC vE sQ sS jg jh ji jU kD u105 lG lH lI lJ lK lL lM lN lQ lS D nG nH u119 nI y nK nM u124 nN nO u127 ui uj uk u131 um uo uq ut uu uw u138 u139 uy uz uB uC uD uE uG uH uI uJ uK uL u152 uM u154 AU AV l B s d X u162 Bh u164 z r Bn Bo M Bq T E J L Ed Ee Ef Eg Eh G C W En o R Es Et P u193 u194 Ev u196 f u198 Ey u201 Y p Z KJ a1 KL a2 KM a3 KN KO KP KQ KR KS KT KU KV KW KX KY KZ K6 K8 K9 Lb OX OY OZ O0 O1 O3 a7 O4 a8 O5:Value} {base m K q k n bn sn:Nat} {w w' w2:World} {bs g fr:List UInt8} {F S:Nat->Prop}
theorem ag.of_grown (a:w.grownBy w2 v.ownBlock):ag (fun b=>v.ownBlock=some b) w w2:=(ag.refl _ _).grown a (fun _ c _=>c)
def Ow (w:World) (base:Nat) (v:Value) (bs:List UInt8):Prop:=w.ownsRow base 5 1 v bs.length (aI bs)
theorem Ow.nil (w:World) (base:Nat):Ow w base () []:=World.ownsRow_nil _ _ _ _
theorem Ow.sb (h:Ow w base v bs):SB w (From base) v bs:=Qf h
theorem Ow.below (h:Ow w base v bs) (o:Below w w w'):Ow w' base v bs:=own_below h o
theorem Ow.chg (h:Ow w base v bs) (hc:ag S w w') (a:∀g,v.ownBlock=some g->¬S g):Ow w' base v bs:=aB h hc a
theorem Ow.snoc {c:UInt8} (h:w.ownsRow base 5 1 v (bs.length+1) (aI bs++ [u])) (a:u=bv c):Ow w base v (bs++ [c]):=by
 subst a;unfold Ow;simpa [aI] using h
def F4 (w:World) (base:Nat) (bs:List UInt8) (e:Ending) (w':World):Prop:=∃v,e= .returned v/\Ow w' base v bs/\ag (From base) w w'
theorem Y9:∀x:Nat,x<256->x|||128=x%128+128:=by decide
theorem xk (m:Nat):bits .or .u8 ((m:Int)%256) 128=((m%128+128:Nat):Int):=by
 have h:=(bits_nat .u8 8 (by decide) wraps_u8 (m%256) 128 (by omega) (by omega)).2;rw [Y9 _ (by omega),show m%256%128=m%128 by omega] at h;exact h
theorem Yw (m:Nat):Value.int .u8 ((m%128+128:Nat):Int)=bv (UInt8.ofNat (m%128+128)):=by
 unfold bv;congr 1;rw [UInt8.toNat_ofNat'];omega
theorem Yx (h:m<128):Value.int .u8 (m:Int)=bv (UInt8.ofNat m):=by
 unfold bv;congr 1;rw [UInt8.toNat_ofNat'];omega
theorem C9 (h:¬m<128):aP m=UInt8.ofNat (m%128+128)::aP (m/128):=by rw [aP,if_neg h]
theorem qE (h:m<128):aP m= [UInt8.ofNat m]:=by rw [aP,if_pos h]
theorem IB (n:Nat) (d:List UInt8) (H:Ow w base v d) (W:d.length<=1152921504606) (hn:n<18446744073709551616) (K:base<=w):
  Calls prog 205 #[v,.int .u64 n] w (F4 w base (d++aP n)):=by
 obtain⟨I,k,p,q,r⟩:=info_parts bD;obtain⟨N,u⟩:=gF (d++aP n);have i:N.length<=1152921504616:=by have:=ow n 9 (by omega);rw [u];rw [mq];omega
 obtain⟨R,C⟩:=gF (F4 w base N);have z:=aa C;rw [<-u,<-C];have T:=aa u;have Q:=aa K;have P:=aa i;have y:=aa H;clear H;clear C u K i;go_enter func205,ntmps205;go_wp2
 go_loopg [0,1] n (fun V U Y O=>∃(m:Nat) (bs:List UInt8),V=m/\Y= .int .u64 m/\m<18446744073709551616/\bs++aP m=N/\Ow O base U bs/\ag (From base) w O)
 case atStart=>exact⟨n,d,rfl,rfl,hn,T.out.symm,y,ag.refl _ _⟩
 case round=>
  obtain⟨m,bs,G,rfl,hm,A,o,hc⟩:=hrel;have S:=aa G;have F:=aa A;have s:=aa o;have L:=aa hc;have j:bs.length<=1152921504616:=by have:=P.out;rw [<-A] at this;rw [mq] at this;omega
  have x:=aa j;have J:Hid (base<=wr):=aa (ma Q hc.size);clear G A o hc j
  by_cases b:m<128
  ·have l:¬((128:Int)<=(m:Int)):=by omega
   have X:(m:Int)%256=(m:Int):=by omega
   go_wp2_with (at_builtin;go_loud (refine af _ rfl (.tmp 15) (.tmp 18) _ rfl base 5 I _ 1 1 underlying24 k p q r rfl (by omega) u0 _ (aI bs) rfl (own_below s gV) (From wr) (some ⟨wr,0,none⟩) 1 1 [.int .u8 m] rfl (Rd.one wr _ _) (by simp [Value.oneCell']) (by have:=x.out;simp only [maxLen];omega) (by have:=x.out;omega) (by have:=J.out;simp;omega) ?_);intro M Z a f B;have D:=aa a;have E:=aa f;clear a f B)
   rw [z.out];have t:=Ow.snoc D (Yx b);have h:=F.out;rw [qE b] at h;rw [h] at t
   exact⟨M,rfl,t,(L.then gV).trans (ag.of_grown E) (fun g _ e=>(ah s g e).1)⟩
  ·have l:(128:Int)<=(m:Int):=by omega
   have e1:=xk m;go_wp2_with (at_builtin;go_loud (refine af _ rfl (.tmp 9) (.tmp 13) _ rfl base 5 I _ 1 1 underlying24 k p q r rfl (by omega) u0 _ (aI bs) rfl (own_below s gV) (From wr) (some ⟨wr,0,none⟩) 1 1 [.int .u8 ((m%128+128:Nat):Int)] rfl (Rd.one wr _ _) (by simp [Value.oneCell']) (by have:=x.out;simp only [maxLen];omega) (by have:=x.out;omega) (by have:=J.out;simp;omega) ?_);intro M Z a f B;have D:=aa a;have E:=aa f;clear a f B)
   go_roundg (m/128)
   case measure=>have:=S.out;omega
   case rel=>
    have t:=Ow.snoc (c:=UInt8.ofNat (m%128+128)) D (by rw [<-Yw]);have h:=F.out;rw [C9 b] at h;exact⟨m/128,bs++ [UInt8.ofNat (m%128+128)],rfl,by congr 1,by omega,by simpa using h,t,(L.then gV).trans (ag.of_grown E) (fun g _ e=>(ah s g e).1)⟩
theorem gW (base n:Nat) (w:World) (hn:n<18446744073709551616) (K:base<=w):
  Calls prog 105 #[.int .u64 n] w (F4 w base (aP n)):=by
 obtain⟨E,j,o,p,q⟩:=info_parts bD;obtain⟨N,t⟩:=gF (aP n);have h:N.length<=1152921504616:=by have:=ow n 9 (by omega);rw [t];omega
 obtain⟨R,z⟩:=gF (F4 w base N);have v:=aa z;rw [<-t,<-z];have O:=aa t;have L:=aa K;have J:=aa h
 skip
 clear z t K h;go_enter func105,ntmps105;go_wp2
 go_loopg [3,0] n (fun Q P T I=>∃(m:Nat) (bs:List UInt8),Q=m/\T= .int .u64 m/\m<18446744073709551616/\bs++aP m=N/\Ow I base P bs/\ag (From base) w I)
 case atStart=>exact⟨n,[],rfl,rfl,hn,O.out.symm,Ow.nil _ _,ag.refl _ _⟩
 case round=>
  obtain⟨m,bs,D,rfl,W,x,l,hc⟩:=hrel;have M:=aa D;have C:=aa x;have r:=aa l;have G:=aa hc;have i:bs.length<=1152921504616:=by have:=J.out;rw [<-x] at this;rw [mq] at this;omega
  have u:=aa i;have F:Hid (base<=wr):=aa (ma L hc.size);clear D x l hc i
  by_cases b:m<128
  ·have k:¬((128:Int)<=(m:Int)):=by omega
   have S:(m:Int)%256=(m:Int):=by omega
   go_wp2_with (at_builtin;go_loud (refine af _ rfl (.tmp 15) (.tmp 18) _ rfl base 5 E _ 1 1 underlying24 j o p q rfl (by omega) u3 _ (aI bs) rfl (own_below r gV) (From wr) (some ⟨wr,0,none⟩) 1 1 [.int .u8 m] rfl (Rd.one wr _ _) (by simp [Value.oneCell']) (by have:=u.out;simp only [maxLen];omega) (by have:=u.out;omega) (by have:=F.out;simp;omega) ?_);intro H U a d y;have A:=aa a;have B:=aa d;clear a d y)
   rw [v.out];have s:=Ow.snoc A (Yx b);have f:=C.out;rw [qE b] at f;rw [f] at s
   exact⟨H,rfl,s,(G.then gV).trans (ag.of_grown B) (fun g _ e=>(ah r g e).1)⟩
  ·have k:(128:Int)<=(m:Int):=by omega
   have V:=xk m;go_wp2_with (at_builtin;go_loud (refine af _ rfl (.tmp 6) (.tmp 11) _ rfl base 5 E _ 1 1 underlying24 j o p q rfl (by omega) u3 _ (aI bs) rfl (own_below r gV) (From wr) (some ⟨wr,0,none⟩) 1 1 [.int .u8 ((m%128+128:Nat):Int)] rfl (Rd.one wr _ _) (by simp [Value.oneCell']) (by have:=u.out;simp only [maxLen];omega) (by have:=u.out;omega) (by have:=F.out;simp;omega) ?_);intro H U a d y;have A:=aa a;have B:=aa d;clear a d y)
   go_roundg (m/128)
   case measure=>have:=M.out;omega
   case rel=>
    have s:=Ow.snoc (c:=UInt8.ofNat (m%128+128)) A (by rw [<-Yw]);have f:=C.out;rw [C9 b] at f;exact⟨m/128,bs++ [UInt8.ofNat (m%128+128)],rfl,by congr 1,by omega,by simpa using f,s,(G.then gV).trans (ag.of_grown B) (fun g _ e=>(ah r g e).1)⟩
theorem rP (base n:Nat) (w:World) (hn:n<18446744073709551616) (K:base<=w):Calls prog 187 #[.int .u64 n] w (F4 w base (aP n)):=by
 have b:=aa (IB n [] (Ow.nil _ _) (by simp) hn K);refine letter fun R a=> ?_;go_enter func187,ntmps187;go_wp2_with (go_at_call 205;refine b.mono ?_;rintro e w2 ⟨v,rfl,c,hc⟩)
 rw [a.out];exact⟨v,rfl,by simpa using c,hc⟩
theorem Rh (w:World):Calls prog 166 #[] w fun e w'=>e= .returned w/\xU w' w 0 0 0/\Below w w w':=by
 go_enter func166,ntmps166
 go_wp2;go_ret
 exact⟨rfl,ak.new _ _ _,gV⟩
theorem Ri {v:Nat} (h:xU w q v k 1):Calls prog 168 #[q] w fun e w'=>e= .returned (.tuple #[.int .u64 v,true])/\w=w':=by
 have a:w.cell? q=some (.int .u64 v):=h.cell 0;have b:w.cell? ⟨q,2,none⟩=some (.int .i64 1):=h.cell 2;go_enter func168,ntmps168;go_wp2;go_ret2
 exact⟨rfl,rfl⟩
theorem OP (s:Nat) (a:s<4294967296): [Value.int .u8 ((s:Int)%256),Value.int .u8 ((s:Int)/256%256),Value.int .u8 ((s:Int)/65536%256),Value.int .u8 ((s:Int)/16777216)]=aI (four s):=by
 simp only [four,aI,List.map_cons,List.map_nil,bv,UInt8.toNat_ofNat'];congr 2;congr 2
 congr 2
 congr 2
 omega
theorem OQ (s:Nat) (w:World) (c:s<4294967296):Calls prog 107 #[.int .u32 s] w fun e w'=>e= .returned (.slice (some ⟨w,0,none⟩) 4 4)/\SB w' (From w) (.slice (some ⟨w,0,none⟩) 4 4) (four s)/\Below w w w':=by
 have a:=aa (OP s c);refine letter fun R b=> ?_;go_enter func107,ntmps107;go_wp2;rw [b.out]
 refine⟨rfl,SB.mk jO (by simp [maxLen]) rfl ?_,gV⟩;have h:=Rd.lit1 w #[Value.int .u8 ((s:Int)%256),Value.int .u8 ((s:Int)/256%256),Value.int .u8 ((s:Int)/65536%256),Value.int .u8 ((s:Int)/16777216)] 5;rw [<-a.out];exact h
theorem Cr {A:Option Addr} (c:Nat) (h:Rd w F 1 A n (aI bs)) (hn:n=bs.length) (K:n<=1152921504606):
  Calls prog 65 #[.slice A n c] w fun e w'=>∃v,e= .returned v/\Ow w' w v (bs++four (bg bs))/\Below w w w':=by
 obtain⟨I,q,r,s,t⟩:=info_parts bD;have H:=aa h;have G:=aa hn;obtain⟨fr,f⟩:=gF (four (bg bs));obtain⟨E,g⟩:=gF (bg bs);have T:Hid (fr=four E):=aa (by rw [f,g]);have y:=aa g;have D:E<4294967296:=by rw [g];exact F3 _
 have m:fr.length=4:=by rw [f];rfl
 have P:=aa m;rw [<-f];clear h hn f g m;obtain⟨R,B⟩:∃R:Ending->World->Prop,R=fun e w'=>∃v,e= .returned v/\Ow w' w v (bs++fr)/\Below w w w':=⟨_,rfl⟩;have u:=aa B;rw [<-B];clear B;go_enter func65,ntmps65;go_wp2_with (first|(at_builtin;(refine af _ rfl (.tmp 3) (.tmp 4) _ rfl w 5 I _ 1 1 underlying24 q r s t rfl (by omega) (.slice (some ⟨w,0,none⟩) 0 0) 0 [] rfl (gq w _ 1) F A n c (aI bs) rfl (H.alloc _) (bJ _) (by simp only [maxLen];omega) (by omega) (by simp) ?_);intro v1 w1 b o Q;have J:Hid (w1.ownsRow w 5 1 v1 n (aI bs)):=aa (by simpa using b);have a:Hid (Below w w w1):=aa (gV.grown o (by simp) (fun k C=>by simp [Value.ownBlock] at C;omega));clear b o Q)|(go_at_call 108;go_loud (refine(Td c (H.below a) G K).mono ?_);rintro e w2 ⟨rfl,rfl⟩;rw [<-y.out])|(go_at_call 107;go_loud (refine(OQ E w1 D).mono ?_);rintro e w2 ⟨rfl,l,j⟩;rw [<-T.out] at l;have x:=aa l;have i:=aa j;have N:=aa (own_below J j);clear l j)|(at_builtin;go_loud (refine af _ rfl (.tmp 5) (.tmp 8) _ rfl w 5 I _ 1 1 underlying24 q r s t rfl (by omega) v1 n (aI bs) rfl N (From w1) (some ⟨w1,0,none⟩) 4 4 (aI fr) rfl x.parts.2.2.2 (bJ _) (by simp only [maxLen];omega) (by omega) (by have z:=a.out.size;have M:=i.out.size;omega) ?_);intro U V d p O;have S:=aa d;have L:=aa p;clear d p O))
 rw [u.out];refine⟨U,rfl,?_,(a.out.trans (i.mono a.size)).grown L (by have z:=a.out.size;have M:=i.out.size;omega) (fun k C=>(ah J k C).1)⟩;have z:=S.out;unfold Ow;rw [mq,P.out,<-G.out];simpa [aI] using z
section
section
variable {P:Program} {ops:Array Oper} {Q:Exit->Act->World->Prop} {md:Region.Mode} {S:World->Prop}
theorem Do {i j:Nat} {p d:Oper} {f:Nat} {t:Array Bool} {a:Act} {w:World} (o:Region.ready md ops t= [i,j]) (l:ops[i]? =some p) (m:ops[j]? =some d)
  (hi:∀b:Act->World->Prop,Hid (∀a w,S w->Fp P md ops Q S f (t.setIfInBounds i true) a w->b a w)->
   if Region.wanted p (yielded ops a.tmps)=true then Oper.wp P p a w b Q else b (a.put p.dst undef) w)
  (q:∀b:Act->World->Prop,Hid (∀a w,S w->Fp P md ops Q S f (t.setIfInBounds j true) a w->b a w)->
   if Region.wanted d (yielded ops a.tmps)=true then Oper.wp P d a w b Q else b (a.put d.dst undef) w):Fp P md ops Q S (f+1) t a w:=by
 refine⟨fun n=>(by rw [o] at n;cases n),fun k c=> ?_⟩;rw [o] at c
 rcases List.mem_cons.1 c with rfl|c
 ·exact wpOp_step l (fun b e=>hi b (fun a w g h=>e a w ⟨g,h⟩))
 ·obtain rfl:k=j:=by simpa using c
  exact wpOp_step m (fun b e=>q b (fun a w g h=>e a w ⟨g,h⟩))
end
end
noncomputable def Rc:Code:=aQ (f35.body.bind (aF 41))
theorem Tz:(!((ou (bs++fr)).toList==(ou (bs++g)).toList))= !(decide (fr=g)):=by
 rw [vJ];congr 1;exact decide_eq_decide.2 ⟨fun h=>List.append_cancel_left h,fun h=>by rw [h]⟩
theorem Ib (bc:Nat) (sc:Nat) {bA sA:Option Addr} {q n A m:Value} {Tu:List Value} {Q:Exit->Act->World->Prop} (kF:Hid (∀c t (a:Act) w,Q (.panic c) ⟨t,a.defers⟩ w->Q (.panic c) a w))
  (H:Hid (Rd w F 1 bA bn (aI bs))) (HN:Hid (bn=bs.length)) (hn2:bn<=1152921504606) (HS:Hid (Rd w F 1 sA sn (aI g))) (HM:Hid (sn=g.length)) (bP:sn<=64)
  (au:∀(a9 ba bz bE be bh bj bN bk:Value) (rb:Bool) (w':World),rb= !(decide (four (bg bs)=g))->Below w w w'->Q .normal ⟨(u0::u1::u2::u3::u4::u5::u6::u7::u8::u9::bX::bQ::O:: .slice bA bn bc::bT:: .slice sA sn sc::u16::bF::bG::I::u20::u21::V::u23::u24::u25::u26::u27::u28::u29::u30::u31::u32::u33::u34::u35::u36::u37::u38::N::u40::dw::u42::dx::u44::u45::u46::dG::u48::u49::dI::u51::dP::u53::dR::u55::dY::dZ::u58::u59::u60::fw::fJ::u63::u64::gm::u66::gH::u68::u69::u70::iM::u72::u73::iN::u75::iV::jY::jZ::j6::kg::kG::kP::kQ::kR::U::kU::ng::mI::mJ::pF::pu::rX::u93::vw::vz::vC::vE::sQ::sS::jg::jh::ji::jU::kD::u105::lG::lH::lI::lJ::lK::lL::lM::lN::lQ::lS::D::nG::nH::u119::nI::y::nK::nM::u124::nN::nO::u127::ui::uj::uk::u131::um::uo::uq::ut::uu::uw::u138::u139::uy::uz::uB::uC::uD::uE::uG::uH::uI::uJ::uK::uL::u152::uM::u154::AU::AV::l::B::s::d::X::u162::Bh::u164::q::z::r::Bn::Bo::M::Bq::T::E::n::A::J::L::Ed::Ee::Ef::Eg::Eh::u::G::C::W::En::o::R::Es::Et::P::u193::u194::Ev::u196::f::u198::m::Ey::u201::Y::p::Z::KJ::a1::KL::a2::KM::a3::KN::KO::KP::KQ::KR::KS::KT::KU::KV::KW::KX::KY::KZ::K6::K8::K9::Lb::a9::ba::bz::bE::be::bh::bj::bN::bk:: .bool rb::Tu).toArray,[]⟩ w'):
  Code.wp prog Rc Q ⟨(u0::u1::u2::u3::u4::u5::u6::u7::u8::u9::bX::bQ::O:: .slice bA bn bc::bT:: .slice sA sn sc::u16::bF::bG::I::u20::u21::V::u23::u24::u25::u26::u27::u28::u29::u30::u31::u32::u33::u34::u35::u36::u37::u38::N::u40::dw::u42::dx::u44::u45::u46::dG::u48::u49::dI::u51::dP::u53::dR::u55::dY::dZ::u58::u59::u60::fw::fJ::u63::u64::gm::u66::gH::u68::u69::u70::iM::u72::u73::iN::u75::iV::jY::jZ::j6::kg::kG::kP::kQ::kR::U::kU::ng::mI::mJ::pF::pu::rX::u93::vw::vz::vC::vE::sQ::sS::jg::jh::ji::jU::kD::u105::lG::lH::lI::lJ::lK::lL::lM::lN::lQ::lS::D::nG::nH::u119::nI::y::nK::nM::u124::nN::nO::u127::ui::uj::uk::u131::um::uo::uq::ut::uu::uw::u138::u139::uy::uz::uB::uC::uD::uE::uG::uH::uI::uJ::uK::uL::u152::uM::u154::AU::AV::l::B::s::d::X::u162::Bh::u164::q::z::r::Bn::Bo::M::Bq::T::E::n::A::J::L::Ed::Ee::Ef::Eg::Eh::u::G::C::W::En::o::R::Es::Et::P::u193::u194::Ev::u196::f::u198::m::Ey::u201::Y::p::Z::KJ::a1::KL::a2::KM::a3::KN::KO::KP::KQ::KR::KS::KT::KU::KV::KW::KX::KY::KZ::K6::K8::K9::Lb::OX::OY::OZ::O0::O1::O3::a7::O4::a8::O5::Tu).toArray,[]⟩ w:=by
 obtain⟨i0,ar,aA,aE,a0⟩:=info_parts bD;have dz:=aa au;obtain⟨fr,aq⟩:=gF (four (bg bs));have PH:Hid (∀w1,Below w w w1->Calls prog 65 #[.slice bA bn bc] w1 fun e w'=>∃v,e= .returned v/\Ow w' w1 v (bs++fr)/\Below w1 w1 w'):=aa (fun w1 hb=>by rw [aq];exact Cr bc (H.below hb) HN hn2);have S0:True:=trivial;have qW:=aa aq;rw [<-aq] at dz;clear au aq;conv=>arg 2;whnf
 refine aO (S:=(fun _=>True)) (by kernel_rfl) ?_;refine vT 0 S0 ?_;refine vT 4 S0 ?_;refine vT 6 S0 ?_
 refine Do (i:=1) (j:=3) (by kernel_rfl) rfl rfl (fun K hK=> ?_) (fun K hK=> ?_)
 ·go_simp
  go_loud (refine(PH _ (mh.drew)).mono ?_);rintro e w1 ⟨v,rfl,ac,am⟩;obtain⟨A1,n1,c1,rfl,-,-,-,-⟩:=ac.sb;have mD:=aa ac;have al:Hid (Below w w w1):=aa (mh.drew.trans am);have Yt:=aa ac.sb.parts.2.2.1;have C1:=bC c1 ac.sb.parts.2.2.2 Yt.out;clear ac am
  refine hK.out _ _ trivial ?_;clear hK K;try simp only [aL,aN,aZ,aC]
  refine jQ (S':=fun w'=>(convert 24 9 (.slice A1 n1 c1)).run prog w'= .ok (.string (ou (bs++fr))) w') (fun _ _=>trivial) ?_;refine vT 2 C1 ?_;refine nZ 3 fun K hK=> ?_;go_simp;obtain⟨w3,aw⟩:=gF (w1.alloc (.cells #[] 5));rw [<-aw];have ap:Below w1 w1 w3:=(by rw [aw];exact gV);have bm:=aa ap;have ao:Hid (w3.ownsRow w1 5 1 (.slice (some ⟨w1,0,none⟩) 0 0) 0 []):=aa (by rw [aw];exact gq w1 _ 1);have je:=aa ap.size;have dW:Hid (Below w w w3):=aa (al.out.trans (ap.mono al.size));have C3:=bC c1 (mD.sb.parts.2.2.2.below ap) Yt.out;clear aw ap;refine hK.out _ _ C3 ?_;clear hK K;try simp only [aL,aN,aZ,aC]
  refine nZ 5 fun K hK=> ?_;refine aG _ rfl (.tmp 231) (.tmp 232) _ rfl w1 5 i0 _ 1 1 underlying24 ar aA aE a0 rfl (by omega) (.slice (some ⟨w1,0,none⟩) 0 0) 0 [] rfl ao F bA bn bc (aI bs) rfl (H.below dW) (bJ _) (by simp only [maxLen];omega) (by omega) je ?_;intro x w5 ab an oz;obtain⟨K5,Yq,a4,_,_⟩:=ax ab;subst a4;have pq:Hid (Ow w5 w1 (.slice K5 (0+bn) Yq) bs):=aa (by unfold Ow;rw [<-HN.out];simpa using ab);have PW:Hid (Below w1 w1 w5):=aa (bm.grown an je (fun k hk=>(ah ao k hk).1));have TA:=aa PW.size;have eF:Hid (Below w w w5):=aa (al.out.trans (PW.mono al.size));have C5:=bC c1 (mD.sb.parts.2.2.2.below PW) Yt.out;clear ab an oz;refine rT hK C5 ?_;clear hK K;refine nZ 7 fun K hK=> ?_;refine aG _ rfl (.tmp 233) (.tmp 234) _ rfl w1 5 i0 _ 1 1 underlying24 ar aA aE a0 rfl (by omega) (.slice K5 (0+bn) Yq) bn (aI bs) (by rw [Nat.zero_add];rfl) (by have h9:=pq.out;unfold Ow at h9;rw [<-HN.out] at h9;exact h9) F sA sn sc (aI g) rfl (HS.below eF) (bJ _) (by simp only [maxLen];omega) (by omega) TA ?_;intro x w7 nQ PX AM;obtain⟨K7,ae,a5,_,_⟩:=ax nQ;subst a5;have nW:Hid (Ow w7 w1 (.slice K7 (bn+sn) ae) (bs++g)):=aa (by unfold Ow;rw [mq,<-HN.out,<-HM.out];simpa [aI] using nQ);have a6:Hid (Below w1 w1 w7):=aa (PW.grown PX TA (fun k hk=>(ah pq k hk).1));have PG:Hid (Below w w w7):=aa (al.out.trans (a6.mono al.size));have ad:=bC c1 (mD.sb.parts.2.2.2.below a6) Yt.out;have C7:=bC ae nW.sb.parts.2.2.2 nW.sb.parts.2.2.1;clear nQ PX AM;refine rT hK ad ?_;clear hK K;refine jQ (S':=fun w'=>(convert 24 9 (.slice A1 n1 c1)).run prog w'= .ok (.string (ou (bs++fr))) w'/\(convert 24 9 (.slice K7 (bn+sn) ae)).run prog w'= .ok (.string (ou (bs++g))) w') (fun _ h=>h.1) ?_;refine vT 8 ⟨ad,C7⟩ ?_;refine vT 9 ⟨ad,C7⟩ ?_;refine bf (by kernel_rfl) ?_ _;go_simp
  exact dz _ _ _ _ _ _ _ _ _ _ _ Tz PG
 ·go_simp
  obtain⟨wA,Jg⟩:=gF ((w.alloc (.cells #[] 5)).drew);rw [<-Jg];have PL:Below w w wA:=(by rw [Jg];exact gV.drew);have jq:=aa PL;have bo:Hid (wA.ownsRow w 5 1 (.slice (some ⟨w,0,none⟩) 0 0) 0 []):=aa (by rw [Jg];exact own_below (gq w _ 1) mh.drew);have vo:Hid (w.heap.size<wA):=aa (by rw [Jg];show w<(w.alloc _).heap.size;simp);clear Jg PL;refine hK.out _ _ trivial ?_;clear hK K;try simp only [aL,aN,aZ,aC]
  refine nZ 1 fun K hK=> ?_;go_simp;go_loud (refine(PH _ jq).mono ?_);rintro e w1 ⟨v,rfl,ac,am⟩;obtain⟨A1,n1,c1,rfl,-,-,-,-⟩:=ac.sb;have mD:=aa ac;have dW:Hid (Below w.heap.size w w1):=aa (jq.out.trans (am.mono jq.size));have ao:=aa (own_below bo am);have je:=aa dW.size;have Yt:=aa ac.sb.parts.2.2.1;have C1:=bC c1 ac.sb.parts.2.2.2 Yt.out;clear ac am
  refine hK.out _ _ trivial ?_;clear hK K;try simp only [aL,aN,aZ,aC]
  refine jQ (S':=fun w'=>(convert 24 9 (.slice A1 n1 c1)).run prog w'= .ok (.string (ou (bs++fr))) w') (fun _ _=>trivial) ?_;refine vT 2 C1 ?_;refine nZ 5 fun K hK=> ?_;refine aG _ rfl (.tmp 231) (.tmp 232) _ rfl w 5 i0 _ 1 1 underlying24 ar aA aE a0 rfl (by omega) (.slice (some ⟨w,0,none⟩) 0 0) 0 [] rfl ao F bA bn bc (aI bs) rfl (H.below dW) (bJ _) (by simp only [maxLen];omega) (by omega) je ?_;intro x w5 ab an oz;obtain⟨K5,Yq,a4,_,_⟩:=ax ab;subst a4;have pq:Hid (Ow w5 w (.slice K5 (0+bn) Yq) bs):=aa (by unfold Ow;rw [<-HN.out];simpa using ab);have eF:Hid (Below w w w5):=aa (dW.grown an je (fun k hk=>(ah ao k hk).1));have TA:=aa eF.size;have PN:Hid (SB w5 (fun b=>wA<=b/\b<w1) (.slice A1 n1 c1) (bs++fr)):=aa (mD.sb.lt.chg (ag.of_grown an) (fun b hb e=>by have h1:wA<=b:=hb.1;have h2:=vo.out;simp only [Value.ownBlock,Option.some.injEq] at e;omega));have bx:Hid (∀b,(Value.slice K5 (0+bn) Yq).ownBlock=some b->b=w.heap.size\/b=w1.heap.size):=aa (fun b hb=>by rcases oz with h|h;rw [h] at hb;simp only [Value.ownBlock,Option.some.injEq] at hb;exact .inl hb.symm;rw [h] at hb;injection hb with hb;exact .inr hb.symm);have C5:=bC c1 PN.parts.2.2.2 Yt.out;clear ab an oz;refine rT hK C5 ?_;clear hK K;refine nZ 7 fun K hK=> ?_;refine aG _ rfl (.tmp 233) (.tmp 234) _ rfl w 5 i0 _ 1 1 underlying24 ar aA aE a0 rfl (by omega) (.slice K5 (0+bn) Yq) bn (aI bs) (by rw [Nat.zero_add];rfl) (by have h9:=pq.out;unfold Ow at h9;rw [<-HN.out] at h9;exact h9) F sA sn sc (aI g) rfl (HS.below eF) (bJ _) (by simp only [maxLen];omega) (by omega) TA ?_;intro x w7 nQ PX AM;obtain⟨K7,ae,a5,_,_⟩:=ax nQ;subst a5;have nW:Hid (Ow w7 w (.slice K7 (bn+sn) ae) (bs++g)):=aa (by unfold Ow;rw [mq,<-HN.out,<-HM.out];simpa [aI] using nQ);have PG:Hid (Below w w w7):=aa (eF.grown PX TA (fun k hk=>(ah pq k hk).1));have bp:Hid (SB w7 (fun b=>wA<=b/\b<w1) (.slice A1 n1 c1) (bs++fr)):=aa (PN.chg (ag.of_grown PX) (fun b hb e=>by have h2:=vo.out;have h3:=bx.out b (by rw [Nat.zero_add];simpa [Nat.zero_add] using e);omega));have ad:=bC c1 bp.parts.2.2.2 Yt.out;have C7:=bC ae nW.sb.parts.2.2.2 nW.sb.parts.2.2.1;clear nQ PX AM;refine rT hK ad ?_;clear hK K;refine jQ (S':=fun w'=>(convert 24 9 (.slice A1 n1 c1)).run prog w'= .ok (.string (ou (bs++fr))) w'/\(convert 24 9 (.slice K7 (bn+sn) ae)).run prog w'= .ok (.string (ou (bs++g))) w') (fun _ h=>h.1) ?_;refine vT 8 ⟨ad,C7⟩ ?_;refine vT 9 ⟨ad,C7⟩ ?_;refine bf (by kernel_rfl) ?_ _;go_simp;exact dz _ _ _ _ _ _ _ _ _ _ _ Tz PG
structure Src where
 left:List UInt8
 gives:List Int
 fail:Int
 eager:Bool
 calls:Nat
def Src.most (s:Src) (n:Nat):Nat:=match s.gives[s.calls]? with
 |some g=>min n g.toNat
 |none=>n
def Src.asked (s:Src):Src:={s with calls:=s.calls+1}
def Src.read (s:Src) (n:Nat):List UInt8×Int×Src:=
 if 0<s.fail/\s.fail<=(s.calls:Int)+1 then([],32,s.asked)
 else if s.left= [] then([],31,s.asked)
 else(s.left.take (s.most n),if s.eager=true/\s.left.drop (s.most n)= [] then 31 else 0,{s.asked with left:=s.left.drop (s.most n)})
theorem Src.most_le (s:Src) (n:Nat):s.most n<=n:=by unfold Src.most;split<;>omega
theorem Src.read_len (s:Src) (n:Nat):(s.read n).1.length<=n:=by
 unfold Src.read;have:=s.most_le n
 split
 ·simp
 ·split
  ·simp
  ·simp only [List.length_take];omega
theorem Src.read_calls (s:Src) (n:Nat):(s.read n).2.2.calls=s.calls+1:=by
 unfold Src.read
 split
 ·rfl
 ·split<;>rfl
theorem Src.read_left (s:Src) (n:Nat):(s.read n).1.length+(s.read n).2.2.left.length=s.left.length:=by
 unfold Src.read
 split
 ·simp [Src.asked]
 ·split
  ·simp [Src.asked]
  ·simp only [List.length_take,List.length_drop];omega
structure ay where
 src:Src
 at_:Nat
 err:Int
 idle:Nat
 held:Option UInt8
def ay.ask (c:ay) (n:Nat):List UInt8×Int×ay:=
 ((c.src.read (min n 4096)).1,(c.src.read (min n 4096)).2.1,{c with src:=(c.src.read (min n 4096)).2.2,idle:=if(c.src.read (min n 4096)).1≠ []\/(c.src.read (min n 4096)).2.1≠0 then 0 else c.idle+1})
def ay.loop (c:ay) (b:List UInt8) (n:Nat):List UInt8×Int×ay:=
 if n<=b.length then(b,0,c)
 else if n<=(b++(c.ask (n-b.length)).1).length then(b++(c.ask (n-b.length)).1,0,(c.ask (n-b.length)).2.2)
 else if(c.ask (n-b.length)).2.1=31 then([],41,(c.ask (n-b.length)).2.2)
 else if(c.ask (n-b.length)).2.1≠0 then([],(c.ask (n-b.length)).2.1,(c.ask (n-b.length)).2.2)
 else if 16<=(c.ask (n-b.length)).2.2.idle then([],33,(c.ask (n-b.length)).2.2)
 else(c.ask (n-b.length)).2.2.loop (b++(c.ask (n-b.length)).1) n
termination_by (n-b.length)*17+(16-c.idle)
decreasing_by
 rename_i h f _i e g;simp only [mq] at f|-;have d:(c.ask (n-b.length)).2.2.idle=if(c.ask (n-b.length)).1≠ []\/(c.ask (n-b.length)).2.1≠0 then 0 else c.idle+1:=rfl
 by_cases a:(c.ask (n-b.length)).1= []
 ·rw [d,if_neg (by simp [a,e])];rw [d,if_neg (by simp [a,e])] at g;rw [a];simp only [List.length_nil]
  omega
 ·have j:0<(c.ask (n-b.length)).1.length:=List.length_pos_iff.2 a;rw [d,if_pos (.inl a)];omega
def ay.bytes (c:ay) (n:Nat):List UInt8×Int×ay:=
 if c.err≠0 then([],c.err,c)
 else if n=0 then([],0,c)
 else if(ay.loop {c with held:=none} c.held.toList n).2.1=0 then((ay.loop {c with held:=none} c.held.toList n).1,0,{(ay.loop {c with held:=none} c.held.toList n).2.2 with at_:=c.at_+n})
 else([],(ay.loop {c with held:=none} c.held.toList n).2.1,{(ay.loop {c with held:=none} c.held.toList n).2.2 with err:=(ay.loop {c with held:=none} c.held.toList n).2.1})
def ay.numL (k:Nat) (v:Nat) (c:ay):Nat×Int×ay:=
 if 10<=k then(0,12,{(c.bytes 1).2.2 with err:=12})
 else if(c.bytes 1).2.1≠0 then(0,(c.bytes 1).2.1,(c.bytes 1).2.2)
 else if k=9/\1<((c.bytes 1).1.headD 0).toNat then(0,12,{(c.bytes 1).2.2 with err:=12})
 else if 0<k/\((c.bytes 1).1.headD 0).toNat=0 then(0,13,{(c.bytes 1).2.2 with err:=13})
 else if((c.bytes 1).1.headD 0).toNat<128 then(v+((c.bytes 1).1.headD 0).toNat%128*128^k,0,(c.bytes 1).2.2)
 else ay.numL (k+1) (v+((c.bytes 1).1.headD 0).toNat%128*128^k) (c.bytes 1).2.2
termination_by 10-k
def ay.number (c:ay):Nat×Int×ay:=
 if(c.numL 0 0).2.1=0 then c.numL 0 0 else(0,(c.numL 0 0).2.1,{(c.numL 0 0).2.2 with at_:=c.at_})
def ay.end_ (c:ay):Bool×Int×ay:=
 if c.err≠0\/c.held.isSome=true then(false,c.err,c)
 else if(c.loop [] 1).2.1=0 then(false,0,{(c.loop [] 1).2.2 with held:=(c.loop [] 1).1.head?})
 else if(c.loop [] 1).2.1=41 then(true,0,(c.loop [] 1).2.2)
 else(false,(c.loop [] 1).2.1,{(c.loop [] 1).2.2 with err:=(c.loop [] 1).2.1})
variable {c:ay}
def ay.pot (c:ay):Nat:=c.src.calls+17*c.src.left.length+(16-c.idle)
structure ay.Fine (K:Nat) (c:ay):Prop where
 idle:c.idle<=15
 pot:c.pot<=K
theorem ay.ask_len (c:ay) (n:Nat):(c.ask n).1.length<=n:=ma (Src.read_len _ _) (Nat.min_le_left _ _)
theorem ay.ask_len2 (c:ay) (n:Nat):(c.ask n).1.length<=4096:=ma (Src.read_len _ _) (Nat.min_le_right _ _)
theorem ay.ask_calls (c:ay) (n:Nat):(c.ask n).2.2.src.calls=c.src.calls+1:=Src.read_calls _ _
theorem ay.ask_left (c:ay) (n:Nat):(c.ask n).1.length+(c.ask n).2.2.src.left.length=c.src.left.length:=Src.read_left _ _
theorem ay.ask_idle (c:ay) (n:Nat):(c.ask n).2.2.idle=if(c.ask n).1≠ []\/(c.ask n).2.1≠0 then 0 else c.idle+1:=rfl
theorem ay.ask_pot (n:Nat) (h:c.Fine K) (g:(c.ask n).1≠ []\/(c.ask n).2.1=0):(c.ask n).2.2.pot<=K:=by
 have i:=c.ask_calls n;have b:=c.ask_left n;have d:=c.ask_idle n;have j:=h.idle;have e:=h.pot;unfold ay.pot at e|-
 by_cases a:(c.ask n).1= []
 ·have f:(c.ask n).2.1=0:=by rcases g with h|h;exact absurd a h;exact h
  rw [if_neg (by simp [a,f])] at d;rw [a] at b;simp only [List.length_nil] at b
  omega
 ·have k:0<(c.ask n).1.length:=List.length_pos_iff.2 a;rw [if_pos (.inl a)] at d;omega
theorem ay.ask_any (n:Nat) (h:c.Fine K):(c.ask n).2.2.pot<=K+17/\(c.ask n).2.2.idle<=16:=by
 have d:=c.ask_calls n;have e:=c.ask_left n;have a:=c.ask_idle n;have f:=h.idle;have b:=h.pot;unfold ay.pot at b|-;split at a<;>omega
theorem ay.loop_eq (c:ay) (b:List UInt8) (n:Nat):c.loop b n=if n<=b.length then(b,0,c)
 else if n<=(b++(c.ask (n-b.length)).1).length then(b++(c.ask (n-b.length)).1,0,(c.ask (n-b.length)).2.2)
 else if(c.ask (n-b.length)).2.1=31 then([],41,(c.ask (n-b.length)).2.2)
 else if(c.ask (n-b.length)).2.1≠0 then([],(c.ask (n-b.length)).2.1,(c.ask (n-b.length)).2.2)
 else if 16<=(c.ask (n-b.length)).2.2.idle then([],33,(c.ask (n-b.length)).2.2)
 else(c.ask (n-b.length)).2.2.loop (b++(c.ask (n-b.length)).1) n:=by
 conv=>lhs;unfold ay.loop
theorem ay.loop_out (n:Nat):∀(M:Nat) (c:ay) (b:List UInt8),(n-b.length)*17+(16-c.idle)<=M->c.Fine K->b.length<=n->
  ((c.loop b n).2.1=0->(c.loop b n).1.length=n/\(c.loop b n).2.2.pot<=K/\(c.loop b n).2.2.idle<=15/\(c.loop b n).2.2.src.left.length+n=c.src.left.length+b.length)/\(c.loop b n).2.2.pot<=K+17/\(c.loop b n).2.2.src.left.length<=c.src.left.length/\(c.loop b n).2.2.at_=c.at_/\(c.loop b n).2.2.err=c.err/\(c.loop b n).2.2.held=c.held:=by
 intro M
 induction M with
 |zero=>
  intro c b r a s;have:=a.idle
  omega
 |succ M u=>
  intro c b r a s;have G:=c.ask_left (n-b.length);have H:=c.ask_len (n-b.length);have l:=c.ask_idle (n-b.length);have i:=ay.ask_any (n-b.length) a;have p:=a.idle;have q:=a.pot;rw [ay.loop_eq]
  split
  ·rename_i o;exact⟨fun _=>⟨by simp only [];omega,q,p,by simp only [];omega⟩,by simp only [];omega,jO,rfl,rfl,rfl⟩
  ·rename_i o
   split
   ·rename_i d;rw [mq] at d;have f:(c.ask (n-b.length)).1≠ []:=fun e=>by rw [e] at d;simp at d;omega
    have k:=ay.ask_pot (n-b.length) a (.inl f);rw [if_pos (.inl f)] at l
    exact⟨fun _=>⟨by rw [mq];omega,k,by simp only [];omega,by simp only [];omega⟩,by simp only [];omega,by simp only [];omega,rfl,rfl,rfl⟩
   ·rename_i d
    split
    ·exact⟨fun h=>by simp at h,i.1,by simp only [];omega,rfl,rfl,rfl⟩
    ·split
     ·rename_i g;exact⟨fun h=>absurd h g,i.1,by simp only [];omega,rfl,rfl,rfl⟩
     ·rename_i E g;have m:(c.ask (n-b.length)).2.1=0:=Decidable.byContradiction g
      split
      ·exact⟨fun h=>by simp at h,i.1,by simp only [];omega,rfl,rfl,rfl⟩
      ·rename_i F;have k:=ay.ask_pot (n-b.length) a (.inr m);rw [mq] at d
       have t:(n-(b++(c.ask (n-b.length)).1).length)*17+(16-(c.ask (n-b.length)).2.2.idle)<=M:=by
        rw [mq]
        by_cases j:(c.ask (n-b.length)).1= []
        ·rw [if_neg (by simp [j,m])] at l
         rw [j];simp only [List.length_nil];omega
        ·have I:0<(c.ask (n-b.length)).1.length:=List.length_pos_iff.2 j;omega
       obtain⟨v,w,J,x,y,z⟩:=u (c.ask (n-b.length)).2.2 (b++(c.ask (n-b.length)).1) t ⟨by omega,k⟩ (by rw [mq];omega);refine⟨fun h=> ?_,w,by omega,x,y,z⟩;obtain⟨A,B,C,D⟩:=v h;exact⟨A,B,C,by rw [mq] at D;omega⟩
end Go.Proofs.YtepgcjbhabnciaaGreat
