/- Part 25. -/
import Derived.Test.YtepgcjbhabnciaaGreatLe24
namespace Go.Proofs.YtepgcjbhabnciaaGreat
set_option maxRecDepth 100000
set_option maxHeartbeats 8000000
open Go.Proofs.Tryz Go.RowKit
theorem Gi (s:Nat) (w:World) (h:s<4294967296):Calls prog 185 #[.int .u32 s] w fun e w'=>e= .returned (.int .u32 (kN s))/\w=w':=by
 have f:=dI (s/2) 3988292384 (by omega) (by omega);refine letter fun R d=> ?_
 by_cases a:s%2=1
 ·have b:(s:Int)%2=1:=by omega
  have c:Hid (kN s=(s/2)^^^3988292384):=aa (by unfold kN;rw [if_pos a]);clear a;go_enter func185,ntmps185
  go_wp2;rw [d.out,c.out]
  first|exact⟨rfl,rfl⟩|exact⟨by rw [<-f];rfl,rfl⟩|(simp_all)
 ·have b:¬((s:Int)%2=1):=by omega
  have c:Hid (kN s=s/2):=aa (by unfold kN;rw [if_neg a]);clear a;go_enter func185,ntmps185
  go_wp2;rw [d.out,c.out]
  exact⟨rfl,rfl⟩
theorem Kw (A:Option Addr) (n c:Nat) (F:Nat->Prop) (l:List UInt8) (w:World) (h:Rd w F 1 A n (aF l)) (j:n=l.length) (K:n<=1152921504606):
  Calls prog 150 #[.int .u32 0,.slice A n c] w fun e w'=>e= .returned (.int .u32 (aW l))/\w=w':=by
 have O:=aa h;have S:=aa j;have T:Hid (∀x:Nat,x<4294967296->(4294967295:Int)-(x:Int)=((4294967295^^^x:Nat):Int)):=aa (fun x s=>by rw [E8 s];omega);clear h j;refine letter fun R v=> ?_;go_enter func150,ntmps150
 go_wp2
 go_loopg [5,0] n (fun X iv sv wz=>∃i:Nat,X=n-i/\i<=n/\iv= .int .i64 i/\sv= .int .u32 (Jp 4294967295 (l.take i))/\w=wz)
 case atStart=>exact⟨0,by omega,by omega,rfl,rfl,rfl⟩
 case round=>
  obtain⟨i,I,hi,rfl,rfl,rfl⟩:=hrel;have P:=aa I;clear I;obtain⟨t,p⟩:∃t,t=Jp 4294967295 (l.take i):=⟨_,rfl⟩;have H:=aa p;have f:t<4294967296:=by rw [p];exact uX _ (by omega)
  rw [<-p];clear p
  by_cases E:i<n
  ·have J:(i:Int)<(n:Int):=by omega
   obtain⟨b,o,u,rfl,_,s,Z⟩:=O.out.at_ E;obtain⟨x,g,rfl⟩:=dX s;have U:=aa g;simp only [bv] at Z;have W:=dI t x.toNat f (by have:=x.toNat_lt;omega);have hm:(x.toNat:Int)%4294967296=(x.toNat:Int):=by have:=x.toNat_lt;omega
   have L:t^^^x.toNat<4294967296:=zZ f x;obtain⟨r,d⟩:∃r,r=t^^^x.toNat:=⟨_,rfl⟩;have y:=aa d;rw [<-d] at W L;clear s g d;go_wp2
   go_loopg [6,0] 8 (fun Y kv tv wy=>∃k:Nat,Y=8-k/\k<=8/\kv= .int .i64 k/\tv= .int .u32 (oM k r)/\w=wy)
   case atStart=>exact⟨0,by omega,by omega,rfl,rfl,rfl⟩
   case round=>
    obtain⟨k,G,hk,rfl,rfl,rfl⟩:=hrel;have Q:=aa G;clear G;obtain⟨q,a⟩:∃q,q=oM k r:=⟨_,rfl⟩;have m:=aa a;have M:q<4294967296:=by rw [a];exact qh L k
    rw [<-a];clear a
    by_cases ab:k<8
    ·have V:(k:Int)<8:=by omega
     go_wp2_with (go_at_call 185;refine(Gi q w M).mono ?_;rintro e w2 ⟨rfl,rfl⟩)
     go_roundg (8-(k+1))
     case measure=>have:=Q.out;omega
     case rel=>exact⟨k+1,rfl,by omega,by go_num,by rw [m.out];rfl,rfl⟩
    ·have D:k=8:=by omega
     subst D;go_wp2
     go_roundg (n-(i+1))
     case measure=>have:=P.out;omega
     case rel=>exact⟨i+1,rfl,by omega,by go_num,by rw [m.out,y.out,H.out,CP U.out],rfl⟩
  ·have C:i=n:=by omega
   subst C;have z:=H.out;rw [List.take_of_length_le (by have:=S.out;omega)] at z;have N:Hid (aW l=4294967295^^^t):=aa (by rw [z];rfl);have B:=T.out t f;obtain⟨q,a⟩:∃q,q=4294967295^^^t:=⟨_,rfl⟩;have m:=aa a;rw [<-a] at B;clear z a;go_wp2;rw [v.out,N.out,<-m.out];exact⟨by first|rfl|(rw [B];rfl)|(rw [<-B];rfl),rfl⟩
theorem Rc (A:Option Addr) (n c q:Nat) (_F:Nat->Prop) (_l:List UInt8) (w:World) (a:Hid (Calls prog 150 #[.int .u32 0,.slice A n c] w fun e w'=>e= .returned (.int .u32 q)/\w=w')):
  Calls prog 108 #[.slice A n c] w fun e w'=>e= .returned (.int .u32 q)/\w=w':=by
 go_enter func108,ntmps108
 go_wp2_with (go_at_call 150;refine a.mono ?_;rintro e w2 ⟨rfl,rfl⟩)
 go_ret
 exact⟨rfl,rfl⟩
theorem OA (A:Option Addr) (n c:Nat) (F:Nat->Prop) (l:List UInt8) (w:World) (h:Rd w F 1 A n (aF l)) (j:n=l.length) (K:n<=1152921504606):
  Calls prog 108 #[.slice A n c] w fun e w'=>e= .returned (.int .u32 (aW l))/\w=w':=
 Rc A n c (aW l) F l w (aa (Kw A n c F l w h j K))
theorem KE (s:Nat) (a:s<4294967296): [Value.int .u8 ((s:Int)%256),Value.int .u8 ((s:Int)/256%256),Value.int .u8 ((s:Int)/65536%256),Value.int .u8 ((s:Int)/16777216)]=aF (four s):=by
 simp only [four,aF,List.map_cons,List.map_nil,bv,UInt8.toNat_ofNat'];congr 2
 congr 2
 congr 2
 congr 2
 omega
theorem KF (s:Nat) (w:World) (c:s<4294967296):Calls prog 107 #[.int .u32 s] w fun e w'=>e= .returned (.slice (some ⟨w.heap.size,0,none⟩) 4 4)/\SB w' (From w.heap.size) (.slice (some ⟨w.heap.size,0,none⟩) 4 4) (four s)/\Below w.heap.size w w':=by
 have a:=aa (KE s c);refine letter fun R b=> ?_;go_enter func107,ntmps107
 go_wp2;rw [b.out]
 refine⟨rfl,SB.mk (Nat.le_refl _) (by simp [maxLen]) rfl ?_,(Below.refl _ _).alloc (Nat.le_refl _) _⟩;have h:=Rd.lit1 w #[Value.int .u8 ((s:Int)%256),Value.int .u8 ((s:Int)/256%256),Value.int .u8 ((s:Int)/65536%256),Value.int .u8 ((s:Int)/16777216)] 5;rw [<-a.out];exact h
theorem zg (F:Nat->Prop) (A:Option Addr) (n c:Nat) (bs:List UInt8) (w:World) (h:Rd w F 1 A n (aF bs)) (p:n=bs.length) (K:n<=1152921504606):
  Calls prog 65 #[.slice A n c] w fun e w'=>∃v,e= .returned v/\Ow w' w.heap.size v (bs++four (aW bs))/\Below w.heap.size w w':=by
 obtain⟨L,s,t,u,x⟩:=info_parts bu;have J:=aa h;have I:=aa p;obtain⟨m,f⟩:∃m,m=four (aW bs):=⟨_,rfl⟩;obtain⟨y,g⟩:∃y,y=aW bs:=⟨_,rfl⟩;have X:Hid (m=four y):=aa (by rw [f,g]);have C:=aa g;have H:y<4294967296:=by rw [g];exact CQ _
 have o:m.length=4:=by rw [f];rfl
 have Q:=aa o;rw [<-f];clear h p f g o;obtain⟨R,E⟩:∃R:Ending->World->Prop,R=fun e w'=>∃v,e= .returned v/\Ow w' w.heap.size v (bs++m)/\Below w.heap.size w w':=⟨_,rfl⟩;have z:=aa E;rw [<-E];clear E;go_enter func65,ntmps65
 go_wp2_with (first|(at_builtin;(refine af _ rfl (.tmp 3) (.tmp 4) _ rfl w.heap.size 5 L _ 1 1 underlying24 s t u x rfl (by omega) (.slice (some ⟨w.heap.size,0,none⟩) 0 0) 0 [] rfl (gp w _ 1) F A n c (aF bs) rfl (J.alloc _) (bC _) (by simp only [maxLen];omega) (by omega) (by simp) ?_);intro N w1 b q T;have M:Hid (w1.ownsRow w.heap.size 5 1 N n (aF bs)):=aa (by simpa using b);have a:Hid (Below w.heap.size w w1):=aa (((Below.refl _ _).alloc (Nat.le_refl _) _).grown q (by simp) (fun k G=>by simp [Value.ownBlock] at G;omega));clear b q T)|(go_at_call 108;go_loud (refine(OA A n c F bs w1 (J.below a) I K).mono ?_);rintro e w2 ⟨rfl,rfl⟩;rw [<-C.out])|(go_at_call 107;go_loud (refine(KF y w1 H).mono ?_);rintro e w2 ⟨rfl,l,j⟩;rw [<-X.out] at l;have B:=aa l;have i:=aa j;have S:=aa (own_below M j);clear l j)|(at_builtin;go_loud (refine af _ rfl (.tmp 5) (.tmp 8) _ rfl w.heap.size 5 L _ 1 1 underlying24 s t u x rfl (by omega) N n (aF bs) rfl S (From w1.heap.size) (some ⟨w1.heap.size,0,none⟩) 4 4 (aF m) rfl B.parts.2.2.2 (bC _) (by simp only [maxLen];omega) (by omega) (by have D:=a.out.size;have P:=i.out.size;omega) ?_);intro V Y d r W;have U:=aa d;have O:=aa r;clear d r W))
 rw [z.out];refine⟨V,rfl,?_,(a.out.trans (i.mono a.size)).grown O (by have D:=a.out.size;have P:=i.out.size;omega) (fun k G=>(ah M k G).1)⟩;have D:=U.out;unfold Ow;rw [List.length_append,Q.out,<-I.out];simpa [aF] using D
noncomputable def FV:Code:=aV (f92.body.bind (aJ 26))
theorem El (G D:Nat->Prop) (base z q at_ P eb eo en ec:Nat) (A:Option Addr) (n cc:Nat) (l:List Row) (us:List Value) (F:List aK) (v1 v2 M B:Value) (w:World) {u1 u2 u3 u5 u6 u7 u8 u9 dm I Z N U u16 O f C u20 u21 u22 u23 u24 u25 u26 u27 u28 u29 u30 u31 u32 u33 u34 u35 u36 u37 u38 R u40 X u42 dN u44 u45 u46 ed u48 u49 ek u51 eO u53 eQ u55 fE fF u58 u59 u60 gJ gY u63 u64 gZ u66 iq u68 u69 u70 H u72 u73 jJ u75 jK mF mG mH mI mJ mV mW mX l8 nT rM qC qD wu ww wB u93 xM xN xO xP wI wJ jC jD jE jF jQ u105 jR jS d jU L jW jX jY jZ v kV s kX u119 kY kZ E lh u124 lm lq u127 qF qG qH u131 qI qJ qK m qM qN u138 u139 qO qP qQ qR qT r y qW qX qY qZ rq u152 ru u154 xW xX xY xZ yc yg yh u162 yj u164 yl ym yn yo yt yu yw yx yz AC AF AJ AM AO AP AQ AR AU AV AX AY AZ A8 A9 Bg Bh Bi Bj u193 u194 Bl u196 Bn u198 Bo Bp u201 Bq Br yA:Value} (Q:Exit->Act->World->Prop) (mQ:Hid (∀c t (a:Act) w,Q (.panic c) ⟨t,a.defers⟩ w->Q (.panic c) a w))
  (HB:Hid (aj w z 140 #[.pointer (some ⟨q,0,none⟩),v1,v2,.slice A n cc,M,B])) (HM:Hid (aX w base D (.slice A n cc) n l us)) (HE:Hid (bz w G (some ⟨eb,eo,none⟩) en F)) (a5:Hid (w.cell? ⟨q,0,none⟩=some (.int .i64 (P:Nat)))) (he:0<en) (be:en<=64) (hk:∀e∈F,e.1.length<=64)
  (bb:at_<=P) (hP:P<=1152921504606846976) (hn:n<=8388608) (hbw:base<=w.heap.size) (bL:z<base) (HG:Hid (∀b,G b->b<w.heap.size/\(Value.slice A n cc).ownBlock≠some b))
  (ax:∀(Xj ar Xk Xl Xm Xn Xo Xp aw aA Xq Xr Xt Xv Xw Xx Xy Xz XA aE a0 XB a1 XC a2 XD XE a3 XF a4:Value) (A':Option Addr) (iW:Nat) (kF:List Value) (w':World),aX w' base (fun b=>D b\/(w.heap.size<=b/\b<w'.heap.size)) (.slice A' (n+1) iW) (n+1) (l++ [⟨az F,at_,P-at_,F.length⟩]) kF->aj w' z 140 #[.pointer (some ⟨q,0,none⟩),v1,v2,.slice A' (n+1) iW,M,B]->ag (fun b=>b=z\/(Value.slice A n cc).ownBlock=some b) w w'->(∀g,(Value.slice A' (n+1) iW).ownBlock=some g->(Value.slice A n cc).ownBlock=some g\/w.heap.size<=g)->Q .normal ⟨(.pointer (some ⟨z,0,none⟩)::u1::u2::u3:: .int .i64 (at_:Nat)::u5::u6::u7::u8::u9::dm:: .slice (some ⟨eb,eo,none⟩) en ec::I::Z::N::U::u16::O::f::C::u20::u21::u22::u23::u24::u25::u26::u27::u28::u29::u30::u31::u32::u33::u34::u35::u36::u37::u38::R::u40::X::u42::dN::u44::u45::u46::ed::u48::u49::ek::u51::eO::u53::eQ::u55::fE::fF::u58::u59::u60::gJ::gY::u63::u64::gZ::u66::iq::u68::u69::u70::H::u72::u73::jJ::u75::jK::mF::mG::mH::mI::mJ::mV::mW::mX::l8::nT::rM::qC::qD::wu::ww::wB::u93::xM::xN::xO::xP::wI::wJ::jC::jD::jE::jF::jQ::u105::jR::jS::d::jU::L::jW::jX::jY::jZ::v::kV::s::kX::u119::kY::kZ::E::lh::u124::lm::lq::u127::qF::qG::qH::u131::qI::qJ::qK::m::qM::qN::u138::u139::qO::qP::qQ::qR::qT::r::y::qW::qX::qY::qZ::rq::u152::ru::u154::xW::xX::xY::xZ::yc::yg::yh::u162::yj::u164::yl::ym::yn::yo::yt::yu::yw::yx::yz::Xj::ar::Xk::Xl::Xm::Xn::Xo::Xp::aw::aA::Xq::Xr::Xt::Xv::Xw::Xx::Xy::Xz::XA::aE::a0::XB::a1::XC::a2::XD::XE::a3::XF::a4::yA:: []).toArray,[]⟩ w'):
  Code.wp prog FV Q ⟨(.pointer (some ⟨z,0,none⟩)::u1::u2::u3:: .int .i64 (at_:Nat)::u5::u6::u7::u8::u9::dm:: .slice (some ⟨eb,eo,none⟩) en ec::I::Z::N::U::u16::O::f::C::u20::u21::u22::u23::u24::u25::u26::u27::u28::u29::u30::u31::u32::u33::u34::u35::u36::u37::u38::R::u40::X::u42::dN::u44::u45::u46::ed::u48::u49::ek::u51::eO::u53::eQ::u55::fE::fF::u58::u59::u60::gJ::gY::u63::u64::gZ::u66::iq::u68::u69::u70::H::u72::u73::jJ::u75::jK::mF::mG::mH::mI::mJ::mV::mW::mX::l8::nT::rM::qC::qD::wu::ww::wB::u93::xM::xN::xO::xP::wI::wJ::jC::jD::jE::jF::jQ::u105::jR::jS::d::jU::L::jW::jX::jY::jZ::v::kV::s::kX::u119::kY::kZ::E::lh::u124::lm::lq::u127::qF::qG::qH::u131::qI::qJ::qK::m::qM::qN::u138::u139::qO::qP::qQ::qR::qT::r::y::qW::qX::qY::qZ::rq::u152::ru::u154::xW::xX::xY::xZ::yc::yg::yh::u162::yj::u164::yl::ym::yn::yo::yt::yu::yw::yx::yz::AC::AF::AJ::AM::AO::AP::AQ::AR::AU::AV::AX::AY::AZ::A8::A9::Bg::Bh::Bi::Bj::u193::u194::Bl::u196::Bn::u198::Bo::Bp::u201::Bq::Br::yA:: []).toArray,[]⟩ w:=by
 obtain⟨i0,a7,kH,kI,kJ⟩:=info_parts nZ;have dP:=aa ax;obtain⟨j,hj⟩:∃j,en=j+1:=⟨en-1,by omega⟩;obtain⟨b,o,Y,kn,kc,V,vn,vc,key,val,vC,Uu,am,ao,_,a8,ut,an,aq,_⟩:=HE.out.at_ (k:=j) (by omega);injection vC with vC
 injection vC with e1 e2
 subst e1;subst e2;have X6:Hid (az F=key):=aa (gH (e:=(key,val)) (by rw [<-HE.out.len,show en-1=j by omega];exact am));have bp:kn<=64:=by have h1:key.length<=64:=hk _ (List.mem_of_getElem? am);have h2:kn=key.length:=an;omega
 have pX:Hid (en=F.length):=HE.out.len;have XP:Hid (kn=key.length):=an;have UG:=aa aq;have Ul:=aa (HG _ Uu);have bj:(en:Int)-1=(j:Int):=by omega
 have bk:IntKind.i64.wrap ((en:Int)-1)=(j:Int):=by rw [IntWalk.i64_in _ (by omega)];omega
 have bm:IntKind.i64.wrap (j:Int)=(j:Int):=IntWalk.i64_in _ (by omega);have bh:(0:Int)<=(j:Int):=by omega
 have bE:IntKind.i64.wrap ((P-at_:Nat):Int)=((P-at_:Nat):Int):=IntWalk.i64_in _ (by omega);have bo:j<en:=by omega
 have xI:(j:Int)<(en:Int):=by omega
 have bx:(P:Int)-(at_:Int)=((P-at_:Nat):Int):=by omega
 have bB:IntKind.i64.wrap ((P:Int)-(at_:Int))=((P-at_:Nat):Int):=by rw [IntWalk.i64_in _ (by omega)];omega
 have bK:=HB.out.lt;have WI:Hid ((Value.slice A n cc).ownBlock≠some z):=aa (fun e=>by have:=(ah HM.own z e).1;omega);have fC:Hid (∀w1,Below w.heap.size w w1->Calls prog 24 #[.slice Y kn kc] w1 (Il w1 key)):=aa (fun w1 a6=>dH Y kn kc G key w1 (UG.below a6) XP (by omega));have S0:w.drew.cell? ⟨z,3,none⟩=some (.slice A n cc)/\w.drew.cell? ⟨z,0,none⟩=some (.pointer (some ⟨q,0,none⟩))/\w.drew.cell? ⟨eb,eo+j*2,none⟩=some (.slice Y kn kc):=⟨(HB.cell 3).trans rfl,(HB.cell 0).trans rfl,ao⟩;clear ax am ao a8 ut an aq hk Uu hj;conv=>arg 2;whnf
 refine aS (fun w'=>w'.cell? ⟨z,3,none⟩=some (.slice A n cc)/\w'.cell? ⟨z,0,none⟩=some (.pointer (some ⟨q,0,none⟩))/\w'.cell? ⟨eb,eo+j*2,none⟩=some (.slice Y kn kc)) 30 (by kernel_rfl) ?_;refine uF 0 (fun _=>S0) ?_;refine uF 1 (fun _=>S0) ?_;refine uF 2 (fun _=>S0) ?_;refine uF 3 (fun _=>S0) ?_;refine uF 5 (fun _=>S0) ?_;refine uF 6 (fun _=>S0) ?_;refine uF 7 (fun _=>S0) ?_;refine uF 8 (fun _=>S0) ?_;refine uF 9 (fun _=>S0) ?_;refine uF 10 (fun _=>S0) ?_;refine uF 13 (fun _=>S0) ?_;refine uF 14 (fun _=>S0) ?_;refine uF 15 (fun _=>S0) ?_;refine uF 16 (fun _=>S0) ?_;refine uF 21 (fun _=>S0) ?_;refine uF 23 (fun _=>S0) ?_;refine uF 24 (fun _=>S0) ?_;refine uT 4 S0 ?_;refine uT 11 S0 ?_;refine uT 17 S0 ?_;refine uF 18 (fun _=>S0) ?_;refine uF 19 (fun _=>S0) ?_;refine aH (i:=12) (by kernel_rfl) rfl (fun K hK=> ?_);go_simp
 go_loud (refine(fC _ ((Below.refl _ _).drew)).mono ?_);rintro e w2 ⟨J,jn,jc,rfl,q1,q2,q3,q4,q5⟩;have HJ:Hid (SB w2 (From w.heap.size) (.slice J jn jc) key):=aa ⟨J,jn,jc,rfl,q1,q2,q3,q4.weak (fun b hb=>hb.1)⟩;have al:Hid (Below w.heap.size w w2):=aa ((Below.refl _ _).drew.trans q5);have S1:w2.cell? ⟨z,3,none⟩=some (.slice A n cc)/\w2.cell? ⟨z,0,none⟩=some (.pointer (some ⟨q,0,none⟩))/\w2.cell? ⟨eb,eo+j*2,none⟩=some (.slice Y kn kc):=⟨ak q5 S0.1,ak q5 S0.2.1,ak q5 S0.2.2⟩;have tZ:Hid (w2.cell? ⟨q,0,none⟩=some (.int .i64 (P:Nat))):=aa (ak al a5);clear q1 q2 q3 q4 q5
 refine hK.out _ _ (fun _=>S1) ?_;clear hK K;try simp only [aL,aN,aZ,aC]
 refine aH (i:=20) (by kernel_rfl) rfl (fun K hK=> ?_);go_simp
 go_loud (refine(iJ q (P:Nat) w2 tZ).mono ?_);rintro e w3 ⟨rfl,rfl⟩
 refine hK.out _ _ (fun _=>S1) ?_;clear hK K;try simp only [aL,aN,aZ,aC]
 refine uF 22 (fun _=>S1) ?_;refine uF 25 (fun _=>S1) ?_;refine aH (i:=26) (by kernel_rfl) rfl (fun K hK=> ?_);go_simp
 obtain⟨w3,ae⟩:∃W,W=w2.alloc (.cells #[.slice J jn jc,.int .i64 at_,.int .i64 ((P-at_:Nat):Int),.int .i64 en] 100):=⟨_,rfl⟩;rw [<-ae];have ac:Below w2.heap.size w2 w3:=(by rw [ae];exact(Below.refl _ _).alloc (Nat.le_refl _) _);have ab:Hid (Below w.heap.size w w3):=aa (al.out.trans (ac.mono al.size));have YQ:=aa (HJ.below ac);have uf:Hid (Rd w3 (From w2.heap.size) 4 (some ⟨w2.heap.size,0,none⟩) 1 [.slice J jn jc,.int .i64 at_,.int .i64 ((P-at_:Nat):Int),.int .i64 en]):=aa (by rw [ae];exact⟨rfl,fun _=>⟨_,0,rfl,Nat.le_refl _,fun k u hk=>by rw [(aj.new w2 _ _).cell];simpa using hk⟩⟩);have D7:=aa (HM.below ab);have S3:w3.cell? ⟨z,3,none⟩=some (.slice A n cc)/\w3.cell? ⟨z,0,none⟩=some (.pointer (some ⟨q,0,none⟩))/\w3.cell? ⟨eb,eo+j*2,none⟩=some (.slice Y kn kc):=⟨ak ac S1.1,ak ac S1.2.1,ak ac S1.2.2⟩;clear ae ac;refine hK.out _ _ (fun _=>S3) ?_;clear hK K;try simp only [aL,aN,aZ,aC]
 refine aH (i:=27) (by kernel_rfl) rfl (fun K hK=> ?_);refine aI _ rfl (.tmp 178) (.tmp 200) _ rfl base 100 i0 _ 4 48 underlying97 a7 kH kI kJ rfl (by omega) (.slice A n cc) n us rfl D7.own (From w2.heap.size) (some ⟨w2.heap.size,0,none⟩) 1 1 _ rfl uf (by intro u hu;simp at hu;rcases hu with rfl|rfl|rfl|rfl<;>rfl) (by simp only [maxLen];omega) (by omega) (Nat.le_trans hbw ab.size) ?_;intro x w4 dz ad ib;obtain⟨K4,EJ,ba,_,_⟩:=au dz;subst ba;have iV:=aa dz;have I9:=aa ad;have yL:=aa ib;have Hr:w4.cell? ⟨z,3,none⟩=some (.slice A n cc):=(ag.of_grown ad).cell WI S3.1;have dR:Hid (aj w4 z 140 #[.pointer (some ⟨q,0,none⟩),v1,v2,.slice A n cc,M,B]):=aa ((HB.below ab).chg (ag.of_grown ad) WI);have XQ:∀o,w4.frozen? ⟨z,o,none⟩=false:=dR.out.frozen;have S4:w4.cell? ⟨z,3,none⟩=some (.slice A n cc)/\w4.cell? ⟨z,0,none⟩=some (.pointer (some ⟨q,0,none⟩))/\w4.cell? ⟨eb,eo+j*2,none⟩=some (.slice Y kn kc):=⟨Hr,(ag.of_grown ad).cell WI S3.2.1,(ag.of_grown ad).cell Ul.2 S3.2.2⟩;clear dz ad ib;refine hK.out _ _ (fun _=>S4) ?_;clear hK K;try simp only [aL,aN,aZ,aC]
 refine uF 28 (fun _=>S4) ?_;refine uF 29 (fun _=>S4) ?_;refine aH (i:=30) (by kernel_rfl) rfl (fun K hK=> ?_);go_simp
 refine hK.out _ _ (fun h=>absurd h (by decide)) ?_;clear hK K;try simp only [aL,aN,aZ,aC]
 refine bS (by kernel_rfl) ?_ _
 have a9:aX w4 base (fun b=>D b\/(w.heap.size<=b/\b<w4.heap.size)) (.slice K4 (n+1) EJ) (n+1) (l++ [⟨az F,at_,P-at_,F.length⟩]) _:=D7.out.snoc (x:=⟨az F,at_,P-at_,F.length⟩) (u:= .slice J jn jc) I9 (by have h9:=iV.out;rw [<-pX.out];exact h9) yL (fun b hb=> .inl hb) (fun b hb=>hb.elim (HM.lo b) (fun h=>Nat.le_trans hbw h.1)) (fun h=> .inr ⟨ab.size,h⟩) (by rw [X6.out];exact YQ.lt.weak (fun b hb=>by
   have h1:w.heap.size<=b:=hb.1;exact⟨.inr ⟨h1,Nat.lt_of_lt_of_le hb.2 (ag.of_grown I9).size⟩,hb.2,fun e=>by have h2:=(ah HM.own b e).2;omega⟩))
 have ap:=(ag.refl (fun b=>b=z) w4).setCell (p:=⟨z,3,none⟩) (fun _=>rfl) (.slice K4 (n+1) EJ)
 refine dP _ _ _ _ _ _ _ _ _ _ _ _ _ _ _ _ _ _ _ _ _ _ _ _ _ _ _ _ _ _ K4 EJ _ _ ((a9.chg (S:=fun b=>b=z) ap (fun b hb _ e=>by have e:b=z:=e;omega)).wider (fun b hb=>hb.imp id (fun h=>⟨h.1,Nat.lt_of_lt_of_le h.2 ap.size⟩)) (fun b hb=>hb.elim (HM.lo b) (fun h=>Nat.le_trans hbw h.1))) (dR.set_ 3 _) ?_ (fun g hg=>by
  rcases yL.out with h|h
  ·exact .inl (h▸hg)
  ·rw [h] at hg;injection hg with hg;have h2:=ab.out.size;exact .inr (by omega))
 exact((ag.of_below ab).trans (T:=fun b=>(Value.slice A n cc).ownBlock=some b) (ag.of_grown I9) (fun b _ e=> .inr e)).setCell (p:=⟨z,3,none⟩) (fun _=> .inl rfl) _
end Go.Proofs.YtepgcjbhabnciaaGreat
