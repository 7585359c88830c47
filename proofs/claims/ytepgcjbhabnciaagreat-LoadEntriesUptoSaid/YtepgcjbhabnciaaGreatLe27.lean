/- Part 27. -/
import Derived.Test.YtepgcjbhabnciaaGreatLe25
namespace Go.Proofs.YtepgcjbhabnciaaGreat
set_option maxRecDepth 100000
set_option maxHeartbeats 8000000
open Go.Proofs.Tryz Go.RowKit
section
theorem rD:∀(l:List UInt8) (j:Nat),fM (l.drop j)<=fM l
 |_,0=>Nat.le_refl _
 | [],_+1=>Nat.le_refl _
 |c::r,j+1=>by
  have:=rD r j;rw [List.drop_succ_cons,fM];omega
theorem KX {l:List UInt8} {j:Nat} {c:UInt8} (h:l[j]? =some c):fM (l.drop j)=c.toNat%128+128*fM (l.drop (j+1)):=by
 rw [ou h,fM]
section
variable {b:List UInt8} {p i v:Nat} {c:UInt8}
theorem Bz.fit (h:Bz b p i v) (w:b[i]? =some c) (f:aT (i-p) c=0) (g:c.toNat<128):fM ((b.drop p).take (i+1-p))<18446744073709551616/\ai b p=(fM ((b.drop p).take (i+1-p)),i+1,0):=by
 have a:=h.whole w f g;have e:=h.taken w;have d:=wG b p;rw [<-e] at a;refine⟨?_,a⟩;rw [a] at d;exact d
end
noncomputable def FD:Code:=aV (f149.body.bind (fB 2))
theorem G8 (F:Nat->Prop) (A:Option Addr) (n c p K:Nat) (z:Int) (b L:List UInt8) (w:World) {u2 u3 u4 u5 u6 u7 u8 E I Z N U u16 O f C u20 u21 u22 u23 u24 u25 u26 u27 u28 u29 u30 u31 u32 u33 u34 u35 u36 u37 u38 R u40 X u42 G u44 u45 u46 l u48 u49 ek u51 o u53 eQ u55 a t u58 u59 u60 gJ gY u63 u64 J u66 iq u68 u69 u70 H u72 u73 jJ u75 jK:Value} (Q:Exit->Act->World->Prop)
  (HR:Hid (Rd w F 1 A n (aF b))) (hn2:n<=1152921504606) (xG:Hid (∀j,j<K->L[j]? =b[p+j]?)) (eu:Hid (L.length=K)) (hK:p+K<=n) (hz:z=(p:Int)+K-1) (HF:Hid (fM L<18446744073709551616))
  (ax:∀(D M P S T W Y ab ac ad ae al am an ao:Value),Q (.exit 2) ⟨(.slice A n c:: .int .i64 p::u2::u3::u4::u5::u6::u7::u8:: .int .u64 (fM L)::D::E::I::Z::N::U::u16::O::f::C::u20::u21::u22::u23::u24::u25::u26::u27::u28::u29::u30::u31::u32::u33::u34::u35::u36::u37::u38::R::u40::X::u42::G::u44::u45::u46::l::u48::u49::ek::u51::o::u53::eQ::u55::a::t::u58::M::P::S::T::W::Y::ab::ac::ad::ae::al::am::an::ao::u73::jJ::u75::jK:: []).toArray,[]⟩ w):
  Code.wp prog FD Q ⟨(.slice A n c:: .int .i64 p::u2::u3::u4::u5::u6::u7::u8:: .int .u64 0:: .int .i64 z::E::I::Z::N::U::u16::O::f::C::u20::u21::u22::u23::u24::u25::u26::u27::u28::u29::u30::u31::u32::u33::u34::u35::u36::u37::u38::R::u40::X::u42::G::u44::u45::u46::l::u48::u49::ek::u51::o::u53::eQ::u55::a::t::u58::u59::u60::gJ::gY::u63::u64::J::u66::iq::u68::u69::u70::H::u72::u73::jJ::u75::jK:: []).toArray,[]⟩ w:=by
 have dP:=aa ax;clear ax;conv=>arg 2;whnf
 go_loopg [10,9] K (fun g' jv vv wz=>∃m:Nat,g'=m/\m<=K/\jv= .int .i64 ((p:Int)+m-1)/\vv= .int .u64 (fM (L.drop m))/\w=wz)
 case atStart=>exact⟨K,rfl,Nat.le_refl _,by rw [hz],by rw [List.drop_of_length_le (by have:=eu.out;omega)];rfl,rfl⟩
 case round=>
  obtain⟨m,i,hm,rfl,rfl,rfl⟩:=hrel;have s:=aa i;clear i
  by_cases aq:0<m
  ·obtain⟨j,rfl⟩:∃j:Nat,m=j+1:=⟨m-1,by omega⟩;have k:(p:Int)+((j+1:Nat):Int)-1=((p+j:Nat):Int):=by omega
   have g:p+j<n:=by omega
   obtain⟨b2,o2,u2,rfl,_,hy,e⟩:=HR.out.at_ g;obtain⟨y,r,rfl⟩:=dX hy;simp only [bv] at e;have h:L[j]? =some y:=by rw [xG.out _ (by omega)];exact r
   have d:=KX h;have v:=rD L j;obtain⟨V,hV⟩:∃V,V=fM (L.drop (j+1)):=⟨_,rfl⟩;rw [<-hV] at d|-;have ap:y.toNat%128+128*V<18446744073709551616:=by have:=HF.out;omega
   have u:=aa d;rw [k];obtain⟨q,B⟩:∃q,q=p+j:=⟨_,rfl⟩;have HQ:=aa B;have ar:(p:Int)<=(q:Int):=by omega
   rw [<-B] at e g|-;clear hy r h d v hV k B;go_wp2
   go_roundg j
   case measure=>have:=s.out;omega
   case rel=>exact⟨j,rfl,by omega,by have:=HQ.out;congr 1;omega,by rw [u.out];congr 1;omega,rfl⟩
  ·have x:m=0:=by omega
   subst x;have g:¬((p:Int)<=(p:Int)+((0:Nat):Int)-1):=by omega
   go_wp2;exact dP _ _ _ _ _ _ _ _ _ _ _ _ _ _ _
theorem iF (F:Nat->Prop) (A:Option Addr) (n c p:Nat) (b:List UInt8) (w:World) (h:Rd w F 1 A n (aF b)) (hn:n=b.length) (Q:p<=n) (K:n<=1152921504606):
  Calls prog 149 #[.slice A n c,.int .i64 p] w fun e w'=>e= .returned (.tuple #[.int .u64 (ai b p).1,.int .i64 (ai b p).2.1,.int .i64 (ai b p).2.2])/\w=w':=by
 have HR:=aa h;have HN:=aa hn;clear h hn;obtain⟨vr,f⟩:∃vr,vr=ai b p:=⟨_,rfl⟩;have y:=aa f;rw [<-f];clear f;obtain⟨R,hR⟩:∃R:Ending->World->Prop,R=fun e w'=>e= .returned (.tuple #[.int .u64 vr.1,.int .i64 vr.2.1,.int .i64 vr.2.2])/\w=w':=⟨_,rfl⟩;have i:=aa hR;rw [<-hR];clear hR;have ap:¬((n:Int)<(p:Int)):=by omega
 have ao:decide (n<p)=false:=decide_eq_false (by omega);go_enter func149,ntmps149
 go_wp2
 go_loopg [7] (n-p) (fun g' iv wz=>∃(d v:Nat),g'=n-(p+d)/\p+d<=n/\iv= .int .i64 d/\Bz b p (p+d) v/\w=wz)
 case atStart=>exact⟨0,0,rfl,Q,rfl,Bz.start _ _,rfl⟩
 case round=>
  obtain⟨d,v,hg,hi,rfl,H,rfl⟩:=hrel;have HG:=aa hg;have r:=aa H;clear hg H
  by_cases al:p+d<n
  ·have hq:¬((d:Int)=(n:Int)-p):=by omega
   obtain⟨bb,o,u,rfl,_,hx,k⟩:=HR.out.at_ al;obtain⟨x,I,rfl⟩:=dX hx;have t:=aa I;simp only [bv] at k;have m:∀z,aT d x=z->aT (p+d-p) x=z:=fun z h=>by rw [show p+d-p=d by omega];exact h
   clear hx I
   by_cases ED:d=9
   ·by_cases h1:1<x.toNat
    ·have ad:(1:Int)<(x.toNat:Int):=by omega
     have g:=aa (m 12 (by unfold aT;rw [if_pos ⟨ED,h1⟩]));clear m;subst ED;go_wp2;go_ret3
     rw [i.out,y.out,r.out.bad t.out (by rw [g.out];simp),g]
     exact⟨rfl,rfl⟩
    ·have ad:¬((1:Int)<(x.toNat:Int)):=by omega
     by_cases h2:x.toNat=0
     ·have B:(x.toNat:Int)=0:=by omega
      have g:=aa (m 13 (by unfold aT;rw [if_neg (by omega),if_pos ⟨by omega,h2⟩]));clear m;subst ED;go_wp2;go_ret3
      rw [i.out,y.out,r.out.bad t.out (by rw [g.out];simp),g]
      exact⟨rfl,rfl⟩
     ·have B:¬((x.toNat:Int)=0):=by omega
      have g:=aa (m 0 (by unfold aT;rw [if_neg (by omega),if_neg (by omega)]));have C:x.toNat<128:=by omega
      have s:(x.toNat:Int)<128:=by omega
      clear m;have a:=k;rw [ED] at a;have q:Hid (x.toNat<128):=aa C;obtain⟨l,f⟩:=r.out.fit t g q;rw [show p+d+1-p=d+1 by omega] at l f;obtain⟨L,hL⟩:∃L,L=(b.drop p).take (d+1):=⟨_,rfl⟩;have xG:Hid (∀j,j<d+1->L[j]? =b[p+j]?):=aa (fun j hj=>by rw [hL,List.getElem?_take,if_pos (by omega),List.getElem?_drop]);have G:Hid (L.length=d+1):=aa (by rw [hL,List.length_take,List.length_drop];have:=HN.out;omega);rw [<-hL] at l f;have D:=aa l;have E:=aa f;clear l f hL;go_upto_region 15 with fail
      refine G8 F _ n c p (d+1) _ b L w _ HR K xG G (by omega) (by omega) D ?_;intro J M N O P S T U V W X Y Z ab ac;go_wp2;go_ret3
      rw [i.out,y.out,E.out]
      exact⟨by first|rfl|(simp;done)|(simp;omega),rfl⟩
   ·have am:¬((d:Int)=9):=by omega
    by_cases h0:d=0
    ·have g:=aa (m 0 (by unfold aT;rw [if_neg (by omega),if_neg (by omega)]));clear m;have a:=k;rw [h0,Nat.add_zero] at a
     by_cases C:x.toNat<128
     ·have s:(x.toNat:Int)<128:=by omega
      have q:Hid (x.toNat<128):=aa C;obtain⟨l,f⟩:=r.out.fit t g q;rw [show p+d+1-p=d+1 by omega] at l f;obtain⟨L,hL⟩:∃L,L=(b.drop p).take (d+1):=⟨_,rfl⟩;have xG:Hid (∀j,j<d+1->L[j]? =b[p+j]?):=aa (fun j hj=>by rw [hL,List.getElem?_take,if_pos (by omega),List.getElem?_drop]);have G:Hid (L.length=d+1):=aa (by rw [hL,List.length_take,List.length_drop];have:=HN.out;omega);rw [<-hL] at l f;have D:=aa l;have E:=aa f;clear l f hL;go_upto_region 15 with fail
      refine G8 F _ n c p (d+1) _ b L w _ HR K xG G (by omega) (by omega) D ?_;intro J M N O P S T U V W X Y Z ab ac;go_wp2;go_ret3
      rw [i.out,y.out,E.out]
      exact⟨by first|rfl|(simp;done)|(simp;omega),rfl⟩
     ·have q:Hid (¬x.toNat<128):=aa C;have s:¬((x.toNat:Int)<128):=by omega
      go_wp2
      go_roundg (n-(p+d+1))
      case measure=>have:=HG.out;omega
      case rel=>exact⟨d+1,_,rfl,by omega,by go_num,r.next t g q,rfl⟩
    ·have an:0<(d:Int):=by omega
     by_cases h2:x.toNat=0
     ·have B:(x.toNat:Int)=0:=by omega
      have g:=aa (m 13 (by unfold aT;rw [if_neg (by omega),if_pos ⟨by omega,h2⟩]));clear m;go_wp2;go_ret3
      rw [i.out,y.out,r.out.bad t.out (by rw [g.out];simp),g]
      exact⟨rfl,rfl⟩
     ·have B:¬((x.toNat:Int)=0):=by omega
      have g:=aa (m 0 (by unfold aT;rw [if_neg (by omega),if_neg (by omega)]));clear m
      by_cases C:x.toNat<128
      ·have s:(x.toNat:Int)<128:=by omega
       have q:Hid (x.toNat<128):=aa C;obtain⟨l,f⟩:=r.out.fit t g q;rw [show p+d+1-p=d+1 by omega] at l f;obtain⟨L,hL⟩:∃L,L=(b.drop p).take (d+1):=⟨_,rfl⟩;have xG:Hid (∀j,j<d+1->L[j]? =b[p+j]?):=aa (fun j hj=>by rw [hL,List.getElem?_take,if_pos (by omega),List.getElem?_drop]);have G:Hid (L.length=d+1):=aa (by rw [hL,List.length_take,List.length_drop];have:=HN.out;omega);rw [<-hL] at l f;have D:=aa l;have E:=aa f;clear l f hL;go_upto_region 15 with fail
       refine G8 F _ n c p (d+1) _ b L w _ HR K xG G (by omega) (by omega) D ?_;intro J M N O P S T U V W X Y Z ab ac;go_wp2;go_ret3
       rw [i.out,y.out,E.out]
       exact⟨by first|rfl|(simp;done)|(simp;omega),rfl⟩
      ·have q:Hid (¬x.toNat<128):=aa C;have s:¬((x.toNat:Int)<128):=by omega
       go_wp2
       go_roundg (n-(p+d+1))
       case measure=>have:=HG.out;omega
       case rel=>exact⟨d+1,_,rfl,by omega,by go_num,r.next t g q,rfl⟩
  ·have ae:n=p+d:=by omega
   subst ae;go_wp2;go_ret3
   rw [i.out,y.out,r.out.short HN.out];exact⟨rfl,rfl⟩
end
noncomputable def ZU:Code:=aV (f151.body.bind (aJ 20))
theorem OL (F:Nat->Prop) (A B:Option Addr) (n c m d s P mm:Nat) (prev b:List UInt8) (w:World) {u2 L u4 v u6 u7 r E I Z U Y O f C u20 V u22 u23 D g u26 j W u u30 u31 u32 u33 u34 u35 h u37 u38 R u40 X u42 G u44 u45 u46 l u48 u49 z u51 o u53 eQ u55 fE fF u58 u59 u60 gJ gY u63 u64 J u66 iq u68 u69 u70 H u72 u73 jJ u75 jK mF M N mI mJ mV mW mX l8 e rM T qD wu y wB u93 xM xN xO xP wI wJ jC jD jE jF jQ u105 jR jS jT jU jV jW jX jY jZ j3:Value} {S:List Value} (Q:Exit->Act->World->Prop) (mQ:Hid (∀c t (a:Act) w,Q (.panic c) ⟨t,a.defers⟩ w->Q (.panic c) a w))
  (HA:Hid (Rd w F 1 A n (aF prev))) (hnc:n<=c) (a4:s<=n) (HB:Hid (Rd w F 1 B m (aF b))) (hmd:m<=d) (a3:P+mm<=m) (hs:s<=64) (hm:mm<=64) (hm2:m<=1152921504606)
  (ax:∀(ZV a0 ZW a1 ZX a2 ZY ZZ Z0 Z4 Z5 Z6:Value) (K:Option Addr) (kn kc:Nat) (w':World),Ow w' w.heap.size (.slice K kn kc) (prev.take s++(b.drop P).take mm)->Below w.heap.size w w'->Q .normal ⟨(.slice A n c:: .slice B m d::u2::L::u4::v::u6::u7::r:: .int .u64 s:: .int .i64 P::E::I::Z:: .int .i64 mm::U:: .slice K kn kc::O::f::C::u20::V::u22::u23::D::g::u26::j::W::u::u30::u31::u32::u33::u34::u35::h::u37::u38::R::u40::X::u42::G::u44::u45::u46::l::u48::u49::z::u51::o::u53::eQ::u55::fE::fF::u58::u59::u60::gJ::gY::u63::u64::J::u66::iq::u68::u69::u70::H::u72::u73::jJ::u75::jK::mF::M::N::mI::mJ::mV::mW::mX::l8::e::rM::T::qD::wu::y::wB::u93::xM::xN::xO::xP::wI::wJ::jC::jD::jE::jF::ZV::a0::ZW::a1::ZX::a2::ZY::ZZ::Z0::Z4::Z5::Z6::S).toArray,[]⟩ w'):
  Code.wp prog ZU Q ⟨(.slice A n c:: .slice B m d::u2::L::u4::v::u6::u7::r:: .int .u64 s:: .int .i64 P::E::I::Z:: .int .i64 mm::U::Y::O::f::C::u20::V::u22::u23::D::g::u26::j::W::u::u30::u31::u32::u33::u34::u35::h::u37::u38::R::u40::X::u42::G::u44::u45::u46::l::u48::u49::z::u51::o::u53::eQ::u55::fE::fF::u58::u59::u60::gJ::gY::u63::u64::J::u66::iq::u68::u69::u70::H::u72::u73::jJ::u75::jK::mF::M::N::mI::mJ::mV::mW::mX::l8::e::rM::T::qD::wu::y::wB::u93::xM::xN::xO::xP::wI::wJ::jC::jD::jE::jF::jQ::u105::jR::jS::jT::jU::jV::jW::jX::jY::jZ::j3::S).toArray,[]⟩ w:=by
 have dP:=aa ax;obtain⟨i0,ar,aw,aA,aE⟩:=info_parts bu;obtain⟨A3,a7,ad⟩:=Rf (p:=s) HA a4 hnc;obtain⟨A4,ae,ac⟩:=F9 (p:=P) (q:=P+mm) HB (by omega) a3 hmd;rw [show P+mm-P=mm by omega] at ae ac;have ZE:∀w',(Instr.slice 24 (.slice B m d) (some (.int .i64 (P:Int))) (some (.int .i64 ((P:Int)+(mm:Int)))) none).run prog w'= .ok (.slice A4 mm (d-P)) w':=fun w'=>by have:=ae w';simpa only [Int.natCast_add] using this
 have an:=aa ad;have ao:=aa ac;have a8:IntKind.i64.wrap ((P:Int)+(mm:Int))=(P:Int)+(mm:Int):=IntWalk.i64_in _ (by omega);have h0:0<=(P:Int)+(mm:Int):=by omega
 have S0:True:=trivial;have BN:Hid (s=(prev.take s).length):=aa (by have:=ad.1;rw [cO] at this;omega);have mO:Hid (mm=((b.drop P).take mm).length):=aa (by have:=ac.1;rw [cO] at this;omega);obtain⟨x1,al⟩:∃x1,x1=prev.take s:=⟨_,rfl⟩;obtain⟨x2,am⟩:∃x2,x2=(b.drop P).take mm:=⟨_,rfl⟩;rw [<-al] at BN an;rw [<-am] at mO ao;have PK:=aa al;have uG:=aa am;clear ax ae ad ac al am;conv=>arg 2;whnf
 refine aU (fun _=>True) (by kernel_rfl) ?_;refine vT 1 S0 ?_;refine vT 2 S0 ?_;refine vT 3 S0 ?_;refine vT 5 S0 ?_;refine vT 6 S0 ?_;refine vT 7 S0 ?_;refine vT 8 S0 ?_;refine vT 9 S0 ?_;refine vT 10 S0 ?_;refine aO (i:=0) (by kernel_rfl) rfl (fun K hK=> ?_);go_simp
 refine hK.out _ _ trivial ?_;clear hK K;try simp only [aL,aN,aZ,aC]
 refine aO (i:=4) (by kernel_rfl) rfl (fun K hK=> ?_);refine aI _ rfl (.tmp 104) (.tmp 107) _ rfl w.heap.size 5 i0 _ 1 1 underlying24 ar aw aA aE rfl (by omega) (.slice (some ⟨w.heap.size,0,none⟩) 0 0) 0 [] rfl (gp w.drew _ 1) F A3 s c (aF x1) rfl ((an.below (Below.refl _ _).drew).alloc _) (bC _) (by simp only [maxLen];omega) (by omega) (by show w.heap.size<=(w.alloc (.cells #[] 5)).heap.size;rw [World.size_alloc];exact Nat.le_succ _) ?_;intro x w4 dz ap ib;obtain⟨K4,EJ,a5,_,_⟩:=au dz;subst a5;have iV:Hid (Ow w4 w.heap.size (.slice K4 (0+s) EJ) x1):=aa (by unfold Ow;rw [<-BN.out];simpa using dz);have dR:Hid (Below w.heap.size w w4):=aa ((((Below.refl _ _).drew).alloc (Nat.le_refl _) _).grown ap (by show w.heap.size<=(w.alloc (.cells #[] 5)).heap.size;rw [World.size_alloc];exact Nat.le_succ _) (fun k hk=>by simp only [Value.ownBlock,Option.some.injEq] at hk;rw [<-hk];exact Nat.le_refl _));clear dz ap ib;refine hK.out _ _ trivial ?_;clear hK K;try simp only [aL,aN,aZ,aC]
 refine aO (i:=11) (by kernel_rfl) rfl (fun K hK=> ?_);refine aI _ rfl (.tmp 108) (.tmp 114) _ rfl w.heap.size 5 i0 _ 1 1 underlying24 ar aw aA aE rfl (by omega) (.slice K4 (0+s) EJ) s (aF x1) (by rw [Nat.zero_add];rfl) (by have h9:=iV.out;unfold Ow at h9;rw [<-BN.out] at h9;exact h9) F A4 mm (d-P) (aF x2) rfl (ao.below dR) (bC _) (by simp only [maxLen];omega) (by omega) dR.size ?_;intro x w5 ab aq jP;obtain⟨K5,TM,a6,_,_⟩:=au ab;subst a6;have lG:=aa ab;have vw:=aa aq;clear ab aq jP;refine hK.out _ _ trivial ?_;clear hK K;try simp only [aL,aN,aZ,aC]
 refine vT 12 trivial ?_;refine bG (by kernel_rfl) ?_ _;go_simp
 refine dP _ _ _ _ _ _ _ _ _ _ _ _ K5 (s+mm) TM w5 ?_ (dR.grown vw dR.size (fun k hk=>(ah iV k hk).1));have h1:=lG.out;rw [<-PK.out,<-uG.out];unfold Ow;rw [List.length_append,<-BN.out,<-mO.out];simpa [aF] using h1
theorem Gf (F:Nat->Prop) (A B:Option Addr) (n c m d p:Nat) (prev b:List UInt8) (w:World) (hA:Rd w F 1 A n (aF prev)) (hn:n=prev.length) (Q:n<=c) (hB:Rd w F 1 B m (aF b)) (hm:m=b.length) (hmd:m<=d) (hp:p<=m) (hn2:n<=1152921504606) (g:m<=1152921504606) (hF:∀b,F b->b<w.heap.size):
  Calls prog 151 #[.slice A n c,.slice B m d,.int .i64 p] w (fP prev b p w):=by
 obtain⟨i0,ax,a8,a9,ba⟩:=info_parts bu;refine letter fun R I=> ?_;have HN:=aa hn;have HM:=aa hm;have HF:=aa hF;obtain⟨q,hq⟩:∃q,q=w.heap.size:=⟨_,rfl⟩;have HQ:=aa hq;obtain⟨w1,Y⟩:∃W,W=w.alloc (.cells #[.slice none 0 0,.slice none 0 0] 69):=⟨_,rfl⟩;have r:Hid (Below w.heap.size w w1):=aa (by rw [Y];exact(Below.refl _ _).alloc (Nat.le_refl _) _);have Vn:Hid (aj w1 q 69 #[.slice none 0 0,.slice none 0 0]):=aa (by rw [Y,hq];exact aj.new _ _ _);have aq:Hid (Rd w1 F 1 A n (aF prev)):=aa (hA.below r);have oG:Hid (Rd w1 F 1 B m (aF b)):=aa (hB.below r);have P0:oU b p 1<=m:=by rw [hm];exact sw b p (by omega) 1
 have P1:oU b p 2<=m:=by rw [hm];exact sw b p (by omega) 2
 have P2:oU b p 3<=m:=by rw [hm];exact sw b p (by omega) 3
 have KC:=iF F B m d p b w1 oG hm hp g;have Gq:=iF F B m d (oU b p 1) b w1 oG hm P0 g;have Gr:=iF F B m d (oU b p 2) b w1 oG hm P1 g;rw [show(ai b p).1=BP b p 0 from rfl,show(ai b p).2.1=oU b p 1 from rfl,show(ai b p).2.2=wF b p 0 from rfl] at KC;rw [show(ai b (oU b p 1)).1=BP b p 1 from rfl,show(ai b (oU b p 1)).2.1=oU b p 2 from rfl,show(ai b (oU b p 1)).2.2=wF b p 1 from rfl] at Gq;rw [show(ai b (oU b p 2)).1=BP b p 2 from rfl,show(ai b (oU b p 2)).2.1=oU b p 3 from rfl,show(ai b (oU b p 2)).2.2=wF b p 2 from rfl] at Gr;have Kk:=sD b p 0;have Oi:=sD b p 1;have Q5:=sD b p 2;have J:=aa (wH prev b p);obtain⟨s,hs⟩:∃s,s=BP b p 0:=⟨_,rfl⟩;obtain⟨mm,a0⟩:∃mm,mm=BP b p 1:=⟨_,rfl⟩;obtain⟨l,hl⟩:∃l,l=BP b p 2:=⟨_,rfl⟩;obtain⟨p1,a1⟩:∃p1,p1=oU b p 1:=⟨_,rfl⟩;obtain⟨p2,a2⟩:∃p2,p2=oU b p 2:=⟨_,rfl⟩;obtain⟨P,hP⟩:∃P,P=oU b p 3:=⟨_,rfl⟩;obtain⟨x0,a4⟩:∃x,x=wF b p 0:=⟨_,rfl⟩;obtain⟨x1,a5⟩:∃x,x=wF b p 1:=⟨_,rfl⟩;obtain⟨x2,a6⟩:∃x,x=wF b p 2:=⟨_,rfl⟩;rw [<-hs] at KC Kk J;rw [<-a0] at Gq Oi J;rw [<-hl] at Gr Q5 J;rw [<-a1] at KC Gq J P0;rw [<-a2] at Gq Gr J P1;rw [<-hP] at Gr J P2;rw [<-a4] at KC J;rw [<-a5] at Gq J;rw [<-a6] at Gr J;have ar:=aa KC;have aw:=aa Gq;have OM:=aa Gr;have a:w1.cell? ⟨q,0,none⟩=some (.slice none 0 0):=Vn.out.cell 0;have f:w1.cell? ⟨q,1,none⟩=some (.slice none 0 0):=Vn.out.cell 1;have Ev:=Vn.out.frozen 0;have sW:=Vn.out.frozen 1
 have zo:Hid (∀(y:Nat) (j:Int),j≠0->pread prev b p=⟨[],[],y,j⟩->∀w',ag (fun b=>b=q) w1 w'->fP prev b p w (.returned (.tuple #[.agg #[.slice none 0 0,.slice none 0 0],.int .i64 y,.int .i64 j])) w'):=aa (fun y j an hp w' hw=>by
  unfold fP;rw [hp];exact⟨_,_,_,_,_,_,rfl,fun h=>absurd h an,r.out.trans (hw.below_of r.size (fun b i e=>by have:=HQ.out;have e:b=q:=e;omega))⟩)
 have iZ:Hid (ag (fun b=>b=q) w1 ((w1.setCell ⟨q,0,none⟩ (.slice none 0 0)).setCell ⟨q,1,none⟩ (.slice none 0 0))):=aa (((ag.refl (fun b=>b=q) w1).setCell (p:=⟨q,0,none⟩) (fun _=>rfl) _).setCell (p:=⟨q,1,none⟩) (fun _=>rfl) _);have bE:=aa Y;clear hA hn hB hm hF hs a0 hl a1 a2 hP a4 a5 a6 KC Gq Gr;go_enter func151,ntmps151
 go_upto_region 3 with fail
 rw [<-Y];simp only [<-hq];clear Y hq
 by_cases h0:x0=0
 ·have H0:=aa h0;subst h0;go_upto_region 6 with(go_at_call 149;go_loud (refine ar.mono ?_);rintro e w2 ⟨rfl,rfl⟩)
  by_cases C:x1=0
  ·have H1:=aa C;subst C;go_upto_region 9 with(go_at_call 149;go_loud (refine aw.mono ?_);rintro e w2 ⟨rfl,rfl⟩)
   by_cases O:x2=0
   ·subst O;have uE:Hid (pread prev b p=bI prev b p s mm l P):=aa (by rw [J.out];simp);go_upto_region 12 with(go_at_call 149;go_loud (refine OM.mono ?_);rintro e w2 ⟨rfl,rfl⟩)
    by_cases c1:n<s
    ·have u:Hid (pread prev b p=⟨[],[],p,52⟩):=aa (by rw [uE.out];unfold bI;rw [if_pos (by have:=HN.out;omega)]);have bb:(n:Int)<(s:Int):=by omega
     go_wp2;refine bodyPost_ret (v:= .tuple #[.agg #[.slice none 0 0,.slice none 0 0],.int .i64 p,.int .i64 52]) (by simp [results,results151,go_sem,a,f]) rfl ?_
     rw [I.out]
     exact zo.out p 52 (by decide) u _ iZ
    ·have yV:Hid (¬prev.length<s):=aa (by have:=HN.out;omega);have bb:¬((n:Int)<(s:Int)):=by omega
     by_cases c2:64<mm\/256<l\/s+mm=0\/64<s+mm
     ·have u:Hid (pread prev b p=⟨[],[],p,3⟩):=aa (by rw [uE.out];unfold bI;rw [if_neg yV.out,if_pos c2])
      by_cases d1:64<mm
      ·have bh:(64:Int)<(mm:Int):=by omega
       clear c2;go_wp2;refine bodyPost_ret (v:= .tuple #[.agg #[.slice none 0 0,.slice none 0 0],.int .i64 p,.int .i64 3]) (by simp [results,results151,go_sem,a,f]) rfl ?_;rw [I.out]
       exact zo.out p 3 (by decide) u _ iZ
      ·have bh:¬((64:Int)<(mm:Int)):=by omega
       by_cases d2:256<l
       ·have PG:(256:Int)<(l:Int):=by omega
        clear c2;go_wp2;refine bodyPost_ret (v:= .tuple #[.agg #[.slice none 0 0,.slice none 0 0],.int .i64 p,.int .i64 3]) (by simp [results,results151,go_sem,a,f]) rfl ?_;rw [I.out]
        exact zo.out p 3 (by decide) u _ iZ
       ·have PG:¬((256:Int)<(l:Int)):=by omega
        have ds:((s:Int)+(mm:Int))<18446744073709551616:=by omega
        by_cases d3:s+mm=0
        ·have bj:((s:Int)+(mm:Int))<1:=by omega
         clear c2 d3;go_wp2;refine bodyPost_ret (v:= .tuple #[.agg #[.slice none 0 0,.slice none 0 0],.int .i64 p,.int .i64 3]) (by simp [results,results151,go_sem,a,f]) rfl ?_;rw [I.out]
         exact zo.out p 3 (by decide) u _ iZ
        ·have bj:¬(((s:Int)+(mm:Int))<1):=by omega
         have d4:64<s+mm:=by omega
         have bM:(64:Int)<((s:Int)+(mm:Int)):=by omega
         clear c2;go_wp2;refine bodyPost_ret (v:= .tuple #[.agg #[.slice none 0 0,.slice none 0 0],.int .i64 p,.int .i64 3]) (by simp [results,results151,go_sem,a,f]) rfl ?_;rw [I.out]
         exact zo.out p 3 (by decide) u _ iZ
     ·have wK:=aa c2;have e1:¬((64:Int)<(mm:Int)):=by omega
      have e2:¬((256:Int)<(l:Int)):=by omega
      have e3:¬(((s:Int)+(mm:Int))<1):=by omega
      have e4:¬((64:Int)<((s:Int)+(mm:Int))):=by omega
      have Kk:s<=64:=by omega
      have TC:mm<=64:=by omega
      have ZC:l<=256:=by omega
      have bm:s<=n:=by omega
      clear c1 c2 Oi Q5
      by_cases c3:m-P<mm+l
      ·have u:Hid (pread prev b p=⟨[],[],m,53⟩):=aa (by rw [uE.out];unfold bI;rw [if_neg yV.out,if_neg wK.out,if_pos (by have:=HM.out;omega),<-HM.out]);have be:(m:Int)-(P:Int)<(mm:Int)+(l:Int):=by omega
       clear c3;go_wp2;refine bodyPost_ret (v:= .tuple #[.agg #[.slice none 0 0,.slice none 0 0],.int .i64 m,.int .i64 53]) (by simp [results,results151,go_sem,a,f]) rfl ?_;rw [I.out]
       exact zo.out m 53 (by decide) u _ iZ
      ·have UY:Hid (¬b.length-P<mm+l):=aa (by have:=HM.out;omega);have be:¬((m:Int)-(P:Int)<(mm:Int)+(l:Int)):=by omega
       have bk:P+mm+l<=m:=by omega
       clear c3;go_upto_region 20 with fail
       refine OL F A B n c m d s P mm prev b w1 _ (aa (fun _ _ _ _ h=>h)) aq Q bm oG hmd (by omega) Kk TC g ?_;intro ZV bp ZW bx ZX bB ZY ZZ Z0 Z4 Z5 Z6 K L kc H ae S;obtain⟨key,X⟩:∃key,key=prev.take s++(b.drop P).take mm:=⟨_,rfl⟩;have F7:=aa X;rw [<-X] at ae;obtain⟨aA,aE,al,am⟩:=ae.sb.parts;have Oj:=aa al;have tY:=aa am;have Q7:=aa (And.intro aA aE);have dR:=aa S;have yL:Hid (Rd H F 1 A n (aF prev)):=aa (aq.below S);have U6:Hid (Rd H F 1 B m (aF b)):=aa (oG.below S);have kC:Hid (aj H q 69 #[.slice none 0 0,.slice none 0 0]):=aa (Vn.below S);have IL:=aa (fJ A K n L c kc F (From _) prev key H yL HN am al (by omega));obtain⟨cm,U⟩:∃cm,cm=comm prev key:=⟨_,rfl⟩;rw [<-U] at IL;have Ol:=aa U;have bK:cm<=1152921504606:=by have C:=(jf prev key).1;have O:=HN.out;omega
       have Jd:Hid (∀(j:Int) (w':World),j≠0->pread prev b p=⟨[],[],p,j⟩->ag (fun b=>b=q) H w'->fP prev b p w (.returned (.tuple #[.agg #[.slice none 0 0,.slice none 0 0],.int .i64 p,.int .i64 j])) w'):=aa (fun j w' an hp hw=>by
        unfold fP;rw [hp];have a3:=r.out.trans (dR.mono r.size);exact⟨_,_,_,_,_,_,rfl,fun h=>absurd h an,a3.trans (hw.below_of a3.size (fun b i e=>by have:=HQ.out;have e:b=q:=e;omega))⟩)
       clear X ae aA aE al am S U a f Ev sW
       by_cases k1:cm=s
       ·have xB:Hid (¬comm prev key≠s):=aa (by rw [<-Ol.out];exact fun h=>h k1);have ap:((cm:Int)==(s:Int))=true:=by rw [beq_iff_eq];omega
        have F8:((cm:Int) !=(s:Int))=false:=by simp [k1]
        have U7:decide ((cm:Int)=(s:Int))=true:=decide_eq_true (by omega)
        by_cases k2:0<n/\0<=Lib.compareBytes prev key
        ·have u:Hid (pread prev b p=⟨[],[],p,51⟩):=aa (by rw [uE.out];unfold bI;rw [if_neg yV.out,if_neg wK.out,if_neg UY.out,<-F7.out,if_neg xB.out,if_pos (by rw [<-HN.out];exact k2)]);have bQ:0<n:=k2.1;have bL:(0:Int)<(n:Int):=by omega
         obtain⟨ce,E⟩:∃ce,ce=Lib.compareBytes prev key:=⟨_,rfl⟩;have pU:=aa E;have bo:0<=ce:=by rw [E];exact k2.2
         clear k2 E k1;go_wp2_with (first|(go_at_call 112;go_loud (refine IL.mono ?_);rintro e w5 ⟨rfl,q5,N⟩;have D:Hid (ag Nil H w5):=aa (by rw [N];exact(ag.refl Nil H).drewN _);clear N)|(go_at_call 68;go_loud (refine(eX A K n L c kc F (From _) prev key _ (yL.chg D (fun _ _ h=>h)) HN (tY.chg D (fun _ _ h=>h)) Oj (by omega)).mono ?_);rintro e o ⟨rfl,q6,gL⟩;have z:Hid (ag Nil H o):=aa (by rw [gL];exact D.drewN _);clear gL;rw [<-pU.out];have a:o.cell? ⟨q,0,none⟩=some (.slice none 0 0):=(kC.out.chg z (fun h=>h)).cell 0;have f:o.cell? ⟨q,1,none⟩=some (.slice none 0 0):=(kC.out.chg z (fun h=>h)).cell 1;have Ev:=(kC.out.chg z (fun h=>h)).frozen 0;have sW:=(kC.out.chg z (fun h=>h)).frozen 1))
         refine bodyPost_ret (v:= .tuple #[.agg #[.slice none 0 0,.slice none 0 0],.int .i64 p,.int .i64 51]) (by simp [results,results151,go_sem,a,f]) rfl ?_;rw [I.out]
         exact Jd 51 _ (by decide) u (((z.mono (T:=fun b=>b=q) (fun _ _ h=>h.elim)).setCell (p:=⟨q,0,none⟩) (fun _=>rfl) _).setCell (p:=⟨q,1,none⟩) (fun _=>rfl) _)
        ·have u:Hid (bI prev b p s mm l P=⟨key,(b.drop (P+mm)).take l,P+mm+l,0⟩):=aa (by unfold bI;rw [if_neg yV.out,if_neg wK.out,if_neg UY.out,<-F7.out,if_neg xB.out,if_neg (by rw [<-HN.out];exact k2)]);obtain⟨A4,ao,ab⟩:=F9 (p:=P+mm) (q:=P+mm+l) U6 (by omega) bk hmd;rw [show P+mm+l-(P+mm)=l by omega] at ao ab;have ZE:∀w',(Instr.slice 24 (.slice B m d) (some (.int .i64 ((P:Int)+(mm:Int)))) (some (.int .i64 ((P:Int)+(mm:Int)+(l:Int)))) none).run prog w'= .ok (.slice A4 l (d-(P+mm))) w':=fun w'=>by have:=ao w';simpa only [Int.natCast_add] using this
         have ac:=aa ab;have xG:Hid (l=((b.drop (P+mm)).take l).length):=aa (by have:=ab.1;rw [cO] at this;omega);obtain⟨xv,a7⟩:∃xv,xv=(b.drop (P+mm)).take l:=⟨_,rfl⟩;rw [<-a7] at ac u xG;clear ao ab a7
         by_cases n0:0<n
         ·have Y7:(0:Int)<(n:Int):=by omega
          obtain⟨ce,E⟩:∃ce,ce=Lib.compareBytes prev key:=⟨_,rfl⟩;have pU:=aa E;have bo:¬0<=ce:=by rw [E];exact fun h=>k2 ⟨n0,h⟩
          clear k2 E k1;go_upto_region 25 with(first|(go_at_call 112;go_loud (refine IL.mono ?_);rintro e w5 ⟨rfl,q5,N⟩;have D:Hid (ag Nil H w5):=aa (by rw [N];exact(ag.refl Nil H).drewN _);clear N)|(go_at_call 68;go_loud (refine(eX A K n L c kc F (From _) prev key _ (yL.chg D (fun _ _ h=>h)) HN (tY.chg D (fun _ _ h=>h)) Oj (by omega)).mono ?_);rintro e o ⟨rfl,q6,gL⟩;have z:Hid (ag Nil H o):=aa (by rw [gL];exact D.drewN _);clear gL;rw [<-pU.out]))
          have ad:Hid (Rd o F 1 A4 l (aF xv)):=aa (ac.chg z (fun _ _ h=>h));have rP:Hid (aj o q 69 #[.slice none 0 0,.slice none 0 0]):=aa (kC.chg z (fun h=>h));have Na:Hid (Rd o (From w1.heap.size) 1 K L (aF key)):=aa (tY.chg z (fun _ _ h=>h));have IQ:Hid (Below w1.heap.size w1 o):=aa (dR.out.trans (z.below_of dR.size (fun _ _ h=>h)));clear ap F8 U7;go_wp2_with (at_builtin;go_loud (refine af _ rfl (.tmp 136) (.tmp 146) _ rfl o.heap.size 5 i0 _ 1 1 underlying24 ax a8 a9 ba rfl (by omega) (.slice (some ⟨o.heap.size,0,none⟩) 0 0) 0 [] rfl (gp o _ 1) F A4 l (d-(P+mm)) (aF xv) rfl (ad.alloc _) (bC _) (by simp only [maxLen];omega) (by omega) (by simp) ?_);intro vv t lw LH Gs;have rV:Hid (Ow t o.heap.size vv xv):=aa (by unfold Ow;rw [<-xG.out];simpa using lw);have JU:Below o.heap.size o t:=((Below.refl _ _).alloc (Nat.le_refl _) _).grown LH (by simp) (fun k hk=>by simp [Value.ownBlock] at hk;omega);have jb:=aa JU;have M:aj t q 69 #[.slice none 0 0,.slice none 0 0]:=rP.out.below JU;have lT:=aa M;have a:t.cell? ⟨q,0,none⟩=some (.slice none 0 0):=M.cell 0;have f:t.cell? ⟨q,1,none⟩=some (.slice none 0 0):=M.cell 1;have Ev:=M.frozen 0;have sW:=M.frozen 1;clear lw LH Gs JU M;obtain⟨V,vn,vc,rfl,o1,o2,o3,o4⟩:=rV.out.sb;clear o1 o2 o3 o4)
          refine bodyPost_ret (v:= .tuple #[.agg #[.slice K L kc,.slice V vn vc],.int .i64 ((P:Int)+(mm:Int)+(l:Int)),.int .i64 0]) (by simp [results,results151,go_sem,a,f]) rfl ?_;rw [I.out];unfold fP;rw [uE.out,u.out];have G:ag (fun b=>b=q) t ((t.setCell ⟨q,0,none⟩ (.slice K L kc)).setCell ⟨q,1,none⟩ (.slice V vn vc)):=((ag.refl (fun b=>b=q) t).setCell (p:=⟨q,0,none⟩) (fun _=>rfl) _).setCell (p:=⟨q,1,none⟩) (fun _=>rfl) _;have Z:Below w.heap.size w t:=(r.out.trans (IQ.mono r.size)).trans (jb.mono (by have C:=r.out.size;have O:=IQ.out.size;omega));have BL:q<w1.heap.size:=Vn.out.lt
          refine⟨K,L,kc,V,vn,vc,by simp only [Int.natCast_add],fun _=>⟨?_,?_⟩,Z.trans (G.below_of Z.size (fun b i e=>by have:=HQ.out;have e:b=q:=e;omega))⟩
          ·have C:SB t (fun b=>q<b) (.slice K L kc) key:=(SB.mk Q7.1 Q7.2 Oj (Na.below jb)).weak (fun b i=>by have O:w1.heap.size<=b:=i;omega)
           exact(C.chg G (fun b i e=>by have i:q<b:=i;have e:b=q:=e;omega)).weak (fun b i=>by have i:q<b:=i;show w.heap.size<=b;have:=HQ.out;omega)
          ·have C:SB t (fun b=>q<b) (.slice V vn vc) xv:=rV.out.sb.weak (fun b i=>by have O:o.heap.size<=b:=i;have h3:=IQ.out.size;omega)
           exact(C.chg G (fun b i e=>by have i:q<b:=i;have e:b=q:=e;omega)).weak (fun b i=>by have i:q<b:=i;show w.heap.size<=b;have:=HQ.out;omega)
         ·have Y7:¬((0:Int)<(n:Int)):=by omega
          clear k2 k1;go_upto_region 25 with(go_at_call 112;go_loud (refine IL.mono ?_);rintro e w5 ⟨rfl,q5,N⟩;have D:Hid (ag Nil H w5):=aa (by rw [N];exact(ag.refl Nil H).drewN _);clear N)
          have z:=D;obtain⟨o,gL⟩:∃W,W=w5:=⟨_,rfl⟩;rw [<-gL] at z|-;clear gL;have ad:Hid (Rd o F 1 A4 l (aF xv)):=aa (ac.chg z (fun _ _ h=>h));have rP:Hid (aj o q 69 #[.slice none 0 0,.slice none 0 0]):=aa (kC.chg z (fun h=>h));have Na:Hid (Rd o (From w1.heap.size) 1 K L (aF key)):=aa (tY.chg z (fun _ _ h=>h));have IQ:Hid (Below w1.heap.size w1 o):=aa (dR.out.trans (z.below_of dR.size (fun _ _ h=>h)));clear ap F8 U7;go_wp2_with (at_builtin;go_loud (refine af _ rfl (.tmp 136) (.tmp 146) _ rfl o.heap.size 5 i0 _ 1 1 underlying24 ax a8 a9 ba rfl (by omega) (.slice (some ⟨o.heap.size,0,none⟩) 0 0) 0 [] rfl (gp o _ 1) F A4 l (d-(P+mm)) (aF xv) rfl (ad.alloc _) (bC _) (by simp only [maxLen];omega) (by omega) (by simp) ?_);intro vv t lw LH Gs;have rV:Hid (Ow t o.heap.size vv xv):=aa (by unfold Ow;rw [<-xG.out];simpa using lw);have JU:Below o.heap.size o t:=((Below.refl _ _).alloc (Nat.le_refl _) _).grown LH (by simp) (fun k hk=>by simp [Value.ownBlock] at hk;omega);have jb:=aa JU;have M:aj t q 69 #[.slice none 0 0,.slice none 0 0]:=rP.out.below JU;have lT:=aa M;have a:t.cell? ⟨q,0,none⟩=some (.slice none 0 0):=M.cell 0;have f:t.cell? ⟨q,1,none⟩=some (.slice none 0 0):=M.cell 1;have Ev:=M.frozen 0;have sW:=M.frozen 1;clear lw LH Gs JU M;obtain⟨V,vn,vc,rfl,o1,o2,o3,o4⟩:=rV.out.sb;clear o1 o2 o3 o4)
          refine bodyPost_ret (v:= .tuple #[.agg #[.slice K L kc,.slice V vn vc],.int .i64 ((P:Int)+(mm:Int)+(l:Int)),.int .i64 0]) (by simp [results,results151,go_sem,a,f]) rfl ?_;rw [I.out];unfold fP;rw [uE.out,u.out];have G:ag (fun b=>b=q) t ((t.setCell ⟨q,0,none⟩ (.slice K L kc)).setCell ⟨q,1,none⟩ (.slice V vn vc)):=((ag.refl (fun b=>b=q) t).setCell (p:=⟨q,0,none⟩) (fun _=>rfl) _).setCell (p:=⟨q,1,none⟩) (fun _=>rfl) _;have Z:Below w.heap.size w t:=(r.out.trans (IQ.mono r.size)).trans (jb.mono (by have C:=r.out.size;have O:=IQ.out.size;omega));have BL:q<w1.heap.size:=Vn.out.lt
          refine⟨K,L,kc,V,vn,vc,by simp only [Int.natCast_add],fun _=>⟨?_,?_⟩,Z.trans (G.below_of Z.size (fun b i e=>by have:=HQ.out;have e:b=q:=e;omega))⟩
          ·have C:SB t (fun b=>q<b) (.slice K L kc) key:=(SB.mk Q7.1 Q7.2 Oj (Na.below jb)).weak (fun b i=>by have O:w1.heap.size<=b:=i;omega)
           exact(C.chg G (fun b i e=>by have i:q<b:=i;have e:b=q:=e;omega)).weak (fun b i=>by have i:q<b:=i;show w.heap.size<=b;have:=HQ.out;omega)
          ·have C:SB t (fun b=>q<b) (.slice V vn vc) xv:=rV.out.sb.weak (fun b i=>by have O:o.heap.size<=b:=i;have h3:=IQ.out.size;omega)
           exact(C.chg G (fun b i e=>by have i:q<b:=i;have e:b=q:=e;omega)).weak (fun b i=>by have i:q<b:=i;show w.heap.size<=b;have:=HQ.out;omega)
       ·have u:Hid (pread prev b p=⟨[],[],p,52⟩):=aa (by rw [uE.out];unfold bI;rw [if_neg yV.out,if_neg wK.out,if_neg UY.out,<-F7.out,if_pos (by rw [<-Ol.out];exact k1)]);have ap:((cm:Int)==(s:Int))=false:=by rw [beq_eq_false_iff_ne];omega
        have F8:((cm:Int) !=(s:Int))=true:=by simp;omega
        have U7:decide ((cm:Int)=(s:Int))=false:=decide_eq_false (by omega);go_wp2_with (go_at_call 112;go_loud (refine IL.mono ?_);rintro e w5 ⟨rfl,q5,N⟩;have D:Hid (ag Nil H w5):=aa (by rw [N];exact(ag.refl Nil H).drewN _);clear N;have a:w5.cell? ⟨q,0,none⟩=some (.slice none 0 0):=(kC.out.chg D (fun h=>h)).cell 0;have f:w5.cell? ⟨q,1,none⟩=some (.slice none 0 0):=(kC.out.chg D (fun h=>h)).cell 1;have Ev:=(kC.out.chg D (fun h=>h)).frozen 0;have sW:=(kC.out.chg D (fun h=>h)).frozen 1)
        refine bodyPost_ret (v:= .tuple #[.agg #[.slice none 0 0,.slice none 0 0],.int .i64 p,.int .i64 52]) (by simp [results,results151,go_sem,a,f]) rfl ?_;rw [I.out]
        exact Jd 52 _ (by decide) u (((D.mono (T:=fun b=>b=q) (fun _ _ h=>h.elim)).setCell (p:=⟨q,0,none⟩) (fun _=>rfl) _).setCell (p:=⟨q,1,none⟩) (fun _=>rfl) _)
   ·obtain⟨j,rfl⟩:∃j,j=x2:=⟨_,rfl⟩;obtain⟨y,rfl⟩:∃y,y=P:=⟨_,rfl⟩;have gm:=aa O;have u:Hid (pread prev b p=⟨[],[],y,j⟩):=aa (by rw [J.out,if_neg (fun h=>h rfl),if_neg (fun h=>h rfl),if_pos O]);have bP:(j==0)=false:=by rw [beq_eq_false_iff_ne];exact O
    go_wp2_with (go_at_call 149;go_loud (refine OM.mono ?_);rintro e w2 ⟨rfl,rfl⟩)
    refine bodyPost_ret (v:= .tuple #[.agg #[.slice none 0 0,.slice none 0 0],.int .i64 y,.int .i64 j]) (by simp [results,results151,go_sem,a,f]) rfl ?_;rw [I.out]
    exact zo.out y j gm u _ iZ
  ·obtain⟨j,rfl⟩:∃j,j=x1:=⟨_,rfl⟩;obtain⟨y,rfl⟩:∃y,y=p2:=⟨_,rfl⟩;have gm:=aa C;have u:Hid (pread prev b p=⟨[],[],y,j⟩):=aa (by rw [J.out,if_neg (fun h=>h rfl),if_pos C]);have bO:(j==0)=false:=by rw [beq_eq_false_iff_ne];exact C
   go_wp2_with (go_at_call 149;go_loud (refine aw.mono ?_);rintro e w2 ⟨rfl,rfl⟩)
   refine bodyPost_ret (v:= .tuple #[.agg #[.slice none 0 0,.slice none 0 0],.int .i64 y,.int .i64 j]) (by simp [results,results151,go_sem,a,f]) rfl ?_;rw [I.out]
   exact zo.out y j gm u _ iZ
 ·obtain⟨j,rfl⟩:∃j,j=x0:=⟨_,rfl⟩;obtain⟨y,rfl⟩:∃y,y=p1:=⟨_,rfl⟩;have gm:=aa h0;have u:Hid (pread prev b p=⟨[],[],y,j⟩):=aa (by rw [J.out,if_pos h0]);have bN:(j==0)=false:=by rw [beq_eq_false_iff_ne];exact h0
  go_wp2_with (go_at_call 149;go_loud (refine ar.mono ?_);rintro e w2 ⟨rfl,rfl⟩)
  refine bodyPost_ret (v:= .tuple #[.agg #[.slice none 0 0,.slice none 0 0],.int .i64 y,.int .i64 j]) (by simp [results,results151,go_sem,a,f]) rfl ?_;rw [I.out];exact zo.out y j gm u _ iZ
end Go.Proofs.YtepgcjbhabnciaaGreat
