/- Part 29. -/
import Derived.Test.YtepgcjbhabnciaaGreatLp28
namespace Go.Proofs.YtepgcjbhabnciaaGreat
set_option maxRecDepth 100000
set_option maxHeartbeats 8000000
open Go.Proofs.Tryz Go.RowKit
variable {u1 u6 u8 E f C I u20 u24 u28 u33 u34 u35 u36 u37 u38 u40 u42 X u44 u45 u46 u48 u49 u51 A u53 u55 dY dZ u58 u59 u60 H fJ u63 u64 gm u66 l u68 u69 u70 T u72 u73 N u75 R jY W Z O kQ kR U kU u0 u2 u3 u4 u5 u7 u9 L bT bN u16 u21 u22 u23 u25 u26 u27 u32 dm dw dG dI kG S o y B J s Y G V d z j u31 v dR fw iM iN iV j6 kg kP ko kv dv:Value} {q p mm base c k fill hn hc kc dn dc size M:Nat} {x lev m n nd lf inn fl bl root b:Int} {us xs fE oN:List Value} {w P wa:World} {D F:Nat->Prop} {ks:List (Int×List UInt8)} {Q:Exit->Act->World->Prop}
noncomputable def Uq:Code:=aQ (f95.body.bind (fQ 2))
theorem P4 (B:Option Addr) {x:Nat} (d s:Nat) (hb:x<=1152921504606) (hd:x<=d) {F:Value} (kF:Hid (∀c t (a:Act) w,Q (.panic c) ⟨t,a.defers⟩ w->Q (.panic c) a w))
  (hq:q=P.heap.size) (aE:Rd P D 2 B x ((us.drop (s*2)).take (x*2))) (a2:PZ P D us ks) (vg:s+x<=ks.length) (fM:Below P P wa) (G:ak wa q 132 #[lev,(),.int .i64 0,(),(),()])
  (au:∀(b1 b2 b3 b4 b5 b6 b7 b8 a3 a4 a5 a6 a7 a8 a9 ba be bh bj bk bm b9 ca cb cd ce cf cg ci cj ck:Value) (kv dv:Value) (fE oN:List Value) (wz:World),ak wz q 132 #[lev,(),.int .i64 0,kv,(),dv]->dQ wz (q+1) ((us.drop (s*2)).take (x*2)) (x-1) x kv dv fE oN->Below P P wz->Q (.exit 2) ⟨(u0::u1::u2::u3::u4::u5::u6::u7::u8::u9::L::E:: .slice B x d:: .pointer (some ⟨q,0,none⟩)::b1::b2::u16::f::C::I::u20::u21::u22::u23::u24::u25::u26::u27::u28:: .slice B x d:: .int .i64 x:: .int .i64 x::b3::b4::b5::b6::b7::b8::a3::a4::a5::a6::a7::a8::a9::ba::be::bh::bj::bk::bm::b9::ca::cb::cd::ce::cf::cg::ci::cj::ck::H::fJ::u63::u64::gm::u66::l::u68::u69::u70::T::u72::u73::N::u75::R::jY::W::Z::O::kG::S::kQ::kR::U::kU:: []).toArray,[]⟩ wz):
  Code.wp prog Uq Q ⟨(u0::u1::u2::u3::u4::u5::u6::u7::u8::u9::L::E:: .slice B x d:: .pointer (some ⟨q,0,none⟩)::bT::bN::u16::f::C::I::u20::u21::u22::u23::u24::u25::u26::u27::u28:: .slice B x d:: .int .i64 x:: .int .i64 0::u32::u33::u34::u35::u36::u37::u38::dm::u40::dw::u42::X::u44::u45::u46::dG::u48::u49::dI::u51::A::u53::F::u55::dY::dZ::u58::u59::u60::H::fJ::u63::u64::gm::u66::l::u68::u69::u70::T::u72::u73::N::u75::R::jY::W::Z::O::kG::S::kQ::kR::U::kU:: []).toArray,[]⟩ wa:=by
 obtain⟨i0,aw,iC,iD,iE⟩:=info_parts jL;have dz:=aa au;have xW:=aa aE;have Da:=aa a2;have IC:=aa vg;have bp:=aa fM;have cr:P<=q:=by omega
 have ct:q<=P:=by omega
 clear hq;have jq:=aa G;clear au aE a2 vg fM G;conv=>arg 2;whnf
 go_loopg [31] x (fun g' i wz=>∃(j:Nat) (kv dv:Value) (fE oN:List Value),g'=x-j/\j<=x/\i= (j:Int)/\ak wz q 132 #[lev,(),.int .i64 0,kv,(),dv]/\dQ wz (q+1) ((us.drop (s*2)).take (x*2)) (j-1) j kv dv fE oN/\Below P P wz)
 case atStart=>exact⟨0,_,_,[],[],by omega,by omega,rfl,jq,dQ.nil _ _ _,bp⟩
 case round=>
  obtain⟨j,kv,dv,fE,oN,r,hj,rfl,G,a0,Y⟩:=hrel;have rC:=aa r;have iW:=aa G;have am:=aa a0;have J:=aa Y
  rename World=>wr
  have cu:q<wr:=G.lt;clear r G a0
  by_cases YA:j<x
  ·obtain⟨b,o,id,Ah,nh,ch,rfl,co,e1,e2,an,aq,_⟩:=IR xW.out Da IC YA;have cp:b<P:=eU an;have c1:=aj Y an;have c2:=aj Y aq;have wO:=aa e1;clear e1 e2 an aq Y;have HX:Hid (ak (wr.alloc (.cells #[(id:Int),.slice Ah nh ch] 200)) wr 200 #[(id:Int),.slice Ah nh ch]):=aa (ak.new _ _ _);have K:Hid (Below wr wr (wr.alloc (.cells #[(id:Int),.slice Ah nh ch] 200))):=aa gV;have IU:=aa (iW.below K);have E4:=aa (am.below K);have y:Hid ((wr.alloc (.cells #[(id:Int),.slice Ah nh ch] 200)).heap.size=wr.heap.size+1):=aa (by simp)
   by_cases bL:j=0
   ·subst bL;rw [Nat.zero_mul,Nat.add_zero] at c1 c2;have q5:(wr.alloc (.cells #[(id:Int),.slice Ah nh ch] 200)).cell? ⟨q,5,none⟩=some dv:=(IU.out.cell 5).trans rfl;have qx:(wr.alloc (.cells #[(id:Int),.slice Ah nh ch] 200)).cell? wr=some (.int .i64 id):=(HX.out.cell 0).trans rfl;go_wp2_with (first|(at_builtin;go_loud (refine af _ rfl (.tmp 53) (.tmp 56) _ rfl (q+1) 3 i0 _ 1 8 underlying25 aw iC iD iE rfl (by omega) dv 0 oN rfl (own_below E4.v gV) (From (wr+1)) (some ⟨(wr+1),0,none⟩) 1 1 [(id:Int)] rfl (by have:=Rd.one (wr.alloc (.cells #[(id:Int),.slice Ah nh ch] 200)) (id:Int) 3;simpa using this) (by intro u hu;simp at hu;subst hu;rfl) (by simp only [maxLen];omega) (by omega) (by have:=y.out;simp at this|-;omega) ?_);intro v3 w3 m z ic;obtain⟨K3,XX,ao,_,_⟩:=ax m;subst ao;have qN:=aa m;have P5:=aa z;have ac:=aa ic;have n:=((IU.alloc (.cells #[(id:Int)] 3)).chg (ag.of_grown z) (fun e=>by have:=(ah E4.v _ e).1;omega));have b0:w3.cell? ⟨q,5,none⟩=some dv:=(n.cell 5).trans rfl;have bE:∀o,w3.frozen? ⟨q,o,none⟩=false:=n.frozen;have YB:=aa n;clear m z ic n));have ad:=aa ((((J.out.trans (K.mono J.size)).alloc (by have:=J.out.size;have:=y.out;omega) (.cells #[(id:Int)] 3)).grown P5 (by have:=J.out.size;have:=y.out;simp at this|-;omega) (fun g hg=>by have:=(ah E4.v g hg).1;omega)).setCell (p:=⟨q,5,none⟩) (by show P<=q;omega) (.slice K3 (0+1) XX));have al:=aa ((dQ.kid (E4.below gV) qN P5 ac wO).far 5 (.slice K3 (0+1) XX) (b:=q) (by omega));have ae:=aa (YB.set_ 5 (.slice K3 (0+1) XX))
    go_roundg (x-(0+1))
    case measure=>have:=rC.out;omega
    case rel=>exact⟨0+1,_,_,_,_,rfl,by omega,by go_num,ae,al,ad⟩
   ·have cq:(0:Int)<(j:Int):=by omega
    obtain⟨b',o',cv,cl,cw,cn,V,_,f1,f2,bz,Ur,_⟩:=IR xW.out Da IC (j:=j-1) (by omega);injection V with V;injection V with V bx
    subst V;subst bx;have D2:=aa (aj K (aj J Ur));have bo:=aa f2;clear f1 f2 bz Ur;go_wp2_with fail;refine Yz x d (j-1) (by exact aa (fun c t a w h=>kF c t a w h)) (by omega) (by omega) hb (by omega) (by have:=y.out;omega) (by omega) (by omega) D2.out ((IU.cell 3).trans rfl) IU.frozen E4.k ?_;intro a3 a4 a5 a6 a7 a8 a9 ba be bh bj bk bm v2 cx w2 IV aA r bU;have a1:wr.heap.size+1<=w2.heap.size:=by have:=r.size;have:=IV.size;have:=y.out;omega
    have M:=aa ((dQ.key (E4.below IV) aA r bU bo).far 3 v2 (b:=q) (by omega));have ap:Hid (Below P P (w2.setCell ⟨q,3,none⟩ v2)):=aa ((((J.out.trans (K.mono J.size)).trans (IV.mono (by have:=J.out.size;have:=y.out;omega))).grown r (by have:=J.out.size;have:=y.out;have:=IV.size;omega) (fun g hg=>by have:=(ah E4.k g hg).1;omega)).setCell (p:=⟨q,3,none⟩) (by show P<=q;omega) v2);have bP:∀(g:Nat),g<q+1->kv.ownBlock≠some g:=fun g hg e=>by have:=(ah E4.k g e).1;omega
    have YC:=aa (((IU.below IV).chg (ag.of_grown r) (bP q (by omega))).set_ 3 v2);have qh:=aa (((HX.below IV).chg (ag.of_grown r) (fun e=>by have:=(ah am.k _ e).2;omega)).far (p:=⟨q,3,none⟩) (by show wr.heap.size≠q;omega) v2);have ab:Hid (wr+1<=(w2.setCell ⟨q,3,none⟩ v2).heap.size):=aa (by simpa [World.setCell] using a1);clear aA r bU IV a1;obtain⟨W2,ar⟩:=gF (w2.setCell ⟨q,3,none⟩ v2);rw [<-ar] at M ap YC qh ab|-;clear ar;have q5:W2.cell? ⟨q,5,none⟩=some dv:=(YC.out.cell 5).trans rfl;have qx:W2.cell? wr=some (.int .i64 id):=(qh.out.cell 0).trans rfl;obtain⟨i,rfl⟩:∃i,j=i+1:=⟨j-1,by omega⟩;go_wp2_with (first|(at_builtin;go_loud (refine af _ rfl (.tmp 53) (.tmp 56) _ rfl (q+1) 3 i0 _ 1 8 underlying25 aw iC iD iE rfl (by omega) dv (i+1) oN rfl (own_below M.v gV) (From W2) (some ⟨W2,0,none⟩) 1 1 [(id:Int)] rfl (Rd.one _ _ _) (by intro u hu;simp at hu;subst hu;rfl) (by simp only [maxLen];omega) (by omega) (by have:=ab.out;simp at this|-;omega) ?_);intro v3 w3 m z ic;obtain⟨K3,XX,ao,_,_⟩:=ax m;subst ao;have qN:=aa m;have P5:=aa z;have ac:=aa ic;have n:=((YC.alloc (.cells #[(id:Int)] 3)).chg (ag.of_grown z) (fun e=>by have:=(ah M.v _ e).1;omega));have b0:w3.cell? ⟨q,5,none⟩=some dv:=(n.cell 5).trans rfl;have bE:∀o,w3.frozen? ⟨q,o,none⟩=false:=n.frozen;have YB:=aa n;clear m z ic n));have ad:=aa (((ap.alloc (by have:=J.out.size;have:=ab.out;omega) (.cells #[(id:Int)] 3)).grown P5 (by have:=J.out.size;have:=ab.out;simp;omega) (fun g hg=>by have:=(ah M.v g hg).1;omega)).setCell (p:=⟨q,5,none⟩) (by show P<=q;omega) (.slice K3 ((i+1)+1) XX));have al:=aa ((dQ.kid (M.below gV) qN P5 ac wO).far 5 (.slice K3 ((i+1)+1) XX) (b:=q) (by omega));have ae:=aa (YB.set_ 5 (.slice K3 ((i+1)+1) XX))
    go_roundg (x-((i+1)+1))
    case measure=>have:=rC.out;omega
    case rel=>exact⟨(i+1)+1,_,_,_,_,rfl,by omega,by go_num,ae,al,ad⟩
  ·obtain rfl:j=x:=by omega
   clear Y;go_wp2;exact dz _ _ _ _ _ _ _ _ _ _ _ _ _ _ _ _ _ _ _ _ _ _ _ _ _ _ _ _ _ _ _ _ _ _ _ _ iW am J
noncomputable def xI:Code:=aQ (f95.body.bind (aF 16))
theorem x9 {nodes:Int} (done:List aX) (nd:Nd) {hA kA:Option Addr} (vA:Option Addr) {dA:Option Addr} (kn:Nat) (vn vc:Nat) (more:Bool) (w:World) (r M cp i:Nat) {P D m x:Value} (kF:Hid (∀c t (a:Act) w,Q (.panic c) ⟨t,a.defers⟩ w->Q (.panic c) a w))
  (ad:fo w F p mm nodes root done) (hf:(done.length:Int)<nodes) (hn1:nodes<=65536) (ao:ks.length<=65536) (L:base<=w)
  (hq:ak w q 132 #[(nd.lev:Int),.slice hA hn hc,(nd.right:Int),.slice kA kn kc,.slice vA vn vc,.slice dA dn dc]) (Us:Rest F mm o q)
  (h1:Bt w (Rest F mm o) hA hn hc nd.high) (h2:Tx w (Off F mm) kA kn kc nd.keys) (h3:Tx w (Off F mm) vA vn vc nd.vals) (h4:It w (Off F mm) dA dn dc nd.kids) (n:Small nd)
  (ac:dJ w (Off F mm) base o ks) (_bo:1<=M) (_bp:M<=65536) (a0:decide ((i:Int)<(M:Int)-1)=more) (bx:IntKind.i64.wrap ((M:Int)-1)=(M:Int)-1)
  (au:∀(a1 a2 a3 a4 a5 a6 a7 a8 a9 ba be bh bj bk bm:Value) (o':Value) (w':World),Put w w' F p mm nodes root (done++ [(2,⟨nd.lev,nd.high,if more then(done.length:Int)+1+1 else nd.right,nd.keys,nd.vals,nd.kids⟩)]) base o o' (ks++ [((done.length:Int)+1,nd.high)])->Q .normal ⟨(.pointer (some ⟨mm,0,none⟩)::u1::y::B::J::s::u6::Y::u8::o':: .slice (some ⟨r,0,none⟩) M cp:: .int .i64 i::O:: .pointer (some ⟨q,0,none⟩)::Z::U::G::f::C::I::u20::P::V::d::u24::z::D::m::u28::T::j::u31::x::u33::u34::u35::u36::u37::u38::N::u40::R::u42::X::u44::u45::u46::v::u48::u49::H::u51::A::u53::dR::u55::dY::dZ::u58::u59::u60::fw::fJ::u63::u64::gm::u66::l::u68::u69::a1::a2::a3::a4::a5::a6::a7::a8::a9::ba::be::bh::bj::bk::bm::ko::kU:: []).toArray,[]⟩ w'):
  Code.wp prog xI Q ⟨(.pointer (some ⟨mm,0,none⟩)::u1::y::B::J::s::u6::Y::u8::o:: .slice (some ⟨r,0,none⟩) M cp:: .int .i64 i::O:: .pointer (some ⟨q,0,none⟩)::Z::U::G::f::C::I::u20::P::V::d::u24::z::D::m::u28::T::j::u31::x::u33::u34::u35::u36::u37::u38::N::u40::R::u42::X::u44::u45::u46::v::u48::u49::H::u51::A::u53::dR::u55::dY::dZ::u58::u59::u60::fw::fJ::u63::u64::gm::u66::l::u68::u69::u70::iM::u72::u73::iN::u75::iV::jY::W::j6::kg::E::kP::kQ::kR::ko::kU:: []).toArray,[]⟩ w:=by
 obtain⟨i0,aA,iC,iD,iE⟩:=info_parts E5;have S0:P6 q nd.lev hA hn hc nd.right kA kn kc vA vn vc dA dn dc w.drew:=⟨by rw [hq.drew.cell];rfl,by rw [hq.drew.cell];rfl,by rw [hq.drew.cell];rfl,by rw [hq.drew.cell];rfl,by rw [hq.drew.cell];rfl,by rw [hq.drew.cell];rfl⟩;have HQ:=aa Us;have ql:=hq.lt;have dz:=aa au;have aw:=aa (ad.below mh.drew);have H1:=aa h1;have H2:=aa (h2.below mh.drew);have H3:=aa (h3.below mh.drew);have H4:=aa (h4.below mh.drew);have HS:=aa n;have HR:=aa (ac.below mh.drew);have HK:=aa ao;have HB:=aa L;have jE:=aa ad.2.1;have TZ:=ad.2.2.1;have E6:Hid (∀g,o.ownBlock=some g->Off F mm g/\g<w):=aa (by obtain⟨us,a,b,_⟩:=ac;exact fun g hg=>⟨b g hg,(ah a g hg).2⟩);clear hq Us au ad h1 h2 h3 h4 n ac ao L;conv=>arg 2;whnf
 refine aO (S:=P6 q nd.lev hA hn hc nd.right kA kn kc vA vn vc dA dn dc) (by kernel_rfl) ?_;refine vT 0 S0 ?_;refine vT 1 S0 ?_;refine vT 3 S0 ?_;refine vT 4 S0 ?_;refine vT 5 S0 ?_;refine vT 6 S0 ?_;refine vT 7 S0 ?_;refine vT 9 S0 ?_;refine vT 10 S0 ?_;refine vT 2 S0 ?_;refine vT 11 S0 ?_;refine nZ 8 fun K hK=> ?_;go_simp;refine(LA more aw hf hn1 (H1.below mh.drew|>.weak (fun b hb=>hb.1)) H2 H3 H4 HS).mono ?_;rintro e w1 ⟨rfl,ap,P7⟩;have S1:=S0.chg P7 (fun h=>h.elim HQ.1.1 HQ.1.2);have YD:=aa ap;have kV:=aa P7;have bz:w.heap.size<=w1:=P7.size;obtain⟨us,r1,r2,r3⟩:=HR.out.off_next P7;have am:=aa r1;have aq:=aa r2;have ar:=aa r3;clear ap r1 r2 r3 P7;refine hK.out _ _ S1 ?_;clear hK K;try simp only [aL,aN,aZ,aC]
 refine vT 12 S1 ?_;refine nZ 13 fun K hK=> ?_;go_simp;have ab:Below w1 w1 (w1.alloc (.cells #[.int .i64 ((done.length:Int)+1),.slice hA hn hc] 200)):=gV;have S2:=S1.chg (S:=Nil) (ag.of_below ab) (fun hf=>hf);refine hK.out _ _ S2 ?_;clear hK K;try simp only [aL,aN,aZ,aC]
 refine nZ 14 fun K hK=> ?_;refine aG _ rfl (.tmp 70) (.tmp 83) _ rfl base 200 i0 _ 2 32 underlying194 aA iC iD iE rfl (by omega) o ks.length us rfl (own_below am ab) (From w1) (some ⟨w1,0,none⟩) 1 1 [.int .i64 ((done.length:Int)+1),.slice hA hn hc] rfl (Rd.two w1 _ _ _) (by intro u hu;simp at hu;rcases hu with hu|hu<;>subst hu<;>rfl) (by simp only [maxLen];have:=HK.out;omega) (by have:=HK.out;omega) (by have:=HB.out;simp;omega) ?_;intro v2 w2 al an bU;have ae:=(ag.refl (fun b=>o.ownBlock=some b) _).grown an (fun k hk _=>hk);have S3:=S2.chg ae (fun e=>HQ.2 e);refine rT hK S3 ?_;clear hK K;refine vT 15 S3 ?_;refine bf (by kernel_rfl) ?_ _;have aE:Off (Grown F w.drew w1) mm (w1.alloc (.cells #[.int .i64 ((done.length:Int)+1),.slice hA hn hc] 200)).heap.size:=⟨fun h=>h.elim (fun h=>by have:=jE.out _ h;simp at this;omega) (fun h=>by have:=h.2;rw [World.size_alloc] at this;omega),by simp;omega⟩;have hh:SB w1 (fun b=>Off (Grown F w.drew w1) mm b/\o.ownBlock≠some b) (.slice hA hn hc) nd.high:=SB.weak ((H1.lt.below mh.drew).chg kV (fun b hb h=>h.elim hb.1.1.1 hb.1.1.2)).sb (fun b hb=>⟨off_next (w:=w.drew) hb.2 hb.1.1,hb.1.2⟩);have YE:∀b,Grown F w.drew w1 b->o.ownBlock≠some b:=fun b hb e=>hb.elim (fun h=>(E6 b e).1.1 h) (fun h=>by have h1:w<=b:=h.1;have:=(E6.out b e).2;omega)
 refine dz _ _ _ _ _ _ _ _ _ _ _ _ _ _ _ v2 w2 ⟨⟨Grown F w.drew w1,?_,fun b hb=>hb.elim .inl (fun h=> .inr h.1),?_,?_⟩,?_⟩
 ·exact(YD.below ab).chg ae YE (fun e=>(E6 mm e).1.2 rfl)
 ·exact dJ.push (own_below am ab) aq (fun i k hk=>let⟨a,u,b,c⟩:=ar.out i k hk;⟨a,u,b,c.below ab⟩) al an bU (hh.below ab) (fun _ h=>h) aE
 ·exact fun b hb h=>BL (w:=w.drew) hb h (bU.imp id (fun e=>⟨_,by simp;omega,e⟩))
 ·exact(((ag.refl _ _).drew.trans kV (fun b _ h=> .inl h)).then ab).trans ae (fun b _ h=> .inr h)
theorem fB {e:TypeId} {n:Nat} {A:Option Addr} (h:w.ownsRow base e size (.slice A n c) n xs) (a:∀g,(Value.slice A n c).ownBlock=some g->D g):Rd w D size A n xs:=by
 refine⟨h.1,fun hn=> ?_⟩;obtain⟨g,cap,hv,b,d⟩:=h.form hn;have hA:A=some ⟨g,0,none⟩:=by injection hv
 subst hA;exact⟨g,0,rfl,a g rfl,fun j u f=>by have:=h.cells (g:=g) rfl j u f;rw [jr] at this;exact this⟩
def jk (most:Nat) (ks:List (Int×List UInt8)) (i:Nat):List (Int×List UInt8):=(ks.drop (i*most)).take most
def ID (most:Nat) (ks:List (Int×List UInt8)) (i:Nat):List UInt8:=((jk most ks i).getLastD (0,[])).2
def kr (most:Nat) (lev:Int) (ks:List (Int×List UInt8)) (d0 M i:Nat):aX:=(2,⟨lev,ID most ks i,if i+1<M then(d0:Int)+(i:Int)+1+1 else 0,(jk most ks i).dropLast.map Prod.snd,[],(jk most ks i).map Prod.fst⟩)
theorem P8 {s x:Nat} {G:Nat->Prop} (h:dQ w base ((us.drop (s*2)).take (x*2)) (x-1) x kv dv fE oN) (l:PZ w D us ks) (C:s+x<=ks.length)
  (g:∀b,base<=b->G b) (K:∀b,D b->G b):∃kA kc dA dc,kv= .slice kA (x-1) kc/\dv= .slice dA x dc/\Tx w G kA (x-1) kc (((ks.drop s).take x).dropLast.map Prod.snd)/\It w G dA x dc (((ks.drop s).take x).map Prod.fst):=by
 obtain⟨kA,kc,rfl,n,o⟩:=ax h.k;obtain⟨dA,dc,rfl,p,q⟩:=ax h.v;have hl:((ks.drop s).take x).length=x:=by rw [List.length_take,List.length_drop];omega
 have key:∀(i:Nat),i<x->∃e:Int×List UInt8,((ks.drop s).take x)[i]? =some e/\ks[s+i]? =some e:=by
  intro i hi;have:s+i<ks.length:=by omega
  exact⟨ks[s+i],by rw [List.getElem?_take,if_pos hi,List.getElem?_drop];exact mP this,mP this⟩
 have c:∀(i j:Nat),i<x->j<2->((us.drop (s*2)).take (x*2))[2*i+j]? =us[2*(s+i)+j]? :=by
  intro i j hi B;rw [List.getElem?_take,if_pos (by omega),List.getElem?_drop,show s*2+(2*i+j)=2*(s+i)+j by omega]
 refine⟨kA,kc,dA,dc,rfl,rfl,⟨n,o,aa (by rw [List.length_map,List.length_dropLast,hl]),fE,(Rd.of_own h.k).weak g,fun i t a=> ?_⟩,⟨p,q,aa (by rw [List.length_map,hl]),?_⟩⟩
 ·have hi:i<x-1:=by have:=(nE.1 a).1;rw [List.length_map,List.length_dropLast,hl] at this;exact this
  obtain⟨e,d,f⟩:=key i (by omega);rw [List.getElem?_map,List.getElem?_dropLast,if_pos (by rw [hl];exact hi),d] at a;injection a with a;subst a;obtain⟨_,u,y,z⟩:=l _ e f
  exact⟨u,by rw [h.ku i hi,c i 1 (by omega) (by omega)];exact y,z.weak K⟩
 ·have r:oN=(((ks.drop s).take x).map Prod.fst).map (Value.int .i64):=by
   apply List.ext_getElem?;intro i
   rcases Nat.lt_or_ge i x with hi|hi
   ·obtain⟨e,d,f⟩:=key i hi;have m:=c i 0 hi (by omega);rw [Nat.add_zero,Nat.add_zero] at m
    rw [h.vu i hi,m,(l _ e f).1,List.getElem?_map,List.getElem?_map,d];rfl
   ·have A:oN.length=x*1:=h.v.1;rw [List.getElem?_eq_none (by omega),List.getElem?_eq_none (by rw [List.length_map,List.length_map,hl];exact hi)]
  rw [<-r];exact(Rd.of_own h.v).weak g
theorem E9 (d:∀k∈ks,k.2.length<=1152921504606) (s m:Nat) (g:m<=1152921504606) (lev right:Int) (high:List UInt8) (c:high.length<=1152921504606):Small ⟨lev,high,right,((ks.drop s).take m).dropLast.map Prod.snd,[],((ks.drop s).take m).map Prod.fst⟩:=by
 have hl:((ks.drop s).take m).length<=m:=by rw [List.length_take];exact Nat.min_le_left _ _
 have a:∀e∈(ks.drop s).take m,e∈ks:=fun e b=>List.mem_of_mem_drop (List.mem_of_mem_take b)
 refine⟨c,?_,by simp,?_,fun t f=> ?_,by simp⟩
 ·show(((ks.drop s).take m).dropLast.map Prod.snd).length<=_;rw [List.length_map,List.length_dropLast];omega
 ·show(((ks.drop s).take m).map Prod.fst).length<=_;rw [List.length_map];omega
 ·obtain⟨e,b,rfl⟩:=List.mem_map.1 f;exact d e (a e (List.dropLast_subset _ b))
theorem MS {nodes:Int} (root:Int) {done:List aX} {A:Option Addr} {n:Nat} (most M:Nat) (lev:Int) (ao:fo w F p mm nodes root done) (hE:dJ w (Off F mm) base (.slice A n c) ks) (R:Hid (n=ks.length))
  (h1:1<=most) (h2:most<=1152921504606) (hn:n<=65536) (H:0<n) (an:∀k∈ks,k.2.length<=1152921504606) (hM:n<=M*most/\M*most<n+most) (bh:(done.length:Int)+(M:Int)<=nodes) (hn1:nodes<=65536):
  Calls prog 95 #[mm,.slice A n c,(most:Int),lev] w fun e w'=>∃q v,e= .returned v/\Lv w w' F q p mm nodes root done (kr most lev ks done.length M) (ID most ks) M v:=by
 have P:=aa ao;have HL:=R;obtain⟨us,L,J,MU⟩:=hE;have E:w.ownsRow base 200 2 (.slice A n c) n us:=by have:=L;rwa [<-R.out] at this
 have HR:Hid (Rd w (Off F mm) 2 A n us):=aa (fB E J);have HT:Hid (PZ w (Off F mm) us ks):=aa (fun i k hk=>let⟨a,u,b,c⟩:=MU i k hk;⟨a,u,b,c.weak (fun b l=>l.1)⟩);have ad:n<=c/\c<=maxLen:=by obtain⟨_,_,e,q1,q2⟩:=ax E;injection e with _ _ e;subst e;exact⟨q1,q2⟩
 have HS:=aa an;clear ao an L J MU E R;go_enter func95,ntmps95;go_wp2_with (go_at_call 146;refine(Fa c most HR ad.1 ad.2 h1 h2 (by omega)).mono ?_;rintro e w0 ⟨K,vals,A',m,c',gv,rfl,g1,g2,g3,g4,g5,g6,g7,g8,g9,Y⟩;obtain⟨r,cp,a6,bj,bk⟩:=g1.form (by omega);subst a6)
 have bm:0<m:=by rcases g6 with h|h;subst h;simp at g4;omega;exact h
 have aw:M=K+1:=by
  have a1:K*most<M*most:=by omega
  have a2:M*most<(K+2)*most:=by rw [Nat.add_mul];omega
  have a3:=Nat.lt_of_mul_lt_mul_right a1;have a4:=Nat.lt_of_mul_lt_mul_right a2;omega
 subst aw;have nX:∀b,Off F mm b->Rest F mm () b:=fun b h=>⟨h,by simp [Value.ownBlock]⟩;have H0:=aa (show oV w0 (Rest F mm ()) w 194 (.slice (some ⟨r,0,none⟩) (K+1) cp) us most K m vals A' c' from⟨g1,fun g z=>by have z:some r=some g:=z;injection z with z;subst z;exact nX _ ⟨fun h=>by have:=P.out.2.1 _ h;omega,by have:=P.out.2.2.1;omega⟩,g2,fun i hi=>let⟨B,d,a,b,e,f⟩:=g3 i hi;⟨B,d,a,b,e,f.weak nX⟩,g9.weak nX,g7,g8⟩);have HN:=aa g4;have HM:=aa g5;have N:=aa Y;have YF:K+1<=65536:=by omega
 clear g1 g2 g3 g4 g5 g6 g9 Y
 go_loopg [9,21] (K+1) (fun g' out i wr=>∃(k:Nat) (o:Value) (q:Nat->Prop),g'=K+1-k/\k<=K+1/\i= (k:Int)/\o=out/\Lv w wr F q p mm nodes root done (kr most lev ks done.length (K+1)) (ID most ks) k o/\oV wr (Rest q mm o) w 194 (.slice (some ⟨r,0,none⟩) (K+1) cp) us most K m vals A' c'/\PZ wr (Rest q mm o) us ks)
 case atStart=>exact⟨0,_,F,by omega,by omega,rfl,rfl,⟨by simpa using P.out.below N,dJ.nil _ _ _,ag.of_below N,fun b l=> .inl l⟩,H0,(HT.below N).next (ag.refl Nil _) (fun _ _ h=>h) (fun b _ h=>nX b h)⟩
 case round=>
  obtain⟨k,o,q,z,hk,rfl,rfl,ac,ab,ap⟩:=hrel;have HG:=aa z;have I:=aa ac;have YG:=aa ab;have Da:=aa ap;clear z ac ab ap
  rename World=>wq
  by_cases a7:k<K+1
  ·obtain⟨r',be,B,t,d,s,bp,bo,LB,aA,aE,a0,ae⟩:=YG.out.at_ a7;injection s with s _ YH;injection s with s
   injection s with s
   subst s;subst YH
   have vg:k*most+t<=ks.length/\(ks.drop (k*most)).take most=(ks.drop (k*most)).take t:=by
    have a1:=HL.out;have a2:=HN.out;have a3:=LB;have a5:=HM.out
    by_cases Q:k<K
    ·rw [if_pos Q] at a3;have a4:(k+1)*most<=K*most:=Nat.mul_le_mul_right _ Q;rw [Nat.add_mul] at a4
     exact⟨by omega,by rw [a3]⟩
    ·rw [if_neg Q] at a3;obtain rfl:k=K:=by omega
     exact⟨by omega,by rw [List.take_of_length_le (by rw [List.length_drop];omega),List.take_of_length_le (by rw [List.length_drop];omega)]⟩
   have IW:t<=1152921504606:=by have:=HL.out;omega
   have ba:0<t:=by rw [LB];split<;>omega
   have xW:=aa ae;have T:=aa vg;clear LB ae vg a0;have E6:Hid (∀g,o.ownBlock=some g->w<=g/\Off q mm g):=aa (by obtain⟨us,a,b,_⟩:=I.out.row;exact fun g z=>⟨(ah a g z).1,b g z⟩);have xu:=aa I.chg.size;have O:Hid ((done++(List.range k).map (kr most lev ks done.length (K+1))).length=done.length+k):=aa (by simp);obtain⟨b,o1,id,Ah,nh,ch,rfl,X,_,_,_,W,x,hx,_,sx⟩:=IR xW.out Da T.1 (j:=t-1) (by omega);have C2:=aa W;have HX:=aa hx;have SX:=aa sx;have a9:=aa X;clear W hx sx X;go_wp2;refine P4 (some ⟨b,o1,none⟩) d (k*most) IW aE (aa (fun _ _ _ _ h=>h)) rfl xW Da T.1 gV (ak.new _ _ _) ?_;intro bx bz bE bF bG bI bL bN bP bQ bT bU bX b0 b1 b2 b3 b4 b5 b6 b7 b8 b9 ca cb cd ce cf cg ci cj kv dv fE oN wz C am y;have je:=aa y;have Us:∀b,wq.heap.size<=b->Rest q mm o b:=fun b l=>⟨⟨fun h=>by have:=I.out.st.2.1 _ h;omega,by have:=I.out.st.2.2.1;omega⟩,fun e=>by obtain⟨us,a,_⟩:=I.out.row;have:=(ah a _ e).2;omega⟩;have aq:=aa Us;obtain⟨kA,kc,dA,dc,rfl,rfl,tk,tv⟩:=P8 (G:=fun b=>Off q mm b/\b≠wq.heap.size) am (Da.next (ag.of_below (S:=Nil) y) (fun _ _ h=>h) (D':=fun b=>Rest q mm o b/\b<wq.heap.size) (fun b l h=>⟨h,l⟩)) T.1 (fun b l=>⟨(Us b (by omega)).1,by omega⟩) (fun b l=>⟨l.1.1,by omega⟩);have iW:=aa C;have c2:=aj y C2.out;have Ut:ag (jX wq) wz (wz.setCell ⟨wq,1,none⟩ (.slice Ah nh ch)):=ag.set1 _ _ _ _;have PE:=aa ((tk.chg Ut (fun b l e=>l.2 e)).weak (G:=Off q mm) (fun b l=>l.1));have au:=aa ((tv.chg Ut (fun b l e=>l.2 e)).weak (G:=Off q mm) (fun b l=>l.1));have ar:=aa (((((SX.out.lt.below y)).chg Ut (fun b l e=>by have:=l.2;have e:b=wq.heap.size:=e;omega)).weak (G:=Rest q mm o) (fun b l=>l.1)).bt);have U:Hid (Below wq wq (wz.setCell ⟨wq,1,none⟩ (.slice Ah nh ch))):=aa (y.setCell (p:=⟨wq,1,none⟩) jO _);have IU:=aa (C.set_ 1 (.slice Ah nh ch));have q1:wz.cell? ⟨wq,1,none⟩=some (.slice none 0 0):=(C.cell 1).trans rfl;have qf:=C.frozen;have w1:=IntWalk.i64_in ((t:Int)-1) (by omega);have w2:(0:Int)<=(t:Int)-1:=by omega
   have w3:((t:Int)-1)<t:=by omega
   have w4:((t:Int)-1).toNat=t-1:=by omega
   have w8:(1:Int)<=(t:Int):=by omega
   have a8:x.2.length<=1152921504606:=HS.out _ (nT HX)
   have Z:Hid (x.2=ID most ks k):=aa (by
    unfold ID jk;rw [T.out.2,List.getLastD_eq_getLast?,List.getLast?_eq_getElem?,List.length_take,List.length_drop,Nat.min_eq_left (by have:=T.out.1;omega),List.getElem?_take,if_pos (by omega),List.getElem?_drop,HX.out];rfl)
   clear C am y tk tv Ut Us;go_wp2;refine x9 (done++(List.range k).map (kr most lev ks done.length (K+1))) ⟨lev,x.2,0,((ks.drop (k*most)).take t).dropLast.map Prod.snd,[],((ks.drop (k*most)).take t).map Prod.fst⟩ none (t-1) 0 0 (decide (k<K)) (wz.setCell ⟨wq,1,none⟩ (.slice Ah nh ch)) r (K+1) cp k (aa (fun _ _ _ _ h=>h)) (I.st.below U) (by have:=O.out;omega) hn1 (by simp;omega) (by have:=xu.out;have:=U.out.size;omega) IU (aq _ jO) ar PE (Tx.nil _ _) au (E9 HS _ _ IW _ _ _ a8) (I.row.below U) (by omega) YF (decide_eq_decide.2 (by omega)) (IntWalk.i64_in _ (by omega)) ?_;intro ck cl cn co cq cr ct cu cv cw cx cy cA cC cD o' w' D
   obtain⟨T9,XY,al⟩:=Db I U D (by
    have e1:=O.out;have e2:=Z.out;have e3:=T.out.2;simp only [kr,jk,e2,e3,e1,Nat.add_lt_add_iff_right,Int.natCast_add,decide_eq_true_eq]) (by have:=O.out;omega) Z.out (fun g z=>(E6 g z).1)
   have XZ:=aa D.chg;have Dc:=aa XY;have V:=aa al;clear D XY al;have qL:∀b,Rest q mm o b->¬((q b\/b=mm)\/o.ownBlock=some b):=fun b l h=>h.elim (fun h=>h.elim l.1.1 l.1.2) l.2;go_wp2
   go_roundg (K+1-(k+1))
   case measure=>have:=HG.out;omega
   case rel=>exact⟨k+1,o',T9,rfl,by omega,by go_num,rfl,Dc,(YG.below U).next XZ qL V,(Da.below U).next XZ qL V⟩
  ·obtain rfl:k=K+1:=by omega
   go_wp2;go_ret
   exact⟨q,_,rfl,I⟩
def bq (nd lf inn fl bl:Int):Prop:=1<=nd/\nd<=65536/\2<=lf/\lf<=64/\3<=inn/\inn<=64/\1<=fl/\fl<=lf/\1<=bl/\bl<=64
instance (nd lf inn fl bl:Int):Decidable (bq nd lf inn fl bl):=by unfold bq;infer_instance
def Oj (nd lf inn fl bl:Int):Int:=if bq nd lf inn fl bl then 0 else 1
theorem jH (h:bq nd lf inn fl bl):Oj nd lf inn fl bl=0:=by simp [Oj,h]
theorem pO (h:¬bq nd lf inn fl bl):Oj nd lf inn fl bl=1:=by simp [Oj,h]
def parts (n most:Int):Int:=if n=0 then 1 else if 0<n%most then n/most+1 else n/most
theorem Cy {most:Int} (hn:0<=n) (w:1<=most):max 1 (n/most+min 1 (n%most))=parts n most:=by
 have a:=Int.mul_ediv_add_emod n most;have d:=Int.emod_nonneg n (show most≠0 by omega);have e:0<=n/most:=Int.ediv_nonneg hn (by omega);unfold parts
 by_cases c:n=0
 ·subst c;simp;omega
 ·simp only [c,if_false]
  by_cases b:0<n%most
  ·simp only [b,if_true];omega
  ·simp only [b,if_false];have:n%most=0:=by omega
   have:n/most≠0:=by
    intro h;rw [h] at a;simp at a;omega
   omega
theorem nC {most:Int} (hn:0<=n) (w:1<=most):1<=parts n most:=by
 rw [<-Cy hn w];omega
theorem Su {most:Int} (hn:0<=n) (d:3<=most) (g:1<=b) (h:n<=3*b):parts n most<=b:=by
 have i:=Int.mul_ediv_add_emod n most;have e:=Int.emod_nonneg n (show most≠0 by omega);have c:0<=n/most:=Int.ediv_nonneg hn (by omega);have f:3*(n/most)<=most*(n/most):=Int.mul_le_mul_of_nonneg_right d c;unfold parts
 by_cases a:n=0
 ·simp [a];omega
 ·simp only [a,if_false];split<;>omega
theorem GY {most:Int} (hn:0<=n):parts n most<=n+1:=by
 have h:=Int.ediv_le_self most hn;unfold parts
 by_cases a:n=0
 ·simp [a]
 ·simp only [a,if_false];split<;>omega
theorem sF {q:Int} (b:0<=m) (c:1<=q):m/q+m%q<=m:=by
 have e:=Int.mul_ediv_add_emod m q;have a:0<=m/q:=Int.ediv_nonneg b (by omega);have d:1*(m/q)<=q*(m/q):=Int.mul_le_mul_of_nonneg_right c a;omega
theorem zk {most:Int} (hn:0<=n) (w:1<=most):parts n most<=max 1 n:=by
 have h:=sF hn w;have b:=Int.emod_nonneg n (show most≠0 by omega);unfold parts
 by_cases a:n=0
 ·simp [a];omega
 ·simp only [a,if_false];split<;>omega
def lv (nd inn:Int):Nat->Int->Int->Int×Int
 |0,_,_=>(0,2)
 |k+1,m,a=>if nd-a<m then(0,2) else if m=1 then(a+m,0) else lv nd inn k (parts m inn) (a+m)
theorem ja (h:nd-x<m):lv nd inn k m x=(0,2):=by
 cases k with
 |zero=>rfl
 |succ k=>simp [lv,h]
theorem Dk (h:¬nd-x<m) (a:m=1):lv nd inn (k+1) m x=(x+m,0):=by
 rw [lv,if_neg h,if_pos a]
theorem oG (h:¬nd-x<m) (a:¬m=1):lv nd inn (k+1) m x=lv nd inn k (parts m inn) (x+m):=by simp [lv,h,a]
def aT (nd lf inn fl bl n:Int):Int×Int:=
 if bq nd lf inn fl bl then(if n<0 then(0,1) else lv nd inn 32 (parts n fl) 0) else(0,1)
theorem fU (h:bq nd lf inn fl bl) (hn:¬n<0):aT nd lf inn fl bl n=lv nd inn 32 (parts n fl) 0:=by simp [aT,h,hn]
def DW (m:Int) (k:Nat):Prop:=m<=3^k\/k=31
theorem DY (m:Int):DW m 31:= .inr rfl
theorem GZ (hi:3<=inn) (d:0<=x) (b:nd<=65536) (g:1<=m) (c:¬m=1) (f:¬nd-x<m) (h:DW m k):
  ∃j,k=j+1/\DW (parts m inn) j:=by
 cases k with
 |zero=>rcases h with h|h<;>simp at h;omega
 |succ j=>
  refine⟨j,rfl,.inl (Su (by omega) hi ?_ ?_)⟩
  ·have:(0:Int)<3^j:=Int.pow_pos (by omega)
   omega
  ·rcases h with h|h
   ·have e:(3:Int)^(j+1)=3*3^j:=by rw [Int.pow_succ];omega
    omega
   ·have a:j=30:=by omega
    subst a;have e:(3:Int)^30=205891132094649:=by decide
    rw [e];omega
def pn (n most:Nat):Nat:=(parts (n:Int) (most:Int)).toNat
theorem ik (n most:Nat) (w:1<=most):((pn n most:Nat):Int)=parts (n:Int) (most:Int):=by
 have:=nC (n:=(n:Int)) (most:=(most:Int)) (by omega) (by omega);unfold pn;omega
theorem iU (n most:Nat) (w:1<=most) (hn:1<=n):n<=pn n most*most/\pn n most*most<n+most:=by
 have h:=ik n most w;have d:=Int.mul_ediv_add_emod (n:Int) (most:Int);have b:=Int.emod_nonneg (n:Int) (show(most:Int)≠0 by omega);have c:=Int.emod_lt_of_pos (n:Int) (show(0:Int)<(most:Int) by omega);have e:(((pn n most)*most:Nat):Int)=parts (n:Int) (most:Int)*(most:Int):=by rw [Int.natCast_mul,h]
 unfold parts at e;rw [if_neg (by omega)] at e
 by_cases a:0<(n:Int)%(most:Int)
 ·rw [if_pos a,Int.add_mul,Int.mul_comm ((n:Int)/(most:Int))] at e
  omega
 ·rw [if_neg a,Int.mul_comm ((n:Int)/(most:Int))] at e;omega
theorem oF (n most:Nat) (w:1<=most):1<=pn n most:=by
 have:=nC (n:=(n:Int)) (most:=(most:Int)) (by omega) (by omega);have h:=ik n most w;omega
abbrev Kd:=Int×List UInt8
def xG (d0 M:Nat) (hi:Nat->List UInt8):List Kd:=(List.range M).map fun(i:Nat)=>((d0:Int)+(i:Int)+1,hi i)
def IL (inn:Nat):Nat->Int->List aX->List Kd->List aX×List Kd
 |0,_,done,ks=>(done,ks)
 |f+1,lev,done,ks=>if 1<ks.length then IL inn f (lev+1) (done++(List.range (pn ks.length inn)).map (kr inn lev ks done.length (pn ks.length inn))) (xG done.length (pn ks.length inn) (ID inn ks)) else(done,ks)
theorem tY {inn f:Nat} {done:List aX} {ks:List Kd} (h:¬1<ks.length):IL inn f lev done ks=(done,ks):=by
 cases f with
 |zero=>rfl
 |succ f=>rw [IL,if_neg h]
def lz (fill:Nat) (l:List aR):List aX:=(List.range (pn l.length fill)).map (nu fill l (pn l.length fill))
def nP (fill:Nat) (l:List aR):List Kd:=xG 0 (pn l.length fill) (iX fill l)
def aY (fill inn:Nat) (l:List aR):List aX×Int:=
 if l= [] then([(0,Nd.zero)],1) else((IL inn 32 1 (lz fill l) (nP fill l)).1,((IL inn 32 1 (lz fill l) (nP fill l)).2.headD (0,[])).1)
theorem yx (fill inn:Nat):aY fill inn []=([(0,Nd.zero)],1):=by simp [aY]
theorem p8 {inn:Nat} {l:List aR} (h:l≠ []):aY fill inn l=((IL inn 32 1 (lz fill l) (nP fill l)).1,((IL inn 32 1 (lz fill l) (nP fill l)).2.headD (0,[])).1):=by rw [aY,if_neg h]
theorem tZ (d0 M:Nat) (hi:Nat->List UInt8):(xG d0 M hi).length=M:=by simp [xG]
def wK (done:List aX) (ks:List Kd):Prop:=ks.length<=done.length/\1<=ks.length/\∀k∈ks,1<=k.1/\k.1<=(done.length:Int)/\k.2.length<=1152921504606
theorem MQ {done:List aX} {f:Nat->aX} {hi:Nat->List UInt8} (b:1<=M) (h:∀i,(hi i).length<=1152921504606):wK (done++(List.range M).map f) (xG done.length M hi):=by
 refine⟨by simp [xG],by simpa [xG] using b,fun k a=> ?_⟩;simp only [xG,List.mem_map,List.mem_range] at a;obtain⟨i,c,rfl⟩:=a;simp only [mq,List.length_map,List.length_range];exact⟨by omega,by omega,h i⟩
theorem Pz {inn:Nat} {ks:List Kd} (h:∀k∈ks,k.2.length<=1152921504606) (i:Nat):(ID inn ks i).length<=1152921504606:=by
 unfold ID jk
 rcases List.eq_nil_or_concat ((ks.drop (i*inn)).take inn) with e|⟨L,b,e⟩
 ·rw [e];simp
 ·rw [e];have:b∈(ks.drop (i*inn)).take inn:=by rw [e];simp
  have a:=h b (List.mem_of_mem_drop (List.mem_of_mem_take this));simpa using a
theorem zG {l:List aR} (h:∀e∈l,e.1.length<=1152921504606) (i:Nat):(iX fill l i).length<=1152921504606:=by
 unfold iX
 split
 ·rename_i hi;refine ma (GK _ _) ?_;rw [List.getD_eq_getElem?_getD,mP hi]
  exact h _ (List.getElem_mem hi)
 ·simp
def BK (nd:Int) (inn:Nat) (k:Nat) (done:List aX) (ks:List Kd):Prop:=ks.length=1\/(lv nd inn k (ks.length:Int) ((done.length:Int)-(ks.length:Int))).2=0
theorem BK.one {inn:Nat} {done:List aX} {ks:List Kd} (h:BK nd inn 0 done ks):ks.length=1:=h.elim id (fun h=>by simp [lv] at h)
theorem BK.step {inn:Nat} {done:List aX} {ks:List Kd} (hi:1<=inn) (h:BK nd inn (k+1) done ks) (d:1<ks.length) {f:Nat->aX} {g:Nat->List UInt8}:
  ((done.length:Int)+((pn ks.length inn:Nat):Int)<=nd\/pn ks.length inn=0)/\BK nd inn k (done++(List.range (pn ks.length inn)).map f) (xG done.length (pn ks.length inn) g):=by
 rcases h with h|h
 ·omega
 ·have c:=ik ks.length inn hi
  by_cases b:nd-((done.length:Int)-(ks.length:Int))<(ks.length:Int)
  ·rw [ja b] at h;simp at h
  ·rw [oG b (by omega)] at h;rw [show(done.length:Int)-(ks.length:Int)+(ks.length:Int)=(done.length:Int) by omega,<-c] at h
   refine⟨?_,.inr ?_⟩
   ·by_cases a:nd-(done.length:Int)<((pn ks.length inn:Nat):Int)
    ·rw [ja a] at h;simp at h
    ·exact .inl (by omega)
   ·rw [tZ,mq,List.length_map,List.length_range];rw [show(((done.length+pn ks.length inn:Nat):Int))-((pn ks.length inn:Nat):Int)=(done.length:Int) by omega];exact h
end Go.Proofs.YtepgcjbhabnciaaGreat
