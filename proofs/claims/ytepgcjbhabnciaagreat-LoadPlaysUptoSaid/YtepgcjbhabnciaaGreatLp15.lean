/- Part 15. -/
import Derived.Test.YtepgcjbhabnciaaGreatLp14
import Derived.Defers
import Derived.Recover
namespace Go.Proofs.YtepgcjbhabnciaaGreat
set_option maxRecDepth 100000
set_option maxHeartbeats 8000000
open Go.Proofs.Tryz Go.RowKit
open Go.Lib (compareBytes)
variable {q hn hc kn kc vn vc o bn bc dn dc p mm base gl:Nat} {hA kA vA bA dA:Option Addr} {w w':World} {F S:Nat->Prop} {b:List UInt8}
theorem E5:(prog.info? 200).map (fun i=>(i.zero,i.size,i.bytes))=some (some (.agg #[.int .i64 0,()]),2,32):=by kernel_rfl
theorem Rd.two (w:World) (u v:Value) (t:TypeId):Rd (w.alloc (.cells #[u,v] t)) (From w) 2 (some ⟨w,0,none⟩) 1 [u,v]:=
 ⟨rfl,fun _=>⟨w,0,rfl,jO,fun j x a=>by
  rw [(ak.new w t #[u,v]).cell]
  match j,a with
  |0,a=>simpa using a
  |1,a=>simpa using a⟩⟩
def P6 (q:Nat) (lev:Int) (hA:Option Addr) (hn hc:Nat) (right:Int) (kA:Option Addr) (kn kc:Nat) (vA:Option Addr) (vn vc:Nat) (dA:Option Addr) (dn dc:Nat) (w:World):Prop:=
 w.cell? q=some (.int .i64 lev)/\w.cell? ⟨q,1,none⟩=some (.slice hA hn hc)/\w.cell? ⟨q,2,none⟩=some (.int .i64 right)/\w.cell? ⟨q,3,none⟩=some (.slice kA kn kc)/\w.cell? ⟨q,4,none⟩=some (.slice vA vn vc)/\w.cell? ⟨q,5,none⟩=some (.slice dA dn dc)
theorem P6.chg {lev right:Int} (h:P6 q lev hA hn hc right kA kn kc vA vn vc dA dn dc w) (a:ag S w w') (b:¬S q):P6 q lev hA hn hc right kA kn kc vA vn vc dA dn dc w':=
 ⟨a.cell b h.1,a.cell b h.2.1,a.cell b h.2.2.1,a.cell b h.2.2.2.1,a.cell b h.2.2.2.2.1,a.cell b h.2.2.2.2.2⟩
structure Put (w w':World) (F:Nat->Prop) (p mm:Nat) (nodes root:Int) (ap9:List aX) (base:Nat) (o o':Value) (ks':List (Int×List UInt8)):Prop where
 st:∃F',fo w' F' p mm nodes root ap9/\(∀b,F' b->F b\/w<=b)/\dJ w' (Off F' mm) base o' ks'/\∀b,b<w.heap.size->Rest F mm o b->Rest F' mm o' b
 chg:ag (fun b=>(F b\/b=mm)\/o.ownBlock=some b) w w'
noncomputable def ZP:Code:=aQ (f94.body.bind (aF 16))
theorem Yc {nodes root:Int} (done:List aX) (nd:Nd) (dA:Option Addr) (dn dc:Nat) (more:Bool) {o:Value} {ks:List (Int×List UInt8)} {u1 y B J s u6 u8 u9 L O W U G f C I M P V d u24 z D m r u29 j u31 u32 u33 u34 u35 u36 u37 u38 N u40 R u42 X u44 u45 u46 v u48 u49 H u51 A u53 dR u55 dY dZ u58 u59 u60 fw fJ u63 u64 gm u66 l u68 u69 u70 T u72 u73 iN u75 iV jY jZ Z kg E kP kQ kR ko kU ng mI x:Value} {Q:Exit->Act->World->Prop} (kF:Hid (∀c t (a:Act) w,Q (.panic c) ⟨t,a.defers⟩ w->Q (.panic c) a w))
  (ac:fo w F p mm nodes root done) (hf:(done.length:Int)<nodes) (hn1:nodes<=65536) (an:ks.length<=65536) (hbase:base<=w)
  (hq:ak w q 132 #[(nd.lev:Int),.slice hA hn hc,(nd.right:Int),.slice kA kn kc,.slice vA vn vc,.slice dA dn dc]) (Us:Rest F mm o q)
  (h1:Bt w (Rest F mm o) hA hn hc nd.high) (h2:Tx w (Off F mm) kA kn kc nd.keys) (h3:Tx w (Off F mm) vA vn vc nd.vals) (h4:It w (Off F mm) dA dn dc nd.kids) (n:Small nd)
  (ab:dJ w (Off F mm) base o ks)
  (au:∀(aE a0 a1 a2 a3 a4 a5 a6 a7 a8 a9:Value) (o':Value) (w':World),Put w w' F p mm nodes root (done++ [(2,⟨nd.lev,nd.high,if more then(done.length:Int)+1+1 else nd.right,nd.keys,nd.vals,nd.kids⟩)]) base o o' (ks++ [((done.length:Int)+1,nd.high)])->Q .normal ⟨(.pointer (some ⟨mm,0,none⟩)::u1::y::B::J::s::u6::o'::u8::u9::L:: .pointer (some ⟨q,0,none⟩)::O::W:: .bool more::U::G::f::C::I::M::P::V::d::u24::z::D::m::r::u29::j::u31::u32::u33::u34::u35::u36::u37::u38::N::u40::R::u42::X::u44::u45::u46::v::u48::u49::H::u51::A::u53::dR::u55::dY::dZ::u58::u59::u60::fw::fJ::u63::u64::gm::u66::l::u68::u69::u70::T::u72::u73::iN::u75::iV::aE::a0::a1::a2::a3::a4::a5::a6::a7::a8::a9::mI::x:: []).toArray,[]⟩ w'):
  Code.wp prog ZP Q ⟨(.pointer (some ⟨mm,0,none⟩)::u1::y::B::J::s::u6::o::u8::u9::L:: .pointer (some ⟨q,0,none⟩)::O::W:: .bool more::U::G::f::C::I::M::P::V::d::u24::z::D::m::r::u29::j::u31::u32::u33::u34::u35::u36::u37::u38::N::u40::R::u42::X::u44::u45::u46::v::u48::u49::H::u51::A::u53::dR::u55::dY::dZ::u58::u59::u60::fw::fJ::u63::u64::gm::u66::l::u68::u69::u70::T::u72::u73::iN::u75::iV::jY::jZ::Z::kg::E::kP::kQ::kR::ko::kU::ng::mI::x:: []).toArray,[]⟩ w:=by
 obtain⟨i0,aw,iC,iD,iE⟩:=info_parts E5;have S0:P6 q nd.lev hA hn hc nd.right kA kn kc vA vn vc dA dn dc w.drew:=⟨by rw [hq.drew.cell];rfl,by rw [hq.drew.cell];rfl,by rw [hq.drew.cell];rfl,by rw [hq.drew.cell];rfl,by rw [hq.drew.cell];rfl,by rw [hq.drew.cell];rfl⟩;have HQ:=aa Us;have ql:=hq.lt;have dz:=aa au;have ar:=aa (ac.below mh.drew);have H1:=aa h1;have H2:=aa (h2.below mh.drew);have H3:=aa (h3.below mh.drew);have H4:=aa (h4.below mh.drew);have HS:=aa n;have HR:=aa (ab.below mh.drew);have HK:=aa an;have HB:=aa hbase;have jE:=aa ac.2.1;have TZ:=ac.2.2.1;have E6:Hid (∀g,o.ownBlock=some g->Off F mm g/\g<w):=aa (by obtain⟨us,a,b,_⟩:=ab;exact fun g hg=>⟨b g hg,(ah a g hg).2⟩);clear hq Us au ac h1 h2 h3 h4 n ab an hbase;conv=>arg 2;whnf
 refine aO (S:=P6 q nd.lev hA hn hc nd.right kA kn kc vA vn vc dA dn dc) (by kernel_rfl) ?_;refine vT 0 S0 ?_;refine vT 1 S0 ?_;refine vT 3 S0 ?_;refine vT 5 S0 ?_;refine vT 6 S0 ?_;refine vT 2 S0 ?_;refine vT 7 S0 ?_;refine nZ 4 fun K hK=> ?_;go_simp;refine(LA more ar hf hn1 (H1.below mh.drew|>.weak (fun b hb=>hb.1)) H2 H3 H4 HS).mono ?_;rintro e w1 ⟨rfl,ao,P7⟩;have S1:=S0.chg P7 (fun h=>h.elim HQ.1.1 HQ.1.2);have YD:=aa ao;have kV:=aa P7;have ba:w.heap.size<=w1:=P7.size;obtain⟨us,r1,r2,r3⟩:=HR.out.off_next P7;have al:=aa r1;have ap:=aa r2;have aq:=aa r3;clear ao r1 r2 r3 P7;refine hK.out _ _ S1 ?_;clear hK K;try simp only [aL,aN,aZ,aC]
 refine vT 8 S1 ?_;refine nZ 9 fun K hK=> ?_;go_simp;have Y:Below w1 w1 (w1.alloc (.cells #[.int .i64 ((done.length:Int)+1),.slice hA hn hc] 200)):=gV;have S2:=S1.chg (S:=Nil) (ag.of_below Y) (fun hf=>hf);refine hK.out _ _ S2 ?_;clear hK K;try simp only [aL,aN,aZ,aC]
 refine nZ 10 fun K hK=> ?_;refine aG _ rfl (.tmp 77) (.tmp 86) _ rfl base 200 i0 _ 2 32 underlying194 aw iC iD iE rfl (by omega) o ks.length us rfl (own_below al Y) (From w1) (some ⟨w1,0,none⟩) 1 1 [.int .i64 ((done.length:Int)+1),.slice hA hn hc] rfl (Rd.two w1 _ _ _) (by intro u hu;simp at hu;rcases hu with hu|hu<;>subst hu<;>rfl) (by simp only [maxLen];have:=HK.out;omega) (by have:=HK.out;omega) (by have:=HB.out;simp;omega) ?_;intro v2 w2 ae am bU;have ad:=(ag.refl (fun b=>o.ownBlock=some b) _).grown am (fun k hk _=>hk);have S3:=S2.chg ad (fun e=>HQ.2 e);refine rT hK S3 ?_;clear hK K;refine vT 11 S3 ?_;refine bf (by kernel_rfl) ?_ _;have aA:Off (Grown F w.drew w1) mm (w1.alloc (.cells #[.int .i64 ((done.length:Int)+1),.slice hA hn hc] 200)).heap.size:=⟨fun h=>h.elim (fun h=>by have:=jE.out _ h;simp at this;omega) (fun h=>by have:=h.2;rw [World.size_alloc] at this;omega),by simp;omega⟩;have hh:SB w1 (fun b=>Off (Grown F w.drew w1) mm b/\o.ownBlock≠some b) (.slice hA hn hc) nd.high:=SB.weak ((H1.lt.below mh.drew).chg kV (fun b hb h=>h.elim hb.1.1.1 hb.1.1.2)).sb (fun b hb=>⟨off_next (w:=w.drew) hb.2 hb.1.1,hb.1.2⟩);have YE:∀b,Grown F w.drew w1 b->o.ownBlock≠some b:=fun b hb e=>hb.elim (fun h=>(E6 b e).1.1 h) (fun h=>by have h1:w<=b:=h.1;have:=(E6.out b e).2;omega)
 refine dz _ _ _ _ _ _ _ _ _ _ _ v2 w2 ⟨⟨Grown F w.drew w1,?_,fun b hb=>hb.elim .inl (fun h=> .inr h.1),?_,?_⟩,?_⟩
 ·exact(YD.below Y).chg ad YE (fun e=>(E6 mm e).1.2 rfl)
 ·exact dJ.push (own_below al Y) ap (fun i k hk=>let⟨a,u,b,c⟩:=aq.out i k hk;⟨a,u,b,c.below Y⟩) ae am bU (hh.below Y) (fun _ h=>h) aA
 ·exact fun b hb h=>BL (w:=w.drew) hb h (bU.imp id (fun e=>⟨_,by simp;omega,e⟩))
 ·exact(((ag.refl _ _).drew.trans kV (fun b _ h=> .inl h)).then Y).trans ad (fun b _ h=> .inr h)
section
theorem SB.next3 {S D D':Nat->Prop} {w w':World} {v:Value} {bs:List UInt8} (h:SB w D v bs) (hc:ag S w w') (d:∀b,b<w.heap.size->D b->¬S b) (c:∀b,b<w.heap.size->D b->D' b):SB w' D' v bs:=
 (h.lt.chg hc (fun b a=>d b a.2 a.1)).weak (fun b a=>c b a.2 a.1)
structure Ja (w:World) (base q:Nat) (rv out:Value) (us:List Value) (l:List aR):Prop where
 own:w.ownsRow base 69 2 out l.length us
 ne:∀g,out.ownBlock=some g->g≠q/\rv.ownBlock≠some g
 at_:∀(i:Nat) (e:aR),l[i]? =some e->∃u v,us[2*i]? =some u/\us[2*i+1]? =some v/\SB w (fun g=>base<=g/\g≠q/\rv.ownBlock≠some g/\out.ownBlock≠some g) u e.1/\SB w (fun g=>base<=g/\g≠q/\rv.ownBlock≠some g/\out.ownBlock≠some g) v e.2
section
variable {S:Nat->Prop} {w w':World} {base q:Nat} {rv rv' out:Value} {us:List Value} {l:List aR}
theorem Ja.nil (w:World) (base q:Nat) (rv:Value):Ja w base q rv () [] []:=⟨World.ownsRow_nil _ _ _ _,fun g a=>by simp [Value.ownBlock] at a,fun i e h=>by simp at h⟩
theorem Ja.step (h:Ja w base q rv out us l) (hc:ag (fun g=>g=q\/rv.ownBlock=some g) w w') (j:∀g,rv'.ownBlock=some g->rv.ownBlock=some g\/w<=g):Ja w' base q rv' out us l:=by
 have d:∀g,g<w.heap.size->rv.ownBlock≠some g->rv'.ownBlock≠some g:=fun g c hn e=>by
  rcases j g e with h|h
  ·exact hn h
  ·omega
 refine⟨aB h.own hc (fun g c e=>by rcases e with e|e;exact(h.ne g c).1 e;exact(h.ne g c).2 e),fun g c=>⟨(h.ne g c).1,d g (ah h.own g c).2 (h.ne g c).2⟩,fun i e f=> ?_⟩;obtain⟨u,v,a,b,k,m⟩:=h.at_ i e f;exact⟨u,v,a,b,k.next3 hc (fun g _ c e=>by rcases e with e|e;exact c.2.1 e;exact c.2.2.1 e) (fun g hl c=>⟨c.1,c.2.1,d g hl c.2.2.1,c.2.2.2⟩),m.next3 hc (fun g _ c e=>by rcases e with e|e;exact c.2.1 e;exact c.2.2.1 e) (fun g hl c=>⟨c.1,c.2.1,d g hl c.2.2.1,c.2.2.2⟩)⟩
theorem Ja.chg (h:Ja w base q rv out us l) (hc:ag S w w') (d:∀g,base<=g->g<w.heap.size->¬S g):Ja w' base q rv out us l:=
 ⟨aB h.own hc (fun g c=>d g (ah h.own g c).1 (ah h.own g c).2),h.ne,fun i e f=>let⟨u,v,a,b,j,k⟩:=h.at_ i e f;⟨u,v,a,b,j.next3 hc (fun g hl c=>d g c.1 hl) (fun _ _ h=>h),k.next3 hc (fun g hl c=>d g c.1 hl) (fun _ _ h=>h)⟩⟩
theorem Ja.push {v2 u v:Value} {e:aR} (h:Ja w base q rv out us l) (C:q<w) (o:∀g,rv.ownBlock=some g->g<w) (t:w'.ownsRow base 69 2 v2 (l.length+1) (us++ [u,v])) (s:w.grownBy w' out.ownBlock) (f:v2.ownBlock=out.ownBlock\/v2.ownBlock=some w)
  (z:SB w (fun g=>base<=g/\g≠q/\rv.ownBlock≠some g/\out.ownBlock≠some g) u e.1) (hv:SB w (fun g=>base<=g/\g≠q/\rv.ownBlock≠some g/\out.ownBlock≠some g) v e.2):Ja w' base q rv v2 (us++ [u,v]) (l++ [e]):=by
 have hl:us.length=l.length*2:=h.own.1
 have key:∀g,g<w.heap.size->(base<=g/\g≠q/\rv.ownBlock≠some g/\out.ownBlock≠some g)->(base<=g/\g≠q/\rv.ownBlock≠some g/\v2.ownBlock≠some g):=fun g p d=>⟨d.1,d.2.1,d.2.2.1,fun e=>by
  rcases f with h|h
  ·exact d.2.2.2 (h▸e)
  ·rw [h] at e;injection e with e;omega⟩
 have j:∀{x:Value} {bs:List UInt8},SB w (fun g=>base<=g/\g≠q/\rv.ownBlock≠some g/\out.ownBlock≠some g) x bs->SB w' (fun g=>base<=g/\g≠q/\rv.ownBlock≠some g/\v2.ownBlock≠some g) x bs:=fun d=>d.next3 (ag.of_grown s) (fun b _ p e=>p.2.2.2 e) key
 refine⟨by rw [mq];exact t,fun g c=> ?_,fun i c hi=> ?_⟩
 ·rcases f with k|k
  ·exact h.ne g (k▸c)
  ·rw [k] at c;injection c with c;exact⟨by omega,fun r=>by have:=o g r;omega⟩
 ·rcases Nat.lt_or_ge i l.length with m|m
  ·rw [qK m] at hi;obtain⟨x,y,a,b,A,B⟩:=h.at_ i c hi
   exact⟨x,y,by rw [qK (by omega)];exact a,by rw [qK (by omega)];exact b,j A,j B⟩
  ·rw [q9 m] at hi;have n:i=l.length:=by have:=(nE.1 hi).1;simp at this;omega
   subst n;simp at hi;subst hi
   refine⟨u,v,?_,?_,j z,j hv⟩
   ·rw [q9 (by omega),show 2*l.length-us.length=0 by omega];rfl
   ·rw [q9 (by omega),show 2*l.length+1-us.length=1 by omega];rfl
theorem Ja.ents {A:Option Addr} {n c:Nat} (h:Ja w base q rv (.slice A n c) us l) (hn:n=l.length):dh w (From base) A n l:=by
 subst hn;exact⟨aa rfl,us,Rd.of_own h.own,fun i e f=>let⟨u,v,a,b,g,j⟩:=h.at_ i e f;⟨u,v,a,b,g.weak (fun _ d=>d.1),j.weak (fun _ d=>d.1)⟩⟩
end
noncomputable def tq:Code:=aQ (f172.body.bind (aF 2))
theorem LM (o:Nat) {gl q:Nat} {ov:Value} (R:Ending->World->Prop) {ch:List PanicEntry} {w:World} {B J s u Y u8 r L E O W Z U G f C I M:Value} {Q:Exit->Act->World->Prop} (kF:Hid (∀c t (a:Act) w,Q (.panic c) ⟨t,a.defers⟩ w->Q (.panic c) a w))
  (i:Hid (ak w gl 58 #[ov])) (j:Hid (∀k,Calls prog 174 #[q] (w.drewN k) R)) (h:Hid (∀e w',R e w'->e= .panicked ch))
  (d:∀t (w':World),R (.panicked ch) w'->Q (.panic ch) ⟨t,[]⟩ w'):
  Code.wp prog tq Q ⟨(.pointer (some ⟨o,0,none⟩):: .pointer (some ⟨gl,0,none⟩):: .pointer (some ⟨q,0,none⟩)::B::J::s::u::Y::u8::r::L::E::O::W::Z::U::G::f::C::I::M:: []).toArray,[]⟩ w:=by
 have l:=aa d;have b:w.drew.cell? gl=some ov:=i.out.cell 0;clear d;conv=>arg 2;whnf
 refine aM (fun w'=>w'.cell? gl=some ov) 5 (by kernel_rfl) ?_;refine uF 1 (fun _=>b) ?_;refine uT 0 b ?_;refine mR 2 fun K m=> ?_;go_simp;refine(j 1).mono ?_;intro e w2 g;obtain rfl:=h.out e w2 g;exact l _ w2 g
theorem YO (o:Nat) {gl q base m oc:Nat} {oA:Option Addr} {us:List Value} (R:Ending->World->Prop) (X:Option Addr->Nat->Nat->Option Addr->Nat->Nat->World->Prop) {w:World} {B u4 s u6 Y u8 r L E O W Z U G f C I M:Value} {Q:Exit->Act->World->Prop} (kF:Hid (∀c t (a:Act) w,Q (.panic c) ⟨t,a.defers⟩ w->Q (.panic c) a w))
  (HL:Hid (ak w gl 58 #[.slice oA m oc])) (HN:Hid (∀k,Calls prog 174 #[q] (w.drewN k) R)) (EO:Hid (∀e w',R e w'->∃K kn kc V vn vc,e= .returned (.agg #[.slice K kn kc,.slice V vn vc])/\X K kn kc V vn vc w'))
  (HX:Hid (∀K kn kc V vn vc w',X K kn kc V vn vc w'->w'.ownsRow base 69 2 (.slice oA m oc) m us/\ak w' gl 58 #[.slice oA m oc]/\base<=w'/\(Value.slice oA m oc).ownBlock≠some gl)) (hm:m<=64)
  (au:∀(A D F H N:Value) (K:Option Addr) (kn kc:Nat) (V:Option Addr) (vn vc:Nat) (x:Value) (w2 wa P:World),X K kn kc V vn vc w2->Below w2 w2 wa->P.ownsRow base 69 2 x (m+1) (us++ [.slice K kn kc,.slice V vn vc])->wa.grownBy P (Value.slice oA m oc).ownBlock->(x.ownBlock=(Value.slice oA m oc).ownBlock\/x.ownBlock=some wa)->Q .normal ⟨(.pointer (some ⟨o,0,none⟩):: .pointer (some ⟨gl,0,none⟩):: .pointer (some ⟨q,0,none⟩)::B::u4::s::u6::Y::u8::r::L::E::O::W::A::D::F::H::N::I::M:: []).toArray,[]⟩ (P.setCell gl x)):
  Code.wp prog tq Q ⟨(.pointer (some ⟨o,0,none⟩):: .pointer (some ⟨gl,0,none⟩):: .pointer (some ⟨q,0,none⟩)::B::u4::s::u6::Y::u8::r::L::E::O::W::Z::U::G::f::C::I::M:: []).toArray,[]⟩ w:=by
 obtain⟨i0,p,iC,iD,iE⟩:=info_parts kW;have dz:=aa au;have T:w.drew.cell? gl=some (.slice oA m oc):=HL.out.cell 0;clear au;conv=>arg 2;whnf
 refine aM (fun w'=>w'.cell? gl=some (.slice oA m oc)) 5 (by kernel_rfl) ?_;refine uF 1 (fun _=>T) ?_;refine uT 0 T ?_;refine mR 2 fun K b=> ?_;go_simp;refine(HN 1).mono ?_;intro e w2 hR;obtain⟨J,kn,kc,V,vn,vc,rfl,y⟩:=EO.out e w2 hR;obtain⟨o1,z,o3,o4⟩:=HX.out _ _ _ _ _ _ _ y;have UA:=aa y;have mD:=aa o1;have iG:=aa z;have S1:w2.cell? gl=some (.slice oA m oc):=z.cell 0;clear hR y o1 z;refine b.out _ _ (fun _=>S1) ?_;clear b K;try simp only [aL,aN,aZ,aC]
 refine mR 3 fun K b=> ?_;go_simp;have j:Below w2 w2 (w2.alloc (.cells #[.slice J kn kc,.slice V vn vc] 69)):=gV;have d:=aa j;have S3:(w2.alloc (.cells #[.slice J kn kc,.slice V vn vc] 69)).cell? gl=some (.slice oA m oc):=aj j S1;refine b.out _ _ (fun _=>S3) ?_;clear b K;try simp only [aL,aN,aZ,aC]
 refine mR 4 fun K b=> ?_;refine aG _ rfl (.tmp 14) (.tmp 17) _ rfl base 69 i0 _ 2 48 underlying58 p iC iD iE rfl (by omega) (.slice oA m oc) m us rfl (own_below mD d) (From w2) (some ⟨w2,0,none⟩) 1 1 [.slice J kn kc,.slice V vn vc] rfl (Rd.two w2 _ _ _) (by intro u l;simp at l;rcases l with l|l<;>subst l<;>rfl) (by simp only [maxLen];omega) (by omega) (ma o3 d.size) ?_;intro x S n g gp;obtain⟨K4,IE,v,_,_⟩:=ax n;subst v;have jM:=aa n;have IX:=aa g;have Af:=aa gp;have xO:S.cell? gl=some (.slice oA m oc):=(ag.of_grown g).cell o4 S3;have YK:S.frozen? gl=false:=((iG.below d).chg (ag.of_grown g) o4).frozen 0;clear n g gp;refine rR b (fun _=>xO) ?_;clear b K;refine az (i:=5) (by kernel_rfl) rfl (fun K b=> ?_);go_simp;refine b.out _ _ (fun h=>absurd h (by decide)) ?_;clear b K;try simp only [aL,aN,aZ,aC]
 refine bH (by kernel_rfl) ?_ _;exact dz _ _ _ _ _ _ _ _ _ _ _ _ w2 _ S UA d jM IX Af
end
theorem FD {B:M6} (a:(ai b 0).2.2=0) (d:1<=(ai b 0).1) (e:(ai b 0).1<=64) (c:bO b (ai b 0).1 [] [] (ai b 0).2.1=B):
  aH b=if B.err≠0 then([],B.err,B.place) else if stand b ((eighth B.ats).flatMap two) B.at_<((eighth B.ats).flatMap two).length then([],62,B.at_+stand b ((eighth B.ats).flatMap two) B.at_) else if B.at_+((eighth B.ats).flatMap two).length<b.length then([],63,B.at_+((eighth B.ats).flatMap two).length) else(B.ents,0,0):=by
 unfold aH;rw [if_neg (fun h=>h a),if_neg (by omega),c]
theorem yn (b:List UInt8) (m:Nat) (l:List aR) (ats:List Nat) (p:Nat):bO b (m+1) l ats p=if(pread (aS l) b p).err≠0 then⟨l,ats,p,(pread (aS l) b p).err,(pread (aS l) b p).next⟩
  else if 0<l.length/\0<=compareBytes (aD l) (pread (aS l) b p).key then⟨l,ats,p,51,p⟩
  else bO b m (l++ [((pread (aS l) b p).key,(pread (aS l) b p).val)]) (ats++ [p]) (pread (aS l) b p).next:=rfl
theorem tC (b:List UInt8):∀(a:List UInt8) (p:Nat),stand b a p<=a.length
 | [],_=>jO
 |c::r,p=>by
  unfold stand;have:=tC b r (p+1);split<;>simp<;>omega
structure yo (gl:Nat) (b:List UInt8) (w:World) (e:Ending) (w':World):Prop where
 chg:ag (fun g=>g=gl) w w'
 bad:(aH b).2.1≠0->e= .panicked (gI (aH b).2.1 (aH b).2.2)
 ok:(aH b).2.1=0->e= .returned (.tuple #[])/\∃A n c,ak w' gl 58 #[.slice A n c]/\n<=c/\c<=maxLen/\dh w' (From w) A n (aH b).1
structure Lp (gl q:Nat) (bA:Option Addr) (bn bc x p0:Nat) (b:List UInt8) (w0:World) (l:List aR) (ats:List Nat) (p:Nat) (lv rv out:Value) (us:List Value) (w:World):Prop where
 br:BR w w0 q bA bn bc x l ats p lv rv
 er:Ja w w0 q rv out us l
 lva:SB w (fun g=>w0<=g/\rv.ownBlock≠some g/\g≠q/\out.ownBlock≠some g) lv (aD l)
 box:ak w gl 58 #[out]
 chg:ag (fun g=>g=gl) w0 w
 rise:bY l
 alen:ats.length=l.length
 ple:p<=bn
 llx:l.length<=x
 eq:bO b x [] [] p0=bO b (x-l.length) l ats p
 aple:∀a∈ats,a<=bn
theorem Dl (gl:Nat) (i:ak w o 24 #[.slice bA bn bc]) (_h:Rd w F 1 bA bn (aI b)) (_hn:bn=b.length) (_n:bn<=1152921504606) (c:Int) (g:Nat) (k:aH b=([],c,g)) (d:c≠0)
  (j:Calls prog 173 #[.slice bA bn bc] w fun e w'=>e= .panicked (gI c g)/\Below w w w'):
  Calls prog 172 #[o,gl] w (yo gl b w):=by
 refine letter fun R m=> ?_;have l:=aa j;have f:=aa k;have q:w.cell? o=some (.slice bA bn bc):=i.cell 0;clear i _h _hn j k;go_enter func172,ntmps172;go_wp2_with (go_at_call 173;go_loud (refine l.mono ?_);rintro e w2 ⟨rfl,a⟩;have p:=aa a;clear a)
 refine⟨rfl,?_⟩;rw [m.out]
 refine⟨ag.of_below p,fun _=> ?_,fun _h=> ?_⟩
 ·rw [f.out]
 ·rw [f.out] at _h;exact absurd _h d
theorem YP (hB:ak w o 24 #[.slice bA bn bc]) (hL:ak w gl 58 #[()]) (h:Rd w F 1 bA bn (aI b)) (hn:bn=b.length) (hbc:bn<=bc) (n:bn<=1152921504606) (hF:∀g,F g->g<w/\g≠gl)
  (h0:(ai b 0).2.2=0) (i:1<=(ai b 0).1) (s:(ai b 0).1<=64):
  Calls prog 172 #[o,gl] w (yo gl b w):=by
 refine letter fun R HR=> ?_;have an:=aa (Qo bc h hn n h0 i s);have PG:=aa (fun(B:M6) (hB:bO b (ai b 0).1 [] [] (ai b 0).2.1=B)=>FD h0 i s hB);have HV:=aa (gz b 0 (Nat.zero_le _)).2;obtain⟨x,hx⟩:=gF ((ai b 0).1);obtain⟨p0,ad⟩:=gF ((ai b 0).2.1);rw [<-hx,<-ad] at an PG;rw [<-ad] at HV;rw [<-hx] at i s;have HH:=aa h;have HN:=aa hn;have HF:=aa hF;have HL:=aa hL;have z0:w.cell? o=some (.slice bA bn bc):=hB.cell 0;have a4:=hL.lt;clear hB hL h hn hF h0 hx ad;go_enter func172,ntmps172;go_wp2_with (go_at_call 173;go_loud (refine an.mono ?_);rintro e w1 ⟨q,rfl,hq,aA,au⟩;have A:=aa hq;have lC:=aa aA;have am:=aa au;clear hq aA au)
 clear z0
 go_loopg [] x (fun g' wz=>∃(l:List aR) (ats:List Nat) (p:Nat) (lv rv out:Value) (us:List Value),g'=x-l.length/\Lp gl q bA bn bc x p0 b w l ats p lv rv out us wz)
 case atStart=>exact⟨[],[],p0,(),(),(),[],rfl,lC,Ja.nil _ _ _ _,SB.nil _ _,HL.below am,ag.of_below am,gQ,rfl,by have i:=HV.out;have s:=HN.out;omega,Nat.zero_le _,rfl,fun a H=>by simp at H⟩
 case round=>
  obtain⟨l,ats,p,lv,rv,out,us,c,hm⟩:=hrel;have HG:=aa c;have d:=aa hm;have a1:=hm.llx;obtain⟨ln,N⟩:=gF l.length;have fq:=aa N;rw [<-N] at a1;have y2:wr.cell? ⟨q,2,none⟩=some (.int .i64 ln):=(hm.br.blk.cell 2).trans (by rw [N];rfl);have y1:wr.cell? ⟨q,1,none⟩=some (.int .i64 x):=hm.br.blk.cell 1;clear c hm N;go_upto_region 1 with fail;go_quiet (fail);obtain⟨W,hW⟩:=gF (wr.drewN nq);rw [<-hW];have I:Hid (ag Nil wr W):=aa (by rw [hW];exact(ag.refl Nil wr).drewN _);have aq:Hid (W.heap.size=wr.heap.size):=aa (by rw [hW];rfl);clear y1 y2 hW;have Z:Hid (BR W w q bA bn bc x l ats p lv rv):=aa (d.br.chg I (fun _ _ _ h=>h) A);have dW:Hid (Rd W F 1 bA bn (aI b)):=aa ((HH.chg d.chg (fun g c e=>(HF g c).2 e)).chg I (fun _ _ h=>h))
  by_cases a6:ln<x
  ·obtain⟨r,hr⟩:=gF (pread (aS l) b p);have f:=aa hr;have xw:Hid (∀k,Calls prog 174 #[q] (W.drewN k) (fun e w'=>∃k,wQ w q bA bn bc x b l ats p rv (W.drewN k) e w')):=aa (fun k=>(M7 (Z.chg ((ag.refl Nil W).drewN k) (fun _ _ _ h=>h) A) (dW.chg ((ag.refl Nil W).drewN k) (fun _ _ h=>h)) HN hbc (fun g c=>(HF g c).1) A d.rise d.alen (by have:=fq.out;omega) d.ple n).mono (fun e w' h=>⟨k,h⟩))
   have rF:Hid (bO b x [] [] p0=if r.err≠0 then⟨l,ats,p,r.err,r.next⟩ else if 0<l.length/\0<=compareBytes (aD l) r.key then⟨l,ats,p,51,p⟩ else bO b (x-(l.length+1)) (l++ [(r.key,r.val)]) (ats++ [p]) r.next):=aa (by
    rw [d.out.eq,show x-l.length=(x-(l.length+1))+1 by have:=fq.out;omega,yn,hr])
   clear hr;obtain⟨oA,oc,ac,_,_⟩:=ax d.er.own;have lU:Hid (ak W gl 58 #[out]):=aa (d.box.chg I (fun h=>h));have a7:q<W:=Z.out.blk.lt;have M8:Hid (w.heap.size<=W):=aa (by have i:=d.out.chg.size;have s:=aq.out;omega);have oZ:Hid (ag (fun g=>g=gl) w W):=aa (d.chg.trans I (fun _ _ h=>h.elim))
   have ar:Hid (∀(ec:Int) (ep:Nat) (w':World),(∃k,wQ w q bA bn bc x b l ats p rv (W.drewN k) (.panicked (gI ec ep)) w')->aH b=([],ec,ep)->ec≠0->yo gl b w (.panicked (gI ec ep)) w'):=aa (fun ec ep w' h he a3=>by
    obtain⟨k,h⟩:=h;refine⟨(oZ.drewN k).trans (h.chg.mono (T:=fun g=>g=gl\/w<=g) (fun g _ e=> ?_)) (fun g c e=>by rcases e with e|e;exact e;omega),fun _=>by rw [he],fun h=>by rw [he] at h;exact absurd h a3⟩
    rcases e with e|e
    ·exact .inr (by have:=A.out;omega)
    ·exact .inr (ah Z.own g e).1)
   by_cases E:r.err=0
   ·by_cases c0:0<l.length/\0<=compareBytes (aD l) r.key
    ·have tF:Hid (aH b=([],51,p)):=aa (by rw [PG.out ⟨l,ats,p,51,p⟩ (by rw [rF.out,if_neg (fun h=>h E),if_pos c0]),if_pos (by simp)]);have jo:=aa c0;have mM:=aa E;clear c0 E;go_upto_region 2 with fail
     refine LM o (fun e w'=>∃k,wQ w q bA bn bc x b l ats p rv (W.drewN k) e w') (aa (fun _ _ _ _ h=>h)) lU xw (aa (fun e w' h=>by obtain⟨k,h⟩:=h;exact h.ord (by rw [<-f.out];exact mM) (by rw [<-f.out];exact jo))) ?_;intro t w' h;refine⟨rfl,?_⟩;rw [HR.out]
     exact ar.out 51 p w' h tF (by decide)
    ·have jo:=aa c0;have mM:=aa E;have a2:Hid (bO b x [] [] p0=bO b (x-(l.length+1)) (l++ [(r.key,r.val)]) (ats++ [p]) r.next):=aa (by rw [rF.out,if_neg (fun h=>h E),if_neg c0]);have ae:=kY (prev:=aS l) (b:=b) (p:=p) (by have i:=d.out.ple;have s:=HN.out;omega) (by rw [<-f.out];exact E);rw [<-f.out] at ae;have FE:=aa ae;clear c0 E ae;subst ac;go_upto_region 2 with fail
     refine YO o (gl:=gl) (q:=q) (base:=w.heap.size) (m:=l.length) (oc:=oc) (oA:=oA) (us:=us) (fun e w'=>∃k,wQ w q bA bn bc x b l ats p rv (W.drewN k) e w') (fun K kn kc V vn vc w'=>∃P rv',BR w' w q bA bn bc x (l++ [(r.key,r.val)]) (ats++ [p]) r.next P rv'/\SB w' (fun g=>W<=g/\rv'.ownBlock≠some g) P r.key/\SB w' (fun g=>W<=g/\rv'.ownBlock≠some g) (.slice K kn kc) r.key/\SB w' (fun g=>W<=g/\rv'.ownBlock≠some g) (.slice V vn vc) r.val/\(∀g,rv'.ownBlock=some g->rv.ownBlock=some g\/W<=g)/\ag (fun g=>g=q\/rv.ownBlock=some g) W w') (w:=W) (aa (fun _ _ _ _ h=>h)) lU xw (aa (fun e w' h=> ?_)) (aa (fun K kn kc V vn vc w' h=> ?_)) (by have:=fq.out;omega) ?_
     ·obtain⟨k,h⟩:=h;obtain⟨K,kn,kc,V,vn,vc,P,rv',he,Q,h4,h5,h6,h7⟩:=h.ok (by rw [<-f.out];exact mM) (by rw [<-f.out];exact jo);rw [<-f.out] at Q h4 h5 h6
      exact⟨K,kn,kc,V,vn,vc,he,P,rv',Q,h4,h5,h6,h7,((ag.refl (fun g=>g=q\/rv.ownBlock=some g) W).drewN k).trans h.chg (fun _ _ h=>h)⟩
     ·obtain⟨P,rv',Q,h4,h5,h6,h7,M⟩:=h;have J:=(d.out.er.chg I (fun _ _ _ h=>h)).step M h7;refine⟨J.own,lU.chg M (fun e=> ?_),by have i:=M.size;have s:=M8.out;omega,fun e=>by have:=(ah d.er.own gl e).1;omega⟩
      rcases e with e|e
      ·have:=A.out;omega
      ·have:=(ah Z.own gl e).1;omega
     ·intro a8 a9 ba be bh K kn kc V vn vc xx w2 wa X hX L U u ab;obtain⟨P,rv',Q,h4,h5,h6,h7,M⟩:=hX;have J:=(d.out.er.chg I (fun _ _ _ h=>h)).step M h7;have ea:=J.chg (ag.of_below (S:=Nil) L) (fun _ _ _ h=>h);have D:=Q.chg (ag.of_below (S:=Nil) L) (fun _ _ _ h=>h) A;have O:∀g,(Value.slice oA l.length oc).ownBlock=some g->g<W:=fun g c=>by have i:=(ah d.er.own g c).2;have s:=aq.out;omega
      have G:∀g,(W.heap.size<=g/\rv'.ownBlock≠some g)->(w.heap.size<=g/\g≠q/\rv'.ownBlock≠some g/\(Value.slice oA l.length oc).ownBlock≠some g):=fun g c=>⟨by have:=M8.out;omega,by omega,c.2,fun e=>by have:=O g e;omega⟩;have e3:=ea.push (e:=(r.key,r.val)) (by have i:=M.size;have s:=L.size;omega) (fun g c=>(ah D.own g c).2) U u ab ((h5.below L).weak G) ((h6.below L).weak G);have z:ag (fun g=>g=gl) X (X.setCell gl xx):=(ag.refl (fun g=>g=gl) X).setCell (p:=gl) (fun _=>rfl) _;have e4:=e3.chg z (fun g c _ e=>by have e:g=gl:=e;omega)
      have aE:SB X (fun g=>W<=g/\rv'.ownBlock≠some g/\xx.ownBlock≠some g) P r.key:=by
       refine(h4.lt.below L).next3 (ag.of_grown u) (fun g _ c e=>by have i:=O g e;have s:=c.1.1;omega) (fun g hl c=>⟨c.1.1,c.1.2,fun e=> ?_⟩)
       rcases ab with h|h
       ·rw [h] at e;have i:=O g e;have s:=c.1.1;omega
       ·rw [h] at e;injection e with e;omega
      have YQ:=aE.chg z (fun g c e=>by have e:g=gl:=e;have i:=c.1;have s:=M8.out;omega);have aw:ak X q 295 _:=D.blk.chg (ag.of_grown u) (fun e=>(J.ne q e).1 rfl)
      have o6:ag (fun g=>g=gl) w X:=by
       refine((oZ.out.trans (M.mono (T:=fun g=>w<=g) (fun g _ e=> ?_)) (fun g c e=>by omega)).then L).trans ((ag.of_grown u).mono (T:=fun g=>w<=g) (fun g _ e=>(ah d.er.own g e).1)) (fun g c e=>by omega)
       rcases e with e|e
       ·have:=A.out;omega
       ·exact(ah Z.own g e).1
      have Ff:ak (X.setCell gl xx) gl 58 #[xx]:=by
       have i:ak w2 gl 58 #[.slice oA l.length oc]:=lU.out.chg M (fun e=>by
        rcases e with e|e
        ·have:=A.out;omega
        ·have:=(ah Z.own gl e).1;omega)
       exact((i.below L).chg (ag.of_grown u) (fun e=>by have:=(ah d.er.own gl e).1;omega)).set_ 0 xx
      have a0:Hid (Lp gl q bA bn bc x p0 b w (l++ [(r.key,r.val)]) (ats++ [p]) r.next P rv' xx (us++ [.slice K kn kc,.slice V vn vc]) (X.setCell gl xx)):=aa (by
       refine⟨⟨aw.chg z (fun e=>by have e:q=gl:=e;have:=A.out;omega),fun h=>by simp at h,?_,?_,Q.ne⟩,e4,?_,Ff,o6.trans z (fun _ _ h=>h),?_,by simp [d.out.alen],?_,by simp;have:=fq.out;omega,?_,?_⟩
       ·rw [iY]
        exact YQ.weak (fun g c=>⟨by have:=M8.out;omega,c.2.1,by have:=c.1;omega⟩)
       ·exact aB (aB D.own (ag.of_grown u) (fun g c e=>(J.ne g e).2 c)) z (fun g c e=>by have e:g=gl:=e;have:=(ah D.own g c).1;omega)
       ·rw [iY]
        exact YQ.weak (fun g c=>⟨by have:=M8.out;omega,c.2.1,by have:=c.1;omega,c.2.2⟩)
       ·refine om d.rise (qm FE.k1 FE.k2 FE.v) (fun h0=> ?_)
        rcases Int.lt_or_le (compareBytes (aD l) r.key) 0 with h|h
        ·exact h
        ·exact absurd ⟨h0,h⟩ jo
       ·have i:=FE.out.next;have s:=HN.out;omega
       ·rw [a2.out];simp
       ·intro a H
        rcases List.mem_append.1 H with H|H
        ·exact d.aple a H
        ·rw [List.mem_singleton] at H;rw [H];exact d.ple)
      clear Q h4 h5 h6 h7 M J ea D O G e3 z e4 aE YQ aw o6 Ff L U u ab;go_wp2
      go_roundg (x-(l.length+1))
      case measure=>have i:=HG.out;have s:=fq.out;omega
      case rel=>exact⟨_,_,_,_,_,_,_,by simp,a0.out⟩
   ·have tF:Hid (aH b=([],r.err,r.next)):=aa (by rw [PG.out ⟨l,ats,p,r.err,r.next⟩ (by rw [rF.out,if_pos E]),if_pos E]);have mM:=aa E;clear E;go_upto_region 2 with fail
    refine LM o (gl:=gl) (q:=q) (ov:=out) (fun e w'=>∃k,wQ w q bA bn bc x b l ats p rv (W.drewN k) e w') (ch:=gI r.err r.next) (w:=W) (aa (fun _ _ _ _ h=>h)) lU xw (aa (fun e w' h=>by obtain⟨k,h⟩:=h;rw [f.out];exact h.bad (by rw [<-f.out];exact mM))) ?_;intro t w' h;refine⟨rfl,?_⟩;rw [HR.out]
    exact ar.out _ _ w' h tF mM
  ·have a5:ln=x:=by omega
   have lU:Hid (ak W gl 58 #[out]):=aa (d.box.chg I (fun h=>h));have oZ:Hid (ag (fun g=>g=gl) w W):=aa (d.chg.trans I (fun _ _ h=>h.elim));have rF:Hid (bO b x [] [] p0=⟨l,ats,p,0,0⟩):=aa (by rw [d.out.eq,show x-l.length=0 by have:=fq.out;omega];rfl);obtain⟨y,al⟩:=gF ((eighth ats).flatMap two);have tF:Hid (aH b=if stand b y p<y.length then([],62,p+stand b y p) else if p+y.length<b.length then([],63,p+y.length) else(l,0,0)):=aa (by rw [PG.out _ rF.out,if_neg (fun h=>h rfl),al]);have FF:=aa (Qp Z dW HN (fun g c=>(HF g c).1) A d.ple n (by have i:=oo ats _ jO;have s:=d.out.alen;have Q:=fq.out;omega) (fun a H=>by have:=d.out.aple a H;omega));rw [<-al] at FF;have Y:Hid (∀e w',tT q b y p W e w'->ag (fun g=>g=gl) w w'):=aa (fun e w' h=>oZ.out.trans (h.chg.mono (T:=fun g=>w<=g) (fun g _ e=>by have e:g=q:=e;have:=A.out;omega)) (fun g c e=>by omega));have PH:=aa (tC b y p);clear al
   by_cases c1:stand b y p<y.length
   ·have j:Hid (aH b=([],62,p+stand b y p)):=aa (by rw [tF.out,if_pos c1]);have kV:=aa c1;clear c1;go_wp2_with (go_at_call 175;go_loud (refine FF.mono ?_);intro e w2 C;obtain rfl:=C.bad kV;have sN:=aa (Y.out _ w2 C);clear C);refine⟨rfl,?_⟩;rw [HR.out]
    exact⟨sN,fun _=>by rw [j.out],fun h=>by rw [j.out] at h;exact absurd h (by simp)⟩
   ·have ap:Hid (stand b y p=y.length):=aa (by have:=PH.out;omega)
    by_cases c2:p+y.length<b.length
    ·have j:Hid (aH b=([],63,p+y.length)):=aa (by rw [tF.out,if_neg c1,if_pos c2]);have bz:=aa c2;clear c1 c2;go_wp2_with (go_at_call 175;go_loud (refine FF.mono ?_);intro e w2 C;obtain rfl:=C.rest ap bz;have sN:=aa (Y.out _ w2 C);clear C);refine⟨rfl,?_⟩;rw [HR.out]
     exact⟨sN,fun _=>by rw [j.out],fun h=>by rw [j.out] at h;exact absurd h (by simp)⟩
    ·have j:Hid (aH b=(l,0,0)):=aa (by rw [tF.out,if_neg c1,if_neg c2]);have bz:=aa c2;clear c1 c2;go_wp2_with (go_at_call 175;go_loud (refine FF.mono ?_);intro e w2 C;obtain rfl:=C.ok ap bz;have sN:=aa (Y.out _ w2 C);have ao:=aa C.chg;clear C);go_end0
     rw [HR.out];refine⟨sN,fun h=>by rw [j.out] at h;exact absurd rfl h,fun _=>⟨rfl,?_⟩⟩;have J:=(d.out.er.chg I (fun _ _ _ h=>h)).step (rv':=rv) (ao.mono (fun g _ e=> .inl e)) (fun g c=> .inl c);obtain⟨oA,oc,ac,i,s⟩:=ax J.own;subst ac;refine⟨oA,l.length,oc,lU.chg ao (fun e=>by have e:gl=q:=e;have:=A.out;omega),i,s,?_⟩;rw [j.out];exact J.ents rfl
theorem Dp (v:Value) (w:World):(Instr.typeAssert (.iface 290 v) 20 290 false).run prog w= .ok v w:=by kernel_rfl
theorem xy (x y e:Int) (p:Nat) (h:ak w q 290 #[x,y]):
  CallsD prog 193 #[q] (.panicking (gI e p)) w fun a c w'=>
   a= .returned (.tuple #[])/\c= .panicking [{v:= .iface 290 (.agg #[e,(p:Int)]),recovered:=true}]/\w'=(w.setCell q e).setCell ⟨q,1,none⟩ (p:Int):=by
 have l:w.cell? q=some (.int .i64 x):=h.cell 0;have m:w.cell? ⟨q,1,none⟩=some (.int .i64 y):=h.cell 1;have i:=h.frozen 0;have k:=h.frozen 1;have g:=Dp;obtain⟨R,b⟩:∃R:Ending->FrameMode->World->Prop,R=fun a c w'=>a= .returned (.tuple #[])/\c= .panicking [{v:= .iface 290 (.agg #[e,(p:Int)]),recovered:=true}]/\w'=(w.setCell q e).setCell ⟨q,1,none⟩ (p:Int):=⟨_,rfl⟩;have f:=aa b;rw [<-b];clear b h;refine callsD_of_wpS func193 rfl fun j cs d=> ?_;apply wpS_seq;apply wpS_region;simp [wpOpsS,go_sem,recoverD,d,gI,ntmps193,Exit.thenS];refine wpS_of_wp ?_;simp only [Array.replicate_succ,Array.replicate_zero,List.push_toArray,List.nil_append,List.append_toArray,List.cons_append,List.setIfInBounds_toArray,List.set_cons_zero,List.set_cons_succ];clear d;go_wp2;refine⟨rfl,_,rfl,.tuple #[],by simp [results,results193],?_⟩;rw [f.out];exact⟨rfl,rfl,rfl⟩
theorem Jh (q:Nat) (w:World):
  CallsD prog 193 #[q] .returning w fun a d w'=>a= .returned (.tuple #[])/\d= .returning/\w'=w:=by
 obtain⟨R,b⟩:∃R:Ending->FrameMode->World->Prop,R=fun a d w'=>a= .returned (.tuple #[])/\d= .returning/\w'=w:=⟨_,rfl⟩;have e:=aa b;rw [<-b];clear b;refine callsD_of_wpS func193 rfl fun g cs c=> ?_;apply wpS_seq;apply wpS_region;simp [wpOpsS,go_sem,recoverD,c,ntmps193,Exit.thenS];refine wpS_of_wp ?_;simp only [Array.replicate_succ,Array.replicate_zero,List.push_toArray,List.nil_append,List.append_toArray,List.cons_append,List.setIfInBounds_toArray,List.set_cons_zero,List.set_cons_succ];have f:=aa c;clear c;go_wp2
 refine⟨rfl,.returning,?_,.tuple #[],by simp [results,results193],?_⟩
 ·have:=f.out;cases g;simp_all
 ·rw [e.out];exact⟨rfl,rfl,rfl⟩
theorem wS (h:(aH b).2.1=0):(aH b).2.2=0:=by
 unfold aH at h|-
 split at h
 ·rename_i a;exact absurd h a
 ·rename_i a;rw [if_neg a]
  split at h
  ·simp at h
  ·rename_i d;rw [if_neg d]
   split at h
   ·rename_i c;exact absurd h c
   ·rename_i c;rw [if_neg c]
    split at h
    ·simp at h
    ·rename_i e;rw [if_neg e]
     split at h
     ·simp at h
     ·rename_i f;rw [if_neg f]
structure Ji (gl:Nat) (b:List UInt8) (w:World) (e:Ending) (w':World):Prop where
 ret:e= .returned (.agg #[.int .i64 (aH b).2.1,.int .i64 ((aH b).2.2:Nat)])
 chg:ag (fun g=>g=gl) w w'
 ok:(aH b).2.1=0->∃A n c,ak w' gl 58 #[.slice A n c]/\n<=c/\c<=maxLen/\dh w' (From w) A n (aH b).1
theorem Nh (o gl:Nat) (b:List UInt8) (w:World) (A:gl<w) (hc:∀w',Below w w w'->Calls prog 172 #[o,gl] w' (yo gl b w')) (u:(aH b).2.1≠0):
  Calls prog 171 #[.func (.func 172) #[] #[o,gl]] w (Ji gl b w):=by
 refine letter fun R z=> ?_;obtain⟨q,k⟩:=gF w.heap.size;obtain⟨w1,a⟩:=gF (w.alloc (.cells #[.int .i64 0,.int .i64 0] 290));have d:Hid (Below w w w1):=aa (by rw [a];exact gV);have B:Hid (ak w1 q 290 #[.int .i64 0,.int .i64 0]):=aa (by rw [a,k];exact ak.new _ _ _);have y:=aa (hc w1 d);have l:=aa k;have s:=aa u;have E:∀(t:Fn) (first cap:Array Value) (w:World),(Instr.makeFunc t first cap).run prog w= .ok (.func t first cap) w:=fun _ _ _ _=>rfl;clear hc u;go_enter_defers func171,ntmps171;go_upto_region 2 with fail
 rw [<-a];simp only [<-k];clear a k;go_wp2_with (go_at_call 172;go_loud (refine y.mono ?_);intro e w2 m;obtain rfl:=m.bad s;have v:=aa m.chg;clear m);have i:ak w2 q 290 #[.int .i64 0,.int .i64 0]:=B.out.chg v (fun e=>by have e:q=gl:=e;have:=l.out;omega);refine leaves_cons (f:=193) (args:= #[q]) (by simp) (by simp [go_sem]) ?_;refine(xy 0 0 (aH b).2.1 (aH b).2.2 i).mono ?_;rintro e F C ⟨rfl,rfl,rfl⟩;have j:=(i.set_ 0 (.int .i64 (aH b).2.1)).set_ 1 (.int .i64 ((aH b).2.2:Nat));have x:((w2.setCell q (.int .i64 (aH b).2.1)).setCell ⟨q,1,none⟩ (.int .i64 ((aH b).2.2:Nat))).cell? q=some (.int .i64 (aH b).2.1):=j.cell 0;have v1:((w2.setCell q (.int .i64 (aH b).2.1)).setCell ⟨q,1,none⟩ (.int .i64 ((aH b).2.2:Nat))).cell? ⟨q,1,none⟩=some (.int .i64 ((aH b).2.2:Nat)):=j.cell 1;have r:ag (fun g=>g=gl) w ((w2.setCell q (.int .i64 (aH b).2.1)).setCell ⟨q,1,none⟩ (.int .i64 ((aH b).2.2:Nat))):=(((ag.of_below d).trans v (fun _ _ h=>h)).setCell (p:=q) (fun h=>absurd h (by have:=l.out;simp only [];omega)) _).setCell (p:=⟨q,1,none⟩) (fun h=>absurd h (by have:=l.out;simp only [];omega)) _
 have c:R (.returned (.agg #[.int .i64 (aH b).2.1,.int .i64 ((aH b).2.2:Nat)])) ((w2.setCell q (.int .i64 (aH b).2.1)).setCell ⟨q,1,none⟩ (.int .i64 ((aH b).2.2:Nat))):=by
  rw [z.out];exact⟨rfl,r,fun h=>absurd h s⟩
 obtain⟨D,n⟩:=gF (((w2.setCell ⟨q,0,none⟩ (.int .i64 (aH b).2.1)).setCell ⟨q,1,none⟩ (.int .i64 ((aH b).2.2:Nat))));rw [<-n] at x v1 c|-;simp [Leaves,settle,results,results171,go_sem,x,v1,c]
theorem Qt (o gl:Nat) (b:List UInt8) (w:World) (G:gl<w) (hc:∀w',Below w w w'->Calls prog 172 #[o,gl] w' (yo gl b w')) (s:(aH b).2.1=0):
  Calls prog 171 #[.func (.func 172) #[] #[o,gl]] w (Ji gl b w):=by
 refine letter fun R y=> ?_;obtain⟨q,l⟩:=gF w.heap.size;obtain⟨w1,a⟩:=gF (w.alloc (.cells #[.int .i64 0,.int .i64 0] 290));have d:Hid (Below w w w1):=aa (by rw [a];exact gV);have I:Hid (ak w1 q 290 #[.int .i64 0,.int .i64 0]):=aa (by rw [a,l];exact ak.new _ _ _);have v:=aa (hc w1 d);have x:=aa l;have m:=aa s;have K:∀(r:Fn) (first cap:Array Value) (w:World),(Instr.makeFunc r first cap).run prog w= .ok (.func r first cap) w:=fun _ _ _ _=>rfl;clear hc s;go_enter_defers func171,ntmps171;go_upto_region 2 with fail
 rw [<-a];simp only [<-l];clear a l;have H:Hid ((aH b).2.2=0):=aa (wS m);go_wp2_with (go_at_call 172;go_loud (refine v.mono ?_);intro e w2 p;obtain⟨rfl,t⟩:=p.ok m;have z:=aa t;have u:=aa p.chg;clear p t);have k:ak w2 q 290 #[.int .i64 0,.int .i64 0]:=I.out.chg u (fun e=>by have e:q=gl:=e;have:=x.out;omega);refine leaves_cons (f:=193) (args:= #[q]) (by simp) (by simp [go_sem]) ?_;refine(Jh q _).mono ?_;rintro e N i ⟨rfl,rfl,rfl⟩;have J:i.cell? q=some (.int .i64 0):=k.cell 0;have v1:i.cell? ⟨q,1,none⟩=some (.int .i64 0):=k.cell 1
 have j:R (.returned (.agg #[.int .i64 0,.int .i64 0])) i:=by
  rw [y.out];refine⟨by rw [m.out,H.out];rfl,(ag.of_below d).trans u (fun _ _ h=>h),fun _=> ?_⟩;obtain⟨A,n,c,B,C,D,E⟩:=z.out;exact⟨A,n,c,B,C,D,E.weak (fun g F=>by have L:w1<=g:=F;have M:=d.out.size;show w<=g;omega)⟩
 simp [Leaves,settle,results,results171,go_sem,J,v1,j]
theorem Nf (o gl:Nat) (b:List UInt8) (w:World) (a:gl<w) (hc:∀w',Below w w w'->Calls prog 172 #[o,gl] w' (yo gl b w')):
  Calls prog 171 #[.func (.func 172) #[] #[o,gl]] w (Ji gl b w):=by
 by_cases c:(aH b).2.1=0
 ·exact Qt o gl b w a hc c
 ·exact Nh o gl b w a hc c
end Go.Proofs.YtepgcjbhabnciaaGreat
