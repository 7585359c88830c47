/- Part 43. -/
import Derived.Test.YtepgcjbhabnciaaGreatLe42
namespace Go.Proofs.YtepgcjbhabnciaaGreat
set_option maxRecDepth 100000
set_option maxHeartbeats 8000000
open Go.Proofs.Tryz Go.RowKit
open Go.Lib (compareBytes)
variable {u1 J L H v d r M E I Z N U Y O f C s V P m u24 g T u27 A p u34 u36 u37 u38 R X u42 G u44 u45 u46 l u48 u49 z u51 o B n u55 fE fF u58 u9 u28 u29 u31 u32 q e u53 W u k x u35 u40 u59 u60 h D j u33 F ek eO:Value} {S xs:List Value}
noncomputable def tN:Code:=aV (f128.body.bind (aJ 13))
theorem QR (F:Nat->Prop) (q:World) (lb D oc j:Nat) (oA kA:Option Addr) (w:World) (Q:Exit->Act->World->Prop) (mQ:Hid (∀c t (a:Act) w,Q (.panic c) ⟨t,a.defers⟩ w->Q (.panic c) a w))
  (HE:Hid (E1 w F lb kA j)) (HO:Hid (OB q w (.slice oA 1 oc) [1])) (HN:Hid (∀b,b=lb\/F b->¬(Value.slice oA 1 oc).ownBlock=some b))
  (ax:∀(al am an ao ap aq ar aw aA aE:Value) (A':Option Addr) (c':Nat) (w':World),OB q w' (.slice A' 5 c') [1,0,1,0,107]->ag (fun b=>(Value.slice oA 1 oc).ownBlock=some b) w w'->Q .normal ⟨(.slice (some ⟨lb,0,none⟩) 1 D::u1::J::L::H::v::d:: .slice A' 5 c'::r:: .int .i64 0::M::E::I::Z::N::U::Y::O::f::C::s::V::P::m::u24::g::T::u27::W::u::A::k::x::p::u34::u35::u36::u37::u38::R::u40::X::u42::G::u44::u45::u46::l::u48::u49::z::al::am::an::ao::ap::aq::ar::aw::aA::aE::S).toArray,[]⟩ w'):
  Code.wp prog tN Q ⟨(.slice (some ⟨lb,0,none⟩) 1 D::u1::J::L::H::v::d:: .slice oA 1 oc::r:: .int .i64 0::M::E::I::Z::N::U::Y::O::f::C::s::V::P::m::u24::g::T::u27::W::u::A::k::x::p::u34::u35::u36::u37::u38::R::u40::X::u42::G::u44::u45::u46::l::u48::u49::z::u51::o::B::n::u55::fE::fF::u58::u59::u60::S).toArray,[]⟩ w:=by
 have dP:=aa ax;have HD:Hid (Below w.heap.size w w.drew):=aa (Below.refl _ _).drew;have S0:w.drew.cell? ⟨lb,0,none⟩=some (.slice kA 1 j)/\w.drew.cell? ⟨lb,1,none⟩=some (.slice none 0 0):=⟨HE.c0,HE.c1⟩;clear ax;conv=>arg 2;whnf
 refine aU (fun w'=>w'.cell? ⟨lb,0,none⟩=some (.slice kA 1 j)/\w'.cell? ⟨lb,1,none⟩=some (.slice none 0 0)) (by kernel_rfl) ?_;refine vT 0 S0 ?_;refine vT 1 S0 ?_;refine vT 2 S0 ?_;refine vT 4 S0 ?_;refine vT 5 S0 ?_;refine vT 6 S0 ?_;refine vT 7 S0 ?_;refine aO (i:=3) (by kernel_rfl) rfl (fun K y=> ?_);go_simp
 go_loud (refine(Kb (some ⟨lb,0,none⟩) 1 D w.drew).mono ?_);rintro e w1 ⟨rfl,ae⟩;have ab:Hid (Below w.heap.size w w1):=aa (by rw [<-ae];exact HD);have xA:=aa (HE.below ab);have S1:w1.cell? ⟨lb,0,none⟩=some (.slice kA 1 j)/\w1.cell? ⟨lb,1,none⟩=some (.slice none 0 0):=⟨xA.c0,xA.c1⟩;clear ae
 refine y.out _ _ S1 ?_;clear y K;try simp only [aL,aN,aZ,aC]
 refine aO (i:=8) (by kernel_rfl) rfl (fun K y=> ?_);go_simp
 go_loud (refine(J8 F kA j w1 xA.key).mono ?_);rintro e w2 ⟨A2,n2,c2,hn,rfl,ho⟩;simp only [List.length_cons,List.length_nil] at hn;subst hn;have iR:=aa ho;have ac:Hid (Below w.heap.size w w2):=aa (ab.out.trans (ho.bel.mono ab.size));have ad:=aa (HE.below ac);have S2:w2.cell? ⟨lb,0,none⟩=some (.slice kA 1 j)/\w2.cell? ⟨lb,1,none⟩=some (.slice none 0 0):=⟨ad.c0,ad.c1⟩;clear ho
 refine y.out _ _ S2 ?_;clear y K;try simp only [aL,aN,aZ,aC]
 refine aO (i:=9) (by kernel_rfl) rfl (fun K y=> ?_);refine J9 rfl (.tmp 51) (.tmp 59) rfl q (.slice oA 1 oc) [1] rfl (HO.after ac) _ A2 4 c2 [0,1,0,107] rfl iR.sb (by decide) ?_;intro A3 n3 c3 w3 hn ho hc;simp only [List.length_cons,List.length_nil,Nat.zero_add,Nat.reduceAdd] at hn;subst hn;simp only [List.cons_append,List.nil_append] at ho;have oD:=aa ho;have eH:=aa hc;have S3:w3.cell? ⟨lb,0,none⟩=some (.slice kA 1 j)/\w3.cell? ⟨lb,1,none⟩=some (.slice none 0 0):=⟨eH.cell (HN lb (.inl rfl)) S2.1,eH.cell (HN lb (.inl rfl)) S2.2⟩;clear ho hc;refine y.out _ _ S3 ?_;clear y K;try simp only [aL,aN,aZ,aC]
 refine vT 10 S3 ?_;refine bG (by kernel_rfl) ?_ _;go_simp
 refine dP _ _ _ _ _ _ _ _ _ _ A3 c3 w3 oD ?_;exact(ag.of_below ac).trans eH (fun b _ h=>h)
theorem DC (F:Nat->Prop) (lb D j:Nat) (Q:Option Addr) (w:World) (h:E1 w F lb Q j):
  Calls prog 128 #[.slice (some ⟨lb,0,none⟩) 1 D] w fun e w'=>∃A c,e= .returned (.tuple #[.slice A 7 c,.int .i64 0,.int .i64 0])/\OB w w' (.slice A 7 c) eF:=by
 have n:=aa h;refine letter fun R H=> ?_;clear h;go_enter func128,ntmps128
 go_upto_region 4 with(go_at_call 113;go_loud (refine(DD (some ⟨lb,0,none⟩) 1 D _ [([107],[])] w n.ents (by omega) (fun i e q=>by match i with|0=>simp at q;subst q;decide|i+1=>simp at q)).mono ?_;rintro e w1 ⟨rfl,l⟩;rw [show dS [([107],[])]=(0,0) by decide];have m:=aa l;clear l))
 go_upto_region 7 with
  (go_at_call 105;go_loud (refine(qA 1 w1 (by decide)).mono ?_;rintro e w2 ⟨u,V,v,f,rfl,a⟩;simp only [List.length_cons,List.length_nil] at f;subst f;have L:=aa a;have I:Hid (Below w1.heap.size w1 w2):=aa a.bel;clear a))
 have r:Hid (OB w w2 (.slice u 1 v) [1]):=aa (L.ahead m);have o:=aa (n.below r.bel);go_wp2;refine wp_loop_rounds 2 ?_;rw [rounds_succ];go_upto_region 13 with(at_builtin;go_loud (obtain⟨w3,k⟩:∃W,W=w2.alloc (.cells #[.int .u8 1,.int .u8 0] 5):=⟨_,rfl⟩;rw [<-k];have z:Hid (OB w2 w3 (.slice (some ⟨w2.heap.size,0,none⟩) 2 2) [1,0]):=aa (by rw [k];exact OB.lit w2 [1,0] _ rfl (by decide));clear k;refine bW rfl (.tmp 40) (.tmp 49) rfl w2 (.slice none 0 0) [] rfl ⟨Ow.nil _ _,z.bel⟩ _ (some ⟨w2.heap.size,0,none⟩) 2 2 [1,0] rfl z.sb (by decide) ?_;intro t n4 y B f a d;simp only [List.length_cons,List.length_nil,Nat.zero_add,Nat.reduceAdd] at f;subst f;simp only [List.nil_append] at a;have s:=aa a;clear a d))
 have J:=aa (o.below s.bel);have x:=aa (r.after s.bel);refine QR F w lb D v j u Q B _ (aa (fun _ _ _ _ h=>h)) J x (aa (fun b S e=>by have O:=n.out.own b S;have P:=(ah x.own b e).1;omega)) ?_;intro Y Z ab ac ad ae al am an ao C M w5 a d;have U:=aa a;have dF:=aa d;have K:Hid (SB w5 (fun b=>w2.heap.size<=b/\b<B.heap.size) (.slice t 2 y) [1,0]):=aa (s.sb.lt.chg d (fun g T e=>by have O:=(ah r.own g e).2;have P:w2.heap.size<=g:=T.1;omega));clear a d;go_wp2;rw [rounds_succ]
 go_wp2_with
  (at_builtin;go_loud (refine bW rfl (.tmp 61) (.tmp 62) rfl w (.slice C 5 M) [1,0,1,0,107] rfl U _ t 2 y [1,0] rfl K (by decide) ?_;intro E X N w6 f a d;simp only [List.length_cons,List.length_nil,Nat.zero_add,Nat.reduceAdd] at f;subst f;simp only [List.cons_append,List.nil_append] at a;have p:=aa a;have G:=aa d;clear a d))
 go_ret3
 rw [H.out];exact⟨_,_,rfl,p⟩
def Row1 (w:World) (A:Option Addr):Prop:=lF w (fun b=>b<w.heap.size) A 1 [lZ]
theorem Row1.below {w w':World} {A:Option Addr} (h:Row1 w A) (c:Below w.heap.size w w'):Row1 w' A:=(lF.below h c).weak (fun _b a=>Nat.lt_of_lt_of_le a c.size)
noncomputable def tT:Code:=aV (f84.body.bind (aJ 8))
theorem UR (F:Nat->Prop) (tb tc lb D fc j:Nat) (fA kA:Option Addr) (w:World) (Q:Exit->Act->World->Prop) (mQ:Hid (∀c t (a:Act) w,Q (.panic c) ⟨t,a.defers⟩ w->Q (.panic c) a w))
  (HE:Hid (E1 w F lb kA j)) (HT:Hid (w.cell? ⟨tb,0,none⟩=some (.slice (some ⟨lb,0,none⟩) 1 D))) (_bp:tb<w.heap.size)
  (ax:∀(al am an ao ap aq ar aw aA aE a0 a1 a2 a3 a4 a5 a6 a7 a8 a9 ba bb be bh bj bk bm:Value) (A':Option Addr) (c':Nat) (w':World),Row1 w' A'->Below w.heap.size w w'->Q .normal ⟨(.slice (some ⟨tb,0,none⟩) 1 tc::u1::J::L:: .slice none 0 0:: .slice A' 1 c':: .int .i64 0::B::r::u9:: .slice fA 13 fc::E::I::Z::N::U::Y::O::f::C::s::V::P::m::u24::g::T::u27::al::am::an::ao::ap::aq::ar::aw::aA::aE::a0::a1::a2::a3::a4::a5::a6::a7::a8::a9::ba::bb::be::bh::bj::bk::bm::S).toArray,[]⟩ w'):
  Code.wp prog tT Q ⟨(.slice (some ⟨tb,0,none⟩) 1 tc::u1::J::L:: .slice none 0 0:: .slice none 0 0:: .int .i64 0::B::r::u9:: .slice fA 13 fc::E::I::Z::N::U::Y::O::f::C::s::V::P::m::u24::g::T::u27::u28::u29::A::u31::u32::p::u34::q::h::u37::u38::R::e::X::u42::G::u44::u45::u46::l::u48::u49::z::d::o::u53::n::S).toArray,[]⟩ w:=by
 obtain⟨i0,ad,kH,kI,kJ⟩:=info_parts nZ;have dP:=aa ax;have HD:Hid (Below w.heap.size w w.drew):=aa (Below.refl _ _).drew;have v:w.drew.cell? ⟨tb,0,none⟩=some (.slice (some ⟨lb,0,none⟩) 1 D)/\w.drew.cell? ⟨lb,0,none⟩=some (.slice kA 1 j):=⟨HT,HE.c0⟩;have e0:IntKind.i64.wrap 0=0:=by decide
 have e1:IntKind.i64.wrap 1=1:=by decide
 have e8:IntKind.i64.wrap 8=8:=by decide
 have bo:IntKind.i64.wrap 13=13:=by decide
 clear ax;conv=>arg 2;whnf
 refine aU (fun w'=>w'.cell? ⟨tb,0,none⟩=some (.slice (some ⟨lb,0,none⟩) 1 D)/\w'.cell? ⟨lb,0,none⟩=some (.slice kA 1 j)) (by kernel_rfl) ?_;refine vT 0 v ?_;refine vT 1 v ?_;refine vT 2 v ?_;refine vT 3 v ?_;refine vT 5 v ?_;refine vT 6 v ?_;refine vT 7 v ?_;refine vT 14 v ?_;refine vT 15 v ?_;refine vT 16 v ?_;refine vT 17 v ?_;refine vT 18 v ?_;refine vT 19 v ?_;refine vT 20 v ?_;refine vT 21 v ?_;refine vT 4 v ?_;refine vT 8 v ?_;refine vT 9 v ?_;refine vT 10 v ?_;refine vT 11 v ?_;refine vT 12 v ?_;refine vT 13 v ?_;refine vT 22 v ?_;refine vT 23 v ?_;refine vT 24 v ?_;refine aO (i:=25) (by kernel_rfl) rfl (fun K M=> ?_);go_simp
 obtain⟨w3,H⟩:∃W,W=(w.alloc (.cells #[.slice kA 1 j,.int .i64 8,.int .i64 13,.int .i64 1] 100)).drew:=⟨_,rfl⟩;rw [<-H];have y:Hid (Below w.heap.size w w3):=aa (by rw [H];exact((Below.refl _ _).alloc (Nat.le_refl _) _).drew);have uf:Hid (Rd w3 (From w.heap.size) 4 (some ⟨w.heap.size,0,none⟩) 1 [.slice kA 1 j,.int .i64 8,.int .i64 13,.int .i64 1]):=aa (by rw [H];exact⟨rfl,fun _=>⟨_,0,rfl,Nat.le_refl _,fun k u hk=>by show(w.alloc _).cell? _=_;rw [(aj.new w _ _).cell];simpa using hk⟩⟩);have S3:w3.cell? ⟨tb,0,none⟩=some (.slice (some ⟨lb,0,none⟩) 1 D)/\w3.cell? ⟨lb,0,none⟩=some (.slice kA 1 j):=⟨ak y v.1,ak y v.2⟩;clear H;refine M.out _ _ S3 ?_;clear M K;try simp only [aL,aN,aZ,aC]
 refine aO (i:=26) (by kernel_rfl) rfl (fun K M=> ?_);refine aI _ rfl (.tmp 28) (.tmp 53) _ rfl w.heap.size 100 i0 _ 4 48 underlying97 ad kH kI kJ rfl (by omega) (.slice none 0 0) 0 [] rfl (World.ownsRow_nil _ _ _ _) (From w.heap.size) (some ⟨w.heap.size,0,none⟩) 1 1 _ rfl uf (by intro u hu;simp at hu;rcases hu with rfl|rfl|rfl|rfl<;>rfl) (by simp only [maxLen];omega) (by omega) y.size ?_;intro x w4 dz ab ib;obtain⟨K4,EJ,ae,_,_⟩:=au dz;subst ae;have iV:=aa dz;have dR:Hid (Below w.heap.size w w4):=aa (y.grown ab y.size (fun k hk=>by simp [Value.ownBlock] at hk));have S4:w4.cell? ⟨tb,0,none⟩=some (.slice (some ⟨lb,0,none⟩) 1 D)/\w4.cell? ⟨lb,0,none⟩=some (.slice kA 1 j):=⟨ak dR HT,ak dR HE.c0⟩;clear dz ab ib;refine M.out _ _ S4 ?_;clear M K;try simp only [aL,aN,aZ,aC]
 refine vT 27 S4 ?_;refine bG (by kernel_rfl) ?_ _;go_simp
 have ac:Row1 w4 K4:=by
  refine⟨rfl,[.slice kA 1 j,.int .i64 8,.int .i64 13,.int .i64 1],((Rd.of_own iV).lt (by omega)).weak (fun b hb=>hb.2),fun i x hx=> ?_⟩
  match i with
  |0=>
   simp at hx;subst hx
   exact⟨_,rfl,rfl,rfl,rfl,(HE.key.below dR).lt.weak (fun b hb=>hb.2)⟩
  |i+1=>simp at hx
 exact dP _ _ _ _ _ _ _ _ _ _ _ _ _ _ _ _ _ _ _ _ _ _ _ _ _ _ _ K4 EJ w4 ac dR
theorem DF (F:Nat->Prop) (tb E lb D j:Nat) (Q:Option Addr) (w:World) (h:E1 w F lb Q j) (z:w.cell? ⟨tb,0,none⟩=some (.slice (some ⟨lb,0,none⟩) 1 D)) (I:tb<w.heap.size):
  Calls prog 84 #[.slice (some ⟨tb,0,none⟩) 1 E] w fun e w'=>∃A c i sc,e= .returned (.tuple #[.slice A 13 c,.slice i 1 sc])/\OB w w' (.slice A 13 c) (66::7::(eF++four (aW eF)))/\Row1 w' i:=by
 obtain⟨g,d⟩:∃g,g=four (aW eF):=⟨_,rfl⟩;have yT:=aa d;have t:Hid (g.length=4):=aa (by rw [d];rfl);rw [<-d];obtain⟨R,s⟩:∃R:Ending->World->Prop,R=fun e w'=>∃A c i sc,e= .returned (.tuple #[.slice A 13 c,.slice i 1 sc])/\OB w w' (.slice A 13 c) (66::7::(eF++g))/\Row1 w' i:=⟨_,rfl⟩;have H:=aa s;have v:=aa h;have HT:=aa z;rw [<-s];clear s h d;go_enter func84,ntmps84
 go_wp2;refine wp_loop_rounds 2 ?_
 rw [rounds_succ];go_upto_region 8 with(first|(go_at_call 128;go_loud (refine(DC F lb D j Q w v).mono ?_;rintro e w1 ⟨G,c1,rfl,a⟩;have B:=aa a;clear a))|(go_at_call 129;go_loud (refine(wm 66 eF rfl _ G c1 w1 B.sb).mono ?_;rintro e w2 ⟨u,n2,x,k,rfl,a⟩;rw [<-yT.out] at k a;rw [show(66::7::(eF++g)).length=13 by simp [eF,t.out]] at k;subst k;have m:=aa (a.ahead B.bel);clear a)))
 have n:=aa (v.below m.bel);have r:Hid (w2.cell? ⟨tb,0,none⟩=some (.slice (some ⟨lb,0,none⟩) 1 D)):=aa (ak m.bel z);have q:=aa m.bel.size;refine UR F tb E lb D x j u Q w2 _ (aa (fun _ _ _ _ h=>h)) n r (by have:=q.out;omega) ?_;intro K L M N O P S T U V W X Y Z ab ac ad ae al am an ao ap aq ar aw ax i sc w3 f l;have p:=aa f;have C:=aa (m.after l);clear f l;go_wp2_with (at_builtin;go_loud (refine bW rfl (.tmp 55) (.tmp 56) rfl w (.slice none 0 0) [] rfl ⟨Ow.nil _ _,C.bel⟩ _ u 13 x (66::7::(eF++g)) rfl C.sb (by simp [eF,t.out]) ?_;intro A4 n4 c4 w4 k a y;rw [show([]:List UInt8).length+(66::7::(eF++g)).length=13 by simp [eF,t.out]] at k;subst k;rw [List.nil_append] at a;have J:=aa a;have o:Hid (Row1 w4 i):=aa (p.below (y.below_of (Nat.le_refl _) (fun b _ e=>by simp [Value.ownBlock] at e)));clear a y))
 rw [rounds_succ];go_wp2
 trace_state
 rw [H.out];exact⟨_,_,_,_,rfl,J,o⟩
theorem QS:gD [lZ]:=by
 refine⟨by simp,fun x a=> ?_,fun i x y a b=> ?_,fun i x a=> ?_,fun x a=> ?_,fun x a=> ?_⟩
 ·simp at a;subst a;simp [lZ]
 ·match i with
  |0=>simp at b
  |i+1=>simp at b
 ·match i with
  |0=>simp at a;subst a;rfl
  |i+1=>simp at a
 ·simp at a;subst a;simp [lZ]
 ·simp at a;subst a;simp [lZ]
theorem NL (J:Option Addr) (sc:Nat) (w:World) (h:Row1 w J):
  Calls prog 85 #[.slice J 1 sc] w fun e w'=>∃A c,e= .returned (.slice A 25 c)/\OB w w' (.slice A 25 c) (70::7::(cZ++four (aW cZ))++dw 21):=by
 obtain⟨f,a⟩:∃f,f=four (aW cZ):=⟨_,rfl⟩;have X:=aa a;have z:Hid (f.length=4):=aa (by rw [a];rfl);rw [<-a];obtain⟨R,y⟩:∃R:Ending->World->Prop,R=fun e w'=>∃A c,e= .returned (.slice A 25 c)/\OB w w' (.slice A 25 c) (70::7::(cZ++f)++dw 21):=⟨_,rfl⟩;have M:=aa y;have K:=aa h;obtain⟨b,o,L,ln,lc,x,N,O,r,c0,c1,i,t,s⟩:=lF.at_ h (k:=0) (by omega);subst N;simp at r;subst r;have U:w.cell? ⟨b,o+1,none⟩=some (.int .i64 8):=by rw [Nat.zero_mul,Nat.add_zero] at c1;exact c1
 have V:w.cell? ⟨b,o+2,none⟩=some (.int .i64 13):=by rw [Nat.zero_mul,Nat.add_zero] at i;exact i
 rw [<-y];clear y h a c0 c1 i t s O;go_enter func85,ntmps85
 go_wp2;go_quiet (fail)
 obtain⟨w1,g⟩:∃W,W=w.drewN nq:=⟨_,rfl⟩;have m:Hid (Below w.heap.size w w1):=aa (by rw [g];exact rZ (Below.refl _ _) nq);have u:=aa (K.below m);rw [<-g];clear g U V;go_wp2_with (first|(go_at_call 64;go_loud (refine(vF _ (some ⟨b,o,none⟩) 1 sc [lZ] w1 u QS (fun x r=>by simp at r;subst r;simp [lZ]) (fun b h=>h)).mono ?_;rintro e w2 ⟨v2,rfl,d,p⟩;rw [tF] at d;obtain⟨C,n2,i,rfl,-,-,n,-⟩:=d.sb;rw [show cZ.length=7 from rfl] at n;subst n;have H:Hid (OB w1 w2 (.slice C 7 i) cZ):=aa ⟨d,p⟩;clear d p))|(go_at_call 129;go_loud (refine(wm 70 cZ rfl _ C i w2 H.sb).mono ?_;rintro e B ⟨D,n3,t,j,rfl,l⟩;rw [<-X.out] at j l;rw [show(70::7::(cZ++f)).length=13 by simp [cZ,z.out]] at j;subst j;have S:Hid (OB w B (.slice D 13 t) (70::7::(cZ++f))):=aa (l.ahead (H.ahead m).bel);clear l))|(go_at_call 109;go_loud (refine(zh 21 B (by omega)).mono ?_;rintro e T ⟨v4,rfl,v,q⟩;obtain⟨E,n4,G,rfl,-,-,F,-⟩:=v.sb;rw [show(dw 21).length=12 from rfl] at F;subst F;have I:Hid (OB B T (.slice E 12 G) (dw 21)):=aa ⟨v,q⟩;clear v q))|(at_builtin;go_loud (refine bW rfl (.tmp 32) (.tmp 34) rfl w (.slice D 13 t) (70::7::(cZ++f)) rfl (S.after I.bel) _ E 12 G (dw 21) rfl I.sb (by simp [cZ,z.out,dw]) ?_;intro Y n5 Z w5 j l P;rw [show(70::7::(cZ++f)).length+(dw 21).length=25 by simp [cZ,z.out,dw]] at j;subst j;have Q:=aa l;clear l P)))
 rw [M.out];exact⟨_,_,rfl,Q⟩
theorem DI {w:World} {base n size:Nat} {e:TypeId} (h:w.ownsRow base e size v n xs) (p:0<n):∃g c,v= .slice (some ⟨g,0,none⟩) n c/\(base<=g/\g<w.heap.size)/\∀(k:Nat) (u:Value),xs[k]? =some u->w.cell? ⟨g,k,none⟩=some u:=by
 obtain⟨j,⟨_,b⟩|⟨g,cap,cur,rfl,b,f,l,m,o,i⟩⟩:=h
 ·omega
 ·have d:aj w g e cur:=f;refine⟨g,cap,rfl,⟨b,d.lt⟩,fun k u a=> ?_⟩;rw [d.cell];rw [<-i,List.getElem?_take] at a
  split at a
  ·simpa using a
  ·simp at a
def NM:List UInt8:=66::7::(eF++four (aW eF))
def NN:List UInt8:=70::7::(cZ++four (aW cZ))++dw 21
theorem NP:fq++NM++NN=kr:=by simp [kr,NM,NN]
theorem NQ:NM.length=13:=rfl
theorem NR:NN.length=25:=rfl
theorem FT (F:Nat->Prop) (z tb H lb D j:Nat) (Q:Option Addr) (lv:Value) (w:World) (o:aj w z 122 #[.int .i64 1,.slice (some ⟨tb,0,none⟩) 1 H,.slice none 0 0,lv,.bool true,.int .i64 0])
  (h:E1 w F lb Q j) (N:w.cell? ⟨tb,0,none⟩=some (.slice (some ⟨lb,0,none⟩) 1 D)) (B:tb<w.heap.size):
  Calls prog 47 #[.pointer (some ⟨z,0,none⟩)] w fun e w'=>∃A c,e= .returned (.slice A 46 c)/\Ow w' w.heap.size (.slice A 46 c) kr/\ag (fun b=>b=z) w w':=by
 have n:=aa NQ;have x:=aa NR;have E:=aa NP;have v:=aa (DF F tb H lb D j Q w h N B);have u:=aa NL;rw [show 66::7::(eF++four (aW eF))=NM from rfl] at v;rw [show 70::7::(cZ++four (aW cZ))++dw 21=NN from rfl] at u;obtain⟨bl,l⟩:∃b,b=NM:=⟨_,rfl⟩;obtain⟨el,m⟩:∃b,b=NN:=⟨_,rfl⟩;rw [<-l] at n E v;rw [<-m] at x E u;have J:=aa o;have y1:w.cell? ⟨z,1,none⟩=some (.slice (some ⟨tb,0,none⟩) 1 H):=o.cell 1;have ac:=o.lt;refine letter fun R W=> ?_;clear o h N l m;go_enter func47,ntmps47
 go_upto_region 2 with(go_at_call 84;go_loud (refine v.mono ?_;rintro e w1 ⟨P,c1,sA,sc,rfl,a,M⟩;have i:=aa a;have s:=aa M;clear a M))
 go_upto_region 3 with(first|(go_at_call 61;go_loud (refine(Ka w1).mono ?_;rintro e w2 ⟨S,n2,X,d,rfl,a⟩;rw [show fq.length=8 from rfl] at d;subst d;have iR:=aa a;have y:=aa (i.after a.bel);clear a))|(at_builtin;go_loud (refine bW rfl (.tmp 14) (.tmp 15) rfl w1 (.slice S 8 X) fq rfl iR _ P 13 c1 bl rfl y.sb (by rw [n.out];decide) ?_;intro T n3 Y I d a f;rw [n.out,show fq.length+13=21 from rfl] at d;subst d;have G:=aa a;clear a f)))
 have t:=aa (s.below G.bel);have r:Hid (Below w.heap.size w I):=aa (i.bel.trans (G.bel.mono i.bel.size));have ad:I.cell? ⟨z,4,none⟩=some (.bool true):=(J.out.below r).cell 4;have k:=aa i.bel.size;go_upto_region 5 with(first|(go_at_call 85;go_loud (refine(u sA sc I t).mono ?_;rintro e w4 ⟨U,Z,rfl,a⟩;have O:=aa a;clear a))|(at_builtin;go_loud (refine bW rfl (.tmp 21) (.tmp 23) rfl w1 (.slice T 21 Y) (fq++bl) rfl (G.after O.bel) _ U 25 Z el rfl O.sb (by rw [List.length_append,n.out,x.out];decide) ?_;intro V n5 c5 q d a f;rw [List.length_append,n.out,x.out,show fq.length+13+25=46 from rfl] at d;subst d;have C:=aa a;clear a f)))
 have L:Hid (Below w.heap.size w q):=aa (i.bel.trans (C.bel.mono i.bel.size));have K:=aa (J.below L);have ae:q.cell? ⟨z,5,none⟩=some (.int .i64 0):=K.out.cell 5;have ab:q.frozen? ⟨z,5,none⟩=false:=K.out.frozen 5;go_wp2;rw [W.out];have f:=(ag.refl (fun b=>b=z) q).setCell (p:=⟨z,5,none⟩) (fun _=>rfl) (.int .i64 46);refine⟨V,c5,rfl,?_,(ag.of_below L).trans f (fun _ _ h=>h)⟩;rw [<-E.out];exact Ow.chg (nu C.own k) f (fun g hg e=>by have h1:=(ah C.own g hg).1;have h2:=k.out;have e:g=z:=e;omega)
theorem NS:(prog.info? 58).map (fun i=>(i.zero,i.size,i.bytes))=some (some (.slice none 0 0),1,24):=by kernel_rfl
theorem vo:(prog.info? 69).map (fun i=>(i.zero,i.size,i.bytes))=some (some (.agg #[.slice none 0 0,.slice none 0 0]),2,48):=by kernel_rfl
noncomputable def uW:Code:=aV (f83.body.bind (aJ 4))
theorem US (z lb D:Nat) (lv:Value) (w:World) (Q:Exit->Act->World->Prop) (mQ:Hid (∀c t (a:Act) w,Q (.panic c) ⟨t,a.defers⟩ w->Q (.panic c) a w))
  (R:Hid (aj w z 122 #[.int .i64 1,.slice none 0 0,.slice (some ⟨lb,0,none⟩) 1 D,lv,.bool false,.int .i64 0]))
  (ax:∀(al am an ao ap aq ar aw aA aE a0 a1 a2:Value) (tb T:Nat) (w':World),w.heap.size<=tb->tb<w'.heap.size->w'.cell? ⟨tb,0,none⟩=some (.slice (some ⟨lb,0,none⟩) 1 D)->aj w' z 122 #[.int .i64 1,.slice (some ⟨tb,0,none⟩) 1 T,.slice (some ⟨lb,0,none⟩) 1 D,lv,.bool false,.int .i64 0]->ag (fun b=>b=z) w w'->Q .normal ⟨(.pointer (some ⟨z,0,none⟩)::u1::J::L::H::v::d::B::r::u9::M::E::I::al::am::an::ao::ap::aq::ar::aw::aA::aE::a0::a1::a2::S).toArray,[]⟩ w'):
  Code.wp prog uW Q ⟨(.pointer (some ⟨z,0,none⟩)::u1::J::L::H::v::d::B::r::u9::M::E::I::Z::N::U::Y::O::f::C::s::V::P::m::u24::g::S).toArray,[]⟩ w:=by
 obtain⟨i0,ac,kH,kI,kJ⟩:=info_parts NS;have dP:=aa ax;have a3:=R.out.lt;have j:w.drew.cell? ⟨z,1,none⟩=some (.slice none 0 0)/\w.drew.cell? ⟨z,2,none⟩=some (.slice (some ⟨lb,0,none⟩) 1 D):=⟨R.cell 1,R.cell 2⟩;clear ax;conv=>arg 2;whnf
 refine aS (fun w'=>w'.cell? ⟨z,1,none⟩=some (.slice none 0 0)/\w'.cell? ⟨z,2,none⟩=some (.slice (some ⟨lb,0,none⟩) 1 D)) 13 (by kernel_rfl) ?_;refine uF 0 (fun _=>j) ?_;refine uF 1 (fun _=>j) ?_;refine uF 2 (fun _=>j) ?_;refine uF 3 (fun _=>j) ?_;refine uF 5 (fun _=>j) ?_;refine uF 6 (fun _=>j) ?_;refine uF 7 (fun _=>j) ?_;refine uT 4 j ?_;refine uT 8 j ?_;refine aH (i:=9) (by kernel_rfl) rfl (fun K n=> ?_);go_simp
 obtain⟨X,l⟩:∃W,W=(w.alloc (.cells #[.slice (some ⟨lb,0,none⟩) 1 D] 58)).drew:=⟨_,rfl⟩;rw [<-l];have e:Hid (Below w.heap.size w X):=aa (by rw [l];exact((Below.refl _ _).alloc (Nat.le_refl _) _).drew);have uf:Hid (Rd X (From w.heap.size) 1 (some ⟨w.heap.size,0,none⟩) 1 [.slice (some ⟨lb,0,none⟩) 1 D]):=aa (by rw [l];exact⟨rfl,fun _=>⟨_,0,rfl,Nat.le_refl _,fun k u hk=>by show(w.alloc _).cell? _=_;rw [(aj.new w _ _).cell];simpa using hk⟩⟩);have S3:X.cell? ⟨z,1,none⟩=some (.slice none 0 0)/\X.cell? ⟨z,2,none⟩=some (.slice (some ⟨lb,0,none⟩) 1 D):=⟨ak e j.1,ak e j.2⟩;clear l;refine n.out _ _ (fun _=>S3) ?_;clear n K;try simp only [aL,aN,aZ,aC]
 refine aH (i:=10) (by kernel_rfl) rfl (fun K n=> ?_);refine aI _ rfl (.tmp 17) (.tmp 22) _ rfl w.heap.size 58 i0 _ 1 24 underlying120 ac kH kI kJ rfl (by omega) (.slice none 0 0) 0 [] rfl (World.ownsRow_nil _ _ _ _) (From w.heap.size) (some ⟨w.heap.size,0,none⟩) 1 1 _ rfl uf (by intro u hu;simp at hu;subst hu;rfl) (by simp only [maxLen];omega) (by omega) e.size ?_;intro x q dz A ib;obtain⟨tb,T,ae,F,G⟩:=DI dz (by omega);subst ae;have Do:=aa F;have dR:Hid (Below w.heap.size w q):=aa (e.grown A e.size (fun k hk=>by simp [Value.ownBlock] at hk));have y:=aa (R.below dR);have Hr:q.cell? ⟨z,1,none⟩=some (.slice none 0 0):=y.out.cell 1;have XQ:∀o,q.frozen? ⟨z,o,none⟩=false:=y.out.frozen;have S4:q.cell? ⟨z,1,none⟩=some (.slice none 0 0)/\q.cell? ⟨z,2,none⟩=some (.slice (some ⟨lb,0,none⟩) 1 D):=⟨y.cell 1,y.cell 2⟩;have ab:=aa G;clear dz A ib F G;refine n.out _ _ (fun _=>S4) ?_;clear n K;try simp only [aL,aN,aZ,aC]
 refine uF 11 (fun _=>S4) ?_;refine uF 12 (fun _=>S4) ?_;refine aH (i:=13) (by kernel_rfl) rfl (fun K n=> ?_);go_simp
 refine n.out _ _ (fun h=>absurd h (by decide)) ?_;clear n K;try simp only [aL,aN,aZ,aC]
 refine bS (by kernel_rfl) ?_ _;have hc:=(ag.refl (fun b=>b=z) q).setCell (p:=⟨z,1,none⟩) (fun _=>rfl) (.slice (some ⟨tb,0,none⟩) 1 T);have ad:¬tb=z:=by have:=Do.out;omega
 exact dP _ _ _ _ _ _ _ _ _ _ _ _ _ tb T _ Do.1 (Nat.lt_of_lt_of_le Do.2 hc.size) (hc.cell ad (ab 0 _ rfl)) (y.set_ 1 _) ((ag.of_below dR).trans hc (fun _ _ h=>h))
def LB (b c lv:Value) (a:Bool):Array Value:= #[.int .i64 1,b,c,lv,.bool a,.int .i64 0]
theorem QT (z lb D:Nat) (lv:Value) (w:World) (h:aj w z 122 (LB (.slice none 0 0) (.slice (some ⟨lb,0,none⟩) 1 D) lv false)):
  Calls prog 83 #[.pointer (some ⟨z,0,none⟩)] w fun e w'=>∃tb f,e= .returned (.int .i64 0)/\w.heap.size<=tb/\tb<w'.heap.size/\w'.cell? ⟨tb,0,none⟩=some (.slice (some ⟨lb,0,none⟩) 1 D)/\aj w' z 122 (LB (.slice (some ⟨tb,0,none⟩) 1 f) (.slice none 0 0) lv false)/\ag (fun b=>b=z) w w':=by
 have q:=aa h;have L:w.cell? ⟨z,4,none⟩=some (.bool false):=h.cell 4;have K:w.cell? ⟨z,2,none⟩=some (.slice (some ⟨lb,0,none⟩) 1 D):=h.cell 2;have r:=h.lt;refine letter fun R o=> ?_;clear h;go_enter func83,ntmps83
 go_upto_region 4 with fail
 refine US z lb D lv w _ (aa (fun _ _ _ _ h=>h)) q ?_;intro s t u v x y A B C E F G H tb f w1 g i j a k;have c:=aa (And.intro g i);have l:=aa j;have m:=aa a;have n:=aa k;have I:w1.cell? ⟨z,2,none⟩=some (.slice (some ⟨lb,0,none⟩) 1 D):=a.cell 2;have J:w1.frozen? ⟨z,2,none⟩=false:=a.frozen 2;clear g i j a k;go_wp2;rw [o.out];have d:=(ag.refl (fun b=>b=z) w1).setCell (p:=⟨z,2,none⟩) (fun _=>rfl) (.slice none 0 0);exact⟨tb,f,rfl,c.1,Nat.lt_of_lt_of_le c.2 d.size,d.cell (fun e=>by have e:tb=z:=e;have:=c.out.1;omega) l,m.set_ 2 _,n.out.trans d (fun _ _ h=>h)⟩
theorem NT (z:Nat) (b lv:Value) (w:World) (h:aj w z 122 (LB b (.slice none 0 0) lv false)):
  Calls prog 83 #[.pointer (some ⟨z,0,none⟩)] w fun e w'=>e= .returned (.int .i64 0)/\w=w':=by
 have d:w.cell? ⟨z,4,none⟩=some (.bool false):=h.cell 4;have c:w.cell? ⟨z,2,none⟩=some (.slice none 0 0):=h.cell 2;refine letter fun R a=> ?_;clear h;go_enter func83,ntmps83
 go_wp2;rw [a.out]
 exact⟨rfl,rfl⟩
theorem FU (z:Nat) (a lv:Value) (w:World) (h:aj w z 122 (LB a (.slice none 0 0) lv false)):
  Calls prog 46 #[.pointer (some ⟨z,0,none⟩)] w fun e w'=>e= .returned (.int .i64 0)/\aj w' z 122 (LB a (.slice none 0 0) lv true)/\ag (fun b=>b=z) w w':=by
 have c:=aa h;have g:w.cell? ⟨z,4,none⟩=some (.bool false):=h.cell 4;have f:w.frozen? ⟨z,4,none⟩=false:=h.frozen 4;refine letter fun R d=> ?_;clear h;go_enter func46,ntmps46
 go_wp2_with (go_at_call 83;go_loud (refine(NT z a lv w c).mono ?_;rintro e w' ⟨rfl,rfl⟩))
 rw [d.out];exact⟨rfl,c.set_ 4 _,(ag.refl (fun b=>b=z) _).setCell (p:=⟨z,4,none⟩) (fun _=>rfl) _⟩
noncomputable def vE:Code:=aV (f45.body.bind (aJ 10))
theorem QU (z x:Nat) (dn lv kv:Value) (w:World) (Q:Exit->Act->World->Prop) (mQ:Hid (∀c t (a:Act) w,Q (.panic c) ⟨t,a.defers⟩ w->Q (.panic c) a w))
  (HZ:Hid (aj w z 122 (LB dn (.slice none 0 0) lv false))) (HX:Hid (aj w x 69 #[kv,.slice none 0 0])) (al:kv.oneCell'=true)
  (ax:∀(ar aw aA aE a0 a1 a2 a3 a4 a5:Value) (lb lc:Nat) (w':World),w.heap.size<=lb->lb<w'.heap.size->w'.cell? ⟨lb,0,none⟩=some kv->w'.cell? ⟨lb,1,none⟩=some (.slice none 0 0)->aj w' z 122 (LB dn (.slice (some ⟨lb,0,none⟩) 1 lc) lv false)->ag (fun b=>b=z) w w'->Q .normal ⟨(.pointer (some ⟨z,0,none⟩)::u1::J:: .pointer (some ⟨x,0,none⟩)::H::v::d::B::r::u9::M::E::I::Z::N::U::Y::O::f::C::s::V::P::m::D::g::T::j::u28::u29::A::u31::u32::u33::F::q::u36::u37::u38::R::e::X::u42::G::u44::u45::u46::l::L::ar::aw::aA::aE::a0::a1::a2::a3::a4::a5::S).toArray,[]⟩ w'):
  Code.wp prog vE Q ⟨(.pointer (some ⟨z,0,none⟩)::u1::J:: .pointer (some ⟨x,0,none⟩)::H::v::d::B::r::u9::M::E::I::Z::N::U::Y::O::f::C::s::V::P::m::D::g::T::j::u28::u29::A::u31::u32::u33::F::q::u36::u37::u38::R::e::X::u42::G::u44::u45::u46::l::L::u49::ek::u51::eO::u53::n::u55::fE::fF::u58::S).toArray,[]⟩ w:=by
 obtain⟨i0,ap,kH,kI,kJ⟩:=info_parts vo;have dP:=aa ax;have xB:=aa al;have a6:=HZ.out.lt;have S0:w.drew.cell? ⟨z,2,none⟩=some (.slice none 0 0)/\w.drew.cell? ⟨x,0,none⟩=some kv/\w.drew.cell? ⟨x,1,none⟩=some (.slice none 0 0):=⟨HZ.cell 2,HX.cell 0,HX.cell 1⟩;clear ax al;conv=>arg 2;whnf
 refine aS (fun w'=>w'.cell? ⟨z,2,none⟩=some (.slice none 0 0)/\w'.cell? ⟨x,0,none⟩=some kv/\w'.cell? ⟨x,1,none⟩=some (.slice none 0 0)) 10 (by kernel_rfl) ?_;refine uF 0 (fun _=>S0) ?_;refine uF 1 (fun _=>S0) ?_;refine uF 2 (fun _=>S0) ?_;refine uF 3 (fun _=>S0) ?_;refine uT 4 S0 ?_;refine uT 5 S0 ?_;refine aH (i:=6) (by kernel_rfl) rfl (fun K hK=> ?_);go_simp
 obtain⟨w3,ac⟩:∃W,W=(w.alloc (.cells #[kv,.slice none 0 0] 69)).drew:=⟨_,rfl⟩;rw [<-ac];have ab:Hid (Below w.heap.size w w3):=aa (by rw [ac];exact((Below.refl _ _).alloc (Nat.le_refl _) _).drew);have uf:Hid (Rd w3 (From w.heap.size) 2 (some ⟨w.heap.size,0,none⟩) 1 [kv,.slice none 0 0]):=aa (by rw [ac];exact⟨rfl,fun _=>⟨_,0,rfl,Nat.le_refl _,fun k u hk=>by show(w.alloc _).cell? _=_;rw [(aj.new w _ _).cell];simpa using hk⟩⟩);have S3:w3.cell? ⟨z,2,none⟩=some (.slice none 0 0)/\w3.cell? ⟨x,0,none⟩=some kv/\w3.cell? ⟨x,1,none⟩=some (.slice none 0 0):=⟨ak ab S0.1,ak ab S0.2.1,ak ab S0.2.2⟩;clear ac;refine hK.out _ _ (fun _=>S3) ?_;clear hK K;try simp only [aL,aN,aZ,aC]
 refine aH (i:=7) (by kernel_rfl) rfl (fun K hK=> ?_);refine aI _ rfl (.tmp 53) (.tmp 55) _ rfl w.heap.size 69 i0 _ 2 48 underlying58 ap kH kI kJ rfl (by omega) (.slice none 0 0) 0 [] rfl (World.ownsRow_nil _ _ _ _) (From w.heap.size) (some ⟨w.heap.size,0,none⟩) 1 1 _ rfl uf (by intro u hu;simp at hu;rcases hu with rfl|rfl;exact xB;rfl) (by simp only [maxLen];omega) (by omega) ab.size ?_;intro y w4 dz ae ib;obtain⟨lb,lc,aq,am,an⟩:=DI dz (by omega);subst aq;have Pi:=aa am;have dR:Hid (Below w.heap.size w w4):=aa (ab.grown ae ab.size (fun k hk=>by simp [Value.ownBlock] at hk));have J4:=aa (HZ.below dR);have Hr:w4.cell? ⟨z,2,none⟩=some (.slice none 0 0):=J4.out.cell 2;have XQ:∀o,w4.frozen? ⟨z,o,none⟩=false:=J4.out.frozen;have S4:w4.cell? ⟨z,2,none⟩=some (.slice none 0 0)/\w4.cell? ⟨x,0,none⟩=some kv/\w4.cell? ⟨x,1,none⟩=some (.slice none 0 0):=⟨Hr,ak dR S0.2.1,ak dR S0.2.2⟩;have ad:=aa an;clear dz ae ib am an;refine hK.out _ _ (fun _=>S4) ?_;clear hK K;try simp only [aL,aN,aZ,aC]
 refine uF 8 (fun _=>S4) ?_;refine uF 9 (fun _=>S4) ?_;refine aH (i:=10) (by kernel_rfl) rfl (fun K hK=> ?_);go_simp
 refine hK.out _ _ (fun h=>absurd h (by decide)) ?_;clear hK K;try simp only [aL,aN,aZ,aC]
 refine bS (by kernel_rfl) ?_ _;have hc:=(ag.refl (fun b=>b=z) w4).setCell (p:=⟨z,2,none⟩) (fun _=>rfl) (.slice (some ⟨lb,0,none⟩) 1 lc);have ao:¬lb=z:=by have:=Pi.out;omega
 exact dP _ _ _ _ _ _ _ _ _ _ lb lc _ Pi.1 (Nat.lt_of_lt_of_le Pi.2 hc.size) (hc.cell ao (ad 0 _ rfl)) (hc.cell ao (ad 1 _ rfl)) (J4.set_ 2 _) ((ag.of_below dR).trans hc (fun _ _ h=>h))
def Zy (F:Nat->Prop) (z j:Nat) (Q:Option Addr) (w:World) (e:Ending) (w':World):Prop:=
 ∃tb c lb a,e= .returned (.int .i64 0)/\(w.heap.size<=tb/\tb<w'.heap.size)/\w.heap.size<=lb/\w'.cell? ⟨tb,0,none⟩=some (.slice (some ⟨lb,0,none⟩) 1 a)/\E1 w' F lb Q j/\aj w' z 122 (LB (.slice (some ⟨tb,0,none⟩) 1 c) (.slice none 0 0) (.slice Q 1 j) false)/\ag (fun b=>b=z) w w'
theorem NU (F:Nat->Prop) (z j:Nat) (Q:Option Addr) (w:World) (h:aj w z 122 (LB (.slice none 0 0) (.slice none 0 0) (.slice none 0 0) false)) (hk:SB w F (.slice Q 1 j) [107]) (hF:∀b,F b->b<w.heap.size/\b≠z):
  Calls prog 45 #[.pointer (some ⟨z,0,none⟩),.agg #[.slice Q 1 j,.slice none 0 0]] w (Zy F z j Q w):=by
 have HZ:=aa h;have HK:=aa hk;have HF:=aa hF;have ae:=h.lt;refine letter fun R HR=> ?_;clear h hk hF;go_enter func45,ntmps45
 go_upto_region 4 with(go_at_call 70;go_loud (obtain⟨w1,d⟩:∃W,W=w.alloc (.cells #[.slice Q 1 j,.slice none 0 0] 69):=⟨_,rfl⟩;rw [<-d];have D:aj w1 w.heap.size 69 #[.slice Q 1 j,.slice none 0 0]:=(by rw [d];exact aj.new _ _ _);have n:Below w.heap.size w w1:=(by rw [d];exact(Below.refl _ _).alloc (Nat.le_refl _) _);clear d;refine(jA Q none 1 0 j 0 ([107],[]) rfl rfl w1).mono ?_;rintro e w2 ⟨rfl,o⟩;rw [show ic ([107],[])=0 by decide];have u:Hid (Below w.heap.size w w2):=aa (n.trans (o.mono n.size));have uG:=aa (D.below o);have c:=aa (HZ.below u);have V:w2.cell? ⟨z,4,none⟩=some (.bool false):=c.out.cell 4;have S:w2.cell? ⟨z,1,none⟩=some (.slice none 0 0):=c.out.cell 1;have T:w2.cell? ⟨z,2,none⟩=some (.slice none 0 0):=c.out.cell 2;have U:w2.cell? ⟨z,3,none⟩=some (.slice none 0 0):=c.out.cell 3;clear D n o))
 go_wp2;go_quiet (fail)
 obtain⟨G,f⟩:∃W,W=w2.drewN nq:=⟨_,rfl⟩;have g:Hid (Below w.heap.size w G):=aa (by rw [f];exact rZ u nq);have v:Hid (aj G w.heap.size 69 #[.slice Q 1 j,.slice none 0 0]):=aa (by rw [f];exact uG.drewN nq);have k:=aa (HZ.below g);have X:G.cell? ⟨z,1,none⟩=some (.slice none 0 0):=k.out.cell 1;have Y:G.cell? ⟨z,2,none⟩=some (.slice none 0 0):=k.out.cell 2;rw [<-f];clear f V S T U;go_upto_region 10 with fail
 refine QU z w.heap.size (.slice none 0 0) (.slice none 0 0) (.slice Q 1 j) G _ (aa (fun _ _ _ _ h=>h)) k v rfl ?_;intro al am an ao ap aq ar aw ax aA lb E q r s A B l P;have i:=aa (And.intro r s);have iZ:=aa A;have jL:=aa B;have J4:=aa l;have fV:=aa P;have BN:=aa g.size;have Z:q.cell? ⟨w.heap.size,0,none⟩=some (.slice Q 1 j):=(v.out.chg P (fun e=>by have e:w.heap.size=z:=e;omega)).cell 0;have ab:q.cell? ⟨z,3,none⟩=some (.slice none 0 0):=l.cell 3;have hf:q.frozen? ⟨z,3,none⟩=false:=l.frozen 3;clear r s A B l P X Y;go_upto_region 12 with fail
 obtain⟨t,y⟩:∃W,W=q.setCell ⟨z,3,none⟩ (.slice Q 1 j):=⟨_,rfl⟩;have M:Hid (aj t z 122 (LB (.slice none 0 0) (.slice (some ⟨lb,0,none⟩) 1 E) (.slice Q 1 j) false)):=aa (by rw [y];exact J4.set_ 3 _);have dF:Hid (ag (fun b=>b=z) w t):=aa (by rw [y];exact((ag.of_below g).trans fV (fun _ _ h=>h)).setCell (p:=⟨z,3,none⟩) (fun _=>rfl) _);have N:Hid (ag (fun b=>b=z) q t):=aa (by rw [y];exact(ag.refl (fun b=>b=z) q).setCell (p:=⟨z,3,none⟩) (fun _=>rfl) _);have ad:t.cell? ⟨z,2,none⟩=some (.slice (some ⟨lb,0,none⟩) 1 E):=M.out.cell 2;have ac:t.cell? ⟨z,0,none⟩=some (.int .i64 1):=M.out.cell 0;rw [<-y];clear y Z ab hf;go_quiet (fail);obtain⟨J,x⟩:∃W,W=t.drewN nq:=⟨_,rfl⟩;have K:Hid (aj J z 122 (LB (.slice none 0 0) (.slice (some ⟨lb,0,none⟩) 1 E) (.slice Q 1 j) false)):=aa (by rw [x];exact M.drewN nq);have O:Hid (ag (fun b=>b=z) q J):=aa (by rw [x];exact N.drewN nq);have H:Hid (ag (fun b=>b=z) w J):=aa (by rw [x];exact dF.drewN nq);rw [<-x];clear x ad ac;go_wp2_with (go_at_call 83;go_loud (refine(QT z lb E (.slice Q 1 j) J K).mono ?_;rintro e w7 ⟨tb,tc,rfl,r,s,A,B,l⟩;have Do:=aa (And.intro r s);have H3:=aa A;have L:=aa B;have I:=aa l;clear r s A B l))
 rw [HR.out];have a:=O.out.trans I (fun _ _ h=>h);have C:¬lb=z:=fun e=>by have r:=i.out.1;have s:=BN.out;omega
 refine⟨tb,tc,lb,E,rfl,⟨Nat.le_trans H.size Do.1,Do.2⟩,Nat.le_trans BN i.1,H3,⟨a.cell C iZ,a.cell C jL,?_,fun b m=> ?_⟩,L,H.out.trans I (fun _ _ h=>h)⟩
 ·exact HK.chg (H.out.trans I (fun _ _ h=>h)) (fun b m e=>(HF b m).2 e)
 ·rcases m with m|m
  ·rw [m];exact Nat.lt_of_lt_of_le i.2 a.size
  ·exact Nat.lt_of_lt_of_le (HF b m).1 (Nat.le_trans H.size I.size)
theorem FW (F:Nat->Prop) (p c0 j:Nat) (Q:Option Addr) (w:World) (h:E1 w F p Q j):
  Calls prog 21 #[.slice (some ⟨p,0,none⟩) 1 c0,.int .i64 1] w fun e w'=>∃A c,e= .returned (.tuple #[.slice A 46 c,.int .i64 0,.int .i64 0])/\OB w w' (.slice A 46 c) kr:=by
 have m:=aa h;refine letter fun R P=> ?_;clear h;go_enter func21,ntmps21
 go_wp2;obtain⟨w1,i⟩:∃W,W=w.alloc (.cells #[.int .i64 1,.slice none 0 0,.slice none 0 0,.slice none 0 0,.bool false,.int .i64 0] 122):=⟨_,rfl⟩
 rw [<-i];have l:aj w1 w.heap.size 122 (LB (.slice none 0 0) (.slice none 0 0) (.slice none 0 0) false):=by rw [i];exact aj.new _ _ _
 have f:Below w.heap.size w w1:=by rw [i];exact(Below.refl _ _).alloc (Nat.le_refl _) _
 have t:=aa l;have a:=aa f;have x:=aa l.lt;have Y:w1.cell? ⟨p,0,none⟩=some (.slice Q 1 j):=ak f m.c0;have Z:w1.cell? ⟨p,1,none⟩=some (.slice none 0 0):=ak f m.c1;clear i l f;refine wp_loop_rounds 2 ?_;rw [rounds_succ];go_wp2_with (go_at_call 45;go_loud (refine(NU F w.heap.size j Q w1 t (m.key.below a) (fun b d=>by have q:=m.out.own b (.inr d);have B:=a.out.size;exact⟨by omega,by omega⟩)).mono ?_;rintro e w2 ⟨tb,V,lb,N,rfl,q,B,I,J,K,L⟩;have G:=aa q;have S:=aa B;have s:=aa I;have r:=aa J;have u:=aa K;have H:=aa L;clear q B I J K L))
 rw [rounds_succ];go_wp2_with (first|(go_at_call 46;go_loud (refine(FU w.heap.size _ _ w2 u).mono ?_;rintro e E ⟨rfl,o,g⟩;have v:=aa o;have z:=aa g;have k:∀b,b=tb\/b=lb\/F b->¬b=w.heap.size:=(fun b d=>by have q:=x.out;rcases d with d|d|d;(have:=G.out.1;omega);(have:=S.out;omega);have:=m.out.own b (.inr d);omega);have O:=aa (r.chg g (fun b d=>k b (.inr d)));have y:Hid (E.cell? ⟨tb,0,none⟩=some (.slice (some ⟨lb,0,none⟩) 1 N)):=aa (g.cell (k tb (.inl rfl)) s);clear o g k))|(go_at_call 47;go_loud (refine(FT F w.heap.size tb V lb N j Q _ E v O y (Nat.lt_of_lt_of_le G.2 z.size)).mono ?_;rintro e X ⟨A,c,rfl,M,n⟩;have U:=aa M;have T:=aa n;clear M n)))
 go_ret3
 rw [P.out];have C:ag (fun b=>b=w.heap.size) w1 X:=H.out.trans (z.out.trans T (fun _ _ h=>h)) (fun _ _ h=>h);have D:w.heap.size<=E.heap.size:=Nat.le_trans a.size (Nat.le_trans H.size z.size);exact⟨A,c,rfl,nu U D,a.out.trans (C.below_of a.size (fun b d e=>by have e:b=w.heap.size:=e;omega))⟩
end Go.Proofs.YtepgcjbhabnciaaGreat
