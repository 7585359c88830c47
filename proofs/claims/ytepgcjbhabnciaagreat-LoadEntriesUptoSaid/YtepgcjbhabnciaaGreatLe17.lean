/- Part 17. -/
import Derived.Test.YtepgcjbhabnciaaGreatLe15
namespace Go.Proofs.YtepgcjbhabnciaaGreat
set_option maxRecDepth 100000
set_option maxHeartbeats 8000000
open Go.RowKit Go.Proofs.Tryz
section
def dB (w:World) (D:Nat->Prop) (base:Nat) (v:Value) (ks:List (Int×List UInt8)):Prop:=
 ∃us,w.ownsRow base 200 2 v ks.length us/\(∀g,v.ownBlock=some g->D g)/\∀(i:Nat) (k:Int×List UInt8),ks[i]? =some k->us[2*i]? =some (.int .i64 k.1)/\∃u,us[2*i+1]? =some u/\SB w (fun b=>D b/\v.ownBlock≠some b) u k.2
theorem qz {w w':World} {F:Nat->Prop} {mm base size n:Nat} {e:TypeId} {v:Value} {xs:List Value} (h:w.ownsRow base e size v n xs) (c:∀g,v.ownBlock=some g->Off F mm g) (d:ag (fun b=>F b\/b=mm) w w'):
  w'.ownsRow base e size v n xs/\∀g,v.ownBlock=some g->Off (Grown F w w') mm g:=
 ⟨aD h d (fun g a h=>h.elim (c g a).1 (c g a).2),fun g a=>off_next (ah h g a).2 (c g a)⟩
def Rest (F:Nat->Prop) (mm:Nat) (o:Value):Nat->Prop:=fun b=>Off F mm b/\o.ownBlock≠some b
section
variable {S D G F:Nat->Prop} {w w':World} {base mm:Nat} {v:Value} {ks:List (Int×List UInt8)}
theorem dB.chg (h:dB w D base v ks) (y:ag S w w') (o:∀b,D b->¬S b):dB w' D base v ks:=
 let⟨us,e,d,f⟩:=h;⟨us,aD e y (fun g l=>o g (d g l)),d,fun i k m=>let⟨a,u,b,c⟩:=f i k m;⟨a,u,b,c.chg y (fun b j=>o b j.1)⟩⟩
theorem dB.below (h:dB w D base v ks) (a:Below w.heap.size w w'):dB w' D base v ks:=h.chg (S:=Nil) (ag.of_below a) (fun _ _ b=>b)
theorem dB.off_next (h:dB w (Off F mm) base v ks) (e:ag (fun _b=>F _b\/_b=mm) w w'):dB w' (Off (Grown F w w') mm) base v ks:=
 let⟨us,f,g,j⟩:=h;⟨us,(qz f g e).1,(qz f g e).2,fun i k l=>let⟨a,u,_b,c⟩:=j i k l;⟨a,u,_b,(c.lt.chg e (fun _b d h=>h.elim d.1.1.1 d.1.1.2)).weak (fun _b d=>⟨Go.Proofs.YtepgcjbhabnciaaGreat.off_next d.2 d.1.1,d.1.2⟩)⟩⟩
theorem dB.nil (w:World) (D:Nat->Prop) (base:Nat):dB w D base (.slice none 0 0) []:=⟨[],World.ownsRow_nil _ _ _ _,fun g h=>by simp [Value.ownBlock] at h,fun i k a=>by simp at a⟩
theorem dB.push {D':Nat->Prop} {w2:World} {v2 hv:Value} {us:List Value} {id:Int} {high:List UInt8} (p:w.ownsRow base 200 2 v ks.length us) (q:∀g,v.ownBlock=some g->D g)
  (r:∀(i:Nat) (k:Int×List UInt8),ks[i]? =some k->us[2*i]? =some (.int .i64 k.1)/\∃u,us[2*i+1]? =some u/\SB w (fun b=>D b/\v.ownBlock≠some b) u k.2)
  (y:w2.ownsRow base 200 2 v2 (ks.length+1) (us++ [.int .i64 id,hv])) (s:w.grownBy w2 v.ownBlock) (l:v2.ownBlock=v.ownBlock\/v2.ownBlock=some w.heap.size)
  (t:SB w (fun b=>D b/\v.ownBlock≠some b) hv high) (n:∀b,D b->D' b) (x:D' w.heap.size):dB w2 D' base v2 (ks++ [(id,high)]):=by
 have hl:us.length=ks.length*2:=p.1;have o:ag (fun b=>v.ownBlock=some b) w w2:=(ag.refl _ _).grown s (fun _ f _=>f);have up:∀b,((D b/\v.ownBlock≠some b)/\b<w.heap.size)->D' b/\v2.ownBlock≠some b:=fun b j=>⟨n b j.1.1,fun e=>l.elim (fun m=>j.1.2 (m▸e)) (fun m=>by rw [m] at e;injection e with e;omega)⟩;refine⟨_,by simpa using y,fun g d=>l.elim (fun e=>n g (q g (e▸d))) (fun e=>by rw [e] at d;injection d with d;exact d▸x),fun i k f=> ?_⟩
 rcases Nat.lt_or_ge i ks.length with hi|hi
 ·rw [List.getElem?_append_left hi] at f;obtain⟨a,u,b,c⟩:=r i k f
  exact⟨by rw [List.getElem?_append_left (by omega)];exact a,u,by rw [List.getElem?_append_left (by omega)];exact b,(c.lt.chg o (fun b j e=>j.1.2 e)).weak up⟩
 ·rw [List.getElem?_append_right hi] at f
  obtain⟨h,rfl⟩:i=ks.length/\k=(id,high):=by
   have:=(List.getElem?_eq_some_iff.1 f).1;have h:i=ks.length:=by simp at this;omega
   subst h;simp at f;exact⟨rfl,f.symm⟩
  subst h;refine⟨by rw [List.getElem?_append_right (by omega),hl,show 2*ks.length-ks.length*2=0 by omega];rfl,hv,by rw [List.getElem?_append_right (by omega),hl,show 2*ks.length+1-ks.length*2=1 by omega];rfl,(t.lt.chg o (fun b j e=>j.1.2 e)).weak up⟩
theorem yK {o d:Value} {b:Nat} (f:b<w.heap.size) (h:Rest F mm o b) (c:d.ownBlock=o.ownBlock\/∃x,w.heap.size<=x/\d.ownBlock=some x):Rest (Grown F w w') mm d b:=
 ⟨Go.Proofs.YtepgcjbhabnciaaGreat.off_next f h.1,fun e=>c.elim (fun a=>h.2 (a▸e)) (fun⟨x,g,a⟩=>by rw [a] at e;injection e with e;omega)⟩
end
structure o8 (w:World) (D:Nat->Prop) (base:Nat) (t:TypeId) (gv:Value) (vs:List Value) (fill K m:Nat) (vals:List Value) (A:Option Addr) (c:Nat):Prop where
 own:w.ownsRow base t 1 gv (K+1) (vals++ [.slice A m c])
 blk:∀g,gv.ownBlock=some g->D g
 len:vals.length=K
 parts:kR w D vs fill K vals
 last:Rd w D 2 A m (vs.drop (K*fill*2))
 mc:m<=c
 cm:c<=maxLen
section
variable {S D G F:Nat->Prop} {w w':World} {base mm fill K m c:Nat} {t:TypeId} {gv:Value} {vs vals:List Value} {A:Option Addr}
theorem o8.chg (h:o8 w D base t gv vs fill K m vals A c) (y:ag S w w') (o:∀b,D b->¬S b):o8 w' D base t gv vs fill K m vals A c:=
 ⟨aD h.own y (fun g a=>o g (h.blk g a)),h.blk,h.len,h.parts.chg y o,h.last.chg y o,h.mc,h.cm⟩
theorem o8.below (h:o8 w D base t gv vs fill K m vals A c) (a:Below w.heap.size w w'):o8 w' D base t gv vs fill K m vals A c:=h.chg (S:=Nil) (ag.of_below a) (fun _ _ b=>b)
theorem o8.at_ (h:o8 w D base t gv vs fill K m vals A c) {i:Nat} (hi:i<K+1):∃r f B e d,gv= .slice (some ⟨r,0,none⟩) (K+1) f/\r<w.heap.size/\D r/\e=(if i<K then fill else m)/\w.cell? ⟨r,i,none⟩=some (.slice B e d)/\e<=d/\d<=maxLen/\Rd w D 2 B e ((vs.drop (i*fill*2)).take (e*2)):=by
 obtain⟨r,f,hv,o,p⟩:=h.own.form (by omega);have a:∀j u,(vals++ [.slice A m c])[j]? =some u->w.cell? ⟨r,j,none⟩=some u:=fun j u q=>by have:=h.own.cells (g:=r) (by rw [hv];rfl) j u q;rw [iT,Nat.zero_add] at this;exact this
 have l:=h.blk r (by rw [hv];rfl);have b:=(ah h.own r (by rw [hv];rfl)).2
 rcases Nat.lt_or_ge i K with k|k
 ·obtain⟨B,d,n,s,v,x⟩:=h.parts i k
  refine⟨r,f,B,fill,d,hv,b,l,by rw [if_pos k],a i _ (by rw [List.getElem?_append_left (List.getElem?_eq_some_iff.1 n).1];exact n),s,v,x⟩
 ·obtain rfl:i=K:=by omega
  refine⟨r,f,A,m,c,hv,b,l,by rw [if_neg (by omega)],a i _ (by rw [List.getElem?_append_right (by have:=h.len;omega),h.len];simp),h.mc,h.cm,?_⟩;have hl:=h.last.1;rw [List.take_of_length_le (by omega)];exact h.last
end
structure Lv (w wr:World) (F F':Nat->Prop) (p mm:Nat) (nodes root:Int) (tu:List bR) (f:Nat->bR) (hi:Nat->List UInt8) (k:Nat) (out:Value):Prop where
 st:dQ wr F' p mm nodes root (tu++(List.range k).map f)
 row:dB wr (Off F' mm) w.heap.size out ((List.range k).map fun(i:Nat)=>((tu.length:Int)+(i:Int)+1,hi i))
 chg:ag (fun b=>F b\/b=mm) w wr
 sub:∀b,F' b->F b\/w.heap.size<=b
end
theorem BX:(prog.info? 200).map (fun i=>(i.zero,i.size,i.bytes))=some (some (.agg #[.int .i64 0,.slice none 0 0]),2,32):=by kernel_rfl
theorem Rd.two (w:World) (u v:Value) (t:TypeId):Rd (w.alloc (.cells #[u,v] t)) (From w.heap.size) 2 (some ⟨w.heap.size,0,none⟩) 1 [u,v]:=
 ⟨rfl,fun _=>⟨w.heap.size,0,rfl,Nat.le_refl _,fun j x a=>by
  rw [(aj.new w t #[u,v]).cell]
  match j,a with
  |0,a=>simpa using a
  |1,a=>simpa using a⟩⟩
def Ua (q:Nat) (lev:Int) (k:Option Addr) (o i:Nat) (right:Int) (Q:Option Addr) (n j:Nat) (b:Option Addr) (vn vc:Nat) (c:Option Addr) (a t:Nat) (w:World):Prop:=
 w.cell? ⟨q,0,none⟩=some (.int .i64 lev)/\w.cell? ⟨q,1,none⟩=some (.slice k o i)/\w.cell? ⟨q,2,none⟩=some (.int .i64 right)/\w.cell? ⟨q,3,none⟩=some (.slice Q n j)/\w.cell? ⟨q,4,none⟩=some (.slice b vn vc)/\w.cell? ⟨q,5,none⟩=some (.slice c a t)
theorem Ua.chg {S:Nat->Prop} {w w':World} {q:Nat} {lev right:Int} {k Q b c:Option Addr} {o i n j vn vc a t:Nat} (h:Ua q lev k o i right Q n j b vn vc c a t w) (d:ag S w w') (e:¬S q):Ua q lev k o i right Q n j b vn vc c a t w':=
 ⟨d.cell e h.1,d.cell e h.2.1,d.cell e h.2.2.1,d.cell e h.2.2.2.1,d.cell e h.2.2.2.2.1,d.cell e h.2.2.2.2.2⟩
structure Put (w w':World) (F:Nat->Prop) (p mm:Nat) (nodes root:Int) (ZF:List bR) (base:Nat) (o o':Value) (ks':List (Int×List UInt8)):Prop where
 st:∃F',dQ w' F' p mm nodes root ZF/\(∀b,F' b->F b\/w.heap.size<=b)/\dB w' (Off F' mm) base o' ks'/\∀b,b<w.heap.size->Rest F mm o b->Rest F' mm o' b
 chg:ag (fun b=>(F b\/b=mm)\/o.ownBlock=some b) w w'
noncomputable def U8:Code:=aV (f94.body.bind (aJ 16))
theorem Ty (F:Nat->Prop) (p mm:Nat) (nodes root:Int) (done:List bR) (nd:Nd) (hA kA vA dA:Option Addr) (hn hc n j vn vc dn dc:Nat) (more:Bool) (q:Nat) (w:World) (base:Nat) (o:Value) (ks:List (Int×List UInt8)) {u1 u2 L u4 v u6 r u9 M I Z U Y O f C u20 V P m D u25 u26 u27 W u29 u30 u31 u32 u33 u34 u35 u36 u37 u38 R u40 X u42 G u44 u45 u46 l u48 u49 z d eO B eQ u55 fE fF u58 u59 u60 gJ gY u63 u64 J u66 iq u68 u69 u70 H u72 u73 jJ u75 A E mG N mI mJ mV mW mX l8 nT rM T s:Value} (Q:Exit->Act->World->Prop) (mQ:Hid (∀c t (a:Act) w,Q (.panic c) ⟨t,a.defers⟩ w->Q (.panic c) a w))
  (ac:dQ w F p mm nodes root done) (hf:(done.length:Int)<nodes) (hn1:nodes<=65536) (an:ks.length<=65536) (hbase:base<=w.heap.size)
  (hq:aj w q 132 #[.int .i64 nd.lev,.slice hA hn hc,.int .i64 nd.right,.slice kA n j,.slice vA vn vc,.slice dA dn dc]) (PH:Rest F mm o q)
  (h1:Bt w (Rest F mm o) hA hn hc nd.high) (h2:Tx w (Off F mm) kA n j nd.keys) (h3:Tx w (Off F mm) vA vn vc nd.vals) (h4:It w (Off F mm) dA dn dc nd.kids) (x:Small nd)
  (ab:dB w (Off F mm) base o ks)
  (ax:∀(aE a0 a1 a2 a3 a4 a5 a6 a7 a8 a9:Value) (o':Value) (w':World),Put w w' F p mm nodes root (done++ [(2,⟨nd.lev,nd.high,if more then(done.length:Int)+1+1 else nd.right,nd.keys,nd.vals,nd.kids⟩)]) base o o' (ks++ [((done.length:Int)+1,nd.high)])->Q .normal ⟨(.pointer (some ⟨mm,0,none⟩)::u1::u2::L::u4::v::u6::o'::r::u9::M:: .pointer (some ⟨q,0,none⟩)::I::Z:: .bool more::U::Y::O::f::C::u20::V::P::m::D::u25::u26::u27::W::u29::u30::u31::u32::u33::u34::u35::u36::u37::u38::R::u40::X::u42::G::u44::u45::u46::l::u48::u49::z::d::eO::B::eQ::u55::fE::fF::u58::u59::u60::gJ::gY::u63::u64::J::u66::iq::u68::u69::u70::H::u72::u73::jJ::u75::A::aE::a0::a1::a2::a3::a4::a5::a6::a7::a8::a9::T::s:: []).toArray,[]⟩ w'):
  Code.wp prog U8 Q ⟨(.pointer (some ⟨mm,0,none⟩)::u1::u2::L::u4::v::u6::o::r::u9::M:: .pointer (some ⟨q,0,none⟩)::I::Z:: .bool more::U::Y::O::f::C::u20::V::P::m::D::u25::u26::u27::W::u29::u30::u31::u32::u33::u34::u35::u36::u37::u38::R::u40::X::u42::G::u44::u45::u46::l::u48::u49::z::d::eO::B::eQ::u55::fE::fF::u58::u59::u60::gJ::gY::u63::u64::J::u66::iq::u68::u69::u70::H::u72::u73::jJ::u75::A::E::mG::N::mI::mJ::mV::mW::mX::l8::nT::rM::T::s:: []).toArray,[]⟩ w:=by
 obtain⟨i0,aw,kH,kI,kJ⟩:=info_parts BX;have S0:Ua q nd.lev hA hn hc nd.right kA n j vA vn vc dA dn dc w.drew:=⟨by rw [hq.drew.cell];rfl,by rw [hq.drew.cell];rfl,by rw [hq.drew.cell];rfl,by rw [hq.drew.cell];rfl,by rw [hq.drew.cell];rfl,by rw [hq.drew.cell];rfl⟩;have HQ:=aa PH;have ql:=hq.lt;have dP:=aa ax;have ar:=aa (ac.below (Below.refl _ _).drew);have H1:=aa h1;have H2:=aa (h2.below (Below.refl _ _).drew);have H3:=aa (h3.below (Below.refl _ _).drew);have H4:=aa (h4.below (Below.refl _ _).drew);have HS:=aa x;have HR:=aa (ab.below (Below.refl _ _).drew);have HK:=aa an;have HB:=aa hbase;have iH:=aa ac.2.1;have Pb:=ac.2.2.1;have BZ:Hid (∀g,o.ownBlock=some g->Off F mm g/\g<w.heap.size):=aa (by obtain⟨us,a,b,_⟩:=ab;exact fun g hg=>⟨b g hg,(ah a g hg).2⟩);clear hq PH ax ac h1 h2 h3 h4 x ab an hbase;conv=>arg 2;whnf
 refine aU (Ua q nd.lev hA hn hc nd.right kA n j vA vn vc dA dn dc) (by kernel_rfl) ?_;refine vT 0 S0 ?_;refine vT 1 S0 ?_;refine vT 3 S0 ?_;refine vT 5 S0 ?_;refine vT 6 S0 ?_;refine vT 2 S0 ?_;refine vT 7 S0 ?_;refine aO (i:=4) (by kernel_rfl) rfl (fun K hK=> ?_);go_simp
 refine(Ht more nd hA kA vA dA hn hc n j vn vc dn dc ar hf hn1 (H1.below (Below.refl _ _).drew|>.weak (fun b hb=>hb.1)) H2 H3 H4 HS).mono ?_;rintro e w1 ⟨rfl,ao,LQ⟩;have S1:=S0.chg LQ (fun h=>h.elim HQ.1.1 HQ.1.2);have EH:=aa ao;have jL:=aa LQ;have ba:w.heap.size<=w1.heap.size:=LQ.size;obtain⟨us,r1,r2,r3⟩:=HR.out.off_next LQ;have al:=aa r1;have ap:=aa r2;have aq:=aa r3;clear ao r1 r2 r3 LQ;refine hK.out _ _ S1 ?_;clear hK K;try simp only [aL,aN,aZ,aC]
 refine vT 8 S1 ?_;refine aO (i:=9) (by kernel_rfl) rfl (fun K hK=> ?_);go_simp
 have y:Below w1.heap.size w1 (w1.alloc (.cells #[.int .i64 ((done.length:Int)+1),.slice hA hn hc] 200)):=(Below.refl _ _).alloc (Nat.le_refl _) _;have S2:=S1.chg (S:=Nil) (ag.of_below y) (fun hf=>hf);refine hK.out _ _ S2 ?_;clear hK K;try simp only [aL,aN,aZ,aC]
 refine aO (i:=10) (by kernel_rfl) rfl (fun K hK=> ?_);refine aI _ rfl (.tmp 77) (.tmp 86) _ rfl base 200 i0 _ 2 32 underlying194 aw kH kI kJ rfl (by omega) o ks.length us rfl (own_below al y) (From w1.heap.size) (some ⟨w1.heap.size,0,none⟩) 1 1 [.int .i64 ((done.length:Int)+1),.slice hA hn hc] rfl (Rd.two w1 _ _ _) (by intro u hu;simp at hu;rcases hu with hu|hu<;>subst hu<;>rfl) (by simp only [maxLen];have:=HK.out;omega) (by have:=HK.out;omega) (by have:=HB.out;simp;omega) ?_;intro v2 w2 ae am iK;have ad:=(ag.refl (fun b=>o.ownBlock=some b) _).grown am (fun k hk _=>hk);have S3:=S2.chg ad (fun e=>HQ.2 e);refine hK.out _ _ S3 ?_;clear hK K;try simp only [aL,aN,aZ,aC]
 refine vT 11 S3 ?_;refine bG (by kernel_rfl) ?_ _;have aA:Off (Grown F w.drew w1) mm (w1.alloc (.cells #[.int .i64 ((done.length:Int)+1),.slice hA hn hc] 200)).heap.size:=⟨fun h=>h.elim (fun h=>by have:=iH.out _ h;simp at this;omega) (fun h=>by have:=h.2;rw [World.size_alloc] at this;omega),by simp;omega⟩;have hh:SB w1 (fun b=>Off (Grown F w.drew w1) mm b/\o.ownBlock≠some b) (.slice hA hn hc) nd.high:=SB.weak ((H1.lt.below (Below.refl _ _).drew).chg jL (fun b hb h=>h.elim hb.1.1.1 hb.1.1.2)).sb (fun b hb=>⟨off_next (w:=w.drew) hb.2 hb.1.1,hb.1.2⟩);have Ub:∀b,Grown F w.drew w1 b->o.ownBlock≠some b:=fun b hb e=>hb.elim (fun h=>(BZ b e).1.1 h) (fun h=>by have h1:w.heap.size<=b:=h.1;have:=(BZ.out b e).2;omega)
 refine dP _ _ _ _ _ _ _ _ _ _ _ v2 w2 ⟨⟨Grown F w.drew w1,?_,fun b hb=>hb.elim .inl (fun h=> .inr h.1),?_,?_⟩,?_⟩
 ·exact(EH.below y).chg ad Ub (fun e=>(BZ mm e).1.2 rfl)
 ·exact dB.push (own_below al y) ap (fun i k hk=>let⟨a,u,b,c⟩:=aq.out i k hk;⟨a,u,b,c.below y⟩) ae am iK (hh.below y) (fun _ h=>h) aA
 ·exact fun b hb h=>yK (w:=w.drew) hb h (iK.imp id (fun e=>⟨_,by simp;omega,e⟩))
 ·exact(((ag.refl _ _).drew.trans jL (fun b _ h=> .inl h)).then y).trans ad (fun b _ h=> .inr h)
end Go.Proofs.YtepgcjbhabnciaaGreat
