/- Part 36. -/
import Derived.Test.YtepgcjbhabnciaaGreatLe33
namespace Go.Proofs.YtepgcjbhabnciaaGreat
set_option maxRecDepth 100000
set_option maxHeartbeats 8000000
open Go.Proofs.Tryz Go.RowKit
variable {base size n c F:Nat} {D:Nat->Prop} {w:World} {ks:List (Int×List UInt8)}
noncomputable def iL:Code:=aV (f95.body.bind (aJ 16))
theorem je (F:Nat->Prop) (p mm:Nat) (nodes root:Int) (done:List bR) (nd:Nd) (hA kA vA dA:Option Addr) (hn hc n j vn vc dn dc:Nat) (more:Bool) (q:Nat) (w:World) (base:Nat) (o:Value) (ks:List (Int×List UInt8)) (r M cp i:Nat) {u1 u2 L H v u6 u7 u8 I N U Y O f C s V P m D u25 T u27 W u29 A u31 u32 u33 u34 u35 u36 u37 u38 R u40 X u42 G u44 u45 u46 l u48 u49 z d eO B eQ u55 fE fF u58 u59 u60 gJ gY u63 u64 J u66 iq u68 u69 u70 j4 u72 u73 jJ u75 jK E mG mH mI mJ mV mW mX Z nT:Value} (Q:Exit->Act->World->Prop) (mQ:Hid (∀c t (a:Act) w,Q (.panic c) ⟨t,a.defers⟩ w->Q (.panic c) a w))
  (ac:dQ w F p mm nodes root done) (hf:(done.length:Int)<nodes) (hn1:nodes<=65536) (an:ks.length<=65536) (hbase:base<=w.heap.size)
  (hq:aj w q 132 #[.int .i64 nd.lev,.slice hA hn hc,.int .i64 nd.right,.slice kA n j,.slice vA vn vc,.slice dA dn dc]) (PH:Rest F mm o q)
  (h1:Bt w (Rest F mm o) hA hn hc nd.high) (h2:Tx w (Off F mm) kA n j nd.keys) (h3:Tx w (Off F mm) vA vn vc nd.vals) (h4:It w (Off F mm) dA dn dc nd.kids) (x:Small nd)
  (ab:dB w (Off F mm) base o ks) (_bk:1<=M) (_bm:M<=65536) (aE:decide ((i:Int)<(M:Int)-1)=more) (bo:IntKind.i64.wrap ((M:Int)-1)=(M:Int)-1)
  (ax:∀(a0 a1 a2 a3 a4 a5 a6 a7 a8 a9 ba bb be bh bj:Value) (o':Value) (w':World),Put w w' F p mm nodes root (done++ [(2,⟨nd.lev,nd.high,if more then(done.length:Int)+1+1 else nd.right,nd.keys,nd.vals,nd.kids⟩)]) base o o' (ks++ [((done.length:Int)+1,nd.high)])->Q .normal ⟨(.pointer (some ⟨mm,0,none⟩)::u1::u2::L::H::v::u6::u7::u8::o':: .slice (some ⟨r,0,none⟩) M cp:: .int .i64 i::I:: .pointer (some ⟨q,0,none⟩)::N::U::Y::O::f::C::s::V::P::m::D::u25::T::u27::W::u29::A::u31::u32::u33::u34::u35::u36::u37::u38::R::u40::X::u42::G::u44::u45::u46::l::u48::u49::z::d::eO::B::eQ::u55::fE::fF::u58::u59::u60::gJ::gY::u63::u64::J::u66::iq::u68::u69::a0::a1::a2::a3::a4::a5::a6::a7::a8::a9::ba::bb::be::bh::bj::Z::nT:: []).toArray,[]⟩ w'):
  Code.wp prog iL Q ⟨(.pointer (some ⟨mm,0,none⟩)::u1::u2::L::H::v::u6::u7::u8::o:: .slice (some ⟨r,0,none⟩) M cp:: .int .i64 i::I:: .pointer (some ⟨q,0,none⟩)::N::U::Y::O::f::C::s::V::P::m::D::u25::T::u27::W::u29::A::u31::u32::u33::u34::u35::u36::u37::u38::R::u40::X::u42::G::u44::u45::u46::l::u48::u49::z::d::eO::B::eQ::u55::fE::fF::u58::u59::u60::gJ::gY::u63::u64::J::u66::iq::u68::u69::u70::j4::u72::u73::jJ::u75::jK::E::mG::mH::mI::mJ::mV::mW::mX::Z::nT:: []).toArray,[]⟩ w:=by
 obtain⟨i0,aw,kH,kI,kJ⟩:=info_parts BX;have S0:Ua q nd.lev hA hn hc nd.right kA n j vA vn vc dA dn dc w.drew:=⟨by rw [hq.drew.cell];rfl,by rw [hq.drew.cell];rfl,by rw [hq.drew.cell];rfl,by rw [hq.drew.cell];rfl,by rw [hq.drew.cell];rfl,by rw [hq.drew.cell];rfl⟩;have HQ:=aa PH;have ql:=hq.lt;have dP:=aa ax;have ar:=aa (ac.below (Below.refl _ _).drew);have H1:=aa h1;have H2:=aa (h2.below (Below.refl _ _).drew);have H3:=aa (h3.below (Below.refl _ _).drew);have H4:=aa (h4.below (Below.refl _ _).drew);have HS:=aa x;have HR:=aa (ab.below (Below.refl _ _).drew);have HK:=aa an;have HB:=aa hbase;have iH:=aa ac.2.1;have Pb:=ac.2.2.1;have BZ:Hid (∀g,o.ownBlock=some g->Off F mm g/\g<w.heap.size):=aa (by obtain⟨us,a,b,_⟩:=ab;exact fun g hg=>⟨b g hg,(ah a g hg).2⟩);clear hq PH ax ac h1 h2 h3 h4 x ab an hbase;conv=>arg 2;whnf
 refine aU (Ua q nd.lev hA hn hc nd.right kA n j vA vn vc dA dn dc) (by kernel_rfl) ?_;refine vT 0 S0 ?_;refine vT 1 S0 ?_;refine vT 3 S0 ?_;refine vT 4 S0 ?_;refine vT 5 S0 ?_;refine vT 6 S0 ?_;refine vT 7 S0 ?_;refine vT 9 S0 ?_;refine vT 10 S0 ?_;refine vT 2 S0 ?_;refine vT 11 S0 ?_;refine aO (i:=8) (by kernel_rfl) rfl (fun K hK=> ?_);go_simp
 refine(Ht more nd hA kA vA dA hn hc n j vn vc dn dc ar hf hn1 (H1.below (Below.refl _ _).drew|>.weak (fun b hb=>hb.1)) H2 H3 H4 HS).mono ?_;rintro e w1 ⟨rfl,ao,LQ⟩;have S1:=S0.chg LQ (fun h=>h.elim HQ.1.1 HQ.1.2);have EH:=aa ao;have jL:=aa LQ;have bp:w.heap.size<=w1.heap.size:=LQ.size;obtain⟨us,r1,r2,r3⟩:=HR.out.off_next LQ;have al:=aa r1;have ap:=aa r2;have aq:=aa r3;clear ao r1 r2 r3 LQ;refine hK.out _ _ S1 ?_;clear hK K;try simp only [aL,aN,aZ,aC]
 refine vT 12 S1 ?_;refine aO (i:=13) (by kernel_rfl) rfl (fun K hK=> ?_);go_simp
 have y:Below w1.heap.size w1 (w1.alloc (.cells #[.int .i64 ((done.length:Int)+1),.slice hA hn hc] 200)):=(Below.refl _ _).alloc (Nat.le_refl _) _;have S2:=S1.chg (S:=Nil) (ag.of_below y) (fun hf=>hf);refine hK.out _ _ S2 ?_;clear hK K;try simp only [aL,aN,aZ,aC]
 refine aO (i:=14) (by kernel_rfl) rfl (fun K hK=> ?_);refine aI _ rfl (.tmp 70) (.tmp 83) _ rfl base 200 i0 _ 2 32 underlying194 aw kH kI kJ rfl (by omega) o ks.length us rfl (own_below al y) (From w1.heap.size) (some ⟨w1.heap.size,0,none⟩) 1 1 [.int .i64 ((done.length:Int)+1),.slice hA hn hc] rfl (Rd.two w1 _ _ _) (by intro u hu;simp at hu;rcases hu with hu|hu<;>subst hu<;>rfl) (by simp only [maxLen];have:=HK.out;omega) (by have:=HK.out;omega) (by have:=HB.out;simp;omega) ?_;intro v2 w2 ae am iK;have ad:=(ag.refl (fun b=>o.ownBlock=some b) _).grown am (fun k hk _=>hk);have S3:=S2.chg ad (fun e=>HQ.2 e);refine hK.out _ _ S3 ?_;clear hK K;try simp only [aL,aN,aZ,aC]
 refine vT 15 S3 ?_;refine bG (by kernel_rfl) ?_ _;have aA:Off (Grown F w.drew w1) mm (w1.alloc (.cells #[.int .i64 ((done.length:Int)+1),.slice hA hn hc] 200)).heap.size:=⟨fun h=>h.elim (fun h=>by have:=iH.out _ h;simp at this;omega) (fun h=>by have:=h.2;rw [World.size_alloc] at this;omega),by simp;omega⟩;have hh:SB w1 (fun b=>Off (Grown F w.drew w1) mm b/\o.ownBlock≠some b) (.slice hA hn hc) nd.high:=SB.weak ((H1.lt.below (Below.refl _ _).drew).chg jL (fun b hb h=>h.elim hb.1.1.1 hb.1.1.2)).sb (fun b hb=>⟨off_next (w:=w.drew) hb.2 hb.1.1,hb.1.2⟩);have Ub:∀b,Grown F w.drew w1 b->o.ownBlock≠some b:=fun b hb e=>hb.elim (fun h=>(BZ b e).1.1 h) (fun h=>by have h1:w.heap.size<=b:=h.1;have:=(BZ.out b e).2;omega)
 refine dP _ _ _ _ _ _ _ _ _ _ _ _ _ _ _ v2 w2 ⟨⟨Grown F w.drew w1,?_,fun b hb=>hb.elim .inl (fun h=> .inr h.1),?_,?_⟩,?_⟩
 ·exact(EH.below y).chg ad Ub (fun e=>(BZ mm e).1.2 rfl)
 ·exact dB.push (own_below al y) ap (fun i k hk=>let⟨a,u,b,c⟩:=aq.out i k hk;⟨a,u,b,c.below y⟩) ae am iK (hh.below y) (fun _ h=>h) aA
 ·exact fun b hb h=>yK (w:=w.drew) hb h (iK.imp id (fun e=>⟨_,by simp;omega,e⟩))
 ·exact(((ag.refl _ _).drew.trans jL (fun b _ h=> .inl h)).then y).trans ad (fun b _ h=> .inr h)
theorem o7 {e:TypeId} {A:Option Addr} {xs:List Value} (h:w.ownsRow base e size (.slice A n c) n xs) (b:∀g,(Value.slice A n c).ownBlock=some g->D g):Rd w D size A n xs:=by
 refine⟨h.1,fun i=> ?_⟩;obtain⟨g,cap,hv,d,f⟩:=h.form i;have a:A=some ⟨g,0,none⟩:=by injection hv
 subst a;exact⟨g,0,rfl,b g rfl,fun j u k=>by have:=h.cells (g:=g) rfl j u k;rw [iT] at this;exact this⟩
def ig (most:Nat) (ks:List (Int×List UInt8)) (i:Nat):List (Int×List UInt8):=(ks.drop (i*most)).take most
def Es (most:Nat) (ks:List (Int×List UInt8)) (i:Nat):List UInt8:=((ig most ks i).getLastD (0,[])).2
def iU (most:Nat) (lev:Int) (ks:List (Int×List UInt8)) (d0 M i:Nat):bR:=(2,⟨lev,Es most ks i,if i+1<M then(d0:Int)+(i:Int)+1+1 else 0,(ig most ks i).dropLast.map Prod.snd,[],(ig most ks i).map Prod.fst⟩)
theorem LU {s:Nat} {G:Nat->Prop} {us:List Value} {kv dv:Value} {iQ uq:List Value} (h:fZ w base ((us.drop (s*2)).take (F*2)) (F-1) F kv dv iQ uq) (p:LM w D us ks) (J:s+F<=ks.length)
  (o:∀b,base<=b->G b) (A:∀b,D b->G b):∃g l d f,kv= .slice g (F-1) l/\dv= .slice d F f/\Tx w G g (F-1) l (((ks.drop s).take F).dropLast.map Prod.snd)/\It w G d F f (((ks.drop s).take F).map Prod.fst):=by
 obtain⟨g,l,rfl,r,x⟩:=au h.k;obtain⟨d,f,rfl,y,z⟩:=au h.v;have hl:((ks.drop s).take F).length=F:=by rw [List.length_take,List.length_drop];omega
 have key:∀(i:Nat),i<F->∃e:Int×List UInt8,((ks.drop s).take F)[i]? =some e/\ks[s+i]? =some e:=by
  intro i hi;have:s+i<ks.length:=by omega
  exact⟨ks[s+i],by rw [List.getElem?_take,if_pos hi,List.getElem?_drop];exact List.getElem?_eq_getElem this,List.getElem?_eq_getElem this⟩
 have c:∀(i j:Nat),i<F->j<2->((us.drop (s*2)).take (F*2))[2*i+j]? =us[2*(s+i)+j]? :=by
  intro i j hi I;rw [List.getElem?_take,if_pos (by omega),List.getElem?_drop,show s*2+(2*i+j)=2*(s+i)+j by omega]
 refine⟨g,l,d,f,rfl,rfl,⟨r,x,aa (by rw [List.length_map,List.length_dropLast,hl]),iQ,(Rd.of_own h.k).weak o,fun i t a=> ?_⟩,⟨y,z,aa (by rw [List.length_map,hl]),?_⟩⟩
 ·have hi:i<F-1:=by have:=(List.getElem?_eq_some_iff.1 a).1;rw [List.length_map,List.length_dropLast,hl] at this;exact this
  obtain⟨e,m,n⟩:=key i (by omega);rw [List.getElem?_map,List.getElem?_dropLast,if_pos (by rw [hl];exact hi),m] at a;injection a with a
  subst a;obtain⟨_,u,C,E⟩:=p _ e n
  exact⟨u,by rw [h.ku i hi,c i 1 (by omega) (by omega)];exact C,E.weak A⟩
 ·have B:uq=(((ks.drop s).take F).map Prod.fst).map (Value.int .i64):=by
   apply List.ext_getElem?;intro i
   rcases Nat.lt_or_ge i F with hi|hi
   ·obtain⟨e,m,n⟩:=key i hi;have q:=c i 0 hi (by omega);rw [Nat.add_zero,Nat.add_zero] at q
    rw [h.vu i hi,q,(p _ e n).1,List.getElem?_map,List.getElem?_map,m];rfl
   ·have H:uq.length=F*1:=h.v.1;rw [List.getElem?_eq_none (by omega),List.getElem?_eq_none (by rw [List.length_map,List.length_map,hl];exact hi)]
  rw [<-B];exact(Rd.of_own h.v).weak o
theorem Ca (d:∀k∈ks,k.2.length<=1152921504606) (s m:Nat) (g:m<=1152921504606) (lev right:Int) (high:List UInt8) (c:high.length<=1152921504606):Small ⟨lev,high,right,((ks.drop s).take m).dropLast.map Prod.snd,[],((ks.drop s).take m).map Prod.fst⟩:=by
 have hl:((ks.drop s).take m).length<=m:=by rw [List.length_take];exact Nat.min_le_left _ _
 have a:∀e∈(ks.drop s).take m,e∈ks:=fun e b=>List.mem_of_mem_drop (List.mem_of_mem_take b)
 refine⟨c,?_,by simp,?_,fun t f=> ?_,by simp⟩
 ·show(((ks.drop s).take m).dropLast.map Prod.snd).length<=_;rw [List.length_map,List.length_dropLast];omega
 ·show(((ks.drop s).take m).map Prod.fst).length<=_;rw [List.length_map];omega
 ·obtain⟨e,b,rfl⟩:=List.mem_map.1 f;exact d e (a e (List.dropLast_subset _ b))
theorem I7 (F:Nat->Prop) (p mm:Nat) (nodes root:Int) (done:List bR) (A:Option Addr) (n c:Nat) (ks:List (Int×List UInt8)) (most M:Nat) (lev:Int) (w:World) (base:Nat) (ao:dQ w F p mm nodes root done) (hE:dB w (Off F mm) base (.slice A n c) ks) (Q:Hid (n=ks.length))
  (h1:1<=most) (h2:most<=1152921504606) (hn:n<=65536) (a9:0<n) (an:∀k∈ks,k.2.length<=1152921504606) (hM:n<=M*most/\M*most<n+most) (be:(done.length:Int)+(M:Int)<=nodes) (H:nodes<=65536):
  Calls prog 95 #[.pointer (some ⟨mm,0,none⟩),.slice A n c,.int .i64 most,.int .i64 lev] w fun e w'=>∃q v,e= .returned v/\Lv w w' F q p mm nodes root done (iU most lev ks done.length M) (Es most ks) M v:=by
 have O:=aa ao;have HL:=Q;obtain⟨us,L,J,I8⟩:=hE;have E:w.ownsRow base 200 2 (.slice A n c) n us:=by have:=L;rwa [<-Q.out] at this
 have HR:Hid (Rd w (Off F mm) 2 A n us):=aa (o7 E J);have HT:Hid (LM w (Off F mm) us ks):=aa (fun i k hk=>let⟨a,u,b,c⟩:=I8 i k hk;⟨a,u,b,c.weak (fun b l=>l.1)⟩);have ad:n<=c/\c<=maxLen:=by obtain⟨_,_,e,q1,q2⟩:=au E;injection e with _ _ e;subst e;exact⟨q1,q2⟩
 have HS:=aa an;clear ao an L J I8 E Q;go_enter func95,ntmps95
 go_wp2_with (go_at_call 146;refine(Cb A n c most (Off F mm) us w HR ad.1 ad.2 h1 h2 (by omega)).mono ?_;rintro e w0 ⟨K,vals,A',m,c',gv,rfl,g1,g2,g3,g4,g5,g6,g7,g8,g9,Y⟩;obtain⟨r,cp,a6,bh,bj⟩:=g1.form (by omega);subst a6)
 have bk:0<m:=by rcases g6 with h|h;subst h;simp at g4;omega;exact h
 have ax:M=K+1:=by
  have a1:K*most<M*most:=by omega
  have a2:M*most<(K+2)*most:=by rw [Nat.add_mul];omega
  have a3:=Nat.lt_of_mul_lt_mul_right a1;have a4:=Nat.lt_of_mul_lt_mul_right a2;omega
 subst ax;have lI:∀b,Off F mm b->Rest F mm (.slice none 0 0) b:=fun b h=>⟨h,by simp [Value.ownBlock]⟩;have H0:=aa (show o8 w0 (Rest F mm (.slice none 0 0)) w.heap.size 194 (.slice (some ⟨r,0,none⟩) (K+1) cp) us most K m vals A' c' from⟨g1,fun g z=>by have z:some r=some g:=z;injection z with z;subst z;exact lI _ ⟨fun h=>by have:=O.out.2.1 _ h;omega,by have:=O.out.2.2.1;omega⟩,g2,fun i hi=>let⟨B,d,a,b,e,f⟩:=g3 i hi;⟨B,d,a,b,e,f.weak lI⟩,g9.weak lI,g7,g8⟩);have HN:=aa g4;have HM:=aa g5;have N:=aa Y;have Td:K+1<=65536:=by omega
 clear g1 g2 g3 g4 g5 g6 g9 Y
 go_loopg [9,21] (K+1) (fun g' out i wr=>∃(k:Nat) (o:Value) (q:Nat->Prop),g'=K+1-k/\k<=K+1/\i= .int .i64 k/\o=out/\Lv w wr F q p mm nodes root done (iU most lev ks done.length (K+1)) (Es most ks) k o/\o8 wr (Rest q mm o) w.heap.size 194 (.slice (some ⟨r,0,none⟩) (K+1) cp) us most K m vals A' c'/\LM wr (Rest q mm o) us ks)
 case atStart=>exact⟨0,_,F,by omega,by omega,rfl,rfl,⟨by simpa using O.out.below N,dB.nil _ _ _,ag.of_below N,fun b l=> .inl l⟩,H0,(HT.below N).next (ag.refl Nil _) (fun _ _ h=>h) (fun b _ h=>lI b h)⟩
 case round=>
  obtain⟨k,o,q,z,hk,rfl,rfl,ac,ab,ap⟩:=hrel;have HG:=aa z;have I:=aa ac;have Uc:=aa ab;have zL:=aa ap;clear z ac ab ap
  rename World=>wq
  by_cases a7:k<K+1
  ·obtain⟨r',bb,B,s,d,t,bo,bm,Hu,aA,aE,a0,ae⟩:=Uc.out.at_ a7;injection t with t _ Ud
   injection t with t
   injection t with t
   subst t;subst Ud
   have ut:k*most+s<=ks.length/\(ks.drop (k*most)).take most=(ks.drop (k*most)).take s:=by
    have a1:=HL.out;have a2:=HN.out;have a3:=Hu;have a5:=HM.out
    by_cases P:k<K
    ·rw [if_pos P] at a3;have a4:(k+1)*most<=K*most:=Nat.mul_le_mul_right _ P;rw [Nat.add_mul] at a4
     exact⟨by omega,by rw [a3]⟩
    ·rw [if_neg P] at a3;obtain rfl:k=K:=by omega
     exact⟨by omega,by rw [List.take_of_length_le (by rw [List.length_drop];omega),List.take_of_length_le (by rw [List.length_drop];omega)]⟩
   have EI:s<=1152921504606:=by have:=HL.out;omega
   have Yt:0<s:=by rw [Hu];split<;>omega
   have uE:=aa ae;have R:=aa ut;clear Hu ae ut a0;have BZ:Hid (∀g,o.ownBlock=some g->w.heap.size<=g/\Off q mm g):=aa (by obtain⟨us,a,b,_⟩:=I.out.row;exact fun g z=>⟨(ah a g z).1,b g z⟩);have sN:=aa I.chg.size;have XP:Hid ((done++(List.range k).map (iU most lev ks done.length (K+1))).length=done.length+k):=aa (by simp);obtain⟨b,o1,id,U,nh,X,rfl,XO,_,_,_,W,x,hx,_,sx⟩:=EE uE.out zL R.1 (j:=s-1) (by omega);have C2:=aa W;have HX:=aa hx;have SX:=aa sx;have ba:=aa XO;clear W hx sx XO;go_wp2;refine LP (Rest q mm o) us ks (some ⟨b,o1,none⟩) s d (k*most) wq.heap.size lev wq _ EI aE _ (aa (fun _ _ _ _ h=>h)) rfl uE zL R.1 ((Below.refl _ _).alloc (Nat.le_refl _) _) (aj.new _ _ _) ?_;intro bp bx bB bE bK bL bM bN bO bP bQ bX bY bZ b0 b1 b2 b3 b4 b5 b6 b7 b8 b9 ca cb cd ce cf cg ci kv dv iQ uq wz C am y;have mY:=aa y;have PH:∀b,wq.heap.size<=b->Rest q mm o b:=fun b l=>⟨⟨fun h=>by have:=I.out.st.2.1 _ h;omega,by have:=I.out.st.2.2.1;omega⟩,fun e=>by obtain⟨us,a,_⟩:=I.out.row;have:=(ah a _ e).2;omega⟩;have aq:=aa PH;obtain⟨kA,kc,dA,dc,rfl,rfl,tk,tv⟩:=LU (G:=fun b=>Off q mm b/\b≠wq.heap.size) am (zL.next (ag.of_below (S:=Nil) y) (fun _ _ h=>h) (D':=fun b=>Rest q mm o b/\b<wq.heap.size) (fun b l h=>⟨h,l⟩)) R.1 (fun b l=>⟨(PH b (by omega)).1,by omega⟩) (fun b l=>⟨l.1.1,by omega⟩);have gK:=aa C;have c2:=ak y C2.out;have PI:ag (mZ wq.heap.size) wz (wz.setCell ⟨wq.heap.size,1,none⟩ (.slice U nh X)):=ag.set1 _ _ _ _;have Lm:=aa ((tk.chg PI (fun b l e=>l.2 e)).weak (G:=Off q mm) (fun b l=>l.1));have aw:=aa ((tv.chg PI (fun b l e=>l.2 e)).weak (G:=Off q mm) (fun b l=>l.1));have ar:=aa (((((SX.out.lt.below y)).chg PI (fun b l e=>by have:=l.2;have e:b=wq.heap.size:=e;omega)).weak (G:=Rest q mm o) (fun b l=>l.1)).bt);have T:Hid (Below wq.heap.size wq (wz.setCell ⟨wq.heap.size,1,none⟩ (.slice U nh X))):=aa (y.setCell (p:=⟨wq.heap.size,1,none⟩) (Nat.le_refl _) _);have EF:=aa (C.set_ 1 (.slice U nh X));have q1:wz.cell? ⟨wq.heap.size,1,none⟩=some (.slice none 0 0):=(C.cell 1).trans rfl;have qf:=C.frozen;have w1:=IntWalk.i64_in ((s:Int)-1) (by omega);have w2:(0:Int)<=(s:Int)-1:=by omega
   have w3:((s:Int)-1)<s:=by omega
   have w4:((s:Int)-1).toNat=s-1:=by omega
   have w8:(1:Int)<=(s:Int):=by omega
   have a8:x.2.length<=1152921504606:=HS.out _ (List.mem_of_getElem? HX)
   have Z:Hid (x.2=Es most ks k):=aa (by
    unfold Es ig;rw [R.out.2,List.getLastD_eq_getLast?,List.getLast?_eq_getElem?,List.length_take,List.length_drop,Nat.min_eq_left (by have:=R.out.1;omega),List.getElem?_take,if_pos (by omega),List.getElem?_drop,HX.out];rfl)
   clear C am y tk tv PI PH;go_wp2;refine je q p mm nodes root (done++(List.range k).map (iU most lev ks done.length (K+1))) ⟨lev,x.2,0,((ks.drop (k*most)).take s).dropLast.map Prod.snd,[],((ks.drop (k*most)).take s).map Prod.fst⟩ U kA none dA nh X (s-1) kc 0 0 s dc (decide (k<K)) wq.heap.size (wz.setCell ⟨wq.heap.size,1,none⟩ (.slice U nh X)) w.heap.size o _ r (K+1) cp k _ (aa (fun _ _ _ _ h=>h)) (I.st.below T) (by have:=XP.out;omega) H (by simp;omega) (by have:=sN.out;have:=T.out.size;omega) EF (aq _ (Nat.le_refl _)) ar Lm (Tx.nil _ _) aw (Ca HS _ _ EI _ _ _ a8) (I.row.below T) (by omega) Td (decide_eq_decide.2 (by omega)) (IntWalk.i64_in _ (by omega)) ?_;intro cj ck cl cn co cq cr ct cu cv cw cx cy cA cC o' w' D
   obtain⟨Pf,Pg,al⟩:=zM I T D (by
    have e1:=XP.out;have e2:=Z.out;have e3:=R.out.2;simp only [iU,ig,e2,e3,e1,Nat.add_lt_add_iff_right,Int.natCast_add,decide_eq_true_eq]) (by have:=XP.out;omega) Z.out (fun g z=>(BZ g z).1)
   have Te:=aa D.chg;have LV:=aa Pg;have V:=aa al;clear D Pg al;have Cc:∀b,Rest q mm o b->¬((q b\/b=mm)\/o.ownBlock=some b):=fun b l h=>h.elim (fun h=>h.elim l.1.1 l.1.2) l.2;go_wp2
   go_roundg (K+1-(k+1))
   case measure=>have:=HG.out;omega
   case rel=>exact⟨k+1,o',Pf,rfl,by omega,by go_num,rfl,LV,(Uc.below T).next Te Cc V,(zL.below T).next Te Cc V⟩
  ·obtain rfl:k=K+1:=by omega
   go_wp2;go_ret
   exact⟨q,_,rfl,I⟩
end Go.Proofs.YtepgcjbhabnciaaGreat
