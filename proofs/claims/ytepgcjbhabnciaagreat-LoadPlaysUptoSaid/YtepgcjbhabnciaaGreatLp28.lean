/- Part 28. -/
import Derived.Test.YtepgcjbhabnciaaGreatLp15
namespace Go.Proofs.YtepgcjbhabnciaaGreat
set_option maxRecDepth 100000
set_option maxHeartbeats 8000000
open Go.Proofs.Tryz Go.RowKit
variable {u f kv vv v2 u1 u7 O Z U u16 C I u23 u28 u30 u33 u36 u37 u38 u40 u42 X u44 u45 u46 u48 u49 H u51 A u53 u55 S dZ u58 u59 u60 fw u63 u64 gm u66 gH u68 u69 u70 T u72 u73 N u75 R W g n u0 u2 u3 u4 u5 u6 u8 u9 L bP u20 u21 u22 u24 u29 u31 u32 u34 u35 dm dw dG jY j6 kg E kP kQ kR ko ng mI mJ y J M V u25 u26 v fJ iM iN iV v0 v3 v4 v5:Value} {j b base i x k fill p mm s m r o q b3 o3 Vb d2 z Gg G Ju size:Nat} {nU fE F vs us Y:List Value} {w w' w2 P:World} {B Ak Bk:Option Addr} {D D':Nat->Prop} {l:List aR}
structure d9 (w:World) (base:Nat) (nU:List Value) (j i:Nat) (kv vv:Value) (fE oD:List Value):Prop where
 k:w.ownsRow base 24 1 kv j fE
 v:w.ownsRow base 24 1 vv i oD
 dis:∀g,kv.ownBlock=some g->vv.ownBlock≠some g
 ku:∀a,a<j->fE[a]? =nU[2*a]?
 vu:∀a,a<i->oD[a]? =nU[2*a+1]?
theorem d9.nil (w:World) (base:Nat) (nU:List Value):d9 w base nU 0 0 () () [] []:=
 ⟨World.ownsRow_nil _ _ _ _,World.ownsRow_nil _ _ _ _,fun g h=>by simp [Value.ownBlock] at h,fun a b=>absurd b (by omega),fun a b=>absurd b (by omega)⟩
theorem sZ {b:List Value} {f:Nat->Nat} (h:∀a,a<j->us[a]? =b[f a]?) (hl:us.length=j) (d:b[f j]? =some u):∀a,a<j+1->(us++ [u])[a]? =b[f a]? :=by
 intro a e
 rcases Nat.lt_or_ge a j with c|c
 ·rw [qK (by omega)];exact h a c
 ·obtain rfl:a=j:=by omega
  rw [q9 (by omega),hl,d];simp
theorem d9.below (h:d9 w base nU j i kv vv fE F) (o:Below w w w'):d9 w' base nU j i kv vv fE F:=
 ⟨own_below h.k o,own_below h.v o,h.dis,h.ku,h.vu⟩
theorem d9.far (h:d9 w base nU j i kv vv fE F) (o:Nat) (u:Value) (c:b<base):d9 (w.setCell ⟨b,o,none⟩ u) base nU j i kv vv fE F:=
 ⟨aB h.k (ag.set1 w b o u) (fun g a e=>by have:=(ah h.k g a).1;have e:g=b:=e;omega),aB h.v (ag.set1 w b o u) (fun g a e=>by have:=(ah h.v g a).1;have e:g=b:=e;omega),h.dis,h.ku,h.vu⟩
theorem d9.key (h:d9 w base nU j i kv vv fE F) (l:w2.ownsRow base 24 1 v2 (j+1) (fE++ [u])) (d:w.grownBy w2 kv.ownBlock) (c:v2.ownBlock=kv.ownBlock\/v2.ownBlock=some w)
  (m:nU[2*j]? =some u):d9 w2 base nU (j+1) i v2 vv (fE++ [u]) F:=
 ⟨l,aB h.v (ag.of_grown d) (fun g hv b=>h.dis g b hv),fun g b hv=>c.elim (fun e=>h.dis g (e▸b) hv) (fun e=>by rw [e] at b;injection b with b;have:=(ah h.v g hv).2;omega),sZ (f:=fun a=>2*a) h.ku (by have:=h.k.1;omega) m,h.vu⟩
theorem d9.val (h:d9 w base nU j i kv vv fE F) (l:w2.ownsRow base 24 1 v2 (i+1) (F++ [u])) (d:w.grownBy w2 vv.ownBlock) (c:v2.ownBlock=vv.ownBlock\/v2.ownBlock=some w)
  (m:nU[2*i+1]? =some u):d9 w2 base nU j (i+1) kv v2 fE (F++ [u]):=
 ⟨aB h.k (ag.of_grown d) (fun g b hv=>h.dis g b hv),l,fun g b hv=>c.elim (fun e=>h.dis g b (e▸hv)) (fun e=>by rw [e] at hv;injection hv with hv;have:=(ah h.k g b).2;omega),h.ku,sZ (f:=fun a=>2*a+1) h.vu (by have:=h.v.1;omega) m⟩
def iX (fill:Nat) (l:List aR) (i:Nat):List UInt8:=if(i+1)*fill<l.length then(l8 (l.getD ((i+1)*fill-1) ([],[])).1 (l.getD ((i+1)*fill) ([],[])).1).1 else []
def nu (fill:Nat) (l:List aR) (M i:Nat):aX:=(2,⟨0,iX fill l i,if i+1<M then(i:Int)+1+1 else 0,((l.drop (i*fill)).take fill).map Prod.fst,((l.drop (i*fill)).take fill).map Prod.snd,[]⟩)
def Am (w:World) (D:Nat->Prop) (vs:List Value) (l:List aR):Prop:=∀(i:Nat) (e:aR),l[i]? =some e->∃u v,vs[2*i]? =some u/\vs[2*i+1]? =some v/\SB w D u e.1/\SB w D v e.2
theorem Am.chg {S D:Nat->Prop} {w w':World} {vs:List Value} {l:List aR} (h:Am w D vs l) (hc:ag S w w') (p:∀b,D b->¬S b):Am w' D vs l:=fun i e f=>let⟨u,v,a,b,c,d⟩:=h i e f;⟨u,v,a,b,c.chg hc p,d.chg hc p⟩
theorem Am.below (h:Am w D vs l) (o:Below w w w'):Am w' D vs l:=h.chg (S:=Nil) (ag.of_below o) (fun _ _ a=>a)
theorem DK (A:Rd w D 2 B m ((vs.drop (s*2)).take (m*2))) (h:Am w D vs l) (H:s+m<=l.length) (z:j<m):
  ∃b o a g d c i f,B=some ⟨b,o,none⟩/\D b/\((vs.drop (s*2)).take (m*2))[2*j]? =some (.slice a g d)/\((vs.drop (s*2)).take (m*2))[2*j+1]? =some (.slice c i f)/\w.cell? ⟨b,o+j*2,none⟩=some (.slice a g d)/\w.cell? ⟨b,o+j*2+1,none⟩=some (.slice c i f)/\∃e:aR,l[s+j]? =some e/\SB w D (.slice a g d) e.1/\SB w D (.slice c i f) e.2:=by
 obtain⟨b,o,u,v,e,y,q,r,c1,p⟩:=A.at2 z;have hl:s+j<l.length:=by omega
 obtain⟨I,J,t,x,C,E⟩:=h (s+j) _ (mP hl);have k:=q;have n:=r;rw [List.getElem?_take,if_pos (by omega),List.getElem?_drop,show s*2+2*j=2*(s+j) by omega,t] at k;rw [List.getElem?_take,if_pos (by omega),List.getElem?_drop,show s*2+(2*j+1)=2*(s+j)+1 by omega,x] at n;injection k with k;injection n with n
 subst k;subst n;obtain⟨a,g,d,rfl,F⟩:=C;obtain⟨c,i,f,rfl,G⟩:=E;rw [Nat.mul_comm 2 j] at c1 p;rw [<-Nat.add_assoc] at p;exact⟨b,o,a,g,d,c,i,f,e,y,q,r,c1,p,_,mP hl,⟨_,_,_,rfl,F⟩,⟨_,_,_,rfl,G⟩⟩
noncomputable def Sl:Code:=aQ (f94.body.bind (fQ 2))
theorem N7 (d:Nat) (hb:x<=1152921504606) (hd:x<=d) {F w:Value} (Q:Exit->Act->World->Prop)
  (ae:Rd P D 2 B x ((vs.drop (k*fill*2)).take (x*2))) (am:Am P D vs l) (vg:k*fill+x<=l.length)
  (au:∀(aw aA aE a0 a1 a2 a3 a4 a5 a6 a7 a8 a9 ba be bh bj bk bm bo bp bx bz:Value) (kv vv:Value) (fE oD:List Value) (J:World),ak J P 132 #[.int .i64 0,(),.int .i64 0,kv,vv,()]->d9 J (P+1) ((vs.drop (k*fill*2)).take (x*2)) x x kv vv fE oD->Below P P J->Q (.exit 2) ⟨(u0::u1::u2::u3::u4::u5::u6::u7::u8::u9::L:: .pointer (some ⟨P.heap.size,0,none⟩)::O::aw::Z::U::u16::f::C::I::u20::u21::u22::u23::u24:: .slice B x d:: .int .i64 x:: .int .i64 x::aA::aE::a0::a1::a2::a3::a4::a5::a6::a7::a8::a9::ba::be::bh::bj::bk::bm::bo::bp::bx::bz::H::u51::A::u53::F::u55::S::dZ::u58::u59::u60::fw::w::u63::u64::gm::u66::gH::u68::u69::u70::T::u72::u73::N::u75::R::jY::W::j6::kg::E::kP::kQ::kR::ko::g::ng::mI::mJ:: []).toArray,[]⟩ J):
  Code.wp prog Sl Q ⟨(u0::u1::u2::u3::u4::u5::u6::u7::u8::u9::L:: .pointer (some ⟨P.heap.size,0,none⟩)::O::bP::Z::U::u16::f::C::I::u20::u21::u22::u23::u24:: .slice B x d:: .int .i64 x:: .int .i64 0::u28::u29::u30::u31::u32::u33::u34::u35::u36::u37::u38::dm::u40::dw::u42::X::u44::u45::u46::dG::u48::u49::H::u51::A::u53::F::u55::S::dZ::u58::u59::u60::fw::w::u63::u64::gm::u66::gH::u68::u69::u70::T::u72::u73::N::u75::R::jY::W::j6::kg::E::kP::kQ::kR::ko::g::ng::mI::mJ:: []).toArray,[]⟩ (P.alloc (.cells #[.int .i64 0,(),.int .i64 0,(),(),()] 132)):=by
 obtain⟨i0,ad,iC,iD,iE⟩:=info_parts gM;have dz:=aa au;have xW:=aa ae;have Da:=aa am;have IC:=aa vg;clear au ae am vg;conv=>arg 2;whnf
 go_loopg [27] x (fun g' i J=>∃(j:Nat) (kv vv:Value) (fE oD:List Value),g'=x-j/\j<=x/\i= (j:Int)/\ak J P 132 #[.int .i64 0,(),.int .i64 0,kv,vv,()]/\d9 J (P+1) ((vs.drop (k*fill*2)).take (x*2)) j j kv vv fE oD/\Below P P J)
 case atStart=>exact⟨0,_,_,[],[],by omega,by omega,rfl,ak.new _ _ _,d9.nil _ _ _,gV⟩
 case round=>
  obtain⟨j,kv,vv,fE,oD,a,hj,rfl,n,al,r⟩:=hrel;have rC:=aa a;have iW:=aa n;have m:=aa al;have bQ:=n.lt;have x3:=(n.cell 3).trans rfl;have x4:=(n.cell 4).trans rfl;have xf:=n.frozen;have je:=aa r
  rename World=>wr
  clear a n al
  by_cases YA:j<x
  ·obtain⟨b,o,K,Y,V,s,G,y,rfl,bE,e1,e2,ab,ac,_⟩:=DK xW.out Da IC YA;have c1:=aj r ab;have c2:=aj r ac;have wO:=aa e1;have ap:=aa e2;clear e1 e2 ab ac;go_wp2_with (first|(at_builtin;go_loud (refine af _ rfl (.tmp 33) (.tmp 36) _ rfl (P+1) 24 i0 _ 1 24 underlying128 ad iC iD iE rfl (by omega) kv j fE rfl (own_below m.k (gV.alloc (by simp) _)) (From (wr+1)) (some ⟨wr+1,0,none⟩) 1 1 [.slice K Y V] rfl (by have:=Rd.one (wr.alloc (.cells #[.slice K Y V,.slice s G y] 69)) (.slice K Y V) 24;simpa using this) (by intro u hu;simp at hu;subst hu;rfl) (by simp only [maxLen];omega) (by omega) (by simp;omega) ?_;intro v2 w2 c a bU);obtain⟨K2,Ap,aq,_,_⟩:=ax c;subst aq;have R2:=aa ((m.below (gV.alloc (by simp) _)).key c a bU wO);have C2:=ag.of_grown a;have t:=aa (((iW.alloc _).alloc _).chg C2 (fun h=>by have:=(ah m.k _ h).1;omega));have an:=aa (((ak.new wr 69 #[.slice K Y V,.slice s G y]).alloc (.cells #[.slice K Y V] 24)).chg C2 (fun h=>by have:=(ah m.k _ h).2;omega));have z2:=a.size;have y3:w2.cell? ⟨P,3,none⟩=some kv:=(t.out.cell 3).trans rfl;have y4:w2.cell? ⟨P,4,none⟩=some vv:=(t.out.cell 4).trans rfl;have yf:=t.out.frozen;have b0:w2.cell? ⟨wr,1,none⟩=some (.slice s G y):=(an.out.cell 1).trans rfl;clear c bU)|(at_builtin;go_loud (refine af _ rfl (.tmp 42) (.tmp 45) _ rfl (P+1) 24 i0 _ 1 24 underlying128 ad iC iD iE rfl (by omega) vv j oD rfl (own_below (R2.out.far 3 (.slice K2 (j+1) Ap) (by omega)).v gV) (From w2) (some ⟨w2,0,none⟩) 1 1 [.slice s G y] rfl (by have:=Rd.one (w2.setCell ⟨P,3,none⟩ (.slice K2 (j+1) Ap)) (.slice s G y) 24;simpa using this) (by intro u hu;simp at hu;subst hu;rfl) (by simp only [maxLen];omega) (by omega) (by simp;simp at z2;omega) ?_;intro v3 w3 e z ic;obtain⟨K3,XX,ar,_,_⟩:=ax e;subst ar;have R3:=aa (((R2.out.far 3 (.slice K2 (j+1) Ap) (by omega)).below (mh.alloc jO (.cells #[.slice s G y] 24))).val e z ic ap);have C3:=ag.of_grown z;have M:=aa (((t.out.set_ 3 (.slice K2 (j+1) Ap)).alloc (.cells #[.slice s G y] 24)).chg C3 (fun h=>by have:=(ah R2.out.v _ h).1;omega));have z3:=z.size;have b1:w3.cell? ⟨P,4,none⟩=some vv:=(M.out.cell 4).trans rfl;have b2:=M.out.frozen;clear e ic)));have ao:=aa (((((r.alloc (by omega) (.cells #[.slice K Y V,.slice s G y] 69)).alloc (by simp;omega) (.cells #[.slice K Y V] 24)).grown a (by simp;omega) (fun q hq=>by have:=(ah m.k q hq).1;omega)).setCell (p:=⟨P,3,none⟩) jO (.slice K2 (j+1) Ap)).alloc (by simp at z2|-;omega) (.cells #[.slice s G y] 24)|>.grown z (by simp at z2|-;omega) (fun q hq=>by have:=(ah R2.out.v q hq).1;omega))
   go_roundg (x-(j+1))
   case measure=>have:=rC.out;omega
   case rel=>exact⟨j+1,_,_,_,_,rfl,by omega,by go_num,M.out.set_ 4 _,R3.out.far 4 _ (by omega),ao.setCell (p:=⟨P,4,none⟩) jO _⟩
  ·obtain rfl:j=x:=by omega
   clear r;go_wp2;exact dz _ _ _ _ _ _ _ _ _ _ _ _ _ _ _ _ _ _ _ _ _ _ _ _ _ _ _ _ iW m je
noncomputable def Bz:Code:=aQ (f94.body.bind (aF 15))
theorem ND (K cp:Nat) (d:Nat) {E:Nat->Prop} {xs ys:List UInt8} {p B s P l m x i F:Value} {Q:Exit->Act->World->Prop} (kF:Hid (∀c t (a:Act) w,Q (.panic c) ⟨t,a.defers⟩ w->Q (.panic c) a w))
  (hk:k<K) (hK:K<=1152921504606) (hj:1<=j) (ba:j<=1152921504606) (be:0<Vb)
  (c1:w.cell? ⟨b,o+(j-1)*2,none⟩=some (.slice Ak z G)) (c2:w.cell? ⟨r,k+1,none⟩=some (.slice (some ⟨b3,o3,none⟩) Vb d2)) (c3:w.cell? ⟨b3,o3,none⟩=some (.slice Bk Gg Ju))
  (vo:Hid (Bt w D Ak z G xs)) (Gh:Hid (Bt w E Bk Gg Ju ys)) (lx:xs.length<=1152921504606) (ly:ys.length<=1152921504606) (iW:Hid (ak w q 132 #[v0,(),v2,v3,v4,v5]))
  (au:∀(ae al am an ao ap aq ar aw aA aE a0 a1 a2 a3 a4 a5 a6 a7 a8 a9:Value) (K5:Option Addr) (n5 c5:Nat) (w5:World),Bt w5 (From w) K5 n5 c5 (l8 xs ys).1->Below w w w5->Q .normal ⟨(p::u1::y::B::J::s::u::u7:: .slice (some ⟨r,0,none⟩) (K+1) cp:: .int .i64 k:: .slice (some ⟨b,o,none⟩) j d:: .pointer (some ⟨q,0,none⟩)::O::W::Z::U::u16::f::C::I::M::P::V::u23::l::u25::u26::m::u28::T::u30::g::x::u33::n::i::u36::u37::u38::N::u40::R::u42::X::u44::u45::u46::v::u48::u49::H::u51::A::u53::F::u55::ae::al::am::an::ao::ap::aq::ar::aw::aA::aE::a0::a1::a2::a3::a4::a5::a6::a7::a8::a9::Y).toArray,[]⟩ (w5.setCell ⟨q,1,none⟩ (.slice K5 n5 c5))):
  Code.wp prog Bz Q ⟨(p::u1::y::B::J::s::u::u7:: .slice (some ⟨r,0,none⟩) (K+1) cp:: .int .i64 k:: .slice (some ⟨b,o,none⟩) j d:: .pointer (some ⟨q,0,none⟩)::O::W::Z::U::u16::f::C::I::M::P::V::u23::l::u25::u26::m::u28::T::u30::g::x::u33::n::i::u36::u37::u38::N::u40::R::u42::X::u44::u45::u46::v::u48::u49::H::u51::A::u53::F::u55::S::dZ::u58::u59::u60::fw::fJ::u63::u64::gm::u66::gH::u68::u69::u70::iM::u72::u73::iN::u75::iV::Y).toArray,[]⟩ w:=by
 have dz:=aa au;have w1:=IntWalk.i64_in ((j:Int)-1) (by omega);have w2:(0:Int)<=(j:Int)-1:=by omega
 have w3:((j:Int)-1)<j:=by omega
 have w4:((j:Int)-1).toNat=j-1:=by omega
 have w5:=IntWalk.i64_in ((k:Int)+1) (by omega);have w6:(0:Int)<=(k:Int)+1:=by omega
 have w7:((k:Int)+1).toNat=k+1:=by omega
 have w8:(1:Int)<=(j:Int):=by omega
 have ac:z<=1152921504606:=by have:=vo.out.len;omega
 have ad:Gg<=1152921504606:=by have:=Gh.out.len;omega
 clear au lx ly;conv=>arg 2;whnf
 refine aM (fun w'=>w'.cell? ⟨b,o+(j-1)*2,none⟩=some (.slice Ak z G)/\w'.cell? ⟨r,k+1,none⟩=some (.slice (some ⟨b3,o3,none⟩) Vb d2)/\w'.cell? ⟨b3,o3,none⟩=some (.slice Bk Gg Ju)) 21 (by kernel_rfl) ?_;have L:w.drew.cell? ⟨b,o+(j-1)*2,none⟩=some (.slice Ak z G)/\w.drew.cell? ⟨r,k+1,none⟩=some (.slice (some ⟨b3,o3,none⟩) Vb d2)/\w.drew.cell? ⟨b3,o3,none⟩=some (.slice Bk Gg Ju):=⟨c1,c2,c3⟩;refine uF 0 (fun _=>L) ?_;refine uF 1 (fun _=>L) ?_;refine uF 2 (fun _=>L) ?_;refine uF 3 (fun _=>L) ?_;refine uF 4 (fun _=>L) ?_;refine uF 5 (fun _=>L) ?_;refine uF 7 (fun _=>L) ?_;refine uF 8 (fun _=>L) ?_;refine uF 9 (fun _=>L) ?_;refine uF 10 (fun _=>L) ?_;refine uT 6 L ?_;refine uT 11 L ?_;refine uF 12 (fun _=>L) ?_;refine uF 13 (fun _=>L) ?_;refine uT 14 L ?_;refine mR 15 fun K hK=> ?_;go_simp;refine(Du G Ju vo.2.2.2.drew vo.2.2.1 Gh.2.2.2.drew Gh.2.2.1 Gh.1 ac ad Gh.2.1).mono ?_;rintro e w5 ⟨K5,n5,c5,rfl,p1,p2,p3,p4,ab⟩;have Q0:=((iW.drew).below ab);have q1:w5.cell? ⟨q,1,none⟩=some (.slice none 0 0):=(Q0.cell 1).trans rfl;have qf:=Q0.frozen;have S5:w5.cell? ⟨b,o+(j-1)*2,none⟩=some (.slice Ak z G)/\w5.cell? ⟨r,k+1,none⟩=some (.slice (some ⟨b3,o3,none⟩) Vb d2)/\w5.cell? ⟨b3,o3,none⟩=some (.slice Bk Gg Ju):=⟨aj ab L.1,aj ab L.2.1,aj ab L.2.2⟩;refine hK.out _ _ (fun _=>S5) ?_;clear hK K;try simp only [aL,aN,aZ,aC]
 refine uF 16 (fun _=>S5) ?_;refine uF 17 (fun _=>S5) ?_;refine uF 18 (fun _=>S5) ?_;refine uF 19 (fun _=>S5) ?_;refine uF 20 (fun _=>S5) ?_;refine mR 21 fun K hK=> ?_;go_simp;refine hK.out _ _ (fun h=>absurd h (by decide)) ?_;clear hK K;try simp only [aL,aN,aZ,aC]
 refine bH (by kernel_rfl) ?_ _;exact dz _ _ _ _ _ _ _ _ _ _ _ _ _ _ _ _ _ _ _ _ _ K5 n5 c5 w5 ⟨p1,p2,p3,p4.weak (fun b hb=>hb.1)⟩ (mh.drew.trans ab)
theorem Rd.next {S:Nat->Prop} {n:Nat} {A:Option Addr} {xs:List Value} (h:Rd w D size A n xs) (d:0<size) (hc:ag S w w') (p:∀b,D b->¬S b) (c:∀b,b<w.heap.size->D b->D' b):Rd w' D' size A n xs:=
 ((h.lt d).chg hc (fun b a=>p b a.1)).weak (fun b a=>c b a.2 a.1)
theorem SB.next {w w':World} {S D D':Nat->Prop} {v:Value} {bs:List UInt8} (h:SB w D v bs) (hc:ag S w w') (p:∀b,D b->¬S b) (i:∀b,b<w.heap.size->D b->D' b):SB w' D' v bs:=
 let⟨A,n,c,a,d,e,f,g⟩:=h;⟨A,n,c,a,d,e,f,g.next Nat.zero_lt_one hc p i⟩
theorem oV.next {w w':World} {S D D':Nat->Prop} {base fill K m c:Nat} {t:TypeId} {gv:Value} {vs vals:List Value} {A:Option Addr} (h:oV w D base t gv vs fill K m vals A c) (hc:ag S w w') (p:∀b,D b->¬S b) (k:∀b,b<w.heap.size->D b->D' b):oV w' D' base t gv vs fill K m vals A c:=
 ⟨aB h.own hc (fun g j=>p g (h.blk g j)),fun g j=>k g (ah h.own g j).2 (h.blk g j),h.len,fun i hi=>let⟨B,d,a,b,e,f⟩:=h.parts i hi;⟨B,d,a,b,e,f.next (by omega) hc p k⟩,h.last.next (by omega) hc p k,h.mc,h.cm⟩
theorem Am.next {w w':World} {S D D':Nat->Prop} {vs:List Value} {l:List aR} (h:Am w D vs l) (hc:ag S w w') (p:∀b,D b->¬S b) (f:∀b,b<w.heap.size->D b->D' b):Am w' D' vs l:=
 fun i e g=>let⟨u,v,a,b,c,d⟩:=h i e g;⟨u,v,a,b,c.next hc p f,d.next hc p f⟩
theorem GJ {G:Nat->Prop} (h:d9 w base ((vs.drop (k*fill*2)).take (x*2)) x x kv vv fE F) (ht:Am w D vs l) (B:k*fill+x<=l.length)
  (g:∀b,base<=b->G b) (K:∀b,D b->G b):∃kA kc vA vc,kv= .slice kA x kc/\vv= .slice vA x vc/\Tx w G kA x kc (((l.drop (k*fill)).take x).map Prod.fst)/\Tx w G vA x vc (((l.drop (k*fill)).take x).map Prod.snd):=by
 obtain⟨kA,kc,rfl,r,s⟩:=ax h.k;obtain⟨vA,vc,rfl,y,z⟩:=ax h.v;have hl:((l.drop (k*fill)).take x).length=x:=by rw [List.length_take,List.length_drop];omega
 have key:∀(i:Nat),i<x->∃e:aR,((l.drop (k*fill)).take x)[i]? =some e/\l[k*fill+i]? =some e:=by
  intro i hi;have:k*fill+i<l.length:=by omega
  exact⟨l[k*fill+i],by rw [List.getElem?_take,if_pos hi,List.getElem?_drop];exact mP this,mP this⟩
 have c:∀(i j:Nat),i<x->j<2->((vs.drop (k*fill*2)).take (x*2))[2*i+j]? =vs[2*(k*fill+i)+j]? :=by
  intro i j hi A;rw [List.getElem?_take,if_pos (by omega),List.getElem?_drop,show k*fill*2+(2*i+j)=2*(k*fill+i)+j by omega]
 refine⟨kA,kc,vA,vc,rfl,rfl,⟨r,s,aa (by rw [List.length_map,hl]),fE,(Rd.of_own h.k).weak g,fun i t a=> ?_⟩,⟨y,z,aa (by rw [List.length_map,hl]),F,(Rd.of_own h.v).weak g,fun i t a=> ?_⟩⟩
 ·have hi:i<x:=by have:=(nE.1 a).1;rw [List.length_map,hl] at this;exact this
  obtain⟨e,d,f⟩:=key i hi;rw [List.getElem?_map,d] at a;injection a with a;subst a;obtain⟨u,v,n,o,p,q⟩:=ht _ e f;have m:=c i 0 hi (by omega);rw [Nat.add_zero,Nat.add_zero] at m
  exact⟨u,by rw [h.ku i hi,m];exact n,p.weak K⟩
 ·have hi:i<x:=by have:=(nE.1 a).1;rw [List.length_map,hl] at this;exact this
  obtain⟨e,d,f⟩:=key i hi;rw [List.getElem?_map,d] at a;injection a with a;subst a;obtain⟨u,v,n,o,p,q⟩:=ht _ e f;exact⟨v,by rw [h.vu i hi,c i 1 hi (by omega)];exact o,q.weak K⟩
theorem Db {q:World} {F j:Nat->Prop} {nodes root:Int} {d:List aX} {f:Nat->aX} {hi:Nat->List UInt8} {o:Value} (h:Lv w P F j p mm nodes root d f hi k o) (r:Below P P q)
  {s:aX} {high:List UInt8} {id:Int} (v:Put q w' j p mm nodes root ((d++(List.range k).map f)++ [s]) w o n (((List.range k).map fun(i:Nat)=>((d.length:Int)+(i:Int)+1,hi i))++ [(id,high)]))
  (x:s=f k) (m:id=(d.length:Int)+(k:Int)+1) (u:high=hi k) (t:∀g,o.ownBlock=some g->w<=g):∃e,Lv w w' F e p mm nodes root d f hi (k+1) n/\∀b,b<q.heap.size->Rest j mm o b->Rest e mm n b:=by
 obtain⟨⟨e,z,A,B,C⟩,hc⟩:=v;subst x;subst m;subst u;have y:=h.chg.size
 refine⟨e,⟨?_,?_,?_,fun b c=>(A b c).elim (fun l=>h.sub b l) (fun l=> .inr (by have:=r.size;omega))⟩,C⟩
 ·rw [List.range_succ,List.map_append,<-List.append_assoc];exact z
 ·rw [List.range_succ,List.map_append];exact B
 ·refine(h.chg.then r).trans hc (fun b c a=> ?_)
  rcases a with(a|a)|a
  ·exact(h.sub b a).elim .inl (fun l=>by omega)
  ·exact .inr a
  ·exact absurd (t b a) (by omega)
theorem r9 (d:∀e∈l,e.1.length<=1152921504606/\e.2.length<=1152921504606) (s m:Nat) (g:m<=1152921504606) (lev right:Int) (high:List UInt8) (f:high.length<=1152921504606):Small ⟨lev,high,right,((l.drop s).take m).map Prod.fst,((l.drop s).take m).map Prod.snd,[]⟩:=by
 have hl:((l.drop s).take m).length<=m:=by rw [List.length_take];exact Nat.min_le_left _ _
 have a:∀e∈(l.drop s).take m,e∈l:=fun e b=>List.mem_of_mem_drop (List.mem_of_mem_take b)
 refine⟨f,?_,?_,by simp,fun t c=> ?_,fun t c=> ?_⟩
 ·show(((l.drop s).take m).map Prod.fst).length<=_;rw [List.length_map];omega
 ·show(((l.drop s).take m).map Prod.snd).length<=_;rw [List.length_map];omega
 ·obtain⟨e,b,rfl⟩:=List.mem_map.1 c;exact(d e (a e b)).1
 ·obtain⟨e,b,rfl⟩:=List.mem_map.1 c;exact(d e (a e b)).2
theorem GK (a b:List UInt8):(l8 a b).1.length<=b.length:=by
 unfold l8;split
 ·rw [List.length_take];exact Nat.min_le_right _ _
 ·simp
theorem JS {F:Nat->Prop} {nodes:Int} (root:Int) {A:Option Addr} {n:Nat} (c:Nat) (fill M:Nat) (bj:fo w F p mm nodes root []) (hE:dh w (Off F mm) A n l) (hnc:n<=c) (t:c<=maxLen)
  (h1:1<=fill) (h2:fill<=1152921504606) (hn:n<=1152921504606) (H:0<n) (bh:∀e∈l,e.1.length<=1152921504606/\e.2.length<=1152921504606) (hM:n<=M*fill/\M*fill<n+fill) (cj:(M:Int)<=nodes) (x:nodes<=65536):
  Calls prog 94 #[mm,.slice A n c,(fill:Int)] w fun e w'=>∃C v,e= .returned v/\Lv w w' F C p mm nodes root [] (nu fill l M) (iX fill l) M v:=by
 obtain⟨i0,cn,iC,iD,iE⟩:=info_parts gM;have ae:=aa bj;have HL:=aa hE.len;obtain⟨_,vs,be,T⟩:=hE;have HR:=aa be;have HT:=aa (show Am w (Off F mm) vs l from T);have HS:=aa bh;clear bj be T bh;go_enter func94,ntmps94;go_wp2_with (go_at_call 143;refine(Gf c fill HR hnc t h1 h2 hn).mono ?_;rintro e w0 ⟨K,vals,A',m,c',gv,rfl,g1,g2,g3,g4,g5,g6,g7,g8,g9,ar⟩;obtain⟨r,cp,bT,cl,co⟩:=g1.form (by omega);subst bT)
 have cq:0<m:=by rcases g6 with h|h;subst h;simp at g4;omega;exact h
 have bL:M=K+1:=by
  have a1:K*fill<M*fill:=by omega
  have a2:M*fill<(K+2)*fill:=by rw [Nat.add_mul];omega
  have V:=Nat.lt_of_mul_lt_mul_right a1;have a4:=Nat.lt_of_mul_lt_mul_right a2;omega
 subst bL;have nX:∀b,Off F mm b->Rest F mm () b:=fun b h=>⟨h,by simp [Value.ownBlock]⟩;have H0:=aa (show oV w0 (Rest F mm ()) w 58 (.slice (some ⟨r,0,none⟩) (K+1) cp) vs fill K m vals A' c' from⟨g1,fun g E=>by have E:some r=some g:=E;injection E with E;subst E;exact nX _ ⟨fun h=>by have:=ae.out.2.1 _ h;omega,by have:=ae.out.2.2.1;omega⟩,g2,fun i hi=>let⟨B,d,a,b,e,f⟩:=g3 i hi;⟨B,d,a,b,e,f.weak nX⟩,g9.weak nX,g7,g8⟩);have HN:=aa g4;have HM:=aa g5;have ac:=aa ar;clear g1 g2 g3 g4 g5 g6 g9 ar
 go_loopg [7,20] (K+1) (fun g' out i wr=>∃(k:Nat) (o:Value) (C:Nat->Prop),g'=K+1-k/\k<=K+1/\i= (k:Int)/\o=out/\Lv w wr F C p mm nodes root [] (nu fill l (K+1)) (iX fill l) k o/\oV wr (Rest C mm o) w 58 (.slice (some ⟨r,0,none⟩) (K+1) cp) vs fill K m vals A' c'/\Am wr (Rest C mm o) vs l)
 case atStart=>exact⟨0,_,F,by omega,by omega,rfl,rfl,⟨ae.below ac,dJ.nil _ _ _,ag.of_below ac,fun b q=> .inl q⟩,H0,(HT.below ac).next (ag.refl Nil _) (fun _ _ h=>h) (fun b _ h=>nX b h)⟩
 case round=>
  obtain⟨k,o,C,E,hk,rfl,rfl,a6,aE,T⟩:=hrel;have HG:=aa E;have D:=aa a6;have YG:=aa aE;have Da:=aa T;clear E a6 aE T
  rename World=>wq
  by_cases bU:k<K+1
  ·obtain⟨r',cg,B,y,d,J,cu,ct,LB,bN,bP,bQ,a8⟩:=YG.out.at_ bU;injection J with J _ YH;injection J with J
   injection J with J
   subst J;subst YH;have P:=aa LB;have xW:=aa a8;clear LB a8
   have vg:k*fill+y<=l.length:=by
    have a1:=HL.out;have a2:=HN.out;have V:=P.out
    by_cases I:k<K
    ·rw [if_pos I] at V;have a4:(k+1)*fill<=K*fill:=Nat.mul_le_mul_right _ I;rw [Nat.add_mul] at a4
     omega
    ·rw [if_neg I] at V;obtain rfl:k=K:=by omega
     omega
   have IW:y<=1152921504606:=by have:=HL.out;omega
   have bx:0<y:=by have V:=P.out;rw [V];split<;>omega
   have IC:=aa vg;clear vg bQ;have E6:Hid (∀g,o.ownBlock=some g->w<=g/\Off C mm g):=aa (by obtain⟨us,a,b,_⟩:=D.out.row;exact fun g E=>⟨(ah a g E).1,b g E⟩);have xu:=aa D.chg.size;have ce:Hid (((List.range k).map (nu fill l (K+1))).length=k):=aa (by simp);go_wp2;refine N7 d IW bP _ xW Da IC ?_;intro cA cC cD cE cF cG cH cI cJ cK cL cM cN cO cP cQ cR cS cT cU cV cW cX kv vv fE oD wz au an ab;have iW:=aa au;have O:=aa ab;obtain⟨kA,kc,vA,vc,rfl,rfl,tk,tv⟩:=GJ (G:=Off C mm) an (Da.below ab) IC (fun b q=>⟨fun h=>by have:=D.out.st.2.1 b h;omega,by have:=D.out.st.2.2.1;omega⟩) (fun b q=>q.1)
   have X6:Hid ((∀(L:World),Below wz wz L->∀u,Tx (L.setCell ⟨wq,1,none⟩ u) (Off C mm) kA y kc (((l.drop (k*fill)).take y).map Prod.fst))/\(∀(L:World),Below wz wz L->∀u,Tx (L.setCell ⟨wq,1,none⟩ u) (Off C mm) vA y vc (((l.drop (k*fill)).take y).map Prod.snd))):=aa (by
    obtain⟨cw,cx,dp,dq,X,Y,bX,b0⟩:=GJ (G:=fun b=>Off C mm b/\b≠wq) an (Am.next Da (ag.of_below (S:=Nil) ab) (fun _ _ h=>h) (D':=fun b=>Rest C mm o b/\b<wq) (fun b q h=>⟨h,q⟩)) IC (fun b q=>⟨⟨fun h=>by have:=D.out.st.2.1 b h;omega,by have:=D.out.st.2.2.1;omega⟩,by omega⟩) (fun b q=>⟨q.1.1,by omega⟩);injection X with X _ Y1;injection Y with Y _ bG
    subst X;subst Y1;subst Y;subst bG;exact⟨fun L h5 u=>((bX.below h5).chg (ag.set1 _ _ _ _) (fun b q e=>q.2 e)).weak (fun b q=>q.1),fun L h5 u=>((b0.below h5).chg (ag.set1 _ _ _ _) (fun b q e=>q.2 e)).weak (fun b q=>q.1)⟩)
   have PE:=aa tk;have bp:=aa tv;have a9:Rest C mm o wq:=⟨⟨fun h=>by have:=D.out.st.2.1 _ h;omega,by have:=D.out.st.2.2.1;omega⟩,fun e=>by obtain⟨us,a,_⟩:=D.out.row;have:=(ah a _ e).2;omega⟩;have ao:=aa a9;clear au an ab tk tv a9
   by_cases R:k<K
   ·have X0:Hid (y=fill):=aa (by have:=P.out;rw [if_pos R] at this;exact this);obtain⟨r2,ch,B2,Vb,d2,s,_,_,Mo,N,_,_,ap⟩:=YG.out.at_ (show k+1<K+1 by omega);injection s with s _ ba
    injection s with s
    injection s with s
    subst s;subst ba;have a7:0<Vb:=by rw [Mo];split<;>omega
    have am:(k+1)*fill+Vb<=l.length:=by
     have a1:=HL.out;have a2:=HN.out
     by_cases I:k+1<K
     ·rw [if_pos I] at Mo;have a4:(k+1+1)*fill<=K*fill:=Nat.mul_le_mul_right _ I;rw [Nat.add_mul (k+1)] at a4
      omega
     ·rw [if_neg I] at Mo;obtain rfl:k+1=K:=by omega
      omega
    have cf:=aa am;obtain⟨b,o1,Ak,nk,ck,Av,nv,cv,rfl,bI,X,Y,aq,bF,ea,Zz,sa,_⟩:=DK xW.out Da IC (j:=y-1) (by omega);obtain⟨b3,o3,Bk,Gg,Ju,Bv,cy,ci,rfl,bz,f1,f2,al,Ur,eb,ZA,sb,_⟩:=DK ap Da am (j:=0) a7;rw [Nat.zero_mul,Nat.add_zero] at al;have C1:=aa (aj O aq);have C2:=aa (aj O N);have C3:=aa (aj O al);have la:ea.1.length<=1152921504606:=(HS.out _ (nT Zz)).1;have lb:eb.1.length<=1152921504606:=(HS.out _ (nT ZA)).1;have vo:=aa (sa.below O).bt;have Gh:=aa (sb.below O).bt
    have aA:Hid (iX fill l k=(l8 ea.1 eb.1).1):=aa (by
     have q1:l.getD ((k+1)*fill-1) ([],[])=ea:=by
      rw [show(k+1)*fill-1=k*fill+(y-1) by have:=X0.out;rw [Nat.add_mul];omega,List.getD_eq_getElem?_getD,Zz];rfl
     have q2:l.getD ((k+1)*fill) ([],[])=eb:=by
      rw [List.getD_eq_getElem?_getD];rw [Nat.add_zero] at ZA;rw [ZA];rfl
     unfold iX;rw [if_pos (by omega),q1,q2])
    clear am Mo ap N aq bF al Ur X Y f1 f2 Zz ZA sa sb bI bz;have YF:K<=65536:=by omega
    go_wp2;refine ND K cp d (aa (fun _ _ _ _ h=>h)) R (by omega) bx IW a7 C1.out C2.out C3.out vo Gh la lb iW ?_
    intro cY c2 c3 c4 c6 c7 c8 c9 da db dc dd de df dg di dj dk dl dm dn U n5 W L a0 Z;have eF:=aa Z;have lU:Hid (Below wq wq (L.setCell ⟨wq,1,none⟩ (.slice U n5 W))):=aa ((O.out.trans (Z.mono O.size)).setCell (p:=⟨wq,1,none⟩) jO _);have bE:Hid (ak (L.setCell ⟨wq,1,none⟩ (.slice U n5 W)) wq 132 #[.int .i64 0,.slice U n5 W,.int .i64 0,.slice kA y kc,.slice vA y vc,()]):=aa ((iW.below Z).set_ 1 _);have cr:wq.heap.size<wz:=iW.out.lt;have aw:ag (jX wq) L (L.setCell ⟨wq,1,none⟩ (.slice U n5 W)):=ag.set1 _ _ _ _;have bo:=aa (((a0.weak (G:=fun b=>Rest C mm o b/\b≠wq) (fun b q=>⟨⟨⟨fun h=>by have:=D.out.st.2.1 b h;have q:wz<=b:=q;omega,by have:=D.out.st.2.2.1;have q:wz<=b:=q;omega⟩,fun e=>by obtain⟨us,a,_⟩:=D.out.row;have:=(ah a _ e).2;have q:wz<=b:=q;omega⟩,by have q:wz<=b:=q;omega⟩)).chg aw (fun b q e=>q.2 e)).weak (G:=Rest C mm o) (fun b q=>q.1));clear a0 Z aw;have bk:Hid (Tx (L.setCell ⟨wq,1,none⟩ (.slice U n5 W)) (Off C mm) kA y kc (((l.drop (k*fill)).take y).map Prod.fst)):=aa (X6.1 _ eF (.slice U n5 W));have bm:Hid (Tx (L.setCell ⟨wq,1,none⟩ (.slice U n5 W)) (Off C mm) vA y vc (((l.drop (k*fill)).take y).map Prod.snd)):=aa (X6.2 _ eF (.slice U n5 W));go_wp2;refine Yc ([]++(List.range k).map (nu fill l (K+1))) ⟨0,(l8 ea.1 eb.1).1,0,((l.drop (k*fill)).take y).map Prod.fst,((l.drop (k*fill)).take y).map Prod.snd,[]⟩ none 0 0 true (w:=L.setCell ⟨wq,1,none⟩ (.slice U n5 W)) (aa (fun _ _ _ _ h=>h)) (D.st.below lU) (by simp;omega) x (by simp;omega) (by have:=xu.out;have:=lU.out.size;omega) bE ao bo bk bm (It.nil _ _) (r9 HS _ _ IW _ _ _ (ma (GK _ _) lb)) (D.row.below lU) ?_;intro b1 b2 b4 b5 b6 b7 b8 b9 ca cb cd o' w' z
    obtain⟨T9,XY,s⟩:=Db D lU z (by
     have X:y=fill:=X0.out;have Y:=aA.out;simp only [nu,X,Y,if_pos (show k+1<K+1 by omega),if_true,List.nil_append,List.length_map,List.length_range]) (by simp) aA.out.symm (fun g E=>(E6 g E).1)
    have XZ:=aa z.chg;have Dc:=aa XY;have Q:=aa s;clear z XY s;have qL:∀b,Rest C mm o b->¬((C b\/b=mm)\/o.ownBlock=some b):=fun b q h=>h.elim (fun h=>h.elim q.1.1 q.1.2) q.2;go_wp2
    go_roundg (K+1-(k+1))
    case measure=>have:=HG.out;omega
    case rel=>exact⟨k+1,o',T9,rfl,by omega,by go_num,rfl,Dc,(YG.below lU).next XZ qL Q,(Da.below lU).next XZ qL Q⟩
   ·obtain rfl:k=K:=by omega
    have a5:l.length=k*fill+y:=by have a1:=HL.out;have a2:=HN.out;have V:=P.out;rw [if_neg (by omega)] at V;omega
    have X0:y<=fill:=by have a2:=HM.out;have V:=P.out;rw [if_neg (by omega)] at V;omega
    have ad:=aa a5;clear a5;go_wp2;refine Yc ([]++(List.range k).map (nu fill l (k+1))) ⟨0,[],0,((l.drop (k*fill)).take y).map Prod.fst,((l.drop (k*fill)).take y).map Prod.snd,[]⟩ (hA:=none) none (hn:=0) (hc:=0) 0 0 false (aa (fun _ _ _ _ h=>h)) (D.st.below O) (by simp;omega) x (by simp;omega) (by have:=xu.out;have:=O.out.size;omega) iW ao (Bt.nil _ _) PE bp (It.nil _ _) (r9 HS _ _ IW _ _ _ (by simp)) (D.row.below O) ?_;intro b1 b2 b4 b5 b6 b7 b8 b9 ca cb cd o' w' z
    obtain⟨T9,XY,s⟩:=Db D O z (by
     have X:(l.drop (k*fill)).take fill=(l.drop (k*fill)).take y:=by
      have:=ad.out;rw [List.take_of_length_le (by rw [List.length_drop];omega),List.take_of_length_le (by rw [List.length_drop];omega)]
     have Y:iX fill l k= []:=by unfold iX;rw [if_neg (by have:=ad.out;rw [Nat.add_mul];omega)]
     simp only [nu,X,Y,if_neg (Nat.lt_irrefl _),Bool.false_eq_true,if_false]) (by simp) (by unfold iX;rw [if_neg (by have:=ad.out;rw [Nat.add_mul];omega)]) (fun g E=>(E6 g E).1)
    have XZ:=aa z.chg;have Dc:=aa XY;have Q:=aa s;clear z XY s;have qL:∀b,Rest C mm o b->¬((C b\/b=mm)\/o.ownBlock=some b):=fun b q h=>h.elim (fun h=>h.elim q.1.1 q.1.2) q.2;go_wp2
    go_roundg (k+1-(k+1))
    case measure=>have:=HG.out;omega
    case rel=>exact⟨k+1,o',T9,rfl,by omega,by go_num,rfl,Dc,(YG.below O).next XZ qL Q,(Da.below O).next XZ qL Q⟩
  ·obtain rfl:k=K+1:=by omega
   go_wp2;go_ret
   exact⟨C,_,rfl,D⟩
section
structure dQ (w:World) (base:Nat) (nU:List Value) (j i:Nat) (kv dv:Value) (fE oN:List Value):Prop where
 k:w.ownsRow base 24 1 kv j fE
 v:w.ownsRow base 3 1 dv i oN
 dis:∀g,kv.ownBlock=some g->dv.ownBlock≠some g
 ku:∀a,a<j->fE[a]? =nU[2*a+1]?
 vu:∀a,a<i->oN[a]? =nU[2*a]?
section
variable {w w2 w':World} {base:Nat} {nU:List Value} {j i:Nat} {kv dv v2 u:Value} {fE oN:List Value}
theorem dQ.nil (w:World) (base:Nat) (nU:List Value):dQ w base nU 0 0 () () [] []:=
 ⟨World.ownsRow_nil _ _ _ _,World.ownsRow_nil _ _ _ _,fun g h=>by simp [Value.ownBlock] at h,fun a b=>absurd b (by omega),fun a b=>absurd b (by omega)⟩
theorem dQ.below (h:dQ w base nU j i kv dv fE oN) (o:Below w w w'):dQ w' base nU j i kv dv fE oN:=⟨own_below h.k o,own_below h.v o,h.dis,h.ku,h.vu⟩
theorem dQ.far (h:dQ w base nU j i kv dv fE oN) {b:Nat} (o:Nat) (u:Value) (c:b<base):dQ (w.setCell ⟨b,o,none⟩ u) base nU j i kv dv fE oN:=
 ⟨aB h.k (ag.set1 w b o u) (fun g a e=>by have:=(ah h.k g a).1;have e:g=b:=e;omega),aB h.v (ag.set1 w b o u) (fun g a e=>by have:=(ah h.v g a).1;have e:g=b:=e;omega),h.dis,h.ku,h.vu⟩
theorem dQ.key (h:dQ w base nU j i kv dv fE oN) (l:w2.ownsRow base 24 1 v2 (j+1) (fE++ [u])) (d:w.grownBy w2 kv.ownBlock) (c:v2.ownBlock=kv.ownBlock\/v2.ownBlock=some w)
  (m:nU[2*j+1]? =some u):dQ w2 base nU (j+1) i v2 dv (fE++ [u]) oN:=
 ⟨l,aB h.v (ag.of_grown d) (fun g hv b=>h.dis g b hv),fun g b hv=>c.elim (fun e=>h.dis g (e▸b) hv) (fun e=>by rw [e] at b;injection b with b;have:=(ah h.v g hv).2;omega),sZ (f:=fun a=>2*a+1) h.ku (by have:=h.k.1;omega) m,h.vu⟩
theorem dQ.kid (h:dQ w base nU j i kv dv fE oN) (l:w2.ownsRow base 3 1 v2 (i+1) (oN++ [u])) (d:w.grownBy w2 dv.ownBlock) (c:v2.ownBlock=dv.ownBlock\/v2.ownBlock=some w)
  (m:nU[2*i]? =some u):dQ w2 base nU j (i+1) kv v2 fE (oN++ [u]):=
 ⟨aB h.k (ag.of_grown d) (fun g b hv=>h.dis g b hv),l,fun g b hv=>c.elim (fun e=>h.dis g b (e▸hv)) (fun e=>by rw [e] at hv;injection hv with hv;have:=(ah h.k g b).2;omega),h.ku,sZ (f:=fun a=>2*a) h.vu (by have:=h.v.1;omega) m⟩
end
def PZ (w:World) (D:Nat->Prop) (us:List Value) (ks:List (Int×List UInt8)):Prop:=∀(i:Nat) (k:Int×List UInt8),ks[i]? =some k->us[2*i]? =some (.int .i64 k.1)/\∃u,us[2*i+1]? =some u/\SB w D u k.2
theorem PZ.next {w w':World} {S D D':Nat->Prop} {us:List Value} {ks:List (Int×List UInt8)} (h:PZ w D us ks) (hc:ag S w w') (p:∀b,D b->¬S b) (d:∀b,b<w.heap.size->D b->D' b):PZ w' D' us ks:=
 fun i k e=>let⟨a,u,b,c⟩:=h i k e;⟨a,u,b,c.next hc p d⟩
theorem PZ.below {w w':World} {D:Nat->Prop} {us:List Value} {ks:List (Int×List UInt8)} (h:PZ w D us ks) (o:Below w w w'):PZ w' D us ks:=h.next (ag.of_below (S:=Nil) o) (fun _ _ h=>h) (fun _ _ h=>h)
theorem IR {w:World} {D:Nat->Prop} {us:List Value} {ks:List (Int×List UInt8)} {B:Option Addr} {s m j:Nat} (t:Rd w D 2 B m ((us.drop (s*2)).take (m*2))) (y:PZ w D us ks) (E:s+m<=ks.length) (r:j<m):
  ∃b o id d g ch,B=some ⟨b,o,none⟩/\D b/\((us.drop (s*2)).take (m*2))[2*j]? =some (.int .i64 id)/\((us.drop (s*2)).take (m*2))[2*j+1]? =some (.slice d g ch)/\w.cell? ⟨b,o+j*2,none⟩=some (.int .i64 id)/\w.cell? ⟨b,o+j*2+1,none⟩=some (.slice d g ch)/\∃x:Int×List UInt8,ks[s+j]? =some x/\id=x.1/\SB w D (.slice d g ch) x.2:=by
 obtain⟨b,o,u,v,e,q,h,i,c1,f⟩:=t.at2 r;have hl:s+j<ks.length:=by omega
 obtain⟨l,F,n,A⟩:=y (s+j) _ (mP hl);have a:=h;have c:=i;rw [List.getElem?_take,if_pos (by omega),List.getElem?_drop,show s*2+2*j=2*(s+j) by omega,l] at a;rw [List.getElem?_take,if_pos (by omega),List.getElem?_drop,show s*2+(2*j+1)=2*(s+j)+1 by omega,n] at c;injection a with a;injection c with c
 subst a;subst c;obtain⟨k,z,p,rfl,C⟩:=A;rw [Nat.mul_comm 2 j] at c1 f;rw [<-Nat.add_assoc] at f;exact⟨b,o,_,k,z,p,e,q,h,i,c1,f,_,mP hl,rfl,⟨_,_,_,rfl,C⟩⟩
noncomputable def Yy:Code:=aQ (f95.body.bind (aF 12))
theorem Yz {b o:Nat} (x d:Nat) {q j:Nat} {base:Nat} {kv:Value} (n:Nat) {fE:List Value} {k:Option Addr} {Y ch:Nat} {w:World} {p u1 y B J s u6 u7 u8 u9 L E U G f C I M P V u23 l z D m r T u30 g u32 u33 u34 i u36 u37 u38 N u40 R u42 X u44 u45 u46 v u48 u49 H:Value} {Tu:List Value} {Q:Exit->Act->World->Prop} (kF:Hid (∀c t (a:Act) w,Q (.panic c) ⟨t,a.defers⟩ w->Q (.panic c) a w))
  (hj:1<=j) (a4:j<=x) (hm:x<=1152921504606) (hn:n<=1152921504606) (hbase:base<=w) (a5:q<base) (a2:b<base)
  (c1:w.cell? ⟨b,o+(j-1)*2+1,none⟩=some (.slice k Y ch)) (c2:w.cell? ⟨q,3,none⟩=some kv) (cf:∀o,w.frozen? ⟨q,o,none⟩=false) (W:w.ownsRow base 24 1 kv n fE)
  (au:∀(ae al am an ao ap aq ar aw aA aE a0 a1:Value) (v2:Value) (wa w2:World),Below w w wa->w2.ownsRow base 24 1 v2 (n+1) (fE++ [.slice k Y ch])->wa.grownBy w2 kv.ownBlock->(v2.ownBlock=kv.ownBlock\/v2.ownBlock=some wa)->Q .normal ⟨(p::u1::y::B::J::s::u6::u7::u8::u9::L::E:: .slice (some ⟨b,o,none⟩) x d:: .pointer (some ⟨q,0,none⟩):: .int .i64 j::U::G::f::C::I::M::P::V::u23::l::z::D::m::r::T::u30::g::u32::u33::u34::i::u36::u37::ae::al::am::an::ao::ap::aq::ar::aw::aA::aE::a0::a1::Tu).toArray,[]⟩ (w2.setCell ⟨q,3,none⟩ v2)):
  Code.wp prog Yy Q ⟨(p::u1::y::B::J::s::u6::u7::u8::u9::L::E:: .slice (some ⟨b,o,none⟩) x d:: .pointer (some ⟨q,0,none⟩):: .int .i64 j::U::G::f::C::I::M::P::V::u23::l::z::D::m::r::T::u30::g::u32::u33::u34::i::u36::u37::u38::N::u40::R::u42::X::u44::u45::u46::v::u48::u49::H::Tu).toArray,[]⟩ w:=by
 obtain⟨i0,ac,iC,iD,iE⟩:=info_parts gM;have dz:=aa au;have HO:=aa W;have w1:=IntWalk.i64_in ((j:Int)-1) (by omega);have w2:(0:Int)<=(j:Int)-1:=by omega
 have w3:((j:Int)-1)<x:=by omega
 have w4:((j:Int)-1).toNat=j-1:=by omega
 have w8:(1:Int)<=(j:Int):=by omega
 have HC:=aa cf;clear au W cf;conv=>arg 2;whnf
 refine aM (fun w'=>w'.cell? ⟨b,o+(j-1)*2+1,none⟩=some (.slice k Y ch)/\w'.cell? ⟨q,3,none⟩=some kv) 13 (by kernel_rfl) ?_;have F:w.drew.cell? ⟨b,o+(j-1)*2+1,none⟩=some (.slice k Y ch)/\w.drew.cell? ⟨q,3,none⟩=some kv:=⟨c1,c2⟩;refine uF 0 (fun _=>F) ?_;refine uF 1 (fun _=>F) ?_;refine uF 3 (fun _=>F) ?_;refine uF 4 (fun _=>F) ?_;refine uF 5 (fun _=>F) ?_;refine uF 6 (fun _=>F) ?_;refine uF 7 (fun _=>F) ?_;refine uT 2 F ?_;refine uT 8 F ?_;refine mR 9 fun K S=> ?_;go_simp;have Z:Below w.drew.heap.size w.drew (w.drew.alloc (.cells #[.slice k Y ch] 24)):=gV;have S2:(w.drew.alloc (.cells #[.slice k Y ch] 24)).cell? ⟨b,o+(j-1)*2+1,none⟩=some (.slice k Y ch)/\(w.drew.alloc (.cells #[.slice k Y ch] 24)).cell? ⟨q,3,none⟩=some kv:=⟨aj Z F.1,aj Z F.2⟩;refine S.out _ _ (fun _=>S2) ?_;clear S K;try simp only [aL,aN,aZ,aC]
 refine mR 10 fun K S=> ?_;refine aG _ rfl (.tmp 40) (.tmp 47) _ rfl base 24 i0 _ 1 24 underlying128 ac iC iD iE rfl (by omega) kv n fE rfl (own_below HO (mh.drew.alloc jO _)) (From w) (some ⟨w,0,none⟩) 1 1 [.slice k Y ch] rfl (Rd.one w.drew _ _) (by intro u hu;simp at hu;subst hu;rfl) (by simp only [maxLen];omega) (by omega) (by simp;omega) ?_;intro v2 w2 A O bU;obtain⟨K2,Ap,ad,_,_⟩:=ax A;subst ad;have MR:=O;have iG:=aa A;have rC:=aa O;have ab:=aa bU;have xO:w2.cell? ⟨q,3,none⟩=some kv:=(ag.of_grown O).cell (fun e=>by have:=(ah HO _ e).1;omega) S2.2;have a3:∀o,w2.frozen? ⟨q,o,none⟩=false:=fe.chg (w:=w) HC (((ag.refl (fun b=>kv.ownBlock=some b) w).then (mh.drew.alloc jO _)).trans (ag.of_grown O) (fun _ _ h=>h)) (by have:=eU c2;exact this) (fun e=>by have:=(ah HO _ e).1;omega);clear A O bU;have S3:w2.cell? ⟨b,o+(j-1)*2+1,none⟩=some (.slice k Y ch)/\w2.cell? ⟨q,3,none⟩=some kv:=⟨(ag.of_grown MR).cell (fun e=>by have:=(ah HO _ e).1;omega) S2.1,xO⟩;refine rR S (fun _=>S3) ?_;clear S K;refine uF 11 (fun _=>S3) ?_;refine uF 12 (fun _=>S3) ?_;refine mR 13 fun K S=> ?_;go_simp;refine S.out _ _ (fun h=>absurd h (by decide)) ?_;clear S K;try simp only [aL,aN,aZ,aC]
 refine bH (by kernel_rfl) ?_ _;exact dz _ _ _ _ _ _ _ _ _ _ _ _ _ _ _ w2 (mh.drew.alloc jO _) iG rC ab
end
end Go.Proofs.YtepgcjbhabnciaaGreat
