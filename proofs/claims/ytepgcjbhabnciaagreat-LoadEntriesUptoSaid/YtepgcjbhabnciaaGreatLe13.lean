/- Part 13. -/
import Derived.Test.YtepgcjbhabnciaaGreatLe09
namespace Go.Proofs.YtepgcjbhabnciaaGreat
set_option maxRecDepth 100000
set_option maxHeartbeats 8000000
open Go.RowKit Go.Proofs.Tryz
open Go.Lib (compareBytes)
variable {u1 H v u9 M E I Z N U Y O f C s P D g T u30 k J L d B V m j W u29 u2 u6 u7 u8 u21 u23 u27 u28 u x u33 u34 u35 u36 u37 u38 R u40 X u42 G u44 u45:Value} {r:bg} {S:List Value} {K:Nat} {l:List aK}
section
section
variable {P:Program} {ops:Array Oper} {Q:Exit->Act->World->Prop} {md:Region.Mode} {S:World->Prop}
theorem Ii {i j:Nat} {e d:Oper} {f:Nat} {p:Array Bool} {a:Act} {w:World} (q:Region.ready md ops p= [i,j]) (m:ops[i]? =some e) (n:ops[j]? =some d)
  (hi:∀b:Act->World->Prop,Hid (∀a w,S w->Cg P md ops Q S f (p.setIfInBounds i true) a w->b a w)->
   if Region.wanted e (yielded ops a.tmps)=true then Oper.wp P e a w b Q else b (a.put e.dst undef) w)
  (r:∀b:Act->World->Prop,Hid (∀a w,S w->Cg P md ops Q S f (p.setIfInBounds j true) a w->b a w)->
   if Region.wanted d (yielded ops a.tmps)=true then Oper.wp P d a w b Q else b (a.put d.dst undef) w):Cg P md ops Q S (f+1) p a w:=by
 refine⟨fun o=>(by rw [q] at o;cases o),fun k c=> ?_⟩;rw [q] at c
 rcases List.mem_cons.1 c with rfl|c
 ·exact wpOp_step m (fun b g=>hi b (fun a w h l=>g a w ⟨h,l⟩))
 ·obtain rfl:k=j:=by simpa using c
  exact wpOp_step n (fun b g=>r b (fun a w h l=>g a w ⟨h,l⟩))
end
end
noncomputable def kD:Code:=aV (f174.body.bind (aJ 5))
theorem PT (base q p:Nat) (A:Option Addr) (n c:Nat) (us:List Value) (v0 v1 v2 v4:Value) (w:World) {r:Value} (Q:Exit->Act->World->Prop) (mQ:Hid (∀c t (a:Act) w,Q (.panic c) ⟨t,a.defers⟩ w->Q (.panic c) a w))
  (R:Hid (aj w q 295 #[v0,v1,v2,.int .i64 p,v4,.slice A n c])) (HO:Hid (w.ownsRow base 3 1 (.slice A n c) n us)) (hT:(Value.slice A n c).ownBlock≠some q) (hn:n<=1152921504606) (G:base<=w.heap.size)
  (ax:∀(ad ae al am an ao ap aq ar aw aA aE a0:Value) (x:Value) (wa w2:World),Below w.heap.size w wa->w2.ownsRow base 3 1 x (n+1) (us++ [.int .i64 p])->wa.grownBy w2 (Value.slice A n c).ownBlock->(x.ownBlock=(Value.slice A n c).ownBlock\/x.ownBlock=some wa.heap.size)->Q .normal ⟨(.pointer (some ⟨q,0,none⟩)::u1::J::L::H::v::d::B::r::u9::M::E::I::Z::N::U::Y::O::f::ad::ae::al::am::an::ao::ap::aq::ar::aw::aA::aE::a0::S).toArray,[]⟩ (w2.setCell ⟨q,5,none⟩ x)):
  Code.wp prog kD Q ⟨(.pointer (some ⟨q,0,none⟩)::u1::J::L::H::v::d::B::r::u9::M::E::I::Z::N::U::Y::O::f::C::s::V::P::m::D::g::T::j::W::u29::u30::k::S).toArray,[]⟩ w:=by
 obtain⟨i0,ab,kH,kI,kJ⟩:=info_parts pZ;have dP:=aa ax;have a1:=R.out.lt;have b:w.drew.cell? ⟨q,5,none⟩=some (.slice A n c)/\w.drew.cell? ⟨q,3,none⟩=some (.int .i64 p):=⟨(R.cell 5).trans rfl,(R.cell 3).trans rfl⟩;clear ax;conv=>arg 2;whnf
 refine aS (fun w'=>w'.cell? ⟨q,5,none⟩=some (.slice A n c)/\w'.cell? ⟨q,3,none⟩=some (.int .i64 p)) 13 (by kernel_rfl) ?_;refine uF 0 (fun _=>b) ?_;refine uF 1 (fun _=>b) ?_;refine uF 2 (fun _=>b) ?_;refine uF 3 (fun _=>b) ?_;refine uF 5 (fun _=>b) ?_;refine uF 6 (fun _=>b) ?_;refine uF 7 (fun _=>b) ?_;refine uT 4 b ?_;refine uT 8 b ?_;refine aH (i:=9) (by kernel_rfl) rfl (fun K y=> ?_);go_simp
 have z:Below w.drew.heap.size w.drew (w.drew.alloc (.cells #[.int .i64 p] 3)):=(Below.refl _ _).alloc (Nat.le_refl _) _;have l:Hid (Below w.heap.size w (w.drew.alloc (.cells #[.int .i64 p] 3))):=aa ((Below.refl _ _).drew.trans z);have X:(w.drew.alloc (.cells #[.int .i64 p] 3)).cell? ⟨q,5,none⟩=some (.slice A n c)/\(w.drew.alloc (.cells #[.int .i64 p] 3)).cell? ⟨q,3,none⟩=some (.int .i64 p):=⟨ak z b.1,ak z b.2⟩;refine y.out _ _ (fun _=>X) ?_;clear y K;try simp only [aL,aN,aZ,aC]
 refine aH (i:=10) (by kernel_rfl) rfl (fun K y=> ?_);refine aI _ rfl (.tmp 23) (.tmp 28) _ rfl base 3 i0 _ 1 8 underlying25 ab kH kI kJ rfl (by omega) (.slice A n c) n us rfl (own_below HO l) (From w.heap.size) (some ⟨w.heap.size,0,none⟩) 1 1 [.int .i64 p] rfl (Rd.one w.drew _ _) (by intro u hu;simp at hu;subst hu;rfl) (by simp only [maxLen];omega) (by omega) (Nat.le_trans G l.size) ?_;intro x F dz e ib;obtain⟨K4,EJ,ac,_,_⟩:=au dz;subst ac;have iV:=aa dz;have I9:=aa e;have yL:=aa ib;have Hr:F.cell? ⟨q,5,none⟩=some (.slice A n c):=(ag.of_grown e).cell hT X.1;have XQ:∀o,F.frozen? ⟨q,o,none⟩=false:=((R.below l).chg (ag.of_grown e) hT).frozen;have S4:F.cell? ⟨q,5,none⟩=some (.slice A n c)/\F.cell? ⟨q,3,none⟩=some (.int .i64 p):=⟨Hr,(ag.of_grown e).cell hT X.2⟩;clear dz e ib;refine y.out _ _ (fun _=>S4) ?_;clear y K;try simp only [aL,aN,aZ,aC]
 refine uF 11 (fun _=>S4) ?_;refine uF 12 (fun _=>S4) ?_;refine aH (i:=13) (by kernel_rfl) rfl (fun K y=> ?_);go_simp
 refine y.out _ _ (fun h=>absurd h (by decide)) ?_;clear y K;try simp only [aL,aN,aZ,aC]
 refine bS (by kernel_rfl) ?_ _;exact dP _ _ _ _ _ _ _ _ _ _ _ _ _ _ _ F l iV I9 yL
theorem Cw (w:World):(zeroValue 69).run prog w= .ok (.agg #[.slice none 0 0,.slice none 0 0]) w:=by kernel_rfl
noncomputable def kW:Code:=aV (f174.body.bind (aJ 6))
theorem Ih (F:Nat->Prop) (q p:Nat) (A B:Option Addr) (n c m d:Nat) (prev b:List UInt8) (v1 v2 v4 v5:Value) (w:World) (Q:Exit->Act->World->Prop) (mQ:Hid (∀c t (a:Act) w,Q (.panic c) ⟨t,a.defers⟩ w->Q (.panic c) a w))
  (HB:Hid (aj w q 295 #[.slice B m d,v1,v2,.int .i64 p,v4,v5])) (HP:Hid (Rd w F 1 A n (aF prev))) (HN:Hid (n=prev.length)) (hnc:n<=c) (HR:Hid (Rd w F 1 B m (aF b))) (HM:Hid (m=b.length)) (h:m<=d) (hp:p<=m) (hn2:n<=1152921504606) (hm2:m<=1152921504606) (hcm:c<=maxLen) (HF:Hid (∀b,F b->b<w.heap.size))
  (ax:∀(an ao ap aq ar aw aA aE a0 a1 a2 a3 a4 a5:Value) (l:Nat) (K:Option Addr) (kn kc:Nat) (V:Option Addr) (vn vc:Nat) (w':World),w.heap.size<=l->aj w' l 69 #[.slice K kn kc,.slice V vn vc]->((pread prev b p).err=0->SB w' (fun b=>w.heap.size<=b/\b≠l) (.slice K kn kc) (pread prev b p).key/\SB w' (fun b=>w.heap.size<=b/\b≠l) (.slice V vn vc) (pread prev b p).val)->Below w.heap.size w w'->Q .normal ⟨(.pointer (some ⟨q,0,none⟩)::u1::u2:: .slice A n c::H:: .pointer (some ⟨l,0,none⟩):: .int .i64 (pread prev b p).next:: .int .i64 (pread prev b p).err::u8::u9::M::E::I::Z::N::U::Y::O::f::C::s::u21::P::u23::D::g::T::u27::u28::u::u30::k::an::ao::ap::aq::ar::aw::aA::aE::a0::a1::a2::a3::a4::a5::S).toArray,[]⟩ w'):
  Code.wp prog kW Q ⟨(.pointer (some ⟨q,0,none⟩)::u1::u2:: .slice A n c::H::v::u6::u7::u8::u9::M::E::I::Z::N::U::Y::O::f::C::s::u21::P::u23::D::g::T::u27::u28::u::u30::k::x::u33::u34::u35::u36::u37::u38::R::u40::X::u42::G::u44::u45::S).toArray,[]⟩ w:=by
 have dP:=aa ax;obtain⟨r,hr⟩:∃r,r=pread prev b p:=⟨_,rfl⟩;have al:=aa hr;have ae:∀w1,Below w.heap.size w w1->Calls prog 195 #[.slice A n c,.slice B m d,.int .i64 p] w1 (fP prev b p w1):=fun w1 o=>EW F A B n c m d p prev b w1 (HP.below o) HN hnc (HR.below o) HM h hp hn2 hm2 hcm (fun b am=>Nat.lt_of_lt_of_le (HF b am) o.size);have Tg:=aa ae;have S0:w.drew.cell? ⟨q,0,none⟩=some (.slice B m d)/\w.drew.cell? ⟨q,3,none⟩=some (.int .i64 p):=⟨(HB.cell 0).trans rfl,(HB.cell 3).trans rfl⟩;rw [<-hr] at dP;have a6:=Cw;clear ax hr ae;conv=>arg 2;whnf
 refine aU (fun w'=>w'.cell? ⟨q,0,none⟩=some (.slice B m d)/\w'.cell? ⟨q,3,none⟩=some (.int .i64 p)) (by kernel_rfl) ?_;refine vT 0 S0 ?_;refine vT 1 S0 ?_;refine vT 2 S0 ?_;refine vT 3 S0 ?_;refine vT 5 S0 ?_;refine vT 6 S0 ?_;refine vT 7 S0 ?_;refine vT 4 S0 ?_;refine vT 8 S0 ?_
 refine Ii (i:=9) (j:=14) (by kernel_rfl) rfl rfl (fun K hK=> ?_) (fun K hK=> ?_)
 ·go_simp
  go_loud (refine(Tg _ ((Below.refl _ _).drew)).mono ?_);rintro e w2 ⟨J,kn,kc,V,vn,vc,rfl,hk,y⟩;rw [<-al.out] at hk|-;have HK:=aa hk;have ac:Hid (Below w.heap.size w w2):=aa ((Below.refl _ _).drew.trans y);have S1:w2.cell? ⟨q,0,none⟩=some (.slice B m d)/\w2.cell? ⟨q,3,none⟩=some (.int .i64 p):=⟨ak y S0.1,ak y S0.2⟩;clear hk y
  refine hK.out _ _ S1 ?_;clear hK K;try simp only [aL,aN,aZ,aC]
  refine vT 10 S1 ?_;refine vT 11 S1 ?_;refine vT 12 S1 ?_;refine vT 13 S1 ?_;refine aO (i:=14) (by kernel_rfl) rfl (fun K hK=> ?_);go_simp
  obtain⟨l,ab⟩:∃l,l=w2.heap.size:=⟨_,rfl⟩;obtain⟨z,EY⟩:∃W,W=w2.alloc (.cells #[.slice none 0 0,.slice none 0 0] 69):=⟨_,rfl⟩;have Lt:Below w2.heap.size w2 z:=(by rw [EY];exact(Below.refl _ _).alloc (Nat.le_refl _) _);have iw:=aa Lt;have PU:aj z l 69 #[.slice none 0 0,.slice none 0 0]:=(by rw [EY,ab];exact aj.new _ _ _);have Eu:=aa PU;have oI:=aa ab;rw [<-EY,<-ab];have S2:z.cell? ⟨q,0,none⟩=some (.slice B m d)/\z.cell? ⟨q,3,none⟩=some (.int .i64 p):=⟨ak Lt S1.1,ak Lt S1.2⟩;have y0:z.cell? ⟨l,0,none⟩=some (.slice none 0 0):=PU.cell 0;have y1:z.cell? ⟨l,1,none⟩=some (.slice none 0 0):=PU.cell 1;have Cx:=PU.frozen 0;have Cy:=PU.frozen 1;clear ab EY Lt PU;refine hK.out _ _ S2 ?_;clear hK K;try simp only [aL,aN,aZ,aC]
  refine aO (i:=15) (by kernel_rfl) rfl (fun K hK=> ?_);go_simp
  have L:ag (fun b=>b=l) z ((z.setCell ⟨l,0,none⟩ (.slice J kn kc)).setCell ⟨l,1,none⟩ (.slice V vn vc)):=((ag.refl (fun b=>b=l) z).setCell (p:=⟨l,0,none⟩) (fun _=>rfl) _).setCell (p:=⟨l,1,none⟩) (fun _=>rfl) _;have Ij:=aa L;have YF:¬q=l:=(by have h1:=HB.out.lt;have h2:=ac.out.size;have h3:=oI.out;omega);have S3:((z.setCell ⟨l,0,none⟩ (.slice J kn kc)).setCell ⟨l,1,none⟩ (.slice V vn vc)).cell? ⟨q,0,none⟩=some (.slice B m d)/\((z.setCell ⟨l,0,none⟩ (.slice J kn kc)).setCell ⟨l,1,none⟩ (.slice V vn vc)).cell? ⟨q,3,none⟩=some (.int .i64 p):=⟨L.cell YF S2.1,L.cell YF S2.2⟩;clear L y0 y1 Cx Cy;refine hK.out _ _ S3 ?_;clear hK K;try simp only [aL,aN,aZ,aC]
  refine vT 16 S3 ?_;refine vT 17 S3 ?_;refine bG (by kernel_rfl) ?_ _;have hw:=ac.out.trans (iw.mono ac.size)
  refine dP _ _ _ _ _ _ _ _ _ _ _ _ _ _ l J kn kc V vn vc _ (by have h2:=ac.out.size;have h3:=oI.out;omega) ((Eu.set_ 0 (.slice J kn kc)).set_ 1 (.slice V vn vc)) (fun he=>⟨?_,?_⟩) (hw.trans (Ij.below_of hw.size (fun b o e=>by have h2:=ac.out.size;have h3:=oI.out;have e:b=l:=e;omega)))
  ·exact(((((HK he).1.lt).below iw).chg Ij (fun b o e=>by have h1:=o.2;have h3:=oI.out;have e:b=l:=e;omega))).weak (fun b o=>⟨o.1,by have h1:=o.2;have h3:=oI.out;omega⟩)
  ·exact(((((HK he).2.lt).below iw).chg Ij (fun b o e=>by have h1:=o.2;have h3:=oI.out;have e:b=l:=e;omega))).weak (fun b o=>⟨o.1,by have h1:=o.2;have h3:=oI.out;omega⟩)
 ·go_simp
  obtain⟨l,ab⟩:∃l,l=w.heap.size:=⟨_,rfl⟩;obtain⟨z,EY⟩:∃W,W=(w.alloc (.cells #[.slice none 0 0,.slice none 0 0] 69)).drew:=⟨_,rfl⟩;have Lt:Below w.heap.size w z:=(by rw [EY];exact((Below.refl _ _).alloc (Nat.le_refl _) _).drew);have iw:=aa Lt;have PU:aj z l 69 #[.slice none 0 0,.slice none 0 0]:=(by rw [EY,ab];exact(aj.new _ _ _).drew);have Eu:=aa PU;have oI:=aa ab;rw [<-EY,<-ab];have S2:z.cell? ⟨q,0,none⟩=some (.slice B m d)/\z.cell? ⟨q,3,none⟩=some (.int .i64 p):=⟨ak Lt S0.1,ak Lt S0.2⟩;clear ab EY Lt PU;refine hK.out _ _ S2 ?_;clear hK K;try simp only [aL,aN,aZ,aC]
  refine aO (i:=9) (by kernel_rfl) rfl (fun K hK=> ?_);go_simp
  go_loud (refine(Tg _ iw).mono ?_);rintro e w2 ⟨J,kn,kc,V,vn,vc,rfl,hk,y⟩;rw [<-al.out] at hk|-;have HK:=aa hk;have ac:=aa y;have ad:=Eu.out.below y;have pV:=aa ad;have y0:w2.cell? ⟨l,0,none⟩=some (.slice none 0 0):=ad.cell 0;have y1:w2.cell? ⟨l,1,none⟩=some (.slice none 0 0):=ad.cell 1;have Cx:=ad.frozen 0;have Cy:=ad.frozen 1;have S3:w2.cell? ⟨q,0,none⟩=some (.slice B m d)/\w2.cell? ⟨q,3,none⟩=some (.int .i64 p):=⟨ak y S2.1,ak y S2.2⟩;clear hk y ad
  refine hK.out _ _ S3 ?_;clear hK K;try simp only [aL,aN,aZ,aC]
  refine vT 10 S3 ?_;refine vT 11 S3 ?_;refine vT 12 S3 ?_;refine vT 13 S3 ?_;refine aO (i:=15) (by kernel_rfl) rfl (fun K hK=> ?_);go_simp
  have L:ag (fun b=>b=l) w2 ((w2.setCell ⟨l,0,none⟩ (.slice J kn kc)).setCell ⟨l,1,none⟩ (.slice V vn vc)):=((ag.refl (fun b=>b=l) w2).setCell (p:=⟨l,0,none⟩) (fun _=>rfl) _).setCell (p:=⟨l,1,none⟩) (fun _=>rfl) _;have Ij:=aa L;have YF:¬q=l:=(by have h1:=HB.out.lt;have h3:=oI.out;omega);have S4:((w2.setCell ⟨l,0,none⟩ (.slice J kn kc)).setCell ⟨l,1,none⟩ (.slice V vn vc)).cell? ⟨q,0,none⟩=some (.slice B m d)/\((w2.setCell ⟨l,0,none⟩ (.slice J kn kc)).setCell ⟨l,1,none⟩ (.slice V vn vc)).cell? ⟨q,3,none⟩=some (.int .i64 p):=⟨L.cell YF S3.1,L.cell YF S3.2⟩;clear L y0 y1 Cx Cy;refine hK.out _ _ S4 ?_;clear hK K;try simp only [aL,aN,aZ,aC]
  refine vT 16 S4 ?_;refine vT 17 S4 ?_;refine bG (by kernel_rfl) ?_ _;have hw:=iw.out.trans (ac.mono iw.size)
  refine dP _ _ _ _ _ _ _ _ _ _ _ _ _ _ l J kn kc V vn vc _ (by have h3:=oI.out;omega) ((pV.set_ 0 (.slice J kn kc)).set_ 1 (.slice V vn vc)) (fun he=>⟨?_,?_⟩) (hw.trans (Ij.below_of hw.size (fun b o e=>by have h3:=oI.out;have e:b=l:=e;omega)))
  ·exact((HK he).1.chg Ij (fun b o e=>by have h1:z.heap.size<=b:=o;have h4:=Eu.out.lt;have e:b=l:=e;omega)).weak (fun b o=>by have h1:z.heap.size<=b:=o;have h4:=Eu.out.lt;have h3:=oI.out;exact⟨by omega,by omega⟩)
  ·exact((HK he).2.chg Ij (fun b o e=>by have h1:z.heap.size<=b:=o;have h4:=Eu.out.lt;have e:b=l:=e;omega)).weak (fun b o=>by have h1:z.heap.size<=b:=o;have h4:=Eu.out.lt;have h3:=oI.out;exact⟨by omega,by omega⟩)
structure bg.Ok (K:Nat) (r:bg):Prop where
 cur:r.st≠2->r.cur.Ok K
 held:r.st≠2->r.cur.held=none
 rows:gD r.rows
 zero:r.st=0->r.cur.at_=0/\r.rows= []
 one:r.st=1->r.cur.at_=bV r.rows
 st:r.st<=2
 err:r.st≠2->r.err=0
theorem bg.fail_ok (h:gD r.rows) (c:ay) (e:Int) (p:Nat):(r.fail c e p).Ok K:=
 ⟨fun h=>absurd rfl h,fun h=>absurd rfl h,h,fun h=>absurd h (by simp [bg.fail]),fun h=>absurd h (by simp [bg.fail]),Nat.le_refl _,fun h=>absurd rfl h⟩
theorem bg.footR_ok (h:r.Ok K) (c:ay) (at_:Nat):(r.footR c at_).Ok K:=by
 unfold bg.footR;repeat' split
 all_goals first
  |exact bg.fail_ok h.rows _ _ _
  |exact⟨fun h=>absurd rfl h,fun h=>absurd rfl h,h.rows,fun h=>absurd h (by simp),fun h=>absurd h (by simp),Nat.le_refl _,fun h=>absurd rfl h⟩
structure BA (K:Nat) (r:bg) (l:List aK) (r':bg):Prop where
 ok:r'.Ok K
 rise:bH l
 some:1<=l.length
 most:l.length<=64
 st:r'.st=1
 rows:r'.rows.length=r.rows.length+1
 row:∃x,r'.rows=r.rows++ [x]/\x.at_=bV r.rows
 at_:r.cur.at_<r'.cur.at_
theorem nD (h:1<=l.length):∃e∈l,az l=e.1:=by
 have a:l[l.length-1]? =some l[l.length-1]:=List.getElem?_eq_getElem (by omega);exact⟨_,List.getElem_mem _,gH a⟩
theorem Eg (h:bH l):∀(k:List UInt8),compareBytes k (l.headD ([],[])).1<0->1<=l.length->compareBytes k (az l)<0:=by
 intro k g hl
 have key:∀(i:Nat) (hi:i<l.length),compareBytes k l[i].1<0:=by
  intro i
  induction i with
  |zero=>intro hi;cases l with
   |nil=>simp at hl
   |cons x r=>exact g
  |succ i j=>
   intro hi;have f:=j (by omega);have a:=h (i+1) hi;unfold eP at a;have d:l.getD (i+1) ([],[])=l[i+1]:=by simp [List.getD,hi]
   have e:l.getD (i+1-1) ([],[])=l[i]:=by simp [List.getD,show i<l.length by omega]
   rw [d,e] at a
   split at a
   ·rename_i b;exact absurd a b
   ·split at a
    ·exact absurd a (by decide)
    ·rename_i b;exact wE _ _ _ f (by rcases Int.lt_or_le (compareBytes l[i].1 l[i+1].1) 0 with c|c;exact c;exact absurd ⟨by omega,c⟩ b)
 have a:l[l.length-1]? =some l[l.length-1]:=List.getElem?_eq_getElem (by omega);rw [gH a];exact key _ _
theorem bg.block_ok (h:r.Ok K) (x:r.st=1) (c:ay) (j:c.Ok K) (i:c.held=none) (at_:Nat) (g:at_=bV r.rows) (A:c.at_=at_+1) (w:r.cur.at_=at_):
  (r.block c at_).2.Ok K/\∀l,(r.block c at_).1=some l->BA K r l (r.block c at_).2:=by
 unfold bg.block
 split
 ·exact⟨bg.fail_ok h.rows _ _ _,fun l hl=>by cases hl⟩
 ·rename_i B
  split
  ·exact⟨bg.fail_ok h.rows _ _ _,fun l hl=>by cases hl⟩
  ·rename_i p;obtain⟨y,F⟩:=ay.number_ok j;obtain⟨z,m⟩:=ay.number_step j i;have m:=m (Decidable.byContradiction p)
   split
   ·exact⟨bg.fail_ok h.rows _ _ _,fun l hl=>by cases hl⟩
   ·rename_i C;have d:=ay.body_ok y z c.number.1 (by omega)
    split
    ·exact⟨bg.fail_ok h.rows _ _ _,fun l hl=>by cases hl⟩
    ·rename_i q;have u:=d.at_ (Decidable.byContradiction q)
     split
     ·exact⟨bg.fail_ok h.rows _ _ _,fun l hl=>by cases hl⟩
     ·rename_i s;obtain⟨f,a,n⟩:=xg (Decidable.byContradiction s)
      split
      ·exact⟨bg.fail_ok h.rows _ _ _,fun l hl=>by cases hl⟩
      ·rename_i t;obtain⟨e,v,k⟩:=nD a;obtain⟨k1,k2,E⟩:=cK f v
       have hok:({r with cur:=(c.number.2.2.body c.number.1).cur,rows:=r.rows++ [⟨az (aB (c.number.2.2.body c.number.1).body).1,at_,(c.number.2.2.body c.number.1).cur.at_-at_,(aB (c.number.2.2.body c.number.1).body).1.length⟩]}:bg).Ok K:=by
        refine⟨fun _=>d.ok,fun _=>d.held,?_,fun e=> ?_,fun _=> ?_,h.st,h.err⟩
        ·have D:=h.rows.many;refine KZ h.rows (by omega) (by rw [k];exact k1) (by rw [k];exact k2) (fun o=> ?_) g (by simp only [];omega) (by simp only [];omega) a n;refine Eg f _ ?_ a
         rcases Int.lt_or_le (compareBytes (r.rows.getLast?.getD ⟨[],0,0,0⟩).last ((aB (c.number.2.2.body c.number.1).body).1.headD ([],[])).1) 0 with b|b
         ·exact b
         ·exact absurd ⟨o,b⟩ t
        ·have e:r.st=0:=e
         omega
        ·simp only [rC];omega
       refine⟨hok,fun l hl=> ?_⟩;injection hl with hl
       subst hl;exact⟨hok,f,a,n,x,by simp,⟨_,rfl,g⟩,by simp only [];omega⟩
theorem bg.frame_ok (h:r.Ok K) (b:r.st=1):r.frame.2.Ok K/\∀l,r.frame.1=some l->BA K r l r.frame.2:=by
 have a:=h.cur (by omega);have i:=h.held (by omega);have f:=h.one b;have c:=ay.bytes_ok a 1;have d:=ay.bytes_held a 1 i;unfold bg.frame
 split
 ·exact⟨bg.fail_ok h.rows _ _ _,fun l hl=>by cases hl⟩
 ·rename_i g;have e:=ay.bytes_step a 1 (Decidable.byContradiction g)
  split
  ·exact⟨bg.footR_ok h _ _,fun l hl=>by cases hl⟩
  ·split
   ·exact⟨bg.fail_ok h.rows _ _ _,fun l hl=>by cases hl⟩
   ·exact bg.block_ok h b _ c d _ f e rfl
theorem bg.next_ok (h:r.Ok K):r.next.2.Ok K/\∀l,r.next.1=some l->BA K r l r.next.2:=by
 unfold bg.next
 split
 ·exact⟨h,fun l hl=>by cases hl⟩
 ·rename_i a
  split
  ·rename_i d;exact bg.frame_ok h d
  ·rename_i d;have b:=h.cur a;have m:=h.held a;have n:=h.st;obtain⟨o,p⟩:=h.zero (by omega);have f:=ay.bytes_ok b 8;have g:=ay.bytes_held b 8 m
   split
   ·exact⟨bg.fail_ok h.rows _ _ _,fun l hl=>by cases hl⟩
   ·rename_i k;have c:=ay.bytes_step b 8 (Decidable.byContradiction k)
    split
    ·exact⟨bg.fail_ok h.rows _ _ _,fun l hl=>by cases hl⟩
    ·have hok:({r with cur:=(r.cur.bytes 8).2.2,st:=1}:bg).Ok K:=⟨fun _=>f,fun _=>g,h.rows,fun e=>by simp at e,fun _=>by simp only [p,c,o];rfl,by simp,fun _=>h.err a⟩;obtain⟨i,j⟩:=bg.frame_ok hok rfl;refine⟨i,fun l hl=> ?_⟩;have:=j l hl;exact⟨this.ok,this.rise,this.some,this.most,this.st,this.rows,this.row,by have:=this.at_;simp only [c] at this;omega⟩
end Go.Proofs.YtepgcjbhabnciaaGreat
