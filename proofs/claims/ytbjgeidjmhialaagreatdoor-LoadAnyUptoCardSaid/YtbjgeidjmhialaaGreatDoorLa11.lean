/- Part 11. -/
import Derived.Test.YtbjgeidjmhialaaGreatDoorLa10
namespace Go.Proofs.YtbjgeidjmhialaaGreatDoor
set_option maxRecDepth 100000
set_option maxHeartbeats 8000000
section
open Go.Proofs.Tryz
open Go.RowKit
noncomputable def YC:Code:=aP (f138.body.bind (aA 5))
theorem NW (base q p:Nat) (A:Option Addr) (n c:Nat) (us:List Value) (v0 v1 v2 v4:Value) (w:World) {u1 u2 u3 u4 u5 u6 u7 u8 u9 u10 u11 u12 u13 bN bq u16 u17 bC bD u20 u21 u22 u23 u24 u25 u26 u27 u28 u29 u30 u31 u32 u33 u34 u35 u36 u37 u38 dh u40 bX u42 bY u44 u45 u46 di u48 u49 bV u51 u52 u53 bW u55 dz dB u58 u59 u60 dH dG u63 u64 dO u66 dU u68 u69 u70 dV u72 u73 dP u75 eQ eU eX eY eZ fo fq fu fw fE iO jM jC jD lN lQ lS u93:Value} (Q:Exit→Act→World→Prop) (nC:Hid (∀c t (a:Act) w,Q (.panic c) ⟨t,a.defers⟩ w→Q (.panic c) a w))
  (HB:Hid (ai w q 265 #[v0,v1,v2,.int .i64 p,v4,.slice A n c])) (HO:Hid (w.ownsRow base 3 1 (.slice A n c) n us)) (hT:(Value.slice A n c).ownBlock≠some q) (hn:n≤1152921504606) (hbw:base≤w.heap.size)
  (au:∀(v19 v20 v21 v22 v23 v24 v25 v26 v27 v28 v29 v30 v31:Value) (x:Value) (wa w2:World),Below w.heap.size w wa→w2.ownsRow base 3 1 x (n+1) (us++ [.int .i64 p])→wa.grownBy w2 (Value.slice A n c).ownBlock→(x.ownBlock=(Value.slice A n c).ownBlock∨x.ownBlock=some wa.heap.size)→Q .normal ⟨(.pointer (some ⟨q,0,none⟩)::u1::u2::u3::u4::u5::u6::u7::u8::u9::u10::u11::u12::u13::bN::bq::u16::u17::bC::v19::v20::v21::v22::v23::v24::v25::v26::v27::v28::v29::v30::v31::u32::u33::u34::u35::u36::u37::u38::dh::u40::bX::u42::bY::u44::u45::u46::di::u48::u49::bV::u51::u52::u53::bW::u55::dz::dB::u58::u59::u60::dH::dG::u63::u64::dO::u66::dU::u68::u69::u70::dV::u72::u73::dP::u75::eQ::eU::eX::eY::eZ::fo::fq::fu::fw::fE::iO::jM::jC::jD::lN::lQ::lS::u93:: []).toArray,[]⟩ (w2.setCell ⟨q,5,none⟩ x)):
  Code.wp prog YC Q ⟨(.pointer (some ⟨q,0,none⟩)::u1::u2::u3::u4::u5::u6::u7::u8::u9::u10::u11::u12::u13::bN::bq::u16::u17::bC::bD::u20::u21::u22::u23::u24::u25::u26::u27::u28::u29::u30::u31::u32::u33::u34::u35::u36::u37::u38::dh::u40::bX::u42::bY::u44::u45::u46::di::u48::u49::bV::u51::u52::u53::bW::u55::dz::dB::u58::u59::u60::dH::dG::u63::u64::dO::u66::dU::u68::u69::u70::dV::u72::u73::dP::u75::eQ::eU::eX::eY::eZ::fo::fq::fu::fw::fE::iO::jM::jC::jD::lN::lQ::lS::u93:: []).toArray,[]⟩ w:=by
 obtain⟨i0,hi0,jO,jP,jQ⟩:=info_parts pF;have dF:=aa au;have hpl:=HB.out.lt;have S0:w.drew.cell? ⟨q,5,none⟩=some (.slice A n c)∧w.drew.cell? ⟨q,3,none⟩=some (.int .i64 p):=⟨(HB.cell 5).trans rfl,(HB.cell 3).trans rfl⟩;clear au;conv=>arg 2;whnf
 refine aM (fun w'=>w'.cell? ⟨q,5,none⟩=some (.slice A n c)∧w'.cell? ⟨q,3,none⟩=some (.int .i64 p)) 13 (by kernel_rfl) ?_;refine uF 0 (fun _=>S0) ?_;refine uF 1 (fun _=>S0) ?_;refine uF 2 (fun _=>S0) ?_;refine uF 3 (fun _=>S0) ?_;refine uF 5 (fun _=>S0) ?_;refine uF 6 (fun _=>S0) ?_;refine uF 7 (fun _=>S0) ?_;refine uT 4 S0 ?_;refine uT 8 S0 ?_;refine az (i:=9) (by kernel_rfl) rfl (fun K hK=> ?_);go_simp
 have hb3:Below w.drew.heap.size w.drew (w.drew.alloc (.cells #[.int .i64 p] 3)):=(Below.refl _ _).alloc (Nat.le_refl _) _;have HB3:Hid (Below w.heap.size w (w.drew.alloc (.cells #[.int .i64 p] 3))):=aa ((Below.refl _ _).drew.trans hb3);have S3:(w.drew.alloc (.cells #[.int .i64 p] 3)).cell? ⟨q,5,none⟩=some (.slice A n c)∧(w.drew.alloc (.cells #[.int .i64 p] 3)).cell? ⟨q,3,none⟩=some (.int .i64 p):=⟨ak hb3 S0.1,ak hb3 S0.2⟩;refine hK.out _ _ (fun _=>S3) ?_;clear hK K;try simp only [aL,aN,aZ,aC]
 refine az (i:=10) (by kernel_rfl) rfl (fun K hK=> ?_);refine aV _ rfl (.tmp 23) (.tmp 28) _ rfl base 3 i0 _ 1 8 underlying25 hi0 jO jP jQ rfl (by omega) (.slice A n c) n us rfl (own_below HO HB3) (From w.heap.size) (some ⟨w.heap.size,0,none⟩) 1 1 [.int .i64 p] rfl (Rd.one w.drew _ _) (by intro u hu;simp at hu;subst hu;rfl) (by simp only [maxLen];omega) (by omega) (Nat.le_trans hbw HB3.size) ?_;intro x w4 eu hg4 jd;obtain⟨K4,P5,hv4,_,_⟩:=ay eu;subst hv4;have lI:=aa eu;have F4:=aa hg4;have F5:=aa jd;have Jp:w4.cell? ⟨q,5,none⟩=some (.slice A n c):=(ag.of_grown hg4).cell hT S3.1;have Uv:∀o,w4.frozen? ⟨q,o,none⟩=false:=((HB.below HB3).chg (ag.of_grown hg4) hT).frozen;have S4:w4.cell? ⟨q,5,none⟩=some (.slice A n c)∧w4.cell? ⟨q,3,none⟩=some (.int .i64 p):=⟨Jp,(ag.of_grown hg4).cell hT S3.2⟩;clear eu hg4 jd;refine hK.out _ _ (fun _=>S4) ?_;clear hK K;try simp only [aL,aN,aZ,aC]
 refine uF 11 (fun _=>S4) ?_;refine uF 12 (fun _=>S4) ?_;refine az (i:=13) (by kernel_rfl) rfl (fun K hK=> ?_);go_simp
 refine hK.out _ _ (fun h=>absurd h (by decide)) ?_;clear hK K;try simp only [aL,aN,aZ,aC]
 refine bL (by kernel_rfl) ?_ _;exact dF _ _ _ _ _ _ _ _ _ _ _ _ _ _ _ w4 HB3 lI F4 F5
theorem Am (w:World):(zeroValue 57).run prog w= .ok (.agg #[.slice none 0 0,.slice none 0 0]) w:=by kernel_rfl
noncomputable def YD:Code:=aP (f138.body.bind (aA 6))
theorem E9 (F:Nat→Prop) (q p:Nat) (A B:Option Addr) (n c m d:Nat) (prev b:List UInt8) (v1 v2 v4 v5:Value) (w:World) {u1 u2 u4 u5 u6 u7 u8 u9 u10 u11 u12 u13 bN bq u16 u17 bC bD u20 u21 u22 u23 u24 u25 u26 u27 u28 u29 u30 u31 u32 u33 u34 u35 u36 u37 u38 dh u40 bX u42 bY u44 u45 u46 di u48 u49 bV u51 u52 u53 bW u55 dz dB u58 u59 u60 dH dG u63 u64 dO u66 dU u68 u69 u70 dV u72 u73 dP u75 eQ eU eX eY eZ fo fq fu fw fE iO jM jC jD lN lQ lS u93:Value} (Q:Exit→Act→World→Prop) (nC:Hid (∀c t (a:Act) w,Q (.panic c) ⟨t,a.defers⟩ w→Q (.panic c) a w))
  (HB:Hid (ai w q 265 #[.slice B m d,v1,v2,.int .i64 p,v4,v5])) (HP:Hid (Rd w F 1 A n (aK prev))) (HN:Hid (n=prev.length)) (hnc:n≤c) (HR:Hid (Rd w F 1 B m (aK b))) (HM:Hid (m=b.length)) (hmd:m≤d) (hp:p≤m) (hn2:n≤1152921504606) (hm2:m≤1152921504606) (hcm:c≤maxLen) (HF:Hid (∀b,F b→b<w.heap.size))
  (au:∀(v32 v33 v34 v35 v36 v37 v38 v39 v40 v41 v42 v43 v44 v45:Value) (x5:Nat) (K:Option Addr) (kn kc:Nat) (V:Option Addr) (vn vc:Nat) (w':World),w.heap.size≤x5→ai w' x5 57 #[.slice K kn kc,.slice V vn vc]→((pread prev b p).err=0→SB w' (fun b=>w.heap.size≤b∧b≠x5) (.slice K kn kc) (pread prev b p).key∧SB w' (fun b=>w.heap.size≤b∧b≠x5) (.slice V vn vc) (pread prev b p).val)→Below w.heap.size w w'→Q .normal ⟨(.pointer (some ⟨q,0,none⟩)::u1::u2:: .slice A n c::u4:: .pointer (some ⟨x5,0,none⟩):: .int .i64 (pread prev b p).next:: .int .i64 (pread prev b p).err::u8::u9::u10::u11::u12::u13::bN::bq::u16::u17::bC::bD::u20::u21::u22::u23::u24::u25::u26::u27::u28::u29::u30::u31::v32::v33::v34::v35::v36::v37::v38::v39::v40::v41::v42::v43::v44::v45::u46::di::u48::u49::bV::u51::u52::u53::bW::u55::dz::dB::u58::u59::u60::dH::dG::u63::u64::dO::u66::dU::u68::u69::u70::dV::u72::u73::dP::u75::eQ::eU::eX::eY::eZ::fo::fq::fu::fw::fE::iO::jM::jC::jD::lN::lQ::lS::u93:: []).toArray,[]⟩ w'):
  Code.wp prog YD Q ⟨(.pointer (some ⟨q,0,none⟩)::u1::u2:: .slice A n c::u4::u5::u6::u7::u8::u9::u10::u11::u12::u13::bN::bq::u16::u17::bC::bD::u20::u21::u22::u23::u24::u25::u26::u27::u28::u29::u30::u31::u32::u33::u34::u35::u36::u37::u38::dh::u40::bX::u42::bY::u44::u45::u46::di::u48::u49::bV::u51::u52::u53::bW::u55::dz::dB::u58::u59::u60::dH::dG::u63::u64::dO::u66::dU::u68::u69::u70::dV::u72::u73::dP::u75::eQ::eU::eX::eY::eZ::fo::fq::fu::fw::fE::iO::jM::jC::jD::lN::lQ::lS::u93:: []).toArray,[]⟩ w:=by
 have dF:=aa au;obtain⟨r,hr⟩:∃r,r=pread prev b p:=⟨_,rfl⟩;have HRR:=aa hr;have hcall:∀w1,Below w.heap.size w w1→Calls prog 161 #[.slice A n c,.slice B m d,.int .i64 p] w1 (kK prev b p w1):=fun w1 hb=>Dg F A B n c m d p prev b w1 (HP.below hb) HN hnc (HR.below hb) HM hmd hp hn2 hm2 hcm (fun b hb'=>Nat.lt_of_lt_of_le (HF b hb') hb.size);have JW:=aa hcall;have S0:w.drew.cell? ⟨q,0,none⟩=some (.slice B m d)∧w.drew.cell? ⟨q,3,none⟩=some (.int .i64 p):=⟨(HB.cell 0).trans rfl,(HB.cell 3).trans rfl⟩;rw [←hr] at dF;have hez:=Am;clear au hr hcall;conv=>arg 2;whnf
 refine aX (fun w'=>w'.cell? ⟨q,0,none⟩=some (.slice B m d)∧w'.cell? ⟨q,3,none⟩=some (.int .i64 p)) (by kernel_rfl) ?_;refine vT 0 S0 ?_;refine vT 1 S0 ?_;refine vT 2 S0 ?_;refine vT 3 S0 ?_;refine vT 5 S0 ?_;refine vT 6 S0 ?_;refine vT 7 S0 ?_;refine vT 4 S0 ?_;refine vT 8 S0 ?_
 refine NY (i:=9) (j:=14) (by kernel_rfl) rfl rfl (fun K hK=> ?_) (fun K hK=> ?_)
 ·go_simp
  go_loud (refine(JW _ ((Below.refl _ _).drew)).mono ?_);rintro e w2 ⟨J,kn,kc,V,vn,vc,rfl,hk,hb2⟩;rw [←HRR.out] at hk⊢;have HK:=aa hk;have HB2:Hid (Below w.heap.size w w2):=aa ((Below.refl _ _).drew.trans hb2);have S1:w2.cell? ⟨q,0,none⟩=some (.slice B m d)∧w2.cell? ⟨q,3,none⟩=some (.int .i64 p):=⟨ak hb2 S0.1,ak hb2 S0.2⟩;clear hk hb2
  refine hK.out _ _ S1 ?_;clear hK K;try simp only [aL,aN,aZ,aC]
  refine vT 10 S1 ?_;refine vT 11 S1 ?_;refine vT 12 S1 ?_;refine vT 13 S1 ?_;refine aR (i:=14) (by kernel_rfl) rfl (fun K hK=> ?_);go_simp
  obtain⟨x5,hx5⟩:∃x5,x5=w2.heap.size:=⟨_,rfl⟩;obtain⟨wA,CW⟩:∃W,W=w2.alloc (.cells #[.slice none 0 0,.slice none 0 0] 57):=⟨_,rfl⟩;have F9:Below w2.heap.size w2 wA:=(by rw [CW];exact(Below.refl _ _).alloc (Nat.le_refl _) _);have kY:=aa F9;have Js:ai wA x5 57 #[.slice none 0 0,.slice none 0 0]:=(by rw [CW,hx5];exact ai.new _ _ _);have wD:=aa Js;have oN:=aa hx5;rw [←CW,←hx5];have S2:wA.cell? ⟨q,0,none⟩=some (.slice B m d)∧wA.cell? ⟨q,3,none⟩=some (.int .i64 p):=⟨ak F9 S1.1,ak F9 S1.2⟩;have y0:wA.cell? ⟨x5,0,none⟩=some (.slice none 0 0):=Js.cell 0;have y1:wA.cell? ⟨x5,1,none⟩=some (.slice none 0 0):=Js.cell 1;have YE:=Js.frozen 0;have YF:=Js.frozen 1;clear hx5 CW F9 Js;refine hK.out _ _ S2 ?_;clear hK K;try simp only [aL,aN,aZ,aC]
  refine aR (i:=15) (by kernel_rfl) rfl (fun K hK=> ?_);go_simp
  have hcs:ag (fun b=>b=x5) wA ((wA.setCell ⟨x5,0,none⟩ (.slice J kn kc)).setCell ⟨x5,1,none⟩ (.slice V vn vc)):=((ag.refl (fun b=>b=x5) wA).setCell (p:=⟨x5,0,none⟩) (fun _=>rfl) _).setCell (p:=⟨x5,1,none⟩) (fun _=>rfl) _;have CX:=aa hcs;have US:¬q=x5:=(by have h1:=HB.out.lt;have h2:=HB2.out.size;have h3:=oN.out;omega);have S3:((wA.setCell ⟨x5,0,none⟩ (.slice J kn kc)).setCell ⟨x5,1,none⟩ (.slice V vn vc)).cell? ⟨q,0,none⟩=some (.slice B m d)∧((wA.setCell ⟨x5,0,none⟩ (.slice J kn kc)).setCell ⟨x5,1,none⟩ (.slice V vn vc)).cell? ⟨q,3,none⟩=some (.int .i64 p):=⟨hcs.cell US S2.1,hcs.cell US S2.2⟩;clear hcs y0 y1 YE YF;refine hK.out _ _ S3 ?_;clear hK K;try simp only [aL,aN,aZ,aC]
  refine vT 16 S3 ?_;refine vT 17 S3 ?_;refine bP (by kernel_rfl) ?_ _;have hw:=HB2.out.trans (kY.mono HB2.size)
  refine dF _ _ _ _ _ _ _ _ _ _ _ _ _ _ x5 J kn kc V vn vc _ (by have h2:=HB2.out.size;have h3:=oN.out;omega) ((wD.set_ 0 (.slice J kn kc)).set_ 1 (.slice V vn vc)) (fun he=>⟨?_,?_⟩) (hw.trans (CX.below_of hw.size (fun b hb e=>by have h2:=HB2.out.size;have h3:=oN.out;have e:b=x5:=e;omega)))
  ·exact(((((HK he).1.lt).below kY).chg CX (fun b hb e=>by have h1:=hb.2;have h3:=oN.out;have e:b=x5:=e;omega))).weak (fun b hb=>⟨hb.1,by have h1:=hb.2;have h3:=oN.out;omega⟩)
  ·exact(((((HK he).2.lt).below kY).chg CX (fun b hb e=>by have h1:=hb.2;have h3:=oN.out;have e:b=x5:=e;omega))).weak (fun b hb=>⟨hb.1,by have h1:=hb.2;have h3:=oN.out;omega⟩)
 ·go_simp
  obtain⟨x5,hx5⟩:∃x5,x5=w.heap.size:=⟨_,rfl⟩;obtain⟨wA,CW⟩:∃W,W=(w.alloc (.cells #[.slice none 0 0,.slice none 0 0] 57)).drew:=⟨_,rfl⟩;have F9:Below w.heap.size w wA:=(by rw [CW];exact((Below.refl _ _).alloc (Nat.le_refl _) _).drew);have kY:=aa F9;have Js:ai wA x5 57 #[.slice none 0 0,.slice none 0 0]:=(by rw [CW,hx5];exact(ai.new _ _ _).drew);have wD:=aa Js;have oN:=aa hx5;rw [←CW,←hx5];have S2:wA.cell? ⟨q,0,none⟩=some (.slice B m d)∧wA.cell? ⟨q,3,none⟩=some (.int .i64 p):=⟨ak F9 S0.1,ak F9 S0.2⟩;clear hx5 CW F9 Js;refine hK.out _ _ S2 ?_;clear hK K;try simp only [aL,aN,aZ,aC]
  refine aR (i:=9) (by kernel_rfl) rfl (fun K hK=> ?_);go_simp
  go_loud (refine(JW _ kY).mono ?_);rintro e w2 ⟨J,kn,kc,V,vn,vc,rfl,hk,hb2⟩;rw [←HRR.out] at hk⊢;have HK:=aa hk;have HB2:=aa hb2;have hk2:=wD.out.below hb2;have iH:=aa hk2;have y0:w2.cell? ⟨x5,0,none⟩=some (.slice none 0 0):=hk2.cell 0;have y1:w2.cell? ⟨x5,1,none⟩=some (.slice none 0 0):=hk2.cell 1;have YE:=hk2.frozen 0;have YF:=hk2.frozen 1;have S3:w2.cell? ⟨q,0,none⟩=some (.slice B m d)∧w2.cell? ⟨q,3,none⟩=some (.int .i64 p):=⟨ak hb2 S2.1,ak hb2 S2.2⟩;clear hk hb2 hk2
  refine hK.out _ _ S3 ?_;clear hK K;try simp only [aL,aN,aZ,aC]
  refine vT 10 S3 ?_;refine vT 11 S3 ?_;refine vT 12 S3 ?_;refine vT 13 S3 ?_;refine aR (i:=15) (by kernel_rfl) rfl (fun K hK=> ?_);go_simp
  have hcs:ag (fun b=>b=x5) w2 ((w2.setCell ⟨x5,0,none⟩ (.slice J kn kc)).setCell ⟨x5,1,none⟩ (.slice V vn vc)):=((ag.refl (fun b=>b=x5) w2).setCell (p:=⟨x5,0,none⟩) (fun _=>rfl) _).setCell (p:=⟨x5,1,none⟩) (fun _=>rfl) _;have CX:=aa hcs;have US:¬q=x5:=(by have h1:=HB.out.lt;have h3:=oN.out;omega);have S4:((w2.setCell ⟨x5,0,none⟩ (.slice J kn kc)).setCell ⟨x5,1,none⟩ (.slice V vn vc)).cell? ⟨q,0,none⟩=some (.slice B m d)∧((w2.setCell ⟨x5,0,none⟩ (.slice J kn kc)).setCell ⟨x5,1,none⟩ (.slice V vn vc)).cell? ⟨q,3,none⟩=some (.int .i64 p):=⟨hcs.cell US S3.1,hcs.cell US S3.2⟩;clear hcs y0 y1 YE YF;refine hK.out _ _ S4 ?_;clear hK K;try simp only [aL,aN,aZ,aC]
  refine vT 16 S4 ?_;refine vT 17 S4 ?_;refine bP (by kernel_rfl) ?_ _;have hw:=kY.out.trans (HB2.mono kY.size)
  refine dF _ _ _ _ _ _ _ _ _ _ _ _ _ _ x5 J kn kc V vn vc _ (by have h3:=oN.out;omega) ((iH.set_ 0 (.slice J kn kc)).set_ 1 (.slice V vn vc)) (fun he=>⟨?_,?_⟩) (hw.trans (CX.below_of hw.size (fun b hb e=>by have h3:=oN.out;have e:b=x5:=e;omega)))
  ·exact((HK he).1.chg CX (fun b hb e=>by have h1:wA.heap.size≤b:=hb;have h4:=wD.out.lt;have e:b=x5:=e;omega)).weak (fun b hb=>by have h1:wA.heap.size≤b:=hb;have h4:=wD.out.lt;have h3:=oN.out;exact⟨by omega,by omega⟩)
  ·exact((HK he).2.chg CX (fun b hb e=>by have h1:wA.heap.size≤b:=hb;have h4:=wD.out.lt;have e:b=x5:=e;omega)).weak (fun b hb=>by have h1:wA.heap.size≤b:=hb;have h4:=wD.out.lt;have h3:=oN.out;exact⟨by omega,by omega⟩)
end
section
open Go.Lib (compareBytes)
structure aU.Ok (K:Nat) (r:aU):Prop where
 cur:r.st≠2→r.cur.Ok K
 held:r.st≠2→r.cur.held=none
 rows:gu r.rows
 zero:r.st=0→r.cur.at_=0∧r.rows= []
 one:r.st=1→r.cur.at_=bK r.rows
 st:r.st≤2
 err:r.st≠2→r.err=0
theorem aU.fail_ok {K:Nat} {r:aU} (h:gu r.rows) (c:ax) (e:Int) (p:Nat):(r.fail c e p).Ok K:=
 ⟨fun h=>absurd rfl h,fun h=>absurd rfl h,h,fun h=>absurd h (by simp [aU.fail]),fun h=>absurd h (by simp [aU.fail]),Nat.le_refl _,fun h=>absurd rfl h⟩
theorem aU.footR_ok {K:Nat} {r:aU} (h:r.Ok K) (c:ax) (at_:Nat):(r.footR c at_).Ok K:=by
 unfold aU.footR;repeat' split
 all_goals first
  |exact aU.fail_ok h.rows _ _ _
  |exact⟨fun h=>absurd rfl h,fun h=>absurd rfl h,h.rows,fun h=>absurd h (by simp),fun h=>absurd h (by simp),Nat.le_refl _,fun h=>absurd rfl h⟩
structure yT (K:Nat) (r:aU) (l:List aH) (r':aU):Prop where
 ok:r'.Ok K
 rise:bu l
 some:1≤l.length
 most:l.length≤64
 st:r'.st=1
 rows:r'.rows.length=r.rows.length+1
 row:∃x,r'.rows=r.rows++ [x]∧x.at_=bK r.rows
 at_:r.cur.at_<r'.cur.at_
theorem pP {l:List aH} (h:1≤l.length):∃e∈l,aD l=e.1:=by
 have h2:l[l.length-1]? =some l[l.length-1]:=List.getElem?_eq_getElem (by omega);exact⟨_,List.getElem_mem _,jq h2⟩
theorem Ci {l:List aH} (h:bu l):∀(k:List UInt8),compareBytes k (l.headD ([],[])).1<0→1≤l.length→compareBytes k (aD l)<0:=by
 intro k hk hl
 have key:∀(i:Nat) (hi:i<l.length),compareBytes k l[i].1<0:=by
  intro i
  induction i with
  |zero=>intro hi;cases l with
   |nil=>simp at hl
   |cons x r=>exact hk
  |succ i ih=>
   intro hi;have h1:=ih (by omega);have h2:=h (i+1) hi;unfold dQ at h2;have e1:l.getD (i+1) ([],[])=l[i+1]:=by simp [List.getD,hi]
   have e2:l.getD (i+1-1) ([],[])=l[i]:=by simp [List.getD,show i<l.length by omega]
   rw [e1,e2] at h2
   split at h2
   ·rename_i h3;exact absurd h2 h3
   ·split at h2
    ·exact absurd h2 (by decide)
    ·rename_i h3;exact vN _ _ _ h1 (by rcases Int.lt_or_le (compareBytes l[i].1 l[i+1].1) 0 with h6|h6;exact h6;exact absurd ⟨by omega,h6⟩ h3)
 have h2:l[l.length-1]? =some l[l.length-1]:=List.getElem?_eq_getElem (by omega);rw [jq h2];exact key _ _
theorem aU.block_ok {K:Nat} {r:aU} (h:r.Ok K) (hs:r.st=1) (c:ax) (hc:c.Ok K) (hh:c.held=none) (at_:Nat) (ha:at_=bK r.rows) (Qk:c.at_=at_+1) (hra:r.cur.at_=at_):
  (r.block c at_).2.Ok K∧∀l,(r.block c at_).1=some l→yT K r l (r.block c at_).2:=by
 unfold aU.block
 split
 ·exact⟨aU.fail_ok h.rows _ _ _,fun l hl=>by cases hl⟩
 ·rename_i h1
  split
  ·exact⟨aU.fail_ok h.rows _ _ _,fun l hl=>by cases hl⟩
  ·rename_i h2;obtain⟨n1,n2⟩:=ax.number_ok hc;obtain⟨n3,n4⟩:=ax.number_step hc hh;have n4:=n4 (Decidable.byContradiction h2)
   split
   ·exact⟨aU.fail_ok h.rows _ _ _,fun l hl=>by cases hl⟩
   ·rename_i h3;have hb:=ax.body_ok n1 n3 c.number.1 (by omega)
    split
    ·exact⟨aU.fail_ok h.rows _ _ _,fun l hl=>by cases hl⟩
    ·rename_i h4;have hb1:=hb.at_ (Decidable.byContradiction h4)
     split
     ·exact⟨aU.fail_ok h.rows _ _ _,fun l hl=>by cases hl⟩
     ·rename_i h5;obtain⟨r1,r2,r3⟩:=Cg (Decidable.byContradiction h5)
      split
      ·exact⟨aU.fail_ok h.rows _ _ _,fun l hl=>by cases hl⟩
      ·rename_i h6;obtain⟨e,he,hk⟩:=pP r2;obtain⟨k1,k2,k3⟩:=dC r1 he
       have hok:({r with cur:=(c.number.2.2.body c.number.1).cur,rows:=r.rows++ [⟨aD (aB (c.number.2.2.body c.number.1).body).1,at_,(c.number.2.2.body c.number.1).cur.at_-at_,(aB (c.number.2.2.body c.number.1).body).1.length⟩]}:aU).Ok K:=by
        refine⟨fun _=>hb.ok,fun _=>hb.held,?_,fun e=> ?_,fun _=> ?_,h.st,h.err⟩
        ·have hm:=h.rows.many;refine I8 h.rows (by omega) (by rw [hk];exact k1) (by rw [hk];exact k2) (fun h0=> ?_) ha (by simp only [];omega) (by simp only [];omega) r2 r3;refine Ci r1 _ ?_ r2
         rcases Int.lt_or_le (compareBytes (r.rows.getLast?.getD ⟨[],0,0,0⟩).last ((aB (c.number.2.2.body c.number.1).body).1.headD ([],[])).1) 0 with h7|h7
         ·exact h7
         ·exact absurd ⟨h0,h7⟩ h6
        ·have e:r.st=0:=e
         omega
        ·simp only [qh];omega
       refine⟨hok,fun l hl=> ?_⟩;injection hl with hl
       subst hl;exact⟨hok,r1,r2,r3,hs,by simp,⟨_,rfl,ha⟩,by simp only [];omega⟩
theorem aU.frame_ok {K:Nat} {r:aU} (h:r.Ok K) (hs:r.st=1):r.frame.2.Ok K∧∀l,r.frame.1=some l→yT K r l r.frame.2:=by
 have hc:=h.cur (by omega);have hh:=h.held (by omega);have h1:=h.one hs;have b1:=ax.bytes_ok hc 1;have b2:=ax.bytes_held hc 1 hh;unfold aU.frame
 split
 ·exact⟨aU.fail_ok h.rows _ _ _,fun l hl=>by cases hl⟩
 ·rename_i h2;have b3:=ax.bytes_step hc 1 (Decidable.byContradiction h2)
  split
  ·exact⟨aU.footR_ok h _ _,fun l hl=>by cases hl⟩
  ·split
   ·exact⟨aU.fail_ok h.rows _ _ _,fun l hl=>by cases hl⟩
   ·exact aU.block_ok h hs _ b1 b2 _ h1 b3 rfl
theorem aU.next_ok {K:Nat} {r:aU} (h:r.Ok K):r.next.2.Ok K∧∀l,r.next.1=some l→yT K r l r.next.2:=by
 unfold aU.next
 split
 ·exact⟨h,fun l hl=>by cases hl⟩
 ·rename_i h2
  split
  ·rename_i h1;exact aU.frame_ok h h1
  ·rename_i h1;have hc:=h.cur h2;have hh:=h.held h2;have hst:=h.st;obtain⟨z1,z2⟩:=h.zero (by omega);have b1:=ax.bytes_ok hc 8;have b2:=ax.bytes_held hc 8 hh
   split
   ·exact⟨aU.fail_ok h.rows _ _ _,fun l hl=>by cases hl⟩
   ·rename_i h3;have b3:=ax.bytes_step hc 8 (Decidable.byContradiction h3)
    split
    ·exact⟨aU.fail_ok h.rows _ _ _,fun l hl=>by cases hl⟩
    ·have hok:({r with cur:=(r.cur.bytes 8).2.2,st:=1}:aU).Ok K:=⟨fun _=>b1,fun _=>b2,h.rows,fun e=>by simp at e,fun _=>by simp only [z2,b3,z1];rfl,by simp,fun _=>h.err h2⟩;obtain⟨f1,f2⟩:=aU.frame_ok hok rfl;refine⟨f1,fun l hl=> ?_⟩;have:=f2 l hl;exact⟨this.ok,this.rise,this.some,this.most,this.st,this.rows,this.row,by have:=this.at_;simp only [b3] at this;omega⟩
end
end Go.Proofs.YtbjgeidjmhialaaGreatDoor
