/- Part 6. -/
import Derived.Test.YtbjgeidjmhialaaGreatDoorLa05
namespace Go.Proofs.YtbjgeidjmhialaaGreatDoor
set_option maxRecDepth 100000
set_option maxHeartbeats 8000000
section
open Go.Proofs.Tryz
open Go.RowKit
structure kP (w:World) (F:Nat→Prop) (q p:Nat) (c:ax) (hv:Nat):Prop where
 blk:ai w q 194 #[.int .i64 c.at_,.int .i64 c.err,.int .i64 c.idle,.iface 35 (.pointer (some ⟨p,0,none⟩)),.int .i64 9223372036854775807,.int .u8 hv,.bool c.held.isSome]
 src:fU w F p c.src
 hl:∀x,c.held=some x→hv=x.toNat
theorem uS (q:Nat) (cs:Array Value) (T:TypeId) (e:Int) (w:World) (h:ai w q T cs) (hs:1<cs.size):Calls prog 97 #[.pointer (some ⟨q,0,none⟩),.int .i64 e] w fun en w'=>en= .returned (.int .i64 e)∧w'=w.setCell ⟨q,1,none⟩ (.int .i64 e):=by
 have z1:w.cell? ⟨q,1,none⟩=some cs[1]:=by rw [h.cell];exact Array.getElem?_eq_getElem hs
 have zf:=h.frozen 1;go_enter func97,ntmps97
 go_wp2;go_ret
 exact⟨rfl,rfl⟩
theorem G9 (q i:Nat) (cs:Array Value) (T:TypeId) (w:World) (h:ai w q T cs) (h2:cs[2]? =some (.int .i64 i)) (hi:i≤1000):Calls prog 126 #[.pointer (some ⟨q,0,none⟩),.bool true] w fun en w'=>en= .returned (.bool (decide ((0:Nat)=16)))∧ai w' q T (cs.setIfInBounds 2 (.int .i64 (0:Nat)))∧ag (fun b=>b=q) w w':=by
 have z2:w.cell? ⟨q,2,none⟩=some (.int .i64 i):=(h.cell 2).trans h2;have zf:=h.frozen 2;have HH:=aa h;clear h;go_enter func126,ntmps126
 go_wp2;go_ret
 refine⟨rfl,(by have:=(HH.out.set_ 2 (.int .i64 ((i:Int)+1))).set_ 2 (.int .i64 0);rw [Array.setIfInBounds_setIfInBounds] at this;exact this),((ag.refl (fun b=>b=q) w).setCell (p:=⟨q,2,none⟩) (fun _=>rfl) _).setCell (p:=⟨q,2,none⟩) (fun _=>rfl) _⟩
theorem Lh (q i:Nat) (cs:Array Value) (T:TypeId) (w:World) (h:ai w q T cs) (h2:cs[2]? =some (.int .i64 i)) (hi:i≤1000):Calls prog 126 #[.pointer (some ⟨q,0,none⟩),.bool false] w fun en w'=>en= .returned (.bool (decide (((i+1):Nat)=16)))∧ai w' q T (cs.setIfInBounds 2 (.int .i64 ((i+1):Nat)))∧ag (fun b=>b=q) w w':=by
 have z2:w.cell? ⟨q,2,none⟩=some (.int .i64 i):=(h.cell 2).trans h2;have zf:=h.frozen 2;have HH:=aa h;clear h;go_enter func126,ntmps126
 go_wp2;go_ret
 refine⟨(by rw [show decide (i+1=16)=((i:Int)+1==16) by rw [Bool.eq_iff_iff];simp;omega];rfl),HH.set_ 2 _,(ag.refl (fun b=>b=q) w).setCell (p:=⟨q,2,none⟩) (fun _=>rfl) _⟩
theorem ry (q i:Nat) (b:Bool) (cs:Array Value) (T:TypeId) (w:World) (h:ai w q T cs) (h2:cs[2]? =some (.int .i64 i)) (hi:i≤1000):Calls prog 126 #[.pointer (some ⟨q,0,none⟩),.bool b] w fun en w'=>en= .returned (.bool (decide ((if b then 0 else i+1:Nat)=16)))∧ai w' q T (cs.setIfInBounds 2 (.int .i64 (if b then 0 else i+1:Nat)))∧ag (fun b=>b=q) w w':=by
 cases b
 ·exact Lh q i cs T w h h2 hi
 ·exact G9 q i cs T w h h2 hi
theorem Li (a:Addr) (w:World):(nilAhead prog.depth 35 (.pointer (some a)) "Read").run prog w= .ok (some false) w:=by kernel_rfl
end
section
open Go.Proofs.Tryz
open Go.RowKit
theorem Bp (a:Addr) (w:World):(method 442 35 (.pointer (some a)) "Read").run prog w= .ok (202,.pointer (some a)) w:=by kernel_rfl
noncomputable def Zi:Code:=aP (f98.body.bind (aA 6))
theorem OT (F:Nat→Prop) (q p pb k:Nat) (s:Src) (w:World) {u1 u2 u3 u4 u5 u6 u8 u9 u10 u11 u12 u13 bN bq u16 u17 bC bD u20 u21 u22 u23 u24 u25 u26 u27 u28 u29 u30 u31 u32 u33 u34 u35 u36 u37 u38 dh u40 bX u42 bY u44 u45 u46 di u48 u49 bV u51 u52 u53 bW u55 dz dB u58 u59 u60 dH dG u63 u64 dO u66 dU u68 u69 u70 dV u72 u73 dP u75 eQ eU eX eY eZ fo fq fu fw fE:Value} (Q:Exit→Act→World→Prop)
  (z3:w.cell? ⟨q,3,none⟩=some (.iface 35 (.pointer (some ⟨p,0,none⟩)))) (H:Hid (fU w F p s)) (hF:Hid (¬F p)) (XC:Hid (∀b,F b→b<pb)) (HP:Hid (Bf w pb k [])) (hp:p<pb) (hc:s.calls<4611686018427387904) (hk:k≤4096) (hg:s.gives.length≤1152921504606) (hl:s.left.length≤1152921504606)
  (au:∀(v39 v40 v41 v42 v43 v44 v45 v46 v47:Value) (w':World),fU w' F p (s.read k).2.2→Bf w' pb k (s.read k).1→ag (fun b=>b=p∨pb≤b) w w'→Q .normal ⟨(.pointer (some ⟨q,0,none⟩)::u1::u2::u3::u4::u5::u6:: .slice (some ⟨pb,0,none⟩) k k:: .int .i64 ((s.read k).1.length:Nat):: .int .i64 (s.read k).2.1::u10::u11::u12::u13::bN::bq::u16::u17::bC::bD::u20::u21::u22::u23::u24::u25::u26::u27::u28::u29::u30::u31::u32::u33::u34::u35::u36::u37::u38::v39::v40::v41::v42::v43::v44::v45::v46::v47::u48::u49::bV::u51::u52::u53::bW::u55::dz::dB::u58::u59::u60::dH::dG::u63::u64::dO::u66::dU::u68::u69::u70::dV::u72::u73::dP::u75::eQ::eU::eX::eY::eZ::fo::fq::fu::fw::fE:: []).toArray,[]⟩ w'):
  Code.wp prog Zi Q ⟨(.pointer (some ⟨q,0,none⟩)::u1::u2::u3::u4::u5::u6:: .slice (some ⟨pb,0,none⟩) k k::u8::u9::u10::u11::u12::u13::bN::bq::u16::u17::bC::bD::u20::u21::u22::u23::u24::u25::u26::u27::u28::u29::u30::u31::u32::u33::u34::u35::u36::u37::u38::dh::u40::bX::u42::bY::u44::u45::u46::di::u48::u49::bV::u51::u52::u53::bW::u55::dz::dB::u58::u59::u60::dH::dG::u63::u64::dO::u66::dU::u68::u69::u70::dV::u72::u73::dP::u75::eQ::eU::eX::eY::eZ::fo::fq::fu::fw::fE:: []).toArray,[]⟩ w:=by
 have dF:=aa au;have n1:=Li ⟨p,0,none⟩ w;have n2:=Bp ⟨p,0,none⟩ w;clear au;conv=>arg 2;whnf
 go_wp2_with (go_at_call 202;go_loud (refine(Ha F p pb k s w H hF.out XC.out HP hp hc (by omega) hg hl).mono ?_);rintro e w2 ⟨rfl,hs2,hb2,hc2⟩;have HS2:=aa hs2;have HB2:=aa hb2;have bI:=aa hc2;clear hs2 hb2 hc2)
 exact dF _ _ _ _ _ _ _ _ _ w2 HS2 HB2 bI
end
section
open Go.Proofs.Tryz
open Go.RowKit
noncomputable def FC:Code:=aP (f98.body.bind (aA 10))
theorem Lm (q kk i r:Nat) (ee:Int) (cs:Array Value) (T:TypeId) (w:World) {u1 u2 u3 u4 u5 u6 u7 u10 u11 u12 u13 bN bq u16 u17 bC bD u20 u21 u22 u23 u24 u25 u26 u27 u28 u29 u30 u31 u32 u33 u34 u35 u36 u37 u38 dh u40 bX u42 bY u44 u45 u46 di u48 u49 bV u51 u52 u53 bW u55 dz dB u58 u59 u60 dH dG u63 u64 dO u66 dU u68 u69 u70 dV u72 u73 dP u75 eQ eU eX eY eZ fo fq fu fw fE:Value} (Q:Exit→Act→World→Prop) (h:Hid (ai w q T cs)) (h2:Hid (cs[2]? =some (.int .i64 i))) (hi:i≤1000) (hr:Hid (r=if kk≠0∨ee≠0 then 0 else i+1)) (h0:kk≠0)
  (au:∀(v61 v62 v63 v64 v65 v66 v67 v68 v69 v70:Value) (w':World),ai w' q T (cs.setIfInBounds 2 (.int .i64 (r:Nat)))→ag (fun b=>b=q) w w'→Q .normal ⟨(.pointer (some ⟨q,0,none⟩)::u1::u2::u3::u4::u5::u6::u7:: .int .i64 kk:: .int .i64 ee:: .bool (decide (r=16))::u11::u12::u13::bN::bq::u16::u17::bC::bD::u20::u21::u22::u23::u24::u25::u26::u27::u28::u29::u30::u31::u32::u33::u34::u35::u36::u37::u38::dh::u40::bX::u42::bY::u44::u45::u46::di::u48::u49::bV::u51::u52::u53::bW::u55::dz::dB::u58::u59::u60::v61::v62::v63::v64::v65::v66::v67::v68::v69::v70::dV::u72::u73::dP::u75::eQ::eU::eX::eY::eZ::fo::fq::fu::fw::fE:: []).toArray,[]⟩ w'):
  Code.wp prog FC Q ⟨(.pointer (some ⟨q,0,none⟩)::u1::u2::u3::u4::u5::u6::u7:: .int .i64 kk:: .int .i64 ee::u10::u11::u12::u13::bN::bq::u16::u17::bC::bD::u20::u21::u22::u23::u24::u25::u26::u27::u28::u29::u30::u31::u32::u33::u34::u35::u36::u37::u38::dh::u40::bX::u42::bY::u44::u45::u46::di::u48::u49::bV::u51::u52::u53::bW::u55::dz::dB::u58::u59::u60::dH::dG::u63::u64::dO::u66::dU::u68::u69::u70::dV::u72::u73::dP::u75::eQ::eU::eX::eY::eZ::fo::fq::fu::fw::fE:: []).toArray,[]⟩ w:=by
 have dF:=aa au;have hw:=ry q i true cs T w h.out h2.out hi;have hre:(if(true:Bool)=true then 0 else i+1:Nat)=r:=by rw [hr.out];simp [h0]
 rw [hre] at hw;obtain⟨rb,hrb⟩:∃rb,rb=decide (r=16):=⟨_,rfl⟩;rw [←hrb] at hw dF;have HW:=aa hw
 (have h0':decide (0<kk)=true:=decide_eq_true (by omega);have ai9:decide ((0:Int)<(kk:Int))=true:=decide_eq_true (by omega);clear h0)
 clear au hw hre hrb hr h h2;conv=>arg 2;whnf
 go_wp2_with (go_at_call 126;go_loud (refine HW.mono ?_);rintro e w2 ⟨rfl,hb2,hc2⟩;have HB2:=aa hb2;have bI:=aa hc2;clear hb2 hc2)
 exact dF _ _ _ _ _ _ _ _ _ _ w2 HB2 bI
theorem Lr (q kk i r:Nat) (ee:Int) (cs:Array Value) (T:TypeId) (w:World) {u1 u2 u3 u4 u5 u6 u7 u10 u11 u12 u13 bN bq u16 u17 bC bD u20 u21 u22 u23 u24 u25 u26 u27 u28 u29 u30 u31 u32 u33 u34 u35 u36 u37 u38 dh u40 bX u42 bY u44 u45 u46 di u48 u49 bV u51 u52 u53 bW u55 dz dB u58 u59 u60 dH dG u63 u64 dO u66 dU u68 u69 u70 dV u72 u73 dP u75 eQ eU eX eY eZ fo fq fu fw fE:Value} (Q:Exit→Act→World→Prop) (h:Hid (ai w q T cs)) (h2:Hid (cs[2]? =some (.int .i64 i))) (hi:i≤1000) (hr:Hid (r=if kk≠0∨ee≠0 then 0 else i+1)) (h0:kk=0) (h1:ee≠0)
  (au:∀(v61 v62 v63 v64 v65 v66 v67 v68 v69 v70:Value) (w':World),ai w' q T (cs.setIfInBounds 2 (.int .i64 (r:Nat)))→ag (fun b=>b=q) w w'→Q .normal ⟨(.pointer (some ⟨q,0,none⟩)::u1::u2::u3::u4::u5::u6::u7:: .int .i64 kk:: .int .i64 ee:: .bool (decide (r=16))::u11::u12::u13::bN::bq::u16::u17::bC::bD::u20::u21::u22::u23::u24::u25::u26::u27::u28::u29::u30::u31::u32::u33::u34::u35::u36::u37::u38::dh::u40::bX::u42::bY::u44::u45::u46::di::u48::u49::bV::u51::u52::u53::bW::u55::dz::dB::u58::u59::u60::v61::v62::v63::v64::v65::v66::v67::v68::v69::v70::dV::u72::u73::dP::u75::eQ::eU::eX::eY::eZ::fo::fq::fu::fw::fE:: []).toArray,[]⟩ w'):
  Code.wp prog FC Q ⟨(.pointer (some ⟨q,0,none⟩)::u1::u2::u3::u4::u5::u6::u7:: .int .i64 kk:: .int .i64 ee::u10::u11::u12::u13::bN::bq::u16::u17::bC::bD::u20::u21::u22::u23::u24::u25::u26::u27::u28::u29::u30::u31::u32::u33::u34::u35::u36::u37::u38::dh::u40::bX::u42::bY::u44::u45::u46::di::u48::u49::bV::u51::u52::u53::bW::u55::dz::dB::u58::u59::u60::dH::dG::u63::u64::dO::u66::dU::u68::u69::u70::dV::u72::u73::dP::u75::eQ::eU::eX::eY::eZ::fo::fq::fu::fw::fE:: []).toArray,[]⟩ w:=by
 have dF:=aa au;have hw:=ry q i true cs T w h.out h2.out hi;have hre:(if(true:Bool)=true then 0 else i+1:Nat)=r:=by rw [hr.out];simp [h1]
 rw [hre] at hw;obtain⟨rb,hrb⟩:∃rb,rb=decide (r=16):=⟨_,rfl⟩;rw [←hrb] at hw dF;have HW:=aa hw
 (subst h0;have h1':(ee==0)=false:=(by rw [beq_eq_false_iff_ne];exact h1);have h1b:decide (ee=0)=false:=decide_eq_false h1;have h1c:(ee !=0)=true:=(by rw [bne_iff_ne];exact h1))
 clear au hw hre hrb hr h h2;conv=>arg 2;whnf
 go_wp2_with (go_at_call 126;go_loud (refine HW.mono ?_);rintro e w2 ⟨rfl,hb2,hc2⟩;have HB2:=aa hb2;have bI:=aa hc2;clear hb2 hc2)
 exact dF _ _ _ _ _ _ _ _ _ _ w2 HB2 bI
theorem OW (q kk i r:Nat) (ee:Int) (cs:Array Value) (T:TypeId) (w:World) {u1 u2 u3 u4 u5 u6 u7 u10 u11 u12 u13 bN bq u16 u17 bC bD u20 u21 u22 u23 u24 u25 u26 u27 u28 u29 u30 u31 u32 u33 u34 u35 u36 u37 u38 dh u40 bX u42 bY u44 u45 u46 di u48 u49 bV u51 u52 u53 bW u55 dz dB u58 u59 u60 dH dG u63 u64 dO u66 dU u68 u69 u70 dV u72 u73 dP u75 eQ eU eX eY eZ fo fq fu fw fE:Value} (Q:Exit→Act→World→Prop) (h:Hid (ai w q T cs)) (h2:Hid (cs[2]? =some (.int .i64 i))) (hi:i≤1000) (hr:Hid (r=if kk≠0∨ee≠0 then 0 else i+1)) (h0:kk=0) (h1:ee=0)
  (au:∀(v61 v62 v63 v64 v65 v66 v67 v68 v69 v70:Value) (w':World),ai w' q T (cs.setIfInBounds 2 (.int .i64 (r:Nat)))→ag (fun b=>b=q) w w'→Q .normal ⟨(.pointer (some ⟨q,0,none⟩)::u1::u2::u3::u4::u5::u6::u7:: .int .i64 kk:: .int .i64 ee:: .bool (decide (r=16))::u11::u12::u13::bN::bq::u16::u17::bC::bD::u20::u21::u22::u23::u24::u25::u26::u27::u28::u29::u30::u31::u32::u33::u34::u35::u36::u37::u38::dh::u40::bX::u42::bY::u44::u45::u46::di::u48::u49::bV::u51::u52::u53::bW::u55::dz::dB::u58::u59::u60::v61::v62::v63::v64::v65::v66::v67::v68::v69::v70::dV::u72::u73::dP::u75::eQ::eU::eX::eY::eZ::fo::fq::fu::fw::fE:: []).toArray,[]⟩ w'):
  Code.wp prog FC Q ⟨(.pointer (some ⟨q,0,none⟩)::u1::u2::u3::u4::u5::u6::u7:: .int .i64 kk:: .int .i64 ee::u10::u11::u12::u13::bN::bq::u16::u17::bC::bD::u20::u21::u22::u23::u24::u25::u26::u27::u28::u29::u30::u31::u32::u33::u34::u35::u36::u37::u38::dh::u40::bX::u42::bY::u44::u45::u46::di::u48::u49::bV::u51::u52::u53::bW::u55::dz::dB::u58::u59::u60::dH::dG::u63::u64::dO::u66::dU::u68::u69::u70::dV::u72::u73::dP::u75::eQ::eU::eX::eY::eZ::fo::fq::fu::fw::fE:: []).toArray,[]⟩ w:=by
 have dF:=aa au;have hw:=ry q i false cs T w h.out h2.out hi;have hre:(if(false:Bool)=true then 0 else i+1:Nat)=r:=by rw [hr.out];simp [h0,h1]
 rw [hre] at hw;obtain⟨rb,hrb⟩:∃rb,rb=decide (r=16):=⟨_,rfl⟩;rw [←hrb] at hw dF;have HW:=aa hw
 (subst h0;subst h1)
 clear au hw hre hrb hr h h2;conv=>arg 2;whnf
 go_wp2_with (go_at_call 126;go_loud (refine HW.mono ?_);rintro e w2 ⟨rfl,hb2,hc2⟩;have HB2:=aa hb2;have bI:=aa hc2;clear hb2 hc2)
 exact dF _ _ _ _ _ _ _ _ _ _ w2 HB2 bI
theorem Ll (q kk i r:Nat) (ee:Int) (cs:Array Value) (T:TypeId) (w:World) {u1 u2 u3 u4 u5 u6 u7 u10 u11 u12 u13 bN bq u16 u17 bC bD u20 u21 u22 u23 u24 u25 u26 u27 u28 u29 u30 u31 u32 u33 u34 u35 u36 u37 u38 dh u40 bX u42 bY u44 u45 u46 di u48 u49 bV u51 u52 u53 bW u55 dz dB u58 u59 u60 dH dG u63 u64 dO u66 dU u68 u69 u70 dV u72 u73 dP u75 eQ eU eX eY eZ fo fq fu fw fE:Value} (Q:Exit→Act→World→Prop) (h:Hid (ai w q T cs)) (h2:Hid (cs[2]? =some (.int .i64 i))) (hi:i≤1000) (hr:Hid (r=if kk≠0∨ee≠0 then 0 else i+1))
  (au:∀(v61 v62 v63 v64 v65 v66 v67 v68 v69 v70:Value) (w':World),ai w' q T (cs.setIfInBounds 2 (.int .i64 (r:Nat)))→ag (fun b=>b=q) w w'→Q .normal ⟨(.pointer (some ⟨q,0,none⟩)::u1::u2::u3::u4::u5::u6::u7:: .int .i64 kk:: .int .i64 ee:: .bool (decide (r=16))::u11::u12::u13::bN::bq::u16::u17::bC::bD::u20::u21::u22::u23::u24::u25::u26::u27::u28::u29::u30::u31::u32::u33::u34::u35::u36::u37::u38::dh::u40::bX::u42::bY::u44::u45::u46::di::u48::u49::bV::u51::u52::u53::bW::u55::dz::dB::u58::u59::u60::v61::v62::v63::v64::v65::v66::v67::v68::v69::v70::dV::u72::u73::dP::u75::eQ::eU::eX::eY::eZ::fo::fq::fu::fw::fE:: []).toArray,[]⟩ w'):
  Code.wp prog FC Q ⟨(.pointer (some ⟨q,0,none⟩)::u1::u2::u3::u4::u5::u6::u7:: .int .i64 kk:: .int .i64 ee::u10::u11::u12::u13::bN::bq::u16::u17::bC::bD::u20::u21::u22::u23::u24::u25::u26::u27::u28::u29::u30::u31::u32::u33::u34::u35::u36::u37::u38::dh::u40::bX::u42::bY::u44::u45::u46::di::u48::u49::bV::u51::u52::u53::bW::u55::dz::dB::u58::u59::u60::dH::dG::u63::u64::dO::u66::dU::u68::u69::u70::dV::u72::u73::dP::u75::eQ::eU::eX::eY::eZ::fo::fq::fu::fw::fE:: []).toArray,[]⟩ w:=by
 by_cases h0:kk=0
 ·by_cases h1:ee=0
  ·exact OW q kk i r ee cs T w Q h h2 hi hr h0 h1 au
  ·exact Lr q kk i r ee cs T w Q h h2 hi hr h0 h1 au
 ·exact Lm q kk i r ee cs T w Q h h2 hi hr h0 au
end
section
open Go.Proofs.Tryz
open Go.RowKit
def Cs (q p base:Nat):Nat→Prop:=fun b=>b=q∨b=p∨base≤b
structure Mid (F:Nat→Prop) (q p base n hv K:Nat) (c0:ax) (b0:List UInt8) (w0:World) (c:ax) (bs:List UInt8) (v:Value) (w:World):Prop where
 iny:kP w F q p c hv
 row:Ow w base v bs
 fine:c.Fine K
 len:bs.length≤n
 eq:c0.loop b0 n=c.loop bs n
 chg:ag (Cs q p base) w0 w
 gl:c.src.gives.length≤1152921504606
 ll:c.src.left.length≤1152921504606
noncomputable def Zj:Code:=aP (f98.body.bind (fC 0))
theorem Lj (F:Nat→Prop) (q p base n hv K:Nat) (c0:ax) (b0:List UInt8) (v0:Value) (w:World) {u2 u3 u4 u5 u7 u8 u9 u10 u11 u12 u13 bN bq u16 u17 bC bD u20 u21 u22 u23 u24 u25 u26 u27 u28 u29 u30 u31 u32 u33 u34 u35 u36 u37 u38 dh u40 bX u42 bY u44 u45 u46 di u48 u49 bV u51 u52 u53 bW u55 dz dB u58 u59 u60 dH dG u63 u64 dO u66 dU u68 u69 u70 dV u72 u73 dP u75 eQ eU eX eY eZ fo fq fu fw fE:Value} (Q:Exit→Act→World→Prop)
  (H0:Hid (Mid F q p base n hv K c0 b0 w c0 b0 v0 w)) (hF:Hid (¬F p)) (hqp:q<base) (Jz:p<base) (hne:q≠p) (Hd:¬F q) (AB:Hid (∀b,F b→b<base)) (hbw:base≤w.heap.size) (hK:K≤1152921504606846976) (hn:n≤1152921504606)
  (au:∀(v4 v5 v7 v8 v9 v10 v29 v30 v31 v32 v33 v34 v35 v36 v37 v38 v39 v40 v41 v42 v43 v44 v45 v46 v47 v48 v49 v50 v51 v52 v53 v54 v55 v56 v57 v58 v59 v60 v61 v62 v63 v64 v65 v66 v67 v68 v69 v70 v71 v72 v73 v74 v75 v76 v77 v78 v79 v80 v81 v82 v83 v84:Value) (c:ax) (bs:List UInt8) (vv:Value) (w':World),c0.loop b0 n=(bs,0,c)→kP w' F q p c hv→Ow w' base vv bs→ag (Cs q p base) w w'→Q (.exit 0) ⟨(.pointer (some ⟨q,0,none⟩):: .int .i64 n::u2::u3::v4::v5::vv::v7::v8::v9::v10::u11::u12::u13::bN::bq::u16::u17::bC::bD::u20::u21::u22::u23::u24::u25::u26::u27::u28::v29::v30::v31::v32::v33::v34::v35::v36::v37::v38::v39::v40::v41::v42::v43::v44::v45::v46::v47::v48::v49::v50::v51::v52::v53::v54::v55::v56::v57::v58::v59::v60::v61::v62::v63::v64::v65::v66::v67::v68::v69::v70::v71::v72::v73::v74::v75::v76::v77::v78::v79::v80::v81::v82::v83::v84::fE:: []).toArray,[]⟩ w')
  (hret:∀(v6 v7 v8 v9 v10 v29 v30 v31 v32 v33 v34 v35 v36 v37 v38 v39 v40 v41 v42 v43 v44 v45 v46 v47 v48 v49 v50 v51 v52 v53 v54 v55 v56 v57 v58 v59 v60 v61 v62 v63 v64 v65 v66 v67 v68 v69 v70 v71 v72 v73 v74 v75 v76 v77 v78 v79 v80 v81 v82 v83 v84:Value) (c:ax) (ez:Int) (w':World),c0.loop b0 n=([],ez,c)→ez≠0→kP w' F q p c hv→ag (Cs q p base) w w'→Q .ret ⟨(.pointer (some ⟨q,0,none⟩):: .int .i64 n::u2::u3:: .slice none 0 0:: .int .i64 ez::v6::v7::v8::v9::v10::u11::u12::u13::bN::bq::u16::u17::bC::bD::u20::u21::u22::u23::u24::u25::u26::u27::u28::v29::v30::v31::v32::v33::v34::v35::v36::v37::v38::v39::v40::v41::v42::v43::v44::v45::v46::v47::v48::v49::v50::v51::v52::v53::v54::v55::v56::v57::v58::v59::v60::v61::v62::v63::v64::v65::v66::v67::v68::v69::v70::v71::v72::v73::v74::v75::v76::v77::v78::v79::v80::v81::v82::v83::v84::fE:: []).toArray,[]⟩ w'):
  Code.wp prog Zj Q ⟨(.pointer (some ⟨q,0,none⟩):: .int .i64 n::u2::u3::u4::u5::v0::u7::u8::u9::u10::u11::u12::u13::bN::bq::u16::u17::bC::bD::u20::u21::u22::u23::u24::u25::u26::u27::u28::u29::u30::u31::u32::u33::u34::u35::u36::u37::u38::dh::u40::bX::u42::bY::u44::u45::u46::di::u48::u49::bV::u51::u52::u53::bW::u55::dz::dB::u58::u59::u60::dH::dG::u63::u64::dO::u66::dU::u68::u69::u70::dV::u72::u73::dP::u75::eQ::eU::eX::eY::eZ::fo::fq::fu::fw::fE:: []).toArray,[]⟩ w:=by
 have dF:=aa au;have Vs:=aa hret;obtain⟨i0,hi0,hz0,hz1,hz2⟩:=info_parts dK;have hmk:=fun(m:Nat) (hm:m≤4096) (w:World)=>nJ (P:=prog) 24 5 i0 _ underlying24 hi0 hz0 .i64 .i64 m m (Nat.le_refl _) (by rw [hz2];omega) (by omega) w;have HMK:=aa hmk;clear au hret hmk;conv=>arg 2;whnf
 go_loopg [6] ((n-b0.length)*17+(16-c0.idle)) (fun g' RN wz=>∃(c:ax) (bs:List UInt8),g'=(n-bs.length)*17+(16-c.idle)∧Mid F q p base n hv K c0 b0 w c bs RN wz)
 case atStart=>exact⟨c0,b0,rfl,H0⟩
 case round=>
  obtain⟨c,bs,hg,hm⟩:=hrel;have HG:=aa hg;have HM:=aa hm;obtain⟨A,cp,hv6,hc1,hc2⟩:=ay hm.row;subst hv6;have hlen:=hm.len;clear hg hm
  by_cases hlt:bs.length<n
  ·obtain⟨m,hmm⟩:∃m,m=min (n-bs.length) 4096:=⟨_,rfl⟩;have Nh:min ((n:Int)-(bs.length:Int)) 4096=(m:Int):=by omega
   have Nr:m≤4096:=by omega
   have hmk:=HMK.out m Nr wr;have Fy:=aa hmm;clear hmm;go_upto_region 6 with fail
   obtain⟨pb,hpb⟩:∃pb,pb=wr.heap.size:=⟨_,rfl⟩;obtain⟨w1,hw1⟩:∃W,W=wr.alloc (.cells (madeCells #[Value.int .u8 0] m) 5):=⟨_,rfl⟩;simp only [←hw1,←hpb];have Qd:=aa hpb;have HB1:Hid (Below wr.heap.size wr w1):=aa (by rw [hw1];exact(Below.refl _ _).alloc (Nat.le_refl _) _);have Qr:Hid (Bf w1 pb m []):=aa ⟨(madeCells #[Value.int .u8 0] m).toList,by rw [hw1,hpb,Array.toArray_toList];exact ai.new _ _ _,by rw [Array.length_toList,size_madeCells],by simp [aK]⟩;have hbp:base≤pb:=by have:=HM.out.chg.size;omega
   have z3:w1.cell? ⟨q,3,none⟩=some (.iface 35 (.pointer (some ⟨p,0,none⟩))):=ak HB1 (HM.iny.blk.cell 3);have hkl:c.src.calls<4611686018427387904:=by have h1:=HM.out.fine.pot;unfold ax.pot at h1;omega
   clear hw1 hpb hmk;refine OT F q p pb m c.src w1 _ z3 (aa (HM.iny.src.below HB1)) hF (aa (fun b hb=>by have:=AB.out b hb;omega)) Qr (by omega) hkl Nr HM.gl HM.ll ?_;intro v39 v40 v41 v42 v43 v44 v45 v46 v47 w2 hs2 hb2 hc2;have HS2:=aa hs2;have HB2:=aa hb2;have OU:Hid (c.ask (n-bs.length)=((c.src.read m).1,(c.src.read m).2.1,{c with src:=(c.src.read m).2.2,idle:=if(c.src.read m).1≠ []∨(c.src.read m).2.1≠0 then 0 else c.idle+1})):=aa (by rw [Fy.out];rfl);have zi:(c.src.read m).1.length≤m:=Src.read_len _ _;obtain⟨pp,RO⟩:∃pp,pp=(c.src.read m).1:=⟨_,rfl⟩;obtain⟨ee,Zk⟩:∃ee,ee=(c.src.read m).2.1:=⟨_,rfl⟩;obtain⟨ss,hss⟩:∃ss,ss=(c.src.read m).2.2:=⟨_,rfl⟩;rw [←RO] at OU HB2 zi⊢;rw [←Zk] at OU⊢;rw [←hss] at OU HS2;obtain⟨kk,hkk⟩:∃kk,kk=pp.length:=⟨_,rfl⟩;rw [←hkk] at zi⊢;have HKK:=aa hkk;have HPP:=aa RO;have Ub:=aa Zk;have HSS:=aa hss;have hr1:¬((m:Int)<(kk:Int)):=by omega
   have hr2:decide (m<kk)=false:=decide_eq_false (by omega);have HRW:=aa (HM.row.below HB1);have bI:=aa hc2;clear hs2 hb2 hc2 RO Zk hss hkk z3;have RP:Hid (Ow w2 base (.slice A bs.length cp) bs):=aa (HRW.chg bI (fun g hg e=>by have h1:=(ah HM.row g hg);have h2:=Qd.out;rcases e with e|e<;>omega));obtain⟨cur,hcb,hcl,hct⟩:=HB2.out
   have Dt:Hid (Rd w2 (fun b=>b=pb) 1 (some ⟨pb,0,none⟩) kk (aK pp)):=aa ⟨by rw [dM,←HKK.out];omega,fun _=>⟨pb,0,rfl,rfl,fun j u hj=>by
    rw [hcb.cell];rw [←hct] at hj;rw [List.getElem?_take] at hj
    split at hj
    ·simpa using hj
    ·cases hj⟩⟩
   have hki:(kk:Int)≤(m:Int):=by omega
   clear hcb hcl hct;go_upto_region 10 with(at_builtin;go_loud (refine af _ rfl (.tmp 56) (.tmp 59) _ rfl base 5 i0 _ 1 1 underlying24 hi0 hz0 hz1 hz2 rfl (by omega) (.slice A bs.length cp) _ (aK bs) rfl RP (fun b=>b=pb) (some ⟨pb,0,none⟩) kk m (aK pp) rfl Dt (cO _) (by simp only [maxLen];omega) (by omega) (by have h1:=bI.out.size;have h2:=HB1.out.size;have h3:=Qd.out;omega) ?_);intro v6 w6 hown6 jS iR;have uJ:=aa hown6;have qC:=aa jS;have Ol:=aa iR;clear hown6 jS iR)
   obtain⟨r,hr⟩:∃r,r=if kk≠0∨ee≠0 then 0 else c.idle+1:=⟨_,rfl⟩;have Vt:=aa hr;have yt:Hid (ai w6 q 194 #[.int .i64 c.at_,.int .i64 c.err,.int .i64 c.idle,.iface 35 (.pointer (some ⟨p,0,none⟩)),.int .i64 9223372036854775807,.int .u8 hv,.bool c.held.isSome]):=aa (((HM.iny.blk.below HB1).chg bI (fun e=>by rcases e with e|e<;>omega)).chg ((ag.refl _ _).grown qC (fun _ hk _=>hk)) (fun e=>by have:=(ah RP q e).1;omega));clear hr;refine Ll q kk c.idle r ee _ _ w6 _ yt (aa rfl) (by have:=HM.out.fine.idle;omega) Vt ?_;intro v61 v62 v63 v64 v65 v66 v67 v68 v69 v70 w7 Vu XD;obtain⟨c',hc'⟩:∃c':ax,c'={c with src:=ss,idle:=r}:=⟨_,rfl⟩
   have Fa:Hid (r=if pp≠ []∨ee≠0 then 0 else c.idle+1):=aa (by
    rw [Vt.out];have e:(kk≠0)=(pp≠ []):=by rw [HKK.out];simp
    simp only [e])
   have HAS:Hid (c.ask (n-bs.length)=(pp,ee,c')):=aa (by rw [OU.out,hc',Fa.out]);have jS:ag (fun b=>base≤b) w2 w6:=(ag.refl _ _).grown qC (fun g hg _=>(ah RP g hg).1)
   have Vv:Hid (kP w7 F q p c' hv):=aa (by
    rw [hc'];refine⟨Vu,?_,HM.iny.hl⟩;exact(HS2.chg jS (by omega) (fun b hb e=>by have:=AB.out b hb;omega)).chg XD (fun e=>hne e.symm) (fun b hb e=>Hd (e▸hb)))
   have He:Hid (Ow w7 base v6 (bs++pp)):=aa (by
    have h1:=uJ.out;have h2:Ow w6 base v6 (bs++pp):=by unfold Ow;rw [List.length_append,←HKK.out];simpa [aK] using h1
    exact h2.chg XD (fun g hg e=>by have:=(ah h2 g hg).1;have e:g=q:=e;omega))
   have oL:Hid (ag (Cs q p base) w w7):=aa ((((HM.chg.then HB1).trans (bI.mono (fun b _ e=>by rcases e with e|e;exact .inr (.inl e);exact .inr (.inr (by omega)))) (fun _ _ h=>h)).trans (jS.mono (fun b _ e=> .inr (.inr e))) (fun _ _ h=>h)).trans (XD.mono (fun b _ e=> .inl e)) (fun _ _ h=>h));have OV:=aa HM.eq;have Vw:=ax.loop_eq c bs n;rw [if_neg (by omega),HAS.out] at Vw;have HLQ:=aa Vw;obtain⟨A6,cp6,hv6,_,_⟩:=ay He;subst hv6;have hkl:(bs++pp).length=bs.length+kk:=by rw [List.length_append,HKK.out]
   have Dh:=aa hkl;have hkn:bs.length+kk≤n:=by have:=Fy.out;omega
   have CU:Hid (c'.src.gives.length≤1152921504606∧c'.src.left.length≤1152921504606):=aa (by
    rw [hc',HSS.out];refine⟨?_,by have h1:=Src.read_left c.src m;have h2:=HM.out.ll;simp only [];omega⟩;have:(c.src.read m).2.2.gives=c.src.gives:=by unfold Src.read;split;rfl;split<;>rfl
    rw [this];exact HM.gl)
   have Uc:Hid (c'.idle=r):=aa (by rw [hc']);clear hc' Vu XD jS Vw hkl;rw [Dh.out]
   have ny:Hid ((kk≠0∨ee=0)→c'.pot≤K):=aa (fun h=>by
    have h1:=ax.ask_pot (n-bs.length) HM.fine (by
     rw [HAS.out]
     rcases h with h|h
     ·exact .inl (fun e=>h (by rw [HKK.out];exact congrArg List.length e))
     ·exact .inr h)
    rw [HAS.out] at h1;exact h1)
   by_cases e1:n≤bs.length+kk
   ·have e2:n=bs.length+kk:=by omega
    have e2':(bs.length:Int)+(kk:Int)=(n:Int):=by omega
    have Zl:Hid (kk≠0∧r=0):=aa ⟨by omega,by rw [Vt.out,if_pos (.inl (by omega))]⟩;have zx:=aa e1;clear e1 e2;go_wp2
    go_roundg ((n-(bs++pp).length)*17+(16-c'.idle))
    case measure=>have h1:=HG.out;have h2:=Dh.out;have h3:=Uc.out;have h4:=Zl.out;have h5:=zx.out;rw [h2,h3];omega
    case rel=>
     have h3:=HLQ.out;have h2:=Dh.out;have h5:=zx.out;rw [if_pos (by show n≤(bs++pp).length;omega)] at h3;have h4:c'.loop (bs++pp) n=(bs++pp,0,c'):=by rw [ax.loop_eq,if_pos (by omega)]
     exact⟨c',bs++pp,rfl,Vv,(by have h9:=He.out;rw [h2] at h9;exact h9),⟨by rw [Uc.out,Zl.out.2];omega,ny (.inl Zl.1)⟩,by omega,by rw [OV.out,h3,h4],oL,CU.1,CU.2⟩
   ·have RE:¬((bs.length:Int)+(kk:Int)=(n:Int)):=by omega
    have h3:=HLQ.out;have h2:=Dh.out;rw [if_neg (by show¬n≤(bs++pp).length;omega)] at h3;have F8:=aa e1;clear e1
    by_cases e31:ee=31
    ·rw [if_pos e31] at h3;have H3:=aa h3;have ai8:(ee==31)=true:=by rw [beq_iff_eq];exact e31
     clear h3 h2;subst e31;go_wp2
     exact Vs _ _ _ _ _ _ _ _ _ _ _ _ _ _ _ _ _ _ _ _ _ _ _ _ _ _ _ _ _ _ _ _ _ _ _ _ _ _ _ _ _ _ _ _ _ _ _ _ _ _ _ _ _ _ _ _ _ _ _ _ _ c' 41 w7 (by rw [OV.out,H3.out]) (by decide) Vv oL
    ·rw [if_neg (show¬((pp,ee,c').2.1=31) from e31)] at h3
     by_cases e0:ee=0
     ·rw [if_neg (show¬((pp,ee,c').2.1≠0) from fun h=>h e0)] at h3;subst e0
      by_cases e16:r=16
      ·rw [if_pos (by show 16≤c'.idle;rw [Uc.out];omega)] at h3;have H3:=aa h3;have hd:decide (r=16)=true:=decide_eq_true e16;clear h3 h2;subst e16;go_wp2
       exact Vs _ _ _ _ _ _ _ _ _ _ _ _ _ _ _ _ _ _ _ _ _ _ _ _ _ _ _ _ _ _ _ _ _ _ _ _ _ _ _ _ _ _ _ _ _ _ _ _ _ _ _ _ _ _ _ _ _ _ _ _ _ c' 33 w7 (by rw [OV.out,H3.out]) (by decide) Vv oL
      ·have Vx:r≤15:=by have h1:=Vt.out;have h2:=HM.out.fine.idle;split at h1<;>omega
       rw [if_neg (by show¬16≤c'.idle;rw [Uc.out];omega)] at h3;have H3:=aa h3;have H15:=aa Vx;have hd:decide (r=16)=false:=decide_eq_false e16;obtain⟨rb,hrb⟩:∃rb,rb=decide (r=16):=⟨_,rfl⟩;rw [←hrb] at hd⊢;subst hd;clear h3 h2 hrb e16 Vx;go_wp2
       go_roundg ((n-(bs++pp).length)*17+(16-c'.idle))
       case measure=>
        have h1:=HG.out;have h2:=Dh.out;have h3:=Uc.out;have h4:=Vt.out;have h5:=H15.out;have h6:=HM.out.fine.idle;rw [h2,h3]
        by_cases h7:kk=0
        ·rw [if_neg (by simp [h7])] at h4;omega
        ·omega
       case rel=>
        have h2:=Dh.out;have h5:=F8.out
        exact⟨c',bs++pp,rfl,Vv,(by have h9:=He.out;rw [h2] at h9;exact h9),⟨by rw [Uc.out];exact H15,ny (.inr trivial)⟩,by omega,by rw [OV.out,H3.out],oL,CU.1,CU.2⟩
     ·rw [if_pos (show(pp,ee,c').2.1≠0 from e0)] at h3;have H3:=aa h3;have pI:=aa e0;clear h3 h2;go_wp2
      exact Vs _ _ _ _ _ _ _ _ _ _ _ _ _ _ _ _ _ _ _ _ _ _ _ _ _ _ _ _ _ _ _ _ _ _ _ _ _ _ _ _ _ _ _ _ _ _ _ _ _ _ _ _ _ _ _ _ _ _ _ _ _ c' ee w7 (by rw [OV.out,H3.out]) pI Vv oL
  ·have hin:¬((bs.length:Int)<(n:Int)):=by omega
   go_wp2;have he:=HM.out.eq
   rw [ax.loop_eq c,if_pos (by omega)] at he;exact dF _ _ _ _ _ _ _ _ _ _ _ _ _ _ _ _ _ _ _ _ _ _ _ _ _ _ _ _ _ _ _ _ _ _ _ _ _ _ _ _ _ _ _ _ _ _ _ _ _ _ _ _ _ _ _ _ _ _ _ _ _ _ c bs _ _ he HM.iny HM.row HM.chg
end
section
open Go.Proofs.Tryz
open Go.RowKit
def nK (F:Nat→Prop) (q p hv n:Nat) (c:ax) (w:World) (e:Ending) (w':World):Prop:=
 ∃v,e= .returned (.tuple #[v,.int .i64 (ax.loop {c with held:=none} c.held.toList n).2.1])∧((ax.loop {c with held:=none} c.held.toList n).2.1=0→Ow w' w.heap.size v (ax.loop {c with held:=none} c.held.toList n).1)∧kP w' F q p (ax.loop {c with held:=none} c.held.toList n).2.2 hv∧ag (Cs q p w.heap.size) w w'
theorem Hf (F:Nat→Prop) (q p hv n K:Nat) (c:ax) (w:World) (h:kP w F q p c hv) (hf:c.Fine K) (hF:¬F p) (Jz:p<w.heap.size) (hne:q≠p) (Hd:¬F q) (AB:∀b,F b→b<w.heap.size) (hK:K≤1152921504606846976) (hn:n≤1152921504606) (hn0:0<n) (hg:c.src.gives.length≤1152921504606) (hl:c.src.left.length≤1152921504606) (hh:c.held=none):
  Calls prog 98 #[.pointer (some ⟨q,0,none⟩),.int .i64 n] w (nK F q p hv n c w):=by
 refine letter fun R HR=> ?_;have z6:w.cell? ⟨q,6,none⟩=some (.bool false):=(h.blk.cell 6).trans (by rw [hh];rfl);have HH:=aa h;have Oh:=aa hf;have KJ:=aa hh;have HG:=aa hg;have HL:=aa hl;have Gq:=h.blk.lt;have Vy:=aa AB;have uD:Hid (({c with held:=none}:ax)=c):=aa (by cases c;simp only at hh;subst hh;rfl);clear h hf hh hg hl AB;go_enter func98,ntmps98
 go_upto_region 4 with fail
 refine Lj F q p w.heap.size n hv K c [] (.slice none 0 0) w _ (aa ⟨HH,Ow.nil _ _,Oh,by simp,rfl,ag.refl _ _,HG,HL⟩) (aa hF) Gq Jz hne Hd Vy (Nat.le_refl _) hK hn ?_ ?_
 ·intro v4 v5 v7 v8 v9 v10 v29 v30 v31 v32 v33 v34 v35 v36 v37 v38 v39 v40 v41 v42 v43 v44 v45 v46 v47 v48 v49 v50 v51 v52 v53 v54 v55 v56 v57 v58 v59 v60 v61 v62 v63 v64 v65 v66 v67 v68 v69 v70 v71 v72 v73 v74 v75 v76 v77 v78 v79 v80 v81 v82 v83 v84 c2 bs vv w2 he hi ho hc;have HE:=aa he;have HI:=aa hi;have HO:=aa ho;have HC:=aa hc;clear he hi ho hc;go_wp2;rw [HR.out];unfold nK;rw [uD.out,KJ.out];show∃v,_;rw [show(none:Option UInt8).toList= [] from rfl,HE.out]
  exact⟨_,rfl,fun _=>HO,HI,HC⟩
 ·intro v6 v7 v8 v9 v10 v29 v30 v31 v32 v33 v34 v35 v36 v37 v38 v39 v40 v41 v42 v43 v44 v45 v46 v47 v48 v49 v50 v51 v52 v53 v54 v55 v56 v57 v58 v59 v60 v61 v62 v63 v64 v65 v66 v67 v68 v69 v70 v71 v72 v73 v74 v75 v76 v77 v78 v79 v80 v81 v82 v83 v84 c2 ez w2 he hz hi hc;have HE:=aa he;have HZ:=aa hz;have HI:=aa hi;have HC:=aa hc;clear he hz hi hc;go_ret2
  rw [HR.out];unfold nK;rw [uD.out,KJ.out];rw [show(none:Option UInt8).toList= [] from rfl,HE.out];exact⟨_,rfl,fun h=>absurd h HZ,HI,HC⟩
theorem Hg (F:Nat→Prop) (q p hv n K:Nat) (x:UInt8) (c:ax) (w:World) (h:kP w F q p c hv) (hf:c.Fine K) (hF:¬F p) (Jz:p<w.heap.size) (hne:q≠p) (Hd:¬F q) (AB:∀b,F b→b<w.heap.size) (hK:K≤1152921504606846976) (hn:n≤1152921504606) (hn0:0<n) (hg:c.src.gives.length≤1152921504606) (hl:c.src.left.length≤1152921504606) (hh:c.held=some x):
  Calls prog 98 #[.pointer (some ⟨q,0,none⟩),.int .i64 n] w (nK F q p hv n c w):=by
 obtain⟨i0,hi0,hz0,hz1,hz2⟩:=info_parts dK;refine letter fun R HR=> ?_;have z6:w.cell? ⟨q,6,none⟩=some (.bool true):=(h.blk.cell 6).trans (by rw [hh];rfl);have z5:w.cell? ⟨q,5,none⟩=some (.int .u8 hv):=h.blk.cell 5;have hhx:hv=x.toNat:=h.hl x hh;have HX:=aa hhx;have HH:=aa h;have Oh:=aa hf;have KJ:=aa hh;have HG:=aa hg;have HL:=aa hl;have Gq:=h.blk.lt;have Vy:=aa AB;have aj0:(0:Int)<(n:Int):=by omega
 clear h hf hh hg hl AB hhx;go_enter func98,ntmps98
 go_upto_region 4 with(at_builtin;go_loud (refine af _ rfl (.tmp 20) (.tmp 25) _ rfl w.heap.size 5 i0 _ 1 1 underlying24 hi0 hz0 hz1 hz2 rfl (by omega) (.slice none 0 0) 0 [] rfl (World.ownsRow_nil _ _ _ _) (From w.heap.size) (some ⟨w.heap.size,0,none⟩) 1 1 [.int .u8 hv] rfl (Rd.one w _ _) (by simp [Value.oneCell']) (by simp only [maxLen];omega) (by omega) (by simp) ?_);intro v6 w6 hown6 jS iR;have uJ:=aa hown6;have qC:=aa jS;have hb6:ai w6 q 194 #[.int .i64 c.at_,.int .i64 c.err,.int .i64 c.idle,.iface 35 (.pointer (some ⟨p,0,none⟩)),.int .i64 9223372036854775807,.int .u8 hv,.bool c.held.isSome]:=(HH.out.blk.alloc _).chg (ag.of_grown jS) (fun e=>by simp [Value.ownBlock] at e);have lg:=aa hb6;have y6:w6.cell? ⟨q,6,none⟩=some (.bool true):=(hb6.cell 6).trans (by rw [KJ.out];rfl);have yf6:=hb6.frozen 6;clear hown6 jS iR hb6 z5 z6)
 obtain⟨w7,hw7⟩:∃W,W=w6.setCell ⟨q,6,none⟩ (.bool false):=⟨_,rfl⟩;rw [←hw7]
 have iE:Hid (ag (fun b=>b=q) w w7):=aa (by
  rw [hw7];exact(((ag.refl (fun b=>b=q) w).then ((Below.refl _ _).alloc (Nat.le_refl _) _)).trans (ag.of_grown qC) (fun g _ e=>by simp [Value.ownBlock] at e)).setCell (p:=⟨q,6,none⟩) (fun _=>rfl) _)
 have Y8:Hid (Ow w7 w.heap.size v6 [x]):=aa (by
  have h1:=uJ.out;rw [HX.out] at h1;have h2:Ow w6 w.heap.size v6 [x]:=by unfold Ow;simpa [aK,bv] using h1
  rw [hw7];exact h2.chg ((ag.refl (fun b=>b=q) w6).setCell (p:=⟨q,6,none⟩) (fun _=>rfl) _) (fun g hg e=>by have:=(ah h2 g hg).1;have e:g=q:=e;omega))
 have HI7:Hid (kP w7 F q p {c with held:=none} hv):=aa ⟨by rw [hw7];exact lg.set_ 6 _,HH.src.chg iE (fun e=>hne e.symm) (fun b hb e=>Hd (e▸hb)),fun y hy=>by cases hy⟩;have CX:Hid (ag (Cs q p w.heap.size) w w7):=aa (iE.mono (fun b _ e=> .inl e));clear hw7 y6 yf6
 refine Lj F q p w.heap.size n hv K {c with held:=none} [x] v6 w7 _ (aa ⟨HI7,Y8,⟨Oh.idle,Oh.pot⟩,by simp;omega,rfl,ag.refl _ _,HG,HL⟩) (aa hF) Gq Jz hne Hd Vy iE.size hK hn ?_ ?_
 ·intro v4 v5 v7 v8 v9 v10 v29 v30 v31 v32 v33 v34 v35 v36 v37 v38 v39 v40 v41 v42 v43 v44 v45 v46 v47 v48 v49 v50 v51 v52 v53 v54 v55 v56 v57 v58 v59 v60 v61 v62 v63 v64 v65 v66 v67 v68 v69 v70 v71 v72 v73 v74 v75 v76 v77 v78 v79 v80 v81 v82 v83 v84 c2 bs vv w2 he hi ho hc;have HE:=aa he;have HI:=aa hi;have HO:=aa ho;have HC:=aa hc;clear he hi ho hc;go_wp2;rw [HR.out];unfold nK;rw [KJ.out,show(some x).toList= [x] from rfl,HE.out]
  exact⟨_,rfl,fun _=>HO,HI,CX.out.trans HC (fun _ _ h=>h)⟩
 ·intro v6 v7 v8 v9 v10 v29 v30 v31 v32 v33 v34 v35 v36 v37 v38 v39 v40 v41 v42 v43 v44 v45 v46 v47 v48 v49 v50 v51 v52 v53 v54 v55 v56 v57 v58 v59 v60 v61 v62 v63 v64 v65 v66 v67 v68 v69 v70 v71 v72 v73 v74 v75 v76 v77 v78 v79 v80 v81 v82 v83 v84 c2 ez w2 he hz hi hc;have HE:=aa he;have HZ:=aa hz;have HI:=aa hi;have HC:=aa hc;clear he hz hi hc;go_ret2
  rw [HR.out];unfold nK;rw [KJ.out,show(some x).toList= [x] from rfl,HE.out];exact⟨_,rfl,fun h=>absurd h HZ,HI,CX.out.trans HC (fun _ _ h=>h)⟩
end
end Go.Proofs.YtbjgeidjmhialaaGreatDoor
