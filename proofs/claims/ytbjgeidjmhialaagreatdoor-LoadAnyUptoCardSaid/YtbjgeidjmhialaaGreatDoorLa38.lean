/- Part 38. -/
import Derived.Test.YtbjgeidjmhialaaGreatDoorLa37
namespace Go.Proofs.YtbjgeidjmhialaaGreatDoor
set_option maxRecDepth 100000
set_option maxHeartbeats 8000000
section
open Go.Proofs.Tryz
open Go.RowKit Go.Maps
theorem jN.lt {w:World} {D:Nat→Prop} {A:Option Addr} {n:Nat} {g:Nat→List Lk} (h:jN w D A n g):jN w (fun b=>b<w.heap.size) A n g:=h.next (ag.refl Nil w) (fun _ _ _ h=>h) (fun _ hb _=>hb)
theorem jN.chg {S D:Nat→Prop} {w w':World} {A:Option Addr} {n:Nat} {g:Nat→List Lk} (h:jN w D A n g) (hc:ag S w w') (hs:∀b,D b→¬S b):jN w' D A n g:=h.next hc (fun b _ hb=>hs b hb) (fun _ _ hb=>hb)
theorem nP (w:World) (a:Addr) (n c:Nat):(binOp .eql 92 (.slice (some a) n c) (.slice none 0 0)).run prog w= .ok (.bool false) w:=by
 exact Lib.run_eql_slice_nil w 92 97 (some a) n c 0 0 underlying92
theorem zO (F:Nat→Prop) (p:Nat) (nodes root:Int) (sl:List bB) (nd lf fl bl:Int) (inn L:Nat) (N d:Nat→Nat) (X:Nat→Nat→Nd) (E:Nat→Nat) (w:World) (hx:gm w F p nodes sl root) (hn:sl.length≤65536) (hF:∀b,F b→b<w.heap.size) (hc':aY nd lf inn fl bl)
  (ht:ji sl root nd lf inn L N d X) (hE0:E 0=0) (hE:∀i,i<N 0→E (i+1)=E i+(X 0 i).keys.length) (hEb:∀i,i≤N 0→E i≤1000000000):
  Calls prog 10 #[.pointer (some ⟨p,0,none⟩),.agg #[.int .i64 nd,.int .i64 lf,.int .i64 inn,.int .i64 fl,.int .i64 bl]] w fun e w'=>e= .returned (.agg #[.bool true,.int .i64 0,.int .i64 0,.int .i64 ((L:Int)+1),.int .i64 (d (L+1)),.int .i64 (E (N 0))])∧Below w.heap.size w w':=by
 have HX:=aa hx;have HT:=aa ht;have HC:=aa hc';have HF:=aa hF;have pI:=aa hE0;have HE:=aa hE;have HEB:=aa hEb;have LV:=ht.deep;have hdL:d (L+1)≤65536:=by have:=ht.fit (Nat.le_refl L);rw [ht.step];omega
 have hN0:N 0≤65536:=by have:=ht.fit (Nat.zero_le L);omega
 have HB0:Hid (Below w.heap.size w ((w.alloc (.cells #[.int .i64 nd,.int .i64 lf,.int .i64 inn,.int .i64 fl,.int .i64 bl] 23)).alloc (.cells #[.bool false,.int .i64 0,.int .i64 0,.int .i64 0,.int .i64 0,.int .i64 0] 47))):=aa (((Below.refl _ _).alloc (Nat.le_refl _) _).alloc (by simp) _)
 have O3:Hid (ai ((w.alloc (.cells #[.int .i64 nd,.int .i64 lf,.int .i64 inn,.int .i64 fl,.int .i64 bl] 23)).alloc (.cells #[.bool false,.int .i64 0,.int .i64 0,.int .i64 0,.int .i64 0,.int .i64 0] 47)) (w.heap.size+1) 47 #[.bool false,.int .i64 0,.int .i64 0,.int .i64 0,.int .i64 0,.int .i64 0]):=aa (by
  have:=ai.new (w.alloc (.cells #[.int .i64 nd,.int .i64 lf,.int .i64 inn,.int .i64 fl,.int .i64 bl] 23)) 47 #[.bool false,.int .i64 0,.int .i64 0,.int .i64 0,.int .i64 0,.int .i64 0];simpa using this)
 clear hx hF hc' ht hE0 hE hEb;go_enter func10,ntmps10
 go_upto_region 2 with(go_at_call 31;go_loud (refine(vC F p nodes root sl nd lf fl bl inn L N d X _ (HX.below HB0) hn (fun b hb=>by have:=HF.out b hb;simp;omega) HC HT).mono ?_);rintro e w1 ⟨A,c,rfl,q1,q2,ha1,hb1⟩;have HA1:=aa ha1.lt;have HB1:=aa (HB0.out.trans (hb1.mono HB0.size));have lL:=aa (O3.below hb1);clear ha1 hb1)
 obtain⟨b0,o0,_,_,Ue,_,_,_⟩:=HA1.out.at_ (t:=0) (by omega);subst Ue;have hw1:=IntWalk.i64_in ((L:Int)+1) (by omega);have hnil:=fun(w:World)=>nP w ⟨b0,o0,none⟩ (L+1) c;go_wp2_with fail
 obtain⟨w3,hw3⟩:∃W,W=((w1.alloc (.cells #[.int .i64 0,.int .i64 0] 94)).alloc (.cells #[.bool true,.int .i64 0,.int .i64 0,.int .i64 ((L:Int)+1),.int .i64 0,.int .i64 0] 47)):=⟨_,rfl⟩;rw [←hw3];obtain⟨q,hq⟩:∃Y,Y=w1.heap.size+1:=⟨_,rfl⟩;rw [←hq];have PI:Below w1.heap.size w1 w3:=by rw [hw3];exact((Below.refl _ _).alloc (Nat.le_refl _) _).alloc (by simp) _
 have jw:Hid (ai w3 q 47 #[.bool true,.int .i64 0,.int .i64 0,.int .i64 ((L:Int)+1),.int .i64 0,.int .i64 0]):=aa (by
  have:=ai.new (w1.alloc (.cells #[.int .i64 0,.int .i64 0] 94)) 47 #[.bool true,.int .i64 0,.int .i64 0,.int .i64 ((L:Int)+1),.int .i64 0,.int .i64 0];rw [hw3,hq];simpa using this)
 have PW:=aa (HA1.below PI);have HB3:=aa (HB1.out.trans (PI.mono HB1.size));have HR3:=aa (lL.below PI);have hqs:w1.heap.size<q:=by omega
 have hwq:w.heap.size+1<w1.heap.size:=lL.out.lt;clear hw3 hq PI O3 HB0 HA1 HB1 lL
 go_loopg [30] (L+1) (fun g' iv wr=>∃j:Nat,g'=L+1-j∧j≤L+1∧iv= .int .i64 j∧ai wr q 47 #[.bool true,.int .i64 0,.int .i64 0,.int .i64 ((L:Int)+1),.int .i64 ((d (L+1):Int)-(d (L+1-j):Int)),.int .i64 0]∧jN wr (fun b=>b<w1.heap.size) (some ⟨b0,o0,none⟩) (L+1) (fun t=>fM N d X (L-t))∧ai wr (w.heap.size+1) 47 #[.bool false,.int .i64 0,.int .i64 0,.int .i64 0,.int .i64 0,.int .i64 0]∧Below w.heap.size w wr)
 case atStart=>exact⟨0,by omega,by omega,rfl,by simpa using jw.out,PW,HR3,HB3⟩
 case round=>
  obtain⟨j,hg,hj,rfl,hk,ha,hr,hb⟩:=hrel;have HG:=aa hg;have HK:=aa hk;have HA:=aa ha;have HR:=aa hr;have HB:=aa hb
  rename World=>wr
  clear hg hk ha hr hb jw PW HB3 HR3
  by_cases hlt:j<L+1
  ·have hlt':(j:Int)<(L:Int)+1:=by omega
   obtain⟨b,o,B,cB,BQ,_,c1,hl⟩:=HA.out.at_ (t:=j) hlt;rw [bU] at c1;injection BQ with BQ
   injection BQ with hb1 hb2
   subst hb1 hb2;have x4:wr.cell? ⟨q,4,none⟩=some (.int .i64 ((d (L+1):Int)-(d (L+1-j):Int))):=HK.out.cell 4;have xf:=HK.out.frozen;have hst:=HT.out.step (L-j);have hm1:d (L-j+1)≤d (L+1):=HT.out.mono (by omega);have hst':d (L+1-j)=d (L-j)+N (L-j):=by rw [show L+1-j=L-j+1 by omega];exact hst
   have hw2:=IntWalk.i64_in ((d (L+1):Int)-(d (L+1-j):Int)+(N (L-j):Int)) (by omega);have HST:=aa hst';clear hst hm1 hst' hl;go_wp2_with fail
   go_roundg (L+1-(j+1))
   case measure=>have:=HG.out;omega
   case rel=>
    have hs:=ag.set1 wr q 4 (.int .i64 ((d (L+1):Int)-(d (L+1-j):Int)+(N (L-j):Int)))
    have e:(d (L+1):Int)-(d (L+1-j):Int)+(N (L-j):Int)=(d (L+1):Int)-(d (L+1-(j+1)):Int):=by
     have:=HST.out;rw [show L+1-(j+1)=L-j by omega];omega
    refine⟨j+1,rfl,by omega,by go_num,?_,HA.chg hs (fun b hb h=>by have h:b=q:=h;omega),HR.chg hs (fun h=>by have h:w.heap.size+1=q:=h;omega),HB.out.trans (hs.below_of HB.size (fun b hb h=>by have h:b=q:=h;omega))⟩;have:=HK.out.set_ 4 (.int .i64 ((d (L+1):Int)-(d (L+1-j):Int)+(N (L-j):Int)))
    rw [←e];exact this
  ·have hlt':¬(j:Int)<(L:Int)+1:=by omega
   obtain rfl:j=L+1:=by omega
   obtain⟨b,o,B,cB,BQ,_,c1,hl⟩:=HA.out.at_ (t:=L) (by omega);rw [Nat.sub_self] at c1 hl;rw [bU] at c1 hl;injection BQ with BQ
   injection BQ with hb1 hb2
   subst hb1 hb2;have HL:=aa hl;have hd0:(d (L+1):Int)-(d (L+1-(L+1)):Int)=(d (L+1):Int):=by rw [Nat.sub_self,HT.out.base];omega
   have iH:Hid (ai wr q 47 #[.bool true,.int .i64 0,.int .i64 0,.int .i64 ((L:Int)+1),.int .i64 (d (L+1)),.int .i64 0]):=aa (by have:=HK.out;rw [hd0] at this;exact this);have hi1:=IntWalk.i64_in ((L:Int)+1-1) (by omega);have hi2:=IntWalk.i64_in (L:Int) (by omega);have hi3:(L:Int)<(L:Int)+1:=by omega
   clear hl hd0 HK;go_wp2_with fail
   go_loopg [48] (N 0) (fun g' iv wz=>∃i:Nat,g'=N 0-i∧i≤N 0∧iv= .int .i64 i∧ai wz q 47 #[.bool true,.int .i64 0,.int .i64 0,.int .i64 ((L:Int)+1),.int .i64 (d (L+1)),.int .i64 (E i)]∧ag (jK q) wr wz)
   case atStart=>exact⟨0,by omega,by omega,rfl,by have:=pI.out;rw [this];exact iH,ag.refl _ _⟩
   case round=>
    obtain⟨i,hg2,hi,rfl,hk2,hcz⟩:=hrel;have wF:=aa hg2;have SN:=aa hk2;have X3:=aa hcz
    rename World=>wz
    clear hg2 hk2 hcz iH
    by_cases hil:i<N 0
    ·have SE:(i:Int)<(N 0:Int):=by omega
     obtain⟨b2,o2,⟨id,oP,x⟩,lB,hA,kA,vA,dA,lm,ld,hn',hc,kn,kc,vn,vc,dn,dc,hB2,_,hk',e0,e1,e2,e3,e4,e5,e6,e7,_,hv⟩:=(HL.out.next (D':=fun _=>True) X3 (fun b _ hb h=>by have h:b=q:=h;omega) (fun _ _ _=>trivial)).at_ (j:=i) hil
     have hkk:(id,oP,x)=iw (d 0) (X 0) i:=by
      rw [show(fM N d X 0)[i]? =some (iw (d 0) (X 0) i) from kM hil] at hk';injection hk' with hk';exact hk'.symm
     dsimp only at e0 e2 e4 hv;have jY:x=X 0 i:=congrArg (fun k:Lk=>k.2.2) hkk;have hkn:E i+kn=E (i+1):=by rw [HE.out i hil,hv.k.len,jY]
     have hEi:=HEB.out (i+1) (by omega);have hkn2:(E i:Int)+(kn:Int)=(E (i+1):Int):=by omega
     have hi5:=IntWalk.i64_in ((E i:Int)+(kn:Int)) (by omega);have PX:=aa hkn2;subst hB2;obtain⟨wx,hwx⟩:∃W,W=wz.alloc (.cells #[.int .i64 id,.slice lB lm ld,.int .i64 x.lev,.slice hA hn' hc,.int .i64 x.right,.slice kA kn kc,.slice vA vn vc,.slice dA dn dc] 106):=⟨_,rfl⟩;have iC:Hid (Below wz.heap.size wz wx):=aa (by rw [hwx];exact(Below.refl _ _).alloc (Nat.le_refl _) _);have Fu:Hid (ai wx wz.heap.size 106 #[.int .i64 id,.slice lB lm ld,.int .i64 x.lev,.slice hA hn' hc,.int .i64 x.right,.slice kA kn kc,.slice vA vn vc,.slice dA dn dc]):=aa (by rw [hwx];exact ai.new _ _ _);clear hk' hkk jY hv hkn hkn2;go_upto_region 13 with fail
     rw [←hwx];clear hwx e0 e1 e2 e3 e4 e5 e6 e7;have x5:wx.cell? ⟨wz.heap.size,5,none⟩=some (.slice kA kn kc):=Fu.out.cell 5;have GR:=aa (SN.below iC);have y5:wx.cell? ⟨q,5,none⟩=some (.int .i64 (E i)):=GR.out.cell 5;have yf:=GR.out.frozen;go_wp2_with fail
     go_roundg (N 0-(i+1))
     case measure=>have:=wF.out;omega
     case rel=>
      refine⟨i+1,rfl,by omega,by go_num,?_,(X3.then iC).setCell (p:=⟨q,5,none⟩) (fun _=>rfl) _⟩;have:=GR.out.set_ 5 (.int .i64 ((E i:Int)+(kn:Int)))
      rw [←PX.out];exact this
    ·have SE:¬(i:Int)<(N 0:Int):=by omega
     obtain rfl:i=N 0:=by omega
     have Om:=aa (HR.chg X3 (fun h=>by have h:w.heap.size+1=q:=h;omega));have x0:wz.cell? ⟨q,0,none⟩=some (.bool true):=SN.out.cell 0;have x1:wz.cell? ⟨q,1,none⟩=some (.int .i64 0):=SN.out.cell 1;have x2:wz.cell? ⟨q,2,none⟩=some (.int .i64 0):=SN.out.cell 2;have x3:wz.cell? ⟨q,3,none⟩=some (.int .i64 ((L:Int)+1)):=SN.out.cell 3;have x4:wz.cell? ⟨q,4,none⟩=some (.int .i64 (d (L+1))):=SN.out.cell 4;have x5:wz.cell? ⟨q,5,none⟩=some (.int .i64 (E (N 0))):=SN.out.cell 5;have y0:wz.cell? ⟨w.heap.size+1,0,none⟩=some (.bool false):=Om.out.cell 0;have y1:wz.cell? ⟨w.heap.size+1,1,none⟩=some (.int .i64 0):=Om.out.cell 1;have y2:wz.cell? ⟨w.heap.size+1,2,none⟩=some (.int .i64 0):=Om.out.cell 2;have y3:wz.cell? ⟨w.heap.size+1,3,none⟩=some (.int .i64 0):=Om.out.cell 3;have y4:wz.cell? ⟨w.heap.size+1,4,none⟩=some (.int .i64 0):=Om.out.cell 4;have y5:wz.cell? ⟨w.heap.size+1,5,none⟩=some (.int .i64 0):=Om.out.cell 5;have yf:=Om.out.frozen;go_wp2_with fail
     refine bodyPost_ret (v:= .agg #[.bool true,.int .i64 0,.int .i64 0,.int .i64 ((L:Int)+1),.int .i64 (d (L+1)),.int .i64 (E (N 0))]) (by simp [results,results10,go_sem, *]) rfl ?_;have hch:=Sd (b:=w.heap.size+1) (w:=wz) (.bool true) (.int .i64 0) (.int .i64 0) (.int .i64 ((L:Int)+1)) (.int .i64 (d (L+1))) (.int .i64 (E (N 0)));have hbz:Below w.heap.size w wz:=HB.out.trans (X3.below_of HB.size (fun b hb h=>by have h:b=q:=h;omega));exact⟨rfl,hbz.trans (hch.below_of hbz.size (fun b hb h=>by have h:b=w.heap.size+1:=h;omega))⟩
end
section
open Go.Proofs.Tryz
open Go.RowKit Go.Maps
def lz (X:Nat→Nd) (m:Nat):Nat:=((List.range m).map fun i=>(X i).kids.length).sum
theorem xJ (X:Nat→Nd) (m:Nat):lz X (m+1)=lz X m+(X m).kids.length:=by
 unfold lz;rw [List.range_succ,List.map_append,List.sum_append];simp
theorem Py (X:Nat→Nd) {m b:Nat} (h:∀i,i<m→(X i).kids.length≤b):lz X m≤m*b:=by
 induction m with
 |zero=>simp [lz]
 |succ m ih=>
  rw [xJ,Nat.add_mul,Nat.one_mul];exact Nat.add_le_add (ih (fun i hi=>h i (by omega))) (h m (by omega))
def Sw (fill inn lev M:Nat) (X:Nat→Nd):Prop:=∀i,i<M→(lev=0→(X i).keys.length≤fill∧(i+1<M→(X i).keys.length=fill)∧(1<M→1≤(X i).keys.length))∧(lev≠0→i+1<M→(X i).kids.length=inn)
noncomputable def PD:Code:=aP (f12.body.bind (aA 14))
theorem Pz (qc q i M kn dn lev fill inn:Nat) (nd lf bl id rt:Int) (l0 h0 k0 v0:Value) (dA:Option Addr) (dc:Nat) (w:World) {u0 u1 u2 u4 u5 u6 u7 u8 u9 bN bq u16 u17 bC bD u20 u21 u22 u23 u24 u25 u26 u27 u28 u29 u30 u31 u32 u33 u34 u35 u36 u37 u38 dh u40 bX u42 bY u44 u45 u46 di u48 u49 bV u51 u52 u53 bW u55 dz dB u58 u59 u60 dH dG u63 u64 dO u66 dU u68 u69 u70 dV u72 u73 dP u75 eQ eU eX eY eZ fo fq fu fw fE iO jM jC jD lN lQ lS u93 qp qw qy qz qE qF ig ik il iq gQ u105 qG qH qI qJ qK qL qM qN qO qP qQ qR qT u119 qU qV qW qX u124 qY qZ u127 og oh ol u131 om oq ou ow oz oC u138 u139 oD oF oG oH oI oJ oK:Value} (Q:Exit→Act→World→Prop)
  (HC:Hid (ai w qc 23 #[.int .i64 nd,.int .i64 lf,.int .i64 inn,.int .i64 fill,.int .i64 bl])) (HK:Hid (ai w q 106 #[.int .i64 id,l0,.int .i64 lev,h0,.int .i64 rt,k0,v0,.slice dA dn dc]))
  (hi:i<M) (h1:lev=0→kn≤fill∧(i+1<M→kn=fill)∧(1<M→1≤kn)) (h2:lev≠0→i+1<M→dn=inn)
  (au:∀(v75 v76 v77 v78 v79 v80 v81 v82 v83 v84 v85 v86 v87 Fh v89 Fj v91 Fp v93 Uj Uk Ul Um Ns Nt wJ wK wL wM Iz v105 IA v107 IB v109 IC ID IE IG II IJ IK v117 IL IM IP IQ IR IU v124 IV:Value),Q .normal ⟨(u0::u1::u2:: .pointer (some ⟨qc,0,none⟩)::u4::u5::u6::u7::u8::u9:: .int .i64 ((M:Int)-1):: .int .i64 i:: .pointer (some ⟨q,0,none⟩):: .int .i64 kn::bN::bq::u16::u17::bC::bD::u20::u21::u22::u23::u24::u25::u26::u27::u28::u29::u30::u31::u32::u33::u34::u35::u36::u37::u38::dh::u40::bX::u42::bY::u44::u45::u46::di::u48::u49::bV::u51::u52::u53::bW::u55::dz::dB::u58::u59::u60::dH::dG::u63::u64::dO::u66::dU::u68::u69::u70::dV::u72::u73::dP::v75::v76::v77::v78::v79::v80::v81::v82::v83::v84::v85::v86::v87::Fh::v89::Fj::v91::Fp::v93::Uj::Uk::Ul::Um::Ns::Nt::wJ::wK::wL::wM::Iz::v105::IA::v107::IB::v109::IC::ID::IE::IG::II::IJ::IK::v117::IL::IM::IP::IQ::IR::IU::v124::IV:: .bool false::u127::og::oh::ol::u131::om::oq::ou::ow::oz::oC::u138::u139::oD::oF::oG::oH::oI::oJ::oK:: []).toArray,[]⟩ w):
  Code.wp prog PD Q ⟨(u0::u1::u2:: .pointer (some ⟨qc,0,none⟩)::u4::u5::u6::u7::u8::u9:: .int .i64 ((M:Int)-1):: .int .i64 i:: .pointer (some ⟨q,0,none⟩):: .int .i64 kn::bN::bq::u16::u17::bC::bD::u20::u21::u22::u23::u24::u25::u26::u27::u28::u29::u30::u31::u32::u33::u34::u35::u36::u37::u38::dh::u40::bX::u42::bY::u44::u45::u46::di::u48::u49::bV::u51::u52::u53::bW::u55::dz::dB::u58::u59::u60::dH::dG::u63::u64::dO::u66::dU::u68::u69::u70::dV::u72::u73::dP::u75::eQ::eU::eX::eY::eZ::fo::fq::fu::fw::fE::iO::jM::jC::jD::lN::lQ::lS::u93::qp::qw::qy::qz::qE::qF::ig::ik::il::iq::gQ::u105::qG::qH::qI::qJ::qK::qL::qM::qN::qO::qP::qQ::qR::qT::u119::qU::qV::qW::qX::u124::qY::qZ::u127::og::oh::ol::u131::om::oq::ou::ow::oz::oC::u138::u139::oD::oF::oG::oH::oI::oJ::oK:: []).toArray,[]⟩ w:=by
 have dF:=aa au;obtain⟨y0,y1,y2,y3,y4⟩:w.cell? ⟨qc,0,none⟩=some (.int .i64 nd)∧w.cell? ⟨qc,1,none⟩=some (.int .i64 lf)∧w.cell? ⟨qc,2,none⟩=some (.int .i64 inn)∧w.cell? ⟨qc,3,none⟩=some (.int .i64 fill)∧w.cell? ⟨qc,4,none⟩=some (.int .i64 bl):=⟨HC.cell 0,HC.cell 1,HC.cell 2,HC.cell 3,HC.cell 4⟩;have x2:w.cell? ⟨q,2,none⟩=some (.int .i64 lev):=HK.out.cell 2;have x7:w.cell? ⟨q,7,none⟩=some (.slice dA dn dc):=HK.out.cell 7;clear au;conv=>arg 2;whnf
 by_cases hl:lev=0
 ·obtain⟨a1,a2,a3⟩:=h1 hl;have e1:((lev:Int)==0)=true:=by rw [hl];rfl
  have e2:¬(0:Int)<(lev:Int):=by omega
  have e3:¬(fill:Int)<(kn:Int):=by omega
  clear h1 h2 hl
  by_cases hm:i+1<M
  ·have e4:=a2 hm;have e5:=a3 (by omega);have e6:¬(kn:Int)<(fill:Int):=by omega
   have e7:((kn:Int)==0)=false:=by simp;omega
   have e8:(i:Int)<(M:Int)-1:=by omega
   clear a1 a2 a3 e4 e5;go_wp2_with fail
   exact dF _ _ _ _ _ _ _ _ _ _ _ _ _ _ _ _ _ _ _ _ _ _ _ _ _ _ _ _ _ _ _ _ _ _ _ _ _ _ _ _ _ _ _ _ _ _ _ _ _ _ _
  ·have e8:¬(i:Int)<(M:Int)-1:=by omega
   by_cases hz:kn=0
   ·have hM:¬1<M:=fun h=>by have:=a3 h;omega
    have e9:¬(1:Int)<(M:Int):=by omega
    have e10:decide ((1:Int)<(M:Int))=false:=decide_eq_false e9;have e7:((kn:Int)==0)=true:=by rw [hz];rfl
    clear a1 a2 a3 hz;go_wp2_with fail
    exact dF _ _ _ _ _ _ _ _ _ _ _ _ _ _ _ _ _ _ _ _ _ _ _ _ _ _ _ _ _ _ _ _ _ _ _ _ _ _ _ _ _ _ _ _ _ _ _ _ _ _ _
   ·have e7:((kn:Int)==0)=false:=by simp;exact hz
    clear a1 a2 a3;go_wp2_with fail
    exact dF _ _ _ _ _ _ _ _ _ _ _ _ _ _ _ _ _ _ _ _ _ _ _ _ _ _ _ _ _ _ _ _ _ _ _ _ _ _ _ _ _ _ _ _ _ _ _ _ _ _ _
 ·have e1:((lev:Int)==0)=false:=by simp;exact hl
  have e2:(0:Int)<(lev:Int):=by omega
  by_cases hm:i+1<M
  ·have e4:=h2 hl hm;have e5:((dn:Int) !=(inn:Int))=false:=by rw [e4];simp
   have e8:(i:Int)<(M:Int)-1:=by omega
   clear h1 h2 e4;go_wp2_with fail
   exact dF _ _ _ _ _ _ _ _ _ _ _ _ _ _ _ _ _ _ _ _ _ _ _ _ _ _ _ _ _ _ _ _ _ _ _ _ _ _ _ _ _ _ _ _ _ _ _ _ _ _ _
  ·have e8:¬(i:Int)<(M:Int)-1:=by omega
   clear h1 h2;go_wp2_with fail
   exact dF _ _ _ _ _ _ _ _ _ _ _ _ _ _ _ _ _ _ _ _ _ _ _ _ _ _ _ _ _ _ _ _ _ _ _ _ _ _ _ _ _ _ _ _ _ _ _ _ _ _ _
end
section
open Go.Proofs.Tryz
open Go.RowKit Go.Maps
noncomputable def Wj:Code:=aP (f12.body.bind (fC 2))
theorem Qz (D:Nat→Prop) (qc d M c lev fill inn:Nat) (nd lf bl:Int) (B:Option Addr) (X:Nat→Nd) (w:World) {u0 u1 u2 u4 u5 u6 u7 u8 u11 u12 u13 bN bq u16 u17 bC bD u20 u21 u22 u23 u24 u25 u26 u27 u28 u29 u30 u31 u32 u33 u34 u35 u36 u37 u38 dh u40 bX u42 bY u44 u45 u46 di u48 u49 bV u51 u52 u53 bW u55 u59 u60 dH dG u63 u64 dO u66 dU u68 u69 u70 dV u72 u73 dP u75 eQ eU eX eY eZ fo fq fu fw fE iO jM jC jD lN lQ lS u93 qp qw qy qz qE qF ig ik il iq gQ u105 qG qH qI qJ qK qL qM qN qO qP qQ qR qT u119 qU qV qW qX u124 qY qZ u127 og oh ol u131 om oq ou ow oz oC u138 u139 oD oF oG oH oI oJ oK:Value} (Q:Exit→Act→World→Prop)
  (HC:Hid (ai w qc 23 #[.int .i64 nd,.int .i64 lf,.int .i64 inn,.int .i64 fill,.int .i64 bl])) (HL:Hid (sD w D B M ((List.range M).map (iw d X)))) (HP:Hid (Sw fill inn lev M X)) (HV:Hid (∀i,i<M→(X i).lev=(lev:Int))) (HB:Hid (∀i,i<M→(X i).kids.length≤1000)) (hM:M≤100000)
  (au:∀(v4 v11 v12 v13 v58 v59 v60 v61 v62 v63 v64 v65 v66 v67 v68 v69 v70 v71 v72 v73 v74 v75 v76 v77 v78 v79 v80 v81 v82 v83 v84 v85 v86 v87 Fh v89 Fj v91 Fp v93 Uj Uk Ul Um Ns Nt wJ wK wL wM Iz v105 IA v107 IB v109 IC ID IE IG II IJ IK v117 IL IM IP IQ IR IU v124 IV Sy v127:Value) (w':World),Below w.heap.size w w'→Q (.exit 2) ⟨(u0::u1::u2:: .pointer (some ⟨qc,0,none⟩)::v4::u5::u6::u7::u8:: .int .i64 (lz X M):: .int .i64 ((M:Int)-1)::v11::v12::v13::bN::bq::u16::u17::bC::bD::u20::u21::u22::u23::u24::u25::u26::u27::u28::u29::u30::u31::u32::u33::u34::u35::u36::u37::u38::dh::u40::bX::u42::bY::u44::u45::u46::di::u48::u49::bV::u51::u52::u53::bW::u55:: .slice B M c:: .int .i64 M::v58::v59::v60::v61::v62::v63::v64::v65::v66::v67::v68::v69::v70::v71::v72::v73::v74::v75::v76::v77::v78::v79::v80::v81::v82::v83::v84::v85::v86::v87::Fh::v89::Fj::v91::Fp::v93::Uj::Uk::Ul::Um::Ns::Nt::wJ::wK::wL::wM::Iz::v105::IA::v107::IB::v109::IC::ID::IE::IG::II::IJ::IK::v117::IL::IM::IP::IQ::IR::IU::v124::IV::Sy::v127::og::oh::ol::u131::om::oq::ou::ow::oz::oC::u138::u139::oD::oF::oG::oH::oI::oJ::oK:: []).toArray,[]⟩ w'):
  Code.wp prog Wj Q ⟨(u0::u1::u2:: .pointer (some ⟨qc,0,none⟩)::u4::u5::u6::u7::u8:: .int .i64 0:: .int .i64 ((M:Int)-1)::u11::u12::u13::bN::bq::u16::u17::bC::bD::u20::u21::u22::u23::u24::u25::u26::u27::u28::u29::u30::u31::u32::u33::u34::u35::u36::u37::u38::dh::u40::bX::u42::bY::u44::u45::u46::di::u48::u49::bV::u51::u52::u53::bW::u55:: .slice B M c:: .int .i64 M:: .int .i64 0::u59::u60::dH::dG::u63::u64::dO::u66::dU::u68::u69::u70::dV::u72::u73::dP::u75::eQ::eU::eX::eY::eZ::fo::fq::fu::fw::fE::iO::jM::jC::jD::lN::lQ::lS::u93::qp::qw::qy::qz::qE::qF::ig::ik::il::iq::gQ::u105::qG::qH::qI::qJ::qK::qL::qM::qN::qO::qP::qQ::qR::qT::u119::qU::qV::qW::qX::u124::qY::qZ::u127::og::oh::ol::u131::om::oq::ou::ow::oz::oC::u138::u139::oD::oF::oG::oH::oI::oJ::oK:: []).toArray,[]⟩ w:=by
 have dF:=aa au;clear au;conv=>arg 2;whnf
 go_loopg [9,58] M (fun g' ks iv wr=>∃i:Nat,g'=M-i∧i≤M∧iv= .int .i64 i∧ks= .int .i64 (lz X i)∧Below w.heap.size w wr)
 case atStart=>exact⟨0,by omega,by omega,rfl,rfl,Below.refl _ _⟩
 case round=>
  obtain⟨i,hg,hi,rfl,rfl,hb⟩:=hrel;have HG:=aa hg;have ek:=aa hb
  rename World=>wr
  clear hg hb
  by_cases hil:i<M
  ·have SE:(i:Int)<(M:Int):=by omega
   obtain⟨b2,o2,⟨id,oP,x⟩,lB,hA,kA,vA,dA,lm,ld,hn',hc,kn,kc,vn,vc,dn,dc,hB2,_,hk',e0,e1,e2,e3,e4,e5,e6,e7,_,hv⟩:=(HL.out.below ek).at_ (j:=i) hil
   have hkk:(id,oP,x)=iw d X i:=by
    rw [kM hil] at hk';injection hk' with hk';exact hk'.symm
   dsimp only at e0 e2 e4 hv;have jY:x=X i:=congrArg (fun k:Lk=>k.2.2) hkk;have hkn:kn=(X i).keys.length:=by rw [hv.k.len,jY]
   have hdn:dn=(X i).kids.length:=by rw [hv.d.len,jY]
   have hlv:x.lev=(lev:Int):=by rw [jY];exact HV i hil
   rw [hlv] at e2;have hp:=HP.out i hil;rw [←hkn,←hdn] at hp;have UO:=aa hp;have hks:lz X i+dn=lz X (i+1):=by rw [xJ,hdn]
   have hkb:lz X (i+1)≤(i+1)*1000:=Py X (fun j hj=>HB j (by omega));have Wk:(lz X i:Int)+(dn:Int)=(lz X (i+1):Int):=by omega
   have hi5:=IntWalk.i64_in ((lz X i:Int)+(dn:Int)) (by omega);have xZ:=aa Wk;subst hB2;obtain⟨wx,hwx⟩:∃W,W=wr.alloc (.cells #[.int .i64 id,.slice lB lm ld,.int .i64 lev,.slice hA hn' hc,.int .i64 x.right,.slice kA kn kc,.slice vA vn vc,.slice dA dn dc] 106):=⟨_,rfl⟩;have iC:Hid (Below wr.heap.size wr wx):=aa (by rw [hwx];exact(Below.refl _ _).alloc (Nat.le_refl _) _);have Fu:Hid (ai wx wr.heap.size 106 #[.int .i64 id,.slice lB lm ld,.int .i64 lev,.slice hA hn' hc,.int .i64 x.right,.slice kA kn kc,.slice vA vn vc,.slice dA dn dc]):=aa (by rw [hwx];exact ai.new _ _ _);clear hk' hkk jY hv hkn hdn hlv hp hks hkb Wk;go_upto_region 12 with fail
   rw [←hwx];clear hwx e0 e1 e2 e3 e4 e5 e6 e7;have x5:wx.cell? ⟨wr.heap.size,5,none⟩=some (.slice kA kn kc):=Fu.out.cell 5;have x7:wx.cell? ⟨wr.heap.size,7,none⟩=some (.slice dA dn dc):=Fu.out.cell 7;go_upto_region 14 with fail
   refine Pz qc wr.heap.size i M kn dn lev fill inn nd lf bl id x.right _ _ _ _ dA dc wx _ (aa (HC.below (ek.out.trans (iC.mono ek.size)))) Fu hil UO.1 UO.2 ?_;intro v75 v76 v77 v78 v79 v80 v81 v82 v83 v84 v85 v86 v87 Fh v89 Fj v91 Fp v93 Uj Uk Ul Um Ns Nt wJ wK wL wM Iz v105 IA v107 IB v109 IC ID IE IG II IJ IK v117 IL IM IP IQ IR IU v124 IV;go_wp2_with fail
   go_roundg (M-(i+1))
   case measure=>have:=HG.out;omega
   case rel=>exact⟨i+1,rfl,by omega,by go_num,congrArg (Value.int .i64) xZ,ek.out.trans (iC.mono ek.size)⟩
  ·have SE:¬(i:Int)<(M:Int):=by omega
   obtain rfl:i=M:=by omega
   go_wp2;exact dF _ _ _ _ _ _ _ _ _ _ _ _ _ _ _ _ _ _ _ _ _ _ _ _ _ _ _ _ _ _ _ _ _ _ _ _ _ _ _ _ _ _ _ _ _ _ _ _ _ _ _ _ _ _ _ _ _ _ _ _ _ _ _ _ _ _ _ _ _ _ _ _ _ _ _ ek
theorem SF (A:Option Addr) (n c:Nat) (w:World) (hn:1≤n):Calls prog 35 #[.slice A n c] w fun e w'=>e= .returned (.bool false)∧w=w':=by
 have h:((n:Int)==0)=false:=by simp;omega
 go_enter func35,ntmps35
 go_wp2;go_ret
 exact⟨rfl,rfl⟩
theorem MV (D:Nat→Prop) (A:Option Addr) (n c:Nat) (g:Nat→List Lk) (w:World) (h:jN w D A n g) (hn:n≤100000) (hg:∀t,t<n→1≤(g t).length):
  Calls prog 59 #[.slice A n c,.func (.func 35) #[] #[]] w fun e w'=>e= .returned (.int .i64 (-1))∧w=w':=by
 have HT:=aa h;have HP:=aa hg;clear h hg;go_enter func59,ntmps59
 go_wp2
 go_loopg [8] n (fun g' iv wr=>∃i:Nat,g'=n-i∧i≤n∧iv= .int .i64 i∧wr=w)
 case atStart=>exact⟨0,by omega,by omega,rfl,rfl⟩
 case round=>
  obtain⟨i,hg,hi,rfl,rfl⟩:=hrel;have HG:=aa hg;clear hg
  by_cases hlt:i<n
  ·have hlt':(i:Int)<(n:Int):=by omega
   obtain⟨b,o,B,c',rfl,_,c1,_⟩:=HT.out.at_ (t:=i) hlt;have hl:=HP.out i hlt;go_wp2_with (go_at_call 35;go_loud (refine(SF B (g i).length c' _ hl).mono ?_);rintro e w' ⟨rfl,rfl⟩)
   go_roundg (n-(i+1))
   case measure=>have:=HG.out;omega
   case rel=>exact⟨i+1,rfl,by omega,by go_num,rfl⟩
  ·have hlt':¬(i:Int)<(n:Int):=by omega
   go_wp2;go_ret
   exact⟨rfl,rfl⟩
theorem sM (D:Nat→Prop) (A:Option Addr) (n c:Nat) (g:Nat→List Lk) (w:World) (h:jN w D A n g) (hn:n≤100000) (hg:∀t,t<n→1≤(g t).length):
  Calls prog 34 #[.slice A n c,.func (.func 35) #[] #[]] w fun e w'=>e= .returned (.bool false)∧w=w':=by
 have HT:=aa h;have HP:=aa hg;clear h hg;go_enter func34,ntmps34
 go_wp2_with (go_at_call 59;refine(MV D A n c g _ HT hn HP).mono ?_;rintro e w' ⟨rfl,rfl⟩)
 go_ret
 exact⟨rfl,rfl⟩
end
section
open Go.Proofs.Tryz
open Go.RowKit Go.Maps
theorem CZ (F:Nat→Prop) (p:Nat) (nodes root:Int) (sl:List bB) (nd lf bl:Int) (inn fill L:Nat) (N d:Nat→Nat) (X:Nat→Nat→Nd) (w:World) (hx:gm w F p nodes sl root) (hn:sl.length≤65536) (hF:∀b,F b→b<w.heap.size) (hc':aY nd lf inn fill bl)
  (ht:ji sl root nd lf inn L N d X) (hpk:∀k,k≤L→Sw fill inn k (N k) (X k)) (hks:∀k,k<L→lz (X (k+1)) (N (k+1))=N k) (htop:0<L→2≤(X L 0).kids.length):
  Calls prog 12 #[.pointer (some ⟨p,0,none⟩),.agg #[.int .i64 nd,.int .i64 lf,.int .i64 inn,.int .i64 fill,.int .i64 bl]] w fun e w'=>e= .returned (.bool true)∧Below w.heap.size w w':=by
 have HX:=aa hx;have HT:=aa ht;have HC:=aa hc';have HF:=aa hF;have EW:=aa hpk;have xZ:=aa hks;have LV:=ht.deep;have HB0:Hid (Below w.heap.size w (w.alloc (.cells #[.int .i64 nd,.int .i64 lf,.int .i64 inn,.int .i64 fill,.int .i64 bl] 23))):=aa ((Below.refl _ _).alloc (Nat.le_refl _) _);have O3:Hid (ai (w.alloc (.cells #[.int .i64 nd,.int .i64 lf,.int .i64 inn,.int .i64 fill,.int .i64 bl] 23)) w.heap.size 23 #[.int .i64 nd,.int .i64 lf,.int .i64 inn,.int .i64 fill,.int .i64 bl]):=aa (ai.new _ _ _);clear hx hF hc' ht hpk hks;go_enter func12,ntmps12
 go_upto_region 2 with(go_at_call 31;go_loud (refine(vC F p nodes root sl nd lf fill bl inn L N d X _ (HX.below HB0) hn (fun b hb=>by have:=HF.out b hb;simp;omega) HC HT).mono ?_);rintro e w1 ⟨A,c,rfl,q1,q2,ha1,hb1⟩;have HA1:=aa ha1.lt;have HB1:=aa (HB0.out.trans (hb1.mono HB0.size));have lL:=aa (O3.below hb1);clear ha1 hb1)
 obtain⟨w2,hw2⟩:∃W,W=w1.alloc (.cells #[.int .i64 0,.int .i64 0] 94):=⟨_,rfl⟩;rw [←hw2];have Ij:Below w1.heap.size w1 w2:=by rw [hw2];exact(Below.refl _ _).alloc (Nat.le_refl _) _
 have HA2:=aa (HA1.below Ij);have iH:=aa (lL.below Ij);have HB2:=aa (HB1.out.trans (Ij.mono HB1.size));clear hw2 Ij HA1 lL HB1 O3 HB0;obtain⟨b0,o0,B0,cB0,Ue,_,c0,hl0⟩:=HA2.out.at_ (t:=0) (by omega);subst Ue;rw [Nat.add_zero] at c0;rw [Nat.sub_zero] at c0 hl0;rw [bU,HT.out.top] at c0 hl0;obtain⟨b,o,lk,_,_,_,_,ZM,_,_,_,_,_,_,_,_,L8,VQ,hB0,_,hlk,_,_,_,_,_,_,_,c7,_,L9⟩:=hl0.at_ (j:=0) (by omega)
 have Ma:lk=iw (d L) (X L) 0:=by
  rw [show(fM N d X L)[0]? =some (iw (d L) (X L) 0) from kM (by rw [HT.out.top];omega)] at hlk;injection hlk with hlk;exact hlk.symm
 subst hB0 Ma;have hdn:L8=(X L 0).kids.length:=L9.d.len;rw [Nat.zero_mul,Nat.add_zero] at c7;have c7':w2.cell? ⟨b,o+2+3+2,none⟩=some (.slice ZM L8 VQ):=c7;have hw1:=IntWalk.i64_in ((L:Int)+1) (by omega);have hnil:=fun(w:World)=>nP w ⟨b0,o0,none⟩ (L+1) c;have hsl:=hn
 by_cases hL:0<L
 ·have h2:=htop hL;have h3:(1:Int)<(L:Int)+1:=by omega
  have h4:¬(L8:Int)<2:=by omega
  have h5:(0:Int)<(L:Int):=by omega
  clear hl0 hlk L9 hdn htop h2;go_wp2_with fail
  go_loopg [48] (L+1) (fun g' iv wr=>∃j:Nat,g'=L+1-j∧j≤L+1∧iv= .int .i64 j∧jN wr (fun b=>b<w1.heap.size) (some ⟨b0,o0,none⟩) (L+1) (fun t=>fM N d X (L-t))∧ai wr w.heap.size 23 #[.int .i64 nd,.int .i64 lf,.int .i64 inn,.int .i64 fill,.int .i64 bl]∧Below w.heap.size w wr)
  case atStart=>exact⟨0,by omega,by omega,rfl,HA2,iH,HB2⟩
  case round=>
   obtain⟨j,hg,hj,rfl,ha,hk,hb⟩:=hrel;have HG:=aa hg;have HA:=aa ha;have HK:=aa hk;have HB:=aa hb
   rename World=>wr
   clear hg ha hk hb HA2 iH HB2
   by_cases hlt:j<L+1
   ·have hlt':(j:Int)<(L:Int)+1:=by omega
    obtain⟨b,o,B,cB,BQ,_,c1,hl⟩:=HA.out.at_ (t:=j) hlt;rw [bU] at c1 hl;injection BQ with BQ
    injection BQ with hb1 hb2
    subst hb1 hb2;have HL:=aa hl;have hNj:=HT.out.fit (k:=L-j) (by omega);have aa9:N (L-j)≤65536:=by omega
    have hw2:=IntWalk.i64_in ((N (L-j):Int)-1) (by omega);clear hl;go_wp2_with fail
    refine Qz _ w.heap.size (d (L-j)) (N (L-j)) cB (L-j) fill inn nd lf bl B (X (L-j)) wr _ HK HL (aa (EW (L-j) (by omega))) (aa (fun i hi=>(HT.lv (L-j) (by omega)).lev i hi)) (aa (fun i hi=>HT.klen (L-j) i (by omega) hi)) (by omega) ?_;intro v4 v11 v12 v13 v58 v59 v60 v61 v62 v63 v64 v65 v66 v67 v68 v69 v70 v71 v72 v73 v74 v75 v76 v77 v78 v79 v80 v81 v82 v83 v84 v85 v86 v87 Fh v89 Fj v91 Fp v93 Uj Uk Ul Um Ns Nt wJ wK wL wM Iz v105 IA v107 IB v109 IC ID IE IG II IJ IK v117 IL IM IP IQ IR IU v124 IV Sy v127 w9 wI;have Sz:=aa (HA.below wI);have Sl:=aa (HK.below wI);have xm:=aa (HB.out.trans (wI.mono HB.size));clear wI
    by_cases hj1:j+1<L+1
    ·obtain⟨b',o',B',cB',Eu,_,c2,_⟩:=Sz.out.at_ (t:=j+1) hj1;rw [bU] at c2;injection Eu with Eu
     injection Eu with hb3 hb4
     subst hb3 hb4;have hks:=xZ.out (L-(j+1)) (by omega);rw [show L-(j+1)+1=L-j by omega] at hks;have hne:((lz (X (L-j)) (N (L-j)):Int) !=(N (L-(j+1)):Int))=false:=by rw [hks];simp
     have hlt1:(j:Int)+1<(L:Int)+1:=by omega
     have hlt2:(j:Int)<(L:Int):=by omega
     have hw3:=IntWalk.i64_in ((j:Int)+1) (by omega);have hlt3:0≤(j:Int)+1:=by omega
     have ab0:((j:Int)+1).toNat=j+1:=by omega
     clear hks;go_wp2_with fail
     go_roundg (L+1-(j+1))
     case measure=>have:=HG.out;omega
     case rel=>exact⟨j+1,rfl,by omega,by go_num,Sz,Sl,xm⟩
    ·have hlt1:¬(j:Int)+1<(L:Int)+1:=by omega
     have hlt2:¬(j:Int)<(L:Int):=by omega
     have hw3:=IntWalk.i64_in ((j:Int)+1) (by omega);go_wp2_with fail
     go_roundg (L+1-(j+1))
     case measure=>have:=HG.out;omega
     case rel=>exact⟨j+1,rfl,by omega,by go_num,Sz,Sl,xm⟩
   ·have hlt':¬(j:Int)<(L:Int)+1:=by omega
    go_wp2_with (go_at_call 34;go_loud (refine(sM _ _ (L+1) _ _ _ HA (by omega) (fun t ht=>by rw [bU];exact HT.pos (L-t))).mono ?_);rintro e w' ⟨rfl,rfl⟩)
    go_ret
    exact⟨rfl,HB⟩
 ·have h3:¬(1:Int)<(L:Int)+1:=by omega
  have h5:¬(0:Int)<(L:Int):=by omega
  clear hl0 hlk L9 hdn htop;go_wp2_with fail
  go_loopg [48] (L+1) (fun g' iv wr=>∃j:Nat,g'=L+1-j∧j≤L+1∧iv= .int .i64 j∧jN wr (fun b=>b<w1.heap.size) (some ⟨b0,o0,none⟩) (L+1) (fun t=>fM N d X (L-t))∧ai wr w.heap.size 23 #[.int .i64 nd,.int .i64 lf,.int .i64 inn,.int .i64 fill,.int .i64 bl]∧Below w.heap.size w wr)
  case atStart=>exact⟨0,by omega,by omega,rfl,HA2,iH,HB2⟩
  case round=>
   obtain⟨j,hg,hj,rfl,ha,hk,hb⟩:=hrel;have HG:=aa hg;have HA:=aa ha;have HK:=aa hk;have HB:=aa hb
   rename World=>wr
   clear hg ha hk hb HA2 iH HB2
   by_cases hlt:j<L+1
   ·have hlt':(j:Int)<(L:Int)+1:=by omega
    obtain⟨b,o,B,cB,BQ,_,c1,hl⟩:=HA.out.at_ (t:=j) hlt;rw [bU] at c1 hl;injection BQ with BQ
    injection BQ with hb1 hb2
    subst hb1 hb2;have HL:=aa hl;have hNj:=HT.out.fit (k:=L-j) (by omega);have aa9:N (L-j)≤65536:=by omega
    have hw2:=IntWalk.i64_in ((N (L-j):Int)-1) (by omega);clear hl;go_wp2_with fail
    refine Qz _ w.heap.size (d (L-j)) (N (L-j)) cB (L-j) fill inn nd lf bl B (X (L-j)) wr _ HK HL (aa (EW (L-j) (by omega))) (aa (fun i hi=>(HT.lv (L-j) (by omega)).lev i hi)) (aa (fun i hi=>HT.klen (L-j) i (by omega) hi)) (by omega) ?_;intro v4 v11 v12 v13 v58 v59 v60 v61 v62 v63 v64 v65 v66 v67 v68 v69 v70 v71 v72 v73 v74 v75 v76 v77 v78 v79 v80 v81 v82 v83 v84 v85 v86 v87 Fh v89 Fj v91 Fp v93 Uj Uk Ul Um Ns Nt wJ wK wL wM Iz v105 IA v107 IB v109 IC ID IE IG II IJ IK v117 IL IM IP IQ IR IU v124 IV Sy v127 w9 wI;have Sz:=aa (HA.below wI);have Sl:=aa (HK.below wI);have xm:=aa (HB.out.trans (wI.mono HB.size));clear wI
    by_cases hj1:j+1<L+1
    ·obtain⟨b',o',B',cB',Eu,_,c2,_⟩:=Sz.out.at_ (t:=j+1) hj1;rw [bU] at c2;injection Eu with Eu
     injection Eu with hb3 hb4
     subst hb3 hb4;have hks:=xZ.out (L-(j+1)) (by omega);rw [show L-(j+1)+1=L-j by omega] at hks;have hne:((lz (X (L-j)) (N (L-j)):Int) !=(N (L-(j+1)):Int))=false:=by rw [hks];simp
     have hlt1:(j:Int)+1<(L:Int)+1:=by omega
     have hlt2:(j:Int)<(L:Int):=by omega
     have hw3:=IntWalk.i64_in ((j:Int)+1) (by omega);have hlt3:0≤(j:Int)+1:=by omega
     have ab0:((j:Int)+1).toNat=j+1:=by omega
     clear hks;go_wp2_with fail
     go_roundg (L+1-(j+1))
     case measure=>have:=HG.out;omega
     case rel=>exact⟨j+1,rfl,by omega,by go_num,Sz,Sl,xm⟩
    ·have hlt1:¬(j:Int)+1<(L:Int)+1:=by omega
     have hlt2:¬(j:Int)<(L:Int):=by omega
     have hw3:=IntWalk.i64_in ((j:Int)+1) (by omega);go_wp2_with fail
     go_roundg (L+1-(j+1))
     case measure=>have:=HG.out;omega
     case rel=>exact⟨j+1,rfl,by omega,by go_num,Sz,Sl,xm⟩
   ·have hlt':¬(j:Int)<(L:Int)+1:=by omega
    go_wp2_with (go_at_call 34;go_loud (refine(sM _ _ (L+1) _ _ _ HA (by omega) (fun t ht=>by rw [bU];exact HT.pos (L-t))).mono ?_);rintro e w' ⟨rfl,rfl⟩)
    go_ret
    exact⟨rfl,HB⟩
end
end Go.Proofs.YtbjgeidjmhialaaGreatDoor
