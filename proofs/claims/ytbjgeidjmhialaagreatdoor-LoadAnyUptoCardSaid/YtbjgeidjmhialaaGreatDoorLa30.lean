/- Part 30. -/
import Derived.Test.YtbjgeidjmhialaaGreatDoorLa29
import Derived.RangeFuncBox
import Derived.OwnWalkIn
import Derived.RangeFuncNested
import Derived.RangeFuncBound
import Derived.RangeFuncCalls
import Derived.RangeFuncLeaves
import Derived.Shelf.Abstract
import Derived.Shelf.RegionOpen
import Derived.TacticsInMore
import Derived.LoopNIn
import Derived.LoopIn
namespace Go.Proofs.YtbjgeidjmhialaaGreatDoor
set_option maxRecDepth 100000
set_option maxHeartbeats 8000000
section
open Go.Proofs.Tryz
open Go.RowKit
def iK (nd lf inn fl bl:Int):Nat→bg→bg
 |0,m=>m
 |k+1,m=>(iK nd lf inn fl bl k m).step nd lf inn fl bl
theorem rE {nd lf inn fl bl:Int} {m:bg} {k:Nat} (h:(iK nd lf inn fl bl k m).done=true):∀j,iK nd lf inn fl bl (k+j) m=iK nd lf inn fl bl k m
 |0=>rfl
 |j+1=>by
  show(iK nd lf inn fl bl (k+j) m).step nd lf inn fl bl=_;rw [rE h j,bg.step_done h]
def BC (nd lf inn fl bl:Int) (m mf:bg):Prop:=∃k,mf=iK nd lf inn fl bl k m∧mf.done=true
theorem BC.unique {nd lf inn fl bl:Int} {m a b:bg} (h1:BC nd lf inn fl bl m a) (h2:BC nd lf inn fl bl m b):a=b:=by
 obtain⟨k,rfl,d1⟩:=h1;obtain⟨j,rfl,d2⟩:=h2
 rcases Nat.le_total k j with h|h
 ·obtain⟨i,rfl⟩:=Nat.exists_eq_add_of_le h
  exact(rE d1 i).symm
 ·obtain⟨i,rfl⟩:=Nat.exists_eq_add_of_le h;exact rE d2 i
theorem FF {nd lf inn fl bl:Int} {K:Nat} {m:bg} (h:m.Ok nd lf inn fl bl K):∀k,(iK nd lf inn fl bl k m).Ok nd lf inn fl bl K
 |0=>h
 |k+1=>bg.step_ok (FF h k)
theorem pY.low {w:World} {s t:Nat} {v:Value} {nd:Int} {x:Option (List bB×Int)} (h:pY w t v nd x) (hs:s≤t):pY w s v nd x:=by
 rcases h with h|⟨x,a,h1,h2,h3⟩
 ·exact .inl h
 ·exact .inr ⟨x,a,h1,h2,h3.weak (fun b hb=>Nat.le_trans hs hb)⟩
theorem yD.low {w:World} {s t:Nat} {v:Value} {e a:Int} (h:yD w t v e a) (hs:s≤t):yD w s v e a:=by
 rcases h with h|⟨h,g,h1,h2,h3⟩
 ·exact .inl h
 ·exact .inr ⟨h,g,h1,h2,Nat.le_trans hs h3⟩
def VJ (F:Nat→Prop) (p:Nat) (nd lf inn fl bl:Int) (s:Src) (w:World) (e:Ending) (w':World):Prop:=
 ∃mf tv ev,BC nd lf inn fl bl (eG s) mf∧e= .returned (.tuple #[tv,ev])∧pY w' w.heap.size tv nd mf.tree∧yD w' w.heap.size ev mf.err (mf.bad:Nat)∧fU w' F p mf.rdr.cur.src∧ag (fun b=>b=p) w w'
theorem D3 (F:Nat→Prop) (mp p s:Nat) (nd:Int) (m:bg) (w:World) (h:DX w F mp p s nd m):
  Calls prog 21 #[.pointer (some ⟨mp,0,none⟩)] w fun e w'=>∃tv ev k,e= .returned (.tuple #[tv,ev])∧w'=w.drewN k∧pY w s tv nd m.tree∧yD w s ev m.err (m.bad:Nat):=by
 obtain⟨v0,v1,tv,ev,hb,he,ht⟩:=h.mblk;have HE:=aa he;have HT:=aa ht;have x3:w.cell? ⟨mp,3,none⟩=some tv:=hb.cell 3;have x4:w.cell? ⟨mp,4,none⟩=some ev:=hb.cell 4;clear h hb he ht;go_enter func21,ntmps21
 go_upto_region 1 with fail
 go_quiet (fail);go_wp2;go_ret2
 exact⟨tv,ev,nq,rfl,rfl,HT,HE⟩
theorem EV (F:Nat→Prop) (p:Nat) (nd lf inn fl bl:Int) (s:Src) (w:World) (hc:aY nd lf inn fl bl) (hs:fU w F p s) (ho:rX s) (hp:p<w.heap.size) (hF:∀b,F b→b<w.heap.size∧b≠p):
  Calls prog 6 #[.agg #[.int .i64 nd,.int .i64 lf,.int .i64 inn,.int .i64 fl,.int .i64 bl],.iface 35 (.pointer (some ⟨p,0,none⟩))] w (VJ F p nd lf inn fl bl s w):=by
 refine letter fun R HR=> ?_;obtain⟨w0,hw0⟩:∃W,W=w.alloc (.cells #[.int .i64 nd,.int .i64 lf,.int .i64 inn,.int .i64 fl,.int .i64 bl] 23):=⟨_,rfl⟩;have hb0:Below w.heap.size w w0:=by rw [hw0];exact(Below.refl _ _).alloc (Nat.le_refl _) _
 have HB0:=aa hb0;have O3:Hid (ai w0 w.heap.size 23 #[.int .i64 nd,.int .i64 lf,.int .i64 inn,.int .i64 fl,.int .i64 bl]):=aa (by rw [hw0];exact ai.new _ _ _);have s0:=hb0.size;have HN:=aa (O1 F p nd lf inn fl bl s w0 hc (hs.below hb0) ho (by omega) (fun b hb=>⟨by have:=(hF b hb).1;omega,(hF b hb).2⟩));have AM:=aa (l9 ho hc);have CF:=aa hF;have HPW:=aa hp;clear hs ho hF hp hc;go_enter func6,ntmps6
 go_upto_region 1 with fail
 rw [←hw0];clear hw0 hb0;obtain⟨z0,z1,z2,z3,z4⟩:=fK O3;go_upto_region 2 with(go_at_call 18;go_loud (refine HN.mono ?_);rintro e w1 ⟨Fb0,mp,z,q,pb,base,hv0,rfl,h1,h2,h3⟩;have H1:=aa h1;have H2:=aa h2;have H3:Hid (∀b,XS mp z q p Nil Fb0 b→b=p∨w.heap.size≤b):=aa (fun b hb=>(h3 b hb).imp id (fun h=>by omega));clear h1 h2 h3)
 clear z0 z1 z2 z3 z4;have HB1:Hid (Below w.heap.size w w1):=aa (HB0.out.trans (H2.mono s0));go_wp2
 go_loopg [] 1152921504607 (fun g' wz=>∃(k:Nat) (Dr Fb:Nat→Prop) (hv:Nat) (A:Option Addr) (n cc:Nat) (us:List Value),g'=1152921504607-(iK nd lf inn fl bl k (eG s)).rdr.cur.at_∧Hid (LX wz F Dr Fb mp z q p pb base hv A n cc us nd lf inn fl bl 17825808 (iK nd lf inn fl bl k (eG s)))∧Hid (ag (fun b=>b=p) w wz)∧Hid (∀b,XS mp z q p Dr Fb b→b=p∨w.heap.size≤b))
 case atStart=>exact⟨0,Nil,Fb0,hv0,none,0,0,[],by simp [iK,eG],H1,aa (ag.of_below HB1),H3⟩
 case round=>
  obtain⟨k,Dr,Fb,hv,A,n,cc,us,hg,HX,HC,On⟩:=hrel;have HG:=aa hg;have HST:=aa (Hu F Dr Fb mp z q p pb base hv A n cc us nd lf inn fl bl 17825808 _ wr HX (by omega));obtain⟨m',hm'⟩:∃m',m'=iK nd lf inn fl bl (k+1) (eG s):=⟨_,rfl⟩;have VK:=aa hm';rw [show(iK nd lf inn fl bl k (eG s)).step nd lf inn fl bl=m' by rw [hm'];rfl] at HST;have Qj:w.heap.size≤wr.heap.size:=HC.out.size;clear hg hm'
  cases hd:m'.done with
  |false=>
   have HD:=aa hd;clear hd;go_wp2_with (go_at_call 20;go_loud (refine HST.mono ?_);intro e w2 hs;obtain⟨hr,hc2,ho2⟩:=hs;rw [HD.out] at hr;subst hr;have bI:=aa hc2;have iV:=aa ho2;clear hc2 ho2)
   rcases iV.out with⟨_,XF,XG,hv',A',n',pu,lh,hx,hd1,hd2⟩|hx
   ·go_roundg (1152921504607-m'.rdr.cur.at_)
    case measure=>
     have h1:=bg.step_at (FF AM k) HX.go (by show(iK nd lf inn fl bl (k+1) (eG s)).done=false;rw [←VK.out];exact HD);have h2:=HG.out;have h3:(iK nd lf inn fl bl k (eG s)).step nd lf inn fl bl=m':=by rw [VK.out];rfl
     rw [h3] at h1
     omega
    case rel=>
     refine⟨k+1,XF,XG,hv',A',n',pu,lh,by rw [VK.out],aa (by rw [←VK.out];exact hx),aa (HC.out.trans bI (fun b hb e=>(On b e).elim id (fun h=>by omega))),aa (fun b hb=> ?_)⟩
     rcases hb with hb|hb|hb|hb|hb|hb
     ·exact On b (.inl hb)
     ·exact On b (.inr (.inl hb))
     ·exact On b (.inr (.inr (.inl hb)))
     ·exact On b (.inr (.inr (.inr (.inl hb))))
     ·exact(hd1 b hb).elim (fun h=>On b (.inr (.inr (.inr (.inr (.inl h)))))) (fun h=> .inr (by omega))
     ·exact(hd2 b hb).elim (fun h=>On b (.inr (.inr (.inr (.inr (.inr h)))))) (fun h=> .inr (by omega))
   ·exact absurd hx.done (by rw [HD.out];decide)
  |true=>
   have HD:=aa hd;clear hd;go_upto_region 5 with(go_at_call 20;go_loud (refine HST.mono ?_);intro e w2 hs;obtain⟨hr,hc2,ho2⟩:=hs;rw [HD.out] at hr;subst hr;have bI:=aa hc2;have HDX:Hid (DX w2 F mp p wr.heap.size nd m'):=aa (ho2.resolve_left (fun h=>by rw [HD.out] at h;exact absurd h.1 (by decide)));clear hc2 ho2)
   have HAN:=aa (D3 F mp p wr.heap.size nd m' w2 HDX);go_wp2_with (go_at_call 21;go_loud (refine HAN.mono ?_);rintro e w3 ⟨tv,ev,kk,rfl,rfl,h1,h2⟩;have HT:=aa h1;have HE:=aa h2;clear h1 h2)
   rw [HR.out];have hdn:ag Nil w2 (w2.drewN kk):=(ag.refl Nil w2).drewN kk;exact⟨m',tv,ev,⟨k+1,VK,HD⟩,rfl,(HT.low Qj).chg hdn (fun _ _ h=>h),(HE.low Qj).chg hdn (fun _ _ h=>h),HDX.src.nil hdn,(HC.out.trans bI (fun b hb e=>(On b e).elim id (fun h=>by omega))).trans hdn (fun _ _ h=>h.elim)⟩
end
section
open Go.Proofs.Tryz
open Go.RowKit
noncomputable def Yn:Code:=aP (f3.body.bind (aA 3))
def Nk (cB fB:Nat) (nd lf inn fl bl f:Int) (bA gA:Option Addr) (bn bc gn gc:Nat) (ea:Bool) (w:World):Prop:=
 (w.cell? ⟨cB,0,none⟩=some (.int .i64 nd)∧w.cell? ⟨cB,1,none⟩=some (.int .i64 lf)∧w.cell? ⟨cB,2,none⟩=some (.int .i64 inn)∧w.cell? ⟨cB,3,none⟩=some (.int .i64 fl)∧w.cell? ⟨cB,4,none⟩=some (.int .i64 bl))∧
 (w.cell? ⟨fB,0,none⟩=some (.slice bA bn bc)∧w.cell? ⟨fB,1,none⟩=some (.slice gA gn gc)∧w.cell? ⟨fB,2,none⟩=some (.int .i64 f)∧w.cell? ⟨fB,3,none⟩=some (.bool ea))
theorem NM (cB fB:Nat) (nd lf inn fl bl f:Int) (bA gA:Option Addr) (bn bc gn gc:Nat) (ea:Bool) (w:World) {u0 u1 u2 u4 u5 u7 u8 u9 u10 u11 u12 u13 bN bq u16 u17 bC bD u20 u21 u22 u23 u24 u25 u26 u27 u28 u29 u30 u31 u32 u33 u34 u35 u36 u37 u38 dh u40 bX u42 bY u44 u45 u46 di u48 u49 bV u51 u52 u53 bW u55 dz dB u58 u59 u60 dH dG u63 u64 dO u66 dU u68 u69 u70 dV u72 u73 dP u75 eQ eU eX eY eZ fo fq fu fw fE iO jM jC jD lN lQ lS u93 qp qw qy qz qE qF ig ik il iq gQ u105 qG qH qI qJ qK qL qM qN qO qP qQ qR qT u119 qU qV qW qX u124 qY qZ u127 og oh ol u131 om oq ou ow oz oC u138 u139 oD oF oG oH oI oJ oK yc:Value} (Q:Exit→Act→World→Prop) (nC:Hid (∀c t (a:Act) w,Q (.panic c) ⟨t,a.defers⟩ w→Q (.panic c) a w))
  (hS:Nk cB fB nd lf inn fl bl f bA gA bn bc gn gc ea w)
  (tK:Hid (Calls prog 7 #[.agg #[.slice bA bn bc,.slice gA gn gc,.int .i64 f,.bool ea]] w.drew fun e w2=>∃p,e= .returned (.pointer (some ⟨p,0,none⟩))∧Nk cB fB nd lf inn fl bl f bA gA bn bc gn gc ea w2∧
   Calls prog 6 #[.agg #[.int .i64 nd,.int .i64 lf,.int .i64 inn,.int .i64 fl,.int .i64 bl],.iface 35 (.pointer (some ⟨p,0,none⟩))] w2 fun e3 w3=>∃tv ev,e3= .returned (.tuple #[tv,ev])∧Nk cB fB nd lf inn fl bl f bA gA bn bc gn gc ea w3∧
    ∀(v21 v22 v23 v24 v25 v26 v27 v28:Value),Q .normal ⟨(u0::u1::u2:: .pointer (some ⟨fB,0,none⟩)::u4::u5:: .pointer (some ⟨cB,0,none⟩)::tv::ev::u9::u10::u11::u12::u13::bN::bq::u16::u17::bC::bD::u20::v21::v22::v23::v24::v25::v26::v27::v28::u29::u30::u31::u32::u33::u34::u35::u36::u37::u38::dh::u40::bX::u42::bY::u44::u45::u46::di::u48::u49::bV::u51::u52::u53::bW::u55::dz::dB::u58::u59::u60::dH::dG::u63::u64::dO::u66::dU::u68::u69::u70::dV::u72::u73::dP::u75::eQ::eU::eX::eY::eZ::fo::fq::fu::fw::fE::iO::jM::jC::jD::lN::lQ::lS::u93::qp::qw::qy::qz::qE::qF::ig::ik::il::iq::gQ::u105::qG::qH::qI::qJ::qK::qL::qM::qN::qO::qP::qQ::qR::qT::u119::qU::qV::qW::qX::u124::qY::qZ::u127::og::oh::ol::u131::om::oq::ou::ow::oz::oC::u138::u139::oD::oF::oG::oH::oI::oJ::oK::yc:: []).toArray,[]⟩ w3)):
  Code.wp prog Yn Q ⟨(u0::u1::u2:: .pointer (some ⟨fB,0,none⟩)::u4::u5:: .pointer (some ⟨cB,0,none⟩)::u7::u8::u9::u10::u11::u12::u13::bN::bq::u16::u17::bC::bD::u20::u21::u22::u23::u24::u25::u26::u27::u28::u29::u30::u31::u32::u33::u34::u35::u36::u37::u38::dh::u40::bX::u42::bY::u44::u45::u46::di::u48::u49::bV::u51::u52::u53::bW::u55::dz::dB::u58::u59::u60::dH::dG::u63::u64::dO::u66::dU::u68::u69::u70::dV::u72::u73::dP::u75::eQ::eU::eX::eY::eZ::fo::fq::fu::fw::fE::iO::jM::jC::jD::lN::lQ::lS::u93::qp::qw::qy::qz::qE::qF::ig::ik::il::iq::gQ::u105::qG::qH::qI::qJ::qK::qL::qM::qN::qO::qP::qQ::qR::qT::u119::qU::qV::qW::qX::u124::qY::qZ::u127::og::oh::ol::u131::om::oq::ou::ow::oz::oC::u138::u139::oD::oF::oG::oH::oI::oJ::oK::yc:: []).toArray,[]⟩ w:=by
 have S0:Nk cB fB nd lf inn fl bl f bA gA bn bc gn gc ea w.drew:=hS;clear hS;conv=>arg 2;whnf
 refine aX (Nk cB fB nd lf inn fl bl f bA gA bn bc gn gc ea) (by kernel_rfl) ?_;refine vT 0 S0 ?_;refine vT 1 S0 ?_;refine aR (i:=2) (by kernel_rfl) rfl (fun K hK=> ?_);go_simp
 go_loud (refine tK.mono ?_);rintro e' w2 ⟨p,rfl,S1,hl⟩;have HL:=aa hl;clear hl
 refine hK.out _ _ S1 ?_;clear hK K;try simp only [aL,aN,aZ,aC]
 refine vT 3 S1 ?_;refine aR (i:=4) (by kernel_rfl) rfl (fun K hK=> ?_);go_simp
 go_loud (refine HL.mono ?_);rintro e' w3 ⟨tv,ev,rfl,S2,hx⟩;have HX:=aa hx;clear hx
 refine hK.out _ _ S2 ?_;clear hK K;try simp only [aL,aN,aZ,aC]
 refine vT 5 S2 ?_;refine vT 6 S2 ?_;refine vT 7 S2 ?_;refine vT 8 S2 ?_;refine vT 9 S2 ?_;refine bP (by kernel_rfl) ?_ _;exact HX _ _ _ _ _ _ _ _
end
section
def aU.alls:Nat→aU→List aH×aU×Bool
 |0,r=>([],r,false)
 |k+1,r=>match r.next.1 with
  |none=>([],r.next.2,true)
  |some es=>(es++(aU.alls k r.next.2).1,(aU.alls k r.next.2).2)
def jA (r:aU) (l:List aH) (rf:aU):Prop:=∃k,r.alls k=(l,rf,true)
theorem jA.stop {r:aU} (h:r.next.1=none):jA r [] r.next.2:=⟨1,by simp [aU.alls,h]⟩
theorem jA.more {r rf:aU} {es l:List aH} (h:r.next.1=some es) (k:jA r.next.2 l rf):jA r (es++l) rf:=by
 obtain⟨n,hn⟩:=k;exact⟨n+1,by simp [aU.alls,h,hn]⟩
theorem xA {r:aU} {l:List aH} {rf:aU}:∀{k:Nat} (_:r.alls k=(l,rf,true)) (j:Nat),r.alls (k+j)=(l,rf,true):=by
 intro k
 induction k generalizing r l with
 |zero=>intro h;simp [aU.alls] at h
 |succ k ih=>
  intro h j;rw [show k+1+j=(k+j)+1 by omega];unfold aU.alls at h⊢
  cases hn:r.next.1 with
  |none=>rw [hn] at h;exact h
  |some es=>
   rw [hn] at h;simp only [] at h⊢;obtain⟨a,b⟩:=Prod.mk.inj h;have h2:=ih (r:=r.next.2) (l:=(aU.alls k r.next.2).1) (Prod.ext rfl b) j;rw [h2,a]
theorem jA.unique {r a b:aU} {l m:List aH} (h1:jA r l a) (h2:jA r m b):l=m∧a=b:=by
 obtain⟨k,h1⟩:=h1;obtain⟨j,h2⟩:=h2;have e1:=xA h1 j;have e2:=xA h2 k;rw [Nat.add_comm j k,e1] at e2;injection e2 with x y
 injection y with y _
 exact⟨x,y⟩
def Came (r0:aU) (out:List aH) (r:aU):Prop:=∀x rf,jA r x rf→jA r0 (out++x) rf
theorem Came.nil (r:aU):Came r [] r:=fun _ _ h=>h
theorem Came.more {r0 r:aU} {out es:List aH} (h:Came r0 out r) (hn:r.next.1=some es):Came r0 (out++es) r.next.2:=fun x rf hx=>by
 rw [List.append_assoc];exact h _ _ (jA.more hn hx)
theorem Came.stop {r0 r:aU} {out:List aH} (h:Came r0 out r) (hn:r.next.1=none):jA r0 out r.next.2:=by
 have:=h _ _ (jA.stop hn);rwa [List.append_nil] at this
end
section
open Go.RowKit
structure zo (w:World) (base:Nat) (D B:Nat→Prop) (out:Value) (us:List Value) (l:List aH):Prop where
 own:w.ownsRow base 57 2 out l.length us
 ne:∀g,out.ownBlock=some g→¬B g
 sub:∀b,D b→B b∧b<w.heap.size
 at_:∀(i:Nat) (e:aH),l[i]? =some e→∃u v,us[2*i]? =some u∧us[2*i+1]? =some v∧SB w D u e.1∧SB w D v e.2
section
variable {S D D' B B':Nat→Prop} {w w':World} {base:Nat} {out:Value} {us:List Value} {l:List aH}
theorem zo.nil (w:World) (base:Nat) (D B:Nat→Prop) (h:∀b,D b→B b∧b<w.heap.size):zo w base D B (.slice none 0 0) [] []:=⟨World.ownsRow_nil _ _ _ _,fun g hg=>by simp [Value.ownBlock] at hg,h,fun i e h=>by simp at h⟩
theorem zo.chg (h:zo w base D B out us l) (hc:ag S w w') (ho:∀g,out.ownBlock=some g→¬S g) (hd:∀b,D b→¬S b):zo w' base D B out us l:=
 ⟨aF h.own hc ho,h.ne,fun b hb=>⟨(h.sub b hb).1,Nat.lt_of_lt_of_le (h.sub b hb).2 hc.size⟩,fun i e he=>let⟨u,v,a,b,s1,s2⟩:=h.at_ i e he;⟨u,v,a,b,s1.chg hc hd,s2.chg hc hd⟩⟩
theorem zo.step (h:zo w base D B out us l) (hc:ag S w w') (ho:∀g,out.ownBlock=some g→¬S g) (hd:∀b,D b→¬S b) (hD:∀b,b<w.heap.size→D b→D' b) (hn:∀g,g<w.heap.size→¬B g→¬B' g) (hs:∀b,D' b→B' b∧b<w'.heap.size):zo w' base D' B' out us l:=
 ⟨aF h.own hc ho,fun g hg=>hn g (ah h.own g hg).2 (h.ne g hg),hs,fun i e he=>let⟨u,v,a,b,s1,s2⟩:=h.at_ i e he;⟨u,v,a,b,(s1.chg hc hd).weak (fun b hb=>hD b (h.sub b hb).2 hb),(s2.chg hc hd).weak (fun b hb=>hD b (h.sub b hb).2 hb)⟩⟩
theorem zo.push {v2 u v:Value} {e:aH} (h:zo w base D B out us l) (ho:w'.ownsRow base 57 2 v2 (l.length+1) (us++ [u,v])) (hg:w.grownBy w' out.ownBlock) (hat:v2.ownBlock=out.ownBlock∨∃k,v2.ownBlock=some k∧¬B k)
  (hu:SB w D u e.1) (hv:SB w D v e.2):zo w' base D B v2 (us++ [u,v]) (l++ [e]):=by
 have hl:us.length=l.length*2:=h.own.1;have nx:∀{x:Value} {bs:List UInt8},SB w D x bs→SB w' D x bs:=fun hx=>hx.chg (ag.of_grown hg) (fun b hb e=>h.ne b e (h.sub b hb).1)
 refine⟨by rw [List.length_append];exact ho,fun g e'=> ?_,fun b hb=>⟨(h.sub b hb).1,Nat.lt_of_lt_of_le (h.sub b hb).2 (ag.of_grown hg).size⟩,fun i e' hi=> ?_⟩
 ·rcases hat with h'|⟨k,h',h2⟩
  ·exact h.ne g (h'▸e')
  ·rw [h'] at e';injection e' with e';exact e'▸h2
 ·rcases Nat.lt_or_ge i l.length with h1|h1
  ·rw [List.getElem?_append_left h1] at hi;obtain⟨x,y,a,b,s1,s2⟩:=h.at_ i e' hi
   exact⟨x,y,by rw [List.getElem?_append_left (by omega)];exact a,by rw [List.getElem?_append_left (by omega)];exact b,nx s1,nx s2⟩
  ·rw [List.getElem?_append_right h1] at hi;have hi0:i=l.length:=by have:=(List.getElem?_eq_some_iff.1 hi).1;simp at this;omega
   subst hi0;simp at hi;subst hi
   refine⟨u,v,?_,?_,nx hu,nx hv⟩
   ·rw [List.getElem?_append_right (by omega),show 2*l.length-us.length=0 by omega];rfl
   ·rw [List.getElem?_append_right (by omega),show 2*l.length+1-us.length=1 by omega];rfl
theorem zo.ents {A:Option Addr} {n c lo:Nat} (h:zo w base D B (.slice A n c) us l) (hn:n=l.length) (hb:lo≤base) (hd:∀b,D b→lo≤b):bO w (From lo) A n l:=by
 subst hn;exact⟨aa rfl,us,(Rd.of_own h.own).weak (fun b h'=>Nat.le_trans hb h'),fun i e he=>let⟨u,v,a,b,s1,s2⟩:=h.at_ i e he;⟨u,v,a,b,s1.weak hd,s2.weak hd⟩⟩
end
theorem Lb {w:World} {F:Nat→Prop} {A:Option Addr} {n:Nat} {l:List aH} (h:bO w F A n l):bO w (fun b=>F b∧b<w.heap.size) A n l:=by
 obtain⟨h1,vs,h2,h3⟩:=h;refine⟨h1,vs,h2.lt (by omega),fun i e he=> ?_⟩;obtain⟨u,v,a,b,c,d⟩:=h3 i e he;exact⟨u,v,a,b,c.lt,d.lt⟩
def zn (Dr:Nat→Prop) (rv:Value):Nat→Prop:=fun b=>Dr b∧rv.ownBlock≠some b
structure Jr (w:World) (lo L Dd bl base:Nat) (rc:Loop) (D B:Nat→Prop) (out:List aH):Prop where
 loop:w.heap[L]? =some (.loop rc)
 dfd:w.heap[Dd]? =some (.deferred (some []))
 col:∃v us,Boxed w bl 37 v∧zo w base D B v us out
 ord:lo≤bl∧bl<Dd∧Dd<L∧L<base∧base≤w.heap.size
theorem Jr.chg {S D B:Nat→Prop} {w w':World} {lo L Dd bl base:Nat} {rc:Loop} {out:List aH} (h:Jr w lo L Dd bl base rc D B out) (hc:ag S w w') (h1:∀b,lo≤b→b<base→¬S b) (h2:∀b,base≤b→b<w.heap.size→¬B b→¬S b) (h3:∀b,D b→¬S b):Jr w' lo L Dd bl base rc D B out:=by
 obtain⟨o1,o2,o3,o4,o5⟩:=h.ord;obtain⟨v,us,hb,kN⟩:=h.col
 exact⟨(hc.block L (by omega) (h1 L (by omega) (by omega))).trans h.loop,(hc.block Dd (by omega) (h1 Dd (by omega) (by omega))).trans h.dfd,
  ⟨v,us,(hc.block bl (by omega) (h1 bl (by omega) (by omega))).trans hb,kN.chg hc (fun g hg=>h2 g (ah kN.own g hg).1 (ah kN.own g hg).2 (kN.ne g hg)) h3⟩,o1,o2,o3,o4,Nat.le_trans o5 hc.size⟩
theorem Jr.step {S D B D' B':Nat→Prop} {w w':World} {lo L Dd bl base:Nat} {rc:Loop} {out:List aH} (h:Jr w lo L Dd bl base rc D B out) (hc:ag S w w') (h1:∀b,lo≤b→b<base→¬S b) (h2:∀b,base≤b→b<w.heap.size→¬B b→¬S b) (h3:∀b,D b→¬S b)
  (hD:∀b,b<w.heap.size→D b→D' b) (hn:∀g,g<w.heap.size→¬B g→¬B' g) (hs:∀b,D' b→B' b∧b<w'.heap.size):Jr w' lo L Dd bl base rc D' B' out:=by
 obtain⟨o1,o2,o3,o4,o5⟩:=h.ord;obtain⟨v,us,hb,kN⟩:=h.col
 exact⟨(hc.block L (by omega) (h1 L (by omega) (by omega))).trans h.loop,(hc.block Dd (by omega) (h1 Dd (by omega) (by omega))).trans h.dfd,
  ⟨v,us,(hc.block bl (by omega) (h1 bl (by omega) (by omega))).trans hb,kN.step hc (fun g hg=>h2 g (ah kN.own g hg).1 (ah kN.own g hg).2 (kN.ne g hg)) h3 hD hn hs⟩,o1,o2,o3,o4,Nat.le_trans o5 hc.size⟩
def AO (z st:Nat):Value:= .func (.func (if st=0 then 46 else 75)) #[.pointer (some ⟨z,0,none⟩)] #[]
structure EX (w:World) (F Dr:Nat→Prop) (z q p base hv:Nat) (A:Option Addr) (n cc:Nat) (us:List Value) (K:Nat) (r:aU) (left:Value):Prop where
 sit:Sit F q p base
 zs:Zs z q p base
 nFz:¬F z
 bw:base≤w.heap.size
 rblk:ai w z 150 #[.pointer (some ⟨q,0,none⟩),AO z r.st,left,.slice A n cc,.int .i64 r.err,.int .i64 (r.bad:Nat)]
 rows:bG w base Dr (.slice A n cc) n r.rows us
 iny:kP w F q p r.cur hv
 drl:∀b,Dr b→base≤b∧b<w.heap.size
 ok:r.Ok K
 go:r.st≠2
section
variable {S F Dr:Nat→Prop} {w w':World} {z q p base hv:Nat} {A:Option Addr} {n cc:Nat} {us:List Value} {K:Nat} {r:aU} {left:Value}
theorem EX.chg (h:EX w F Dr z q p base hv A n cc us K r left) (hc:ag S w w') (h1:¬S z) (h2:¬S q) (h3:¬S p) (h4:∀b,F b→¬S b) (h5:∀b,Dr b→¬S b):EX w' F Dr z q p base hv A n cc us K r left:=
 ⟨h.sit,h.zs,h.nFz,Nat.le_trans h.bw hc.size,h.rblk.chg hc h1,h.rows.chgD hc (fun b hb _=>h5 b hb),h.iny.chg hc h2 h3 h4,fun b hb=>⟨(h.drl b hb).1,Nat.lt_of_lt_of_le (h.drl b hb).2 hc.size⟩,h.ok,h.go⟩
theorem EX.set2 (h:EX w F Dr z q p base hv A n cc us K r left) (v:Value):EX (w.setCell ⟨z,2,none⟩ v) F Dr z q p base hv A n cc us K r v:=by
 have hc:ag (fun b=>b=z) w (w.setCell ⟨z,2,none⟩ v):=(ag.refl (fun b=>b=z) w).setCell (p:=⟨z,2,none⟩) (fun _=>rfl) _;exact⟨h.sit,h.zs,h.nFz,Nat.le_trans h.bw hc.size,h.rblk.set_ 2 v,h.rows.chgD hc (fun b hb _ e=>by have:=(h.drl b hb).1;have:=h.zs.lt;omega),h.iny.chg hc (fun e=>h.zs.zq e.symm) (fun e=>h.zs.zp e.symm) (fun b hb e=>h.nFz (e▸hb)),fun b hb=>⟨(h.drl b hb).1,Nat.lt_of_lt_of_le (h.drl b hb).2 hc.size⟩,h.ok,h.go⟩
end
end
section
variable {P:Program} {F:Fence} {k:Nat}
theorem ng (w:World) {ops:Array Oper} {rest:List Oper} {o:Oper} {a:Act} {Q:Exit→Act→World→Prop} (hgd:o.guard=none) (s x:Operand) (t:TypeId)
  (ho:o.op= .call {callee:= .builtin .append,args:= #[s,x],argTypes:= #[t,t]})
  (base:Nat) (e:TypeId) (i:TypeInfo) (z:Value) (size bytes:Nat) (ht:P.underlying t=some (.slice e)) (hi:P.info? e=some i) (hz:i.zero=some z)
  (hsize:i.size=size) (hby:i.bytes=bytes) (hzs:z.cells.size=size) (hsz:0<size)
  (v:Value) (n:Nat) (xs:List Value) (hs:a.eval s=v) (hown:w.ownsRow base e size v n xs)
  (S:Nat→Prop) (A:Option Addr) (m c:Nat) (news:List Value) (hx:a.eval x= .slice A m c) (hr:Rd w S size A m news) (h1:∀u∈news,u.oneCell'=true)
  (h63:n+m≤maxLen) (hbytes:(n+m)*bytes≤140737488355328) (hbase:base≤w.heap.size)
  (h:∀v' w',w'.ownsRow base e size v' (n+m) (xs++news)→w.grownBy w' v.ownBlock→(v'.ownBlock=v.ownBlock∨v'.ownBlock=some w.heap.size)→wpListIn F k P ops Q rest (a.put o.dst v') w'):
  wpListIn F k P ops Q (o::rest) a w:=by
 refine wpListIn_plain hgd fun K hK'=> ?_;obtain⟨v',w',hrun,r1,r2,r3⟩:=lT (P:=P) w base t o.type e i z size bytes ht hi hz hsize hby hzs hsz v n xs hown S A m c news hr h1 h63 hbytes hbase;unfold Oper.wpIn
 refine⟨?_,?_⟩
 ·simp [Oper.about,ho,resolve,Target.leads,Sem.run_pure]
 ·rw [Oper.semAt_plain F _ _ (by rw [ho];intro c hc';cases hc')];simp [execOp,ho,resolve,invoke,builtin,hs,hx,hrun,Result.andThen];exact hK' _ _ (h v' w' r1 r2 r3)
end
section
open Go.Proofs.Tryz
open Go.RowKit Go.Shelf
attribute [local go_sem] Oper.semAt_some
def iY:Code→Option (Code×Code)
 | .rangeFunc _ _ a c=>some (a,c)
 | .seq a b=>match iY a with
  |some c=>some c
  |none=>iY b
 | .block _ c=>iY c
 | .loop c=>iY c
 | .scope c=>iY c
 | .cond _ a b=>match iY a with
  |some c=>some c
  |none=>iY b
 |_=>none
theorem iy (w:World) (l:Nat) (o:Obj):ag (fun b=>b=l) w (w.putObj l o):=⟨rfl,rfl,rfl,by simp,fun k _ hn=>World.putObj_heap_other hn⟩
theorem uN:(prog.info? 57).map (fun i=>(i.zero,i.size,i.bytes))=some (some (.agg #[.slice none 0 0,.slice none 0 0]),2,48):=by kernel_rfl
end
section
open Go.Proofs.Tryz
open Go.RowKit Go.Shelf
attribute [local go_sem] Oper.semAt_some
def KZ (z q p lo:Nat):Nat→Prop:=fun b=>b=z∨b=q∨b=p∨lo≤b
def K7 (F:Nat→Prop) (z q p base lo L Dd bl rb K:Nat) (rc:Loop) (r0:aU) (w:World) (g:Nat) (wr:World):Prop:=
 ∃(r:aU) (lf out:List aH) (Dr:Nat→Prop) (A:Option Addr) (n cc:Nat) (us:List Value) (hv:Nat) (lA:Option Addr) (ln lc:Nat),
  g=65*(8388609-r.rows.length)+lf.length∧EX wr F Dr z q p base hv A n cc us K r (.slice lA ln lc)∧ln≤lc∧lc≤maxLen∧bO wr (zn Dr (.slice A n cc)) lA ln lf∧
  Jr wr lo L Dd bl base rc (zn Dr (.slice A n cc)) Dr out∧Came r0 (out++lf) r∧ai wr rb 73 #[.pointer (some ⟨z,0,none⟩)]∧out.length+lf.length≤64*r.rows.length∧ag (KZ z q p lo) w wr
theorem Dx (w:World):(sizeOf (prog.elem 37)).run prog w= .ok 2 w:=by kernel_rfl
theorem K8:prog.underlying 37=some (.slice (prog.elem 37)):=by kernel_rfl
theorem Ov {F:Nat→Prop} {w:World} {A:Option Addr} {n c:Nat} {e:aH} {l:List aH} (h:bO w F A n (e::l)) (hnc:n≤c):
  ∃A',(∀w',(Instr.slice 37 (.slice A n c) (some (.int .i64 1)) none none).run prog w'= .ok (.slice A' (n-1) (c-1)) w')∧bO w F A' (n-1) l:=by
 have hl:=h.len;simp at hl;obtain⟨_,vs,h2,h3⟩:=h
 refine⟨if c=1 then A else A.map (·.add 2),fun w'=> ?_,aa (by omega),vs.drop 2,?_,fun i x hx=> ?_⟩
 ·rw [run_slice_l w' _ A n c K8 .i64 1 (by omega) (by omega),Dx]
  simp [Result.andThen,sliced]
 ·exact h2.cut (k:=1) (cap:=c) (by omega) hnc
 ·obtain⟨u,v,a,b,s⟩:=h3 (i+1) x (by simpa using hx);exact⟨u,v,by rw [List.getElem?_drop,show 2+2*i=2*(i+1) by omega];exact a,by rw [List.getElem?_drop,show 2+(2*i+1)=2*(i+1)+1 by omega];exact b,s⟩
noncomputable def YY:Code:=aP (f47.body.bind (aA 4))
noncomputable def YZ:Code:=aP (f47.body.bind (iJ 5))
theorem Fx (F Dr:Nat→Prop) (z q p base lo L Dd bl rb hv K:Nat) (rc:Loop) (r0 r:aU) (e:aH) (lf out:List aH) (A lA:Option Addr) (n cc ln lc:Nat) (us:List Value) (w0 w:World) {u2 u3 u4 u5 u6 u7 u8 u9 u10 u11 u12 u13 bN bq u16 u17 bC bD u20 u21 u22 u23 u24 u25 u26 u27 u28 u29 u30 u31 u32 u33 u34 u35 u36 u37 u38 dh u40 bX u42 bY u44 u45 u46:Value} (Q:Exit→Act→World→Prop) (KK:Act→World→Prop)
  (h:EX w F Dr z q p base hv A n cc us K r (.slice lA ln lc)) (hl1:ln≤lc) (hl2:lc≤maxLen) (he:bO w (zn Dr (.slice A n cc)) lA ln (e::lf)) (hj:Jr w lo L Dd bl base rc (zn Dr (.slice A n cc)) Dr out)
  (hY:Hid (∀(Ak Av:Option Addr) (nk ck nv cv:Nat) (W:World),Jr W lo L Dd bl base rc (zn Dr (.slice A n cc)) Dr out→(∀b,Dr b→base≤b∧b<W.heap.size)→SB W (zn Dr (.slice A n cc)) (.slice Ak nk ck) e.1→SB W (zn Dr (.slice A n cc)) (.slice Av nv cv) e.2→out.length≤1152921504606→
   YieldAt Fence.wide 2 prog L #[.slice Ak nk ck,.slice Av nv cv] W fun en W'=>en= .returned (.bool true)∧Jr W' lo L Dd bl base rc (zn Dr (.slice A n cc)) Dr (out++ [e])∧ag (fun b=>b=L∨b=bl∨base≤b∧¬Dr b) W W'))
  (hc:Came r0 (out++e::lf) r) (hb:ai w rb 73 #[.pointer (some ⟨z,0,none⟩)]) (hn:out.length+(lf.length+1)≤64*r.rows.length) (hg:ag (KZ z q p lo) w0 w) (hlo:z<lo∧q<lo∧p<lo∧∀b,F b→b<lo) (hrb:bl<rb∧rb<Dd)
  (hQ:∀(v5 v26 v27 v28 v29 v30 v31 v32 v33 v34 v35 v36 v37 v38 v39 v40 v41 v42 v43 v44 v45 v46:Value) (w':World),K7 F z q p base lo L Dd bl rb K rc r0 w0 (65*(8388609-r.rows.length)+lf.length) w'→Q .normal ⟨(.func (.yield L) #[] #[]:: .pointer (some ⟨rb,0,none⟩)::u2::u3::u4::v5::u6::u7::u8::u9::u10::u11::u12::u13::bN::bq::u16::u17::bC::bD::u20::u21::u22::u23::u24::u25::v26::v27::v28::v29::v30::v31::v32::v33::v34::v35::v36::v37::v38::v39::v40::v41::v42::v43::v44::v45::v46:: []).toArray,[]⟩ w')
  (Ye:∀a w,Code.wp prog YZ Q a w→KK a w):Code.wp prog YY (Exit.then KK Q) ⟨(.func (.yield L) #[] #[]:: .pointer (some ⟨rb,0,none⟩)::u2::u3::u4::u5::u6::u7::u8::u9::u10::u11::u12::u13::bN::bq::u16::u17::bC::bD::u20::u21::u22::u23::u24::u25::u26::u27::u28::u29::u30::u31::u32::u33::u34::u35::u36::u37::u38::dh::u40::bX::u42::bY::u44::u45::u46:: []).toArray,[]⟩ w:=by
 have HX:=aa h;have HE:=aa he;have HJ:=aa hj;have HC:=aa hc;have HB:=aa hb;have HN:=aa hn;have HG:=aa hg;have xu:=aa hlo;have Ai:=aa hrb;have HQ:=aa hQ;have HL:=aa (And.intro hl1 hl2);obtain⟨A2,hcut,hE2⟩:=Ov he hl1;have HE2:=aa hE2;clear hE2;have hlen:0<ln:=by have:=he.len;simp at this;omega
 obtain⟨b,o,Ak,nk,ck,Av,nv,cv,key,val,rfl,hbD,h0,c0,c1,k1,k2,k3,k4,v1,v2,v3,v4⟩:=he.at_ (k:=0) hlen;simp at h0;subst h0;rw [Nat.zero_mul,Nat.add_zero] at c0 c1;have x0:w.cell? ⟨rb,0,none⟩=some (.pointer (some ⟨z,0,none⟩)):=hb.cell 0;have z2:w.cell? ⟨z,2,none⟩=some (.slice (some ⟨b,o,none⟩) ln lc):=h.rblk.cell 2;have zf:w.frozen? ⟨z,2,none⟩=false:=h.rblk.frozen 2;have HK:Hid (SB w (zn Dr (.slice A n cc)) (.slice Ak nk ck) key):=aa ⟨Ak,nk,ck,rfl,k1,k2,k3.out,k4⟩;have HV:Hid (SB w (zn Dr (.slice A n cc)) (.slice Av nv cv) val):=aa ⟨Av,nv,cv,rfl,v1,v2,v3.out,v4⟩;clear h he hj hc hb hn hg hlo hrb hQ hbD k1 k2 k3 k4 v1 v2 v3 v4 hl1 hl2;conv=>arg 2;whnf
 go_wp2;conv=>arg 2;whnf
 go_upto_region 5 with fail
 obtain⟨w1,hw1⟩:∃W,W=w.alloc (.cells #[.slice Ak nk ck,.slice Av nv cv] 57):=⟨_,rfl⟩;have hb1:Below w.heap.size w w1:=by rw [hw1];exact(Below.refl _ _).alloc (Nat.le_refl _) _
 have hK1:ai w1 w.heap.size 57 #[.slice Ak nk ck,.slice Av nv cv]:=by rw [hw1];exact ai.new _ _ _
 rw [←hw1];clear hw1 c0 c1;have x1:w1.cell? ⟨rb,0,none⟩=some (.pointer (some ⟨z,0,none⟩)):=(HB.out.below hb1).cell 0;have z21:w1.cell? ⟨z,2,none⟩=some (.slice (some ⟨b,o,none⟩) ln lc):=(HX.out.rblk.below hb1).cell 2;have Kt:w1.frozen? ⟨z,2,none⟩=false:=(HX.out.rblk.below hb1).frozen 2;have HB1:=aa hb1;have lL:=aa hK1;clear hb1 hK1 x0 z2 zf;go_region
 go_upto_region 6 with fail
 obtain⟨w2,hw2⟩:∃W,W=(w1.setCell ⟨z,2,none⟩ (.slice A2 (ln-1) (lc-1))).drew:=⟨_,rfl⟩;have hZ2:ag (fun b=>b=z) w w2:=by rw [hw2];exact(((ag.of_below (S:=fun b=>b=z) HB1).setCell (p:=⟨z,2,none⟩) (fun _=>rfl) _).drew)
 have hs2:=hZ2.size;have hO:=HJ.out.ord;have hlo:=xu.out;have hrb:=Ai.out;have hD:∀b,Dr b→¬b=z:=fun b hb e=>by have:=(HX.out.drl b hb).1;omega
 have hX2:EX w2 F Dr z q p base hv A n cc us K r (.slice A2 (ln-1) (lc-1)):=by
  have h1:EX w1 F Dr z q p base hv A n cc us K r (.slice (some ⟨b,o,none⟩) ln lc):=HX.out.chg (S:=Nil) (ag.of_below HB1) (fun h=>h) (fun h=>h) (fun h=>h) (fun _ _ h=>h) (fun _ _ h=>h);have h2:=(h1.set2 (.slice A2 (ln-1) (lc-1))).chg (S:=Nil) ((ag.refl Nil _).drew) (fun h=>h) (fun h=>h) (fun h=>h) (fun _ _ h=>h) (fun _ _ h=>h);rw [hw2];exact h2
 have hJ2:Jr w2 lo L Dd bl base rc (zn Dr (.slice A n cc)) Dr out:=HJ.out.chg hZ2 (fun b h1 h2 e=>by have:=hlo.1;omega) (fun b h1 h2 h3 e=>by have:=hlo.1;omega) (fun b hb=>hD b hb.1);have hE2:bO w2 (zn Dr (.slice A n cc)) A2 (ln-1) lf:=HE2.out.chg hZ2 (fun b hb=>hD b hb.1);have hK2:=HK.out.chg hZ2 (fun b hb=>hD b hb.1);have hV2:=HV.out.chg hZ2 (fun b hb=>hD b hb.1);have hB2:ai w2 rb 73 #[.pointer (some ⟨z,0,none⟩)]:=HB.out.chg hZ2 (by omega)
 have Y0:ai w2 w.heap.size 57 #[.slice Ak nk ck,.slice Av nv cv]:=by
  rw [hw2];exact(lL.far (p:=⟨z,2,none⟩) (by have:=HX.out.zs.lt;have:=HX.out.bw;show w.heap.size≠z;omega) _).drew
 have t0:w2.cell? ⟨w.heap.size,0,none⟩=some (.slice Ak nk ck):=Y0.cell 0;have t1:w2.cell? ⟨w.heap.size,1,none⟩=some (.slice Av nv cv):=Y0.cell 1;obtain⟨fn,tmps,assign,body,hy,hR⟩:=hY.out Ak Av nk ck nv cv w2 hJ2 (fun b hb=>hX2.drl b hb) hK2 hV2 (by have h1:=HN.out;have h2:=HX.out.ok.rows.many;omega);have pG:=aa hX2;have Ox:=aa hE2;have HB2:=aa hB2;have HZ2:=aa hZ2;rw [←hw2];clear hw2 hX2 hJ2 hE2 hK2 hV2 hB2 Y0 hcut x1 z21 Kt hD hZ2 hO hlo hrb;refine(wpIn_wide (n:=3)).1 ?_
 gi_wp2
 refine hR.mono ?_;rintro e' w3 ⟨rfl,hJ3,Vk⟩;have Y1:=aa hJ3;have gN:=aa Vk;clear hR hJ3 Vk t0 t1 hy
 gi_wp2
 go_wp2;have hO:=HJ.out.ord
 have hlo:=xu.out;have hrb:=Ai.out;have hS:∀b,b<lo→¬(b=L∨b=bl∨base≤b∧¬Dr b):=fun b hb e=>by omega
 have hSD:∀b,Dr b→¬(b=L∨b=bl∨base≤b∧¬Dr b):=fun b hb e=>by
  have:=(pG.out.drl b hb).1
  rcases e with e|e|e
  ·omega
  ·omega
  ·exact e.2 hb
 have hg:ag (KZ z q p lo) w0 w3:=((HG.out.trans HZ2 (fun b _ e=> .inl e)).trans gN (fun b _ e=> .inr (.inr (.inr (by omega)))))
 exact HQ _ _ _ _ _ _ _ _ _ _ _ _ _ _ _ _ _ _ _ _ _ _ w3 ⟨r,lf,out++ [(key,val)],Dr,A,n,cc,us,hv,A2,ln-1,lc-1,rfl,
  pG.chg gN (hS z hlo.1) (hS q hlo.2.1) (hS p hlo.2.2.1) (fun b hb=>hS b (hlo.2.2.2 b hb)) hSD,by have:=HL.out.1;omega,by have:=HL.out;omega,
  Ox.chg gN (fun b hb=>hSD b hb.1),Y1,by rw [List.append_assoc];exact HC,HB2.chg gN (by omega),by rw [List.length_append];have:=HN.out;simp;omega,hg⟩
end
end Go.Proofs.YtbjgeidjmhialaaGreatDoor
