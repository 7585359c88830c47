/- Part 37. -/
import Derived.Test.YtbjgeidjmhialaaGreatDoorLa36
namespace Go.Proofs.YtbjgeidjmhialaaGreatDoor
set_option maxRecDepth 100000
set_option maxHeartbeats 8000000
section
open Go.RowKit
structure kR (w:World) (base:Nat) (out:Value) (j:Nat) (us:List Value) (g:Nat→List Lk):Prop where
 own:w.ownsRow base 97 1 out j us
 at_:∀t,t<j→∃A c,us[t]? =some (.slice A (g t).length c)∧sD w (fun b=>base≤b∧out.ownBlock≠some b) A (g t).length (g t)
def jN (w:World) (D:Nat→Prop) (A:Option Addr) (n:Nat) (g:Nat→List Lk):Prop:=
 ∃us,Rd w D 1 A n us∧∀t,t<n→∃B c,us[t]? =some (.slice B (g t).length c)∧sD w D B (g t).length (g t)
section
variable {S D D':Nat→Prop} {w w':World} {us:List Value} {A:Option Addr} {n base j:Nat} {out:Value} {g:Nat→List Lk}
theorem kR.nil (w:World) (base:Nat) (g:Nat→List Lk):kR w base (.slice none 0 0) 0 [] g:=⟨World.ownsRow_nil _ _ _ _,fun t ht=>absurd ht (by omega)⟩
theorem kR.chg (h:kR w base out j us g) (hc:ag S w w') (hs:∀b,base≤b→¬S b):kR w' base out j us g:=
 ⟨aF h.own hc (fun b hb=>hs b (ah h.own b hb).1),fun t ht=>let⟨A,c,a,b⟩:=h.at_ t ht;⟨A,c,a,b.next hc (fun x _ hx=>hs x hx.1) (fun _ _ hx=>hx)⟩⟩
theorem kR.below (h:kR w base out j us g) (hb:Below w.heap.size w w'):kR w' base out j us g:=
 ⟨own_below h.own hb,fun t ht=>let⟨A,c,a,b⟩:=h.at_ t ht;⟨A,c,a,b.below hb⟩⟩
theorem kR.push {v2:Value} {B:Option Addr} {c:Nat} (h:kR w base out j us g) (ho:w'.ownsRow base 97 1 v2 (j+1) (us++ [.slice B (g j).length c])) (hg:w.grownBy w' out.ownBlock) (hat:v2.ownBlock=out.ownBlock∨v2.ownBlock=some w.heap.size)
  (hx:sD w (fun b=>base≤b∧out.ownBlock≠some b) B (g j).length (g j)):kR w' base v2 (j+1) (us++ [.slice B (g j).length c]) g:=by
 have hl:us.length=j:=by have:=h.own.1;omega
 have key:∀b,b<w.heap.size→(base≤b∧out.ownBlock≠some b)→(base≤b∧v2.ownBlock≠some b):=fun b hb hx=>⟨hx.1,fun e=>by
  rcases hat with h|h
  ·exact hx.2 (h▸e)
  ·rw [h] at e;injection e with e;omega⟩
 refine⟨ho,fun t ht=> ?_⟩
 by_cases htj:t=j
 ·subst htj
  exact⟨B,c,by rw [List.getElem?_append_right (by omega),hl,Nat.sub_self];rfl,hx.next (ag.of_grown hg) (fun b _ hb e=>hb.2 e) key⟩
 ·obtain⟨A,c',a,b⟩:=h.at_ t (by omega);exact⟨A,c',by rw [List.getElem?_append_left (by omega)];exact a,b.next (ag.of_grown hg) (fun b _ hb e=>hb.2 e) key⟩
theorem kR.all {c:Nat} (h:kR w base (.slice A n c) n us g):jN w (From base) A n g:=
 ⟨us,Rd.of_own h.own,fun t ht=>let⟨B,c,a,b⟩:=h.at_ t ht;⟨B,c,a,b.weak (fun _ hb=>hb.1)⟩⟩
theorem jN.next (h:jN w D A n g) (hc:ag S w w') (hs:∀b,b<w.heap.size→D b→¬S b) (hD:∀b,b<w.heap.size→D b→D' b):jN w' D' A n g:=
 let⟨us,h2,h3⟩:=h;⟨us,((h2.lt (by omega)).chg hc (fun b hb=>hs b hb.2 hb.1)).weak (fun b hb=>hD b hb.2 hb.1),fun t ht=>let⟨B,c,a,b⟩:=h3 t ht;⟨B,c,a,b.next hc hs hD⟩⟩
theorem jN.below (h:jN w D A n g) (hb:Below w.heap.size w w'):jN w' D A n g:=h.next (ag.of_below (S:=Nil) hb) (fun _ _ _ h=>h) (fun _ _ hb=>hb)
theorem jN.at_ {t:Nat} (h:jN w D A n g) (ht:t<n):∃b o B c,A=some ⟨b,o,none⟩∧D b∧w.cell? ⟨b,o+t,none⟩=some (.slice B (g t).length c)∧sD w D B (g t).length (g t):=by
 obtain⟨us,h2,h3⟩:=h;obtain⟨b,o,u,hA,hD,e,c1⟩:=h2.at_ ht;obtain⟨B,c,e2,hl⟩:=h3 t ht;rw [e] at e2;injection e2 with e2
 subst e2;exact⟨b,o,B,c,hA,hD,c1,hl⟩
end
structure ji (sl:List bB) (root nd lf:Int) (inn L:Nat) (N d:Nat→Nat) (X:Nat→Nat→Nd):Prop where
 root:root=(d L:Int)+1
 top:N L=1
 deep:L≤31
 pos:∀k,1≤N k
 base:d 0=0
 step:∀k,d (k+1)=d k+N k
 lv:∀k,k≤L→U1 sl nd lf inn k (d k) (N k) (X k)
 kids:∀k,k<L→KP (N (k+1)) (N k) (d k) (X (k+1)) (X k)
 kid0:∀k,k<L→(X (k+1) 0).kids[0]? =some ((d k:Int)+1)
 klen:∀k i,k≤L→i<N k→(X k i).kids.length≤1000
 even:∀s∈sl,0≤s.1∧s.1≤4611686018427387904∧s.1%2=0
def fM (N d:Nat→Nat) (X:Nat→Nat→Nd) (k:Nat):List Lk:=(List.range (N k)).map (iw (d k) (X k))
theorem bU (N d:Nat→Nat) (X:Nat→Nat→Nd) (k:Nat):(fM N d X k).length=N k:=by simp [fM]
theorem ji.mono {sl:List bB} {root nd lf:Int} {inn L:Nat} {N d:Nat→Nat} {X:Nat→Nat→Nd} (h:ji sl root nd lf inn L N d X) {j k:Nat} (hjk:j≤k):d j≤d k:=by
 induction k with
 |zero=>
  have:j=0:=by omega
  subst this;exact Nat.le_refl _
 |succ k ih=>
  rcases Nat.lt_or_ge k j with h2|h2
  ·have:j=k+1:=by omega
   subst this;exact Nat.le_refl _
  ·exact Nat.le_trans (ih h2) (by rw [h.step];omega)
theorem ji.fit {sl:List bB} {root nd lf:Int} {inn L:Nat} {N d:Nat→Nat} {X:Nat→Nat→Nd} (h:ji sl root nd lf inn L N d X) {k:Nat} (hk:k≤L):d k+N k≤sl.length:=by
 have hp:=h.pos k;obtain⟨s,hs,_⟩:=(h.lv k hk).at_ (N k-1) (by omega);have:=(List.getElem?_eq_some_iff.1 hs).1;omega
end
section
open Go.Proofs.Tryz
open Go.RowKit Go.Maps
theorem sH (p q:Addr) (w:World):
  CallsD prog 51 #[.pointer (some p),.pointer (some q)] .returning w fun e u' w'=>e= .returned (.tuple #[])∧u'= .returning∧w'=w:=by
 refine callsD_of_wpS func51 rfl fun c₀ cs hu=> ?_;apply wpS_seq;apply wpS_region;simp [wpOpsS,go_sem,recoverD,hu,ntmps51,Exit.thenS];apply wpS_seq;apply wpS_region;simp [wpOpsS,go_sem,Exit.thenS];refine wpS_cond (t:=false) (by simp [Act.eval,Array.replicate]) ?_;simp only [Bool.false_eq_true,if_false];refine wpS_of_wp (wp_skip ?_)
 cases c₀
 simp_all [bodyPostS,results,results51]
theorem D8:(prog.info? 97).map (fun i=>(i.zero,i.size,i.bytes))=some (some (.slice none 0 0),1,24):=by kernel_rfl
noncomputable def RZ:Code:=aP (f31.body.bind (aA 19))
theorem LU (base q j m c:Nat) (B:Option Addr) (out:Value) (us:List Value) (g:Nat→List Lk) (w:World) (ds:List _) {u0 u1 u2 u3 u5 u6 u7 u8 u9 u10 u11 u12 u13 bq u16 u17 bC bD u20 u21 u22 u23 u24 u25 u26 u27 u28 u29 u30 u31 u32 u33 u34 u35 u36 u37 u38 dh u40 bX u42 bY u44 u45 u46 di u48 u49 bV u51 u52 u53 bW u55 dz dB u58 u59 u60 dH dG u63 u64 dO u66 dU u68 u69 u70 dV u72 u73 dP u75 eQ eU eX eY eZ fo fq fu fw:Value} (Q:Exit→Act→World→Prop)
  (HK:Hid (ai w q 92 #[out])) (HA:Hid (kR w base out j us g)) (HL:Hid (sD w (fun b=>base≤b∧out.ownBlock≠some b) B m (g j))) (hm:m=(g j).length) (hj:j≤1000) (hbase:base≤w.heap.size) (hq:q<base)
  (au:∀(kL:Value) (v69 v70 v71 v72:Value) (w':World),ai w' q 92 #[kL]→kR w' base kL (j+1) (us++ [.slice B m c]) g→ag (fun b=>b=q∨base≤b) w w'→Q .normal ⟨(u0::u1::u2::u3:: .pointer (some ⟨q,0,none⟩)::u5::u6::u7::u8::u9::u10::u11::u12::u13:: .slice B m c::bq::u16::u17::bC::bD::u20::u21::u22::u23::u24::u25::u26::u27::u28::u29::u30::u31::u32::u33::u34::u35::u36::u37::u38::dh::u40::bX::u42::bY::u44::u45::u46::di::u48::u49::bV::u51::u52::u53::bW::u55::dz::dB::u58::u59::u60::dH::dG::u63::u64::dO::u66::dU::u68::v69::v70::v71::v72::u73::dP::u75::eQ::eU::eX::eY::eZ::fo::fq::fu::fw:: []).toArray,ds⟩ w'):
  Code.wp prog RZ Q ⟨(u0::u1::u2::u3:: .pointer (some ⟨q,0,none⟩)::u5::u6::u7::u8::u9::u10::u11::u12::u13:: .slice B m c::bq::u16::u17::bC::bD::u20::u21::u22::u23::u24::u25::u26::u27::u28::u29::u30::u31::u32::u33::u34::u35::u36::u37::u38::dh::u40::bX::u42::bY::u44::u45::u46::di::u48::u49::bV::u51::u52::u53::bW::u55::dz::dB::u58::u59::u60::dH::dG::u63::u64::dO::u66::dU::u68::u69::u70::dV::u72::u73::dP::u75::eQ::eU::eX::eY::eZ::fo::fq::fu::fw:: []).toArray,ds⟩ w:=by
 have dF:=aa au;have z0:w.cell? ⟨q,0,none⟩=some out:=HK.out.cell 0;obtain⟨i0,hi0,jO,jP,jQ⟩:=info_parts D8;have Fy:=aa hm;clear au hm;conv=>arg 2;whnf
 go_wp2_with (at_builtin;go_loud (refine af _ rfl (.tmp 69) (.tmp 71) _ rfl base 97 i0 _ 1 24 underlying92 hi0 jO jP jQ rfl (by omega) out j us rfl (own_below HA.own ((Below.refl _ _).alloc (Nat.le_refl _) _)) (From w.heap.size) (some ⟨w.heap.size,0,none⟩) 1 1 [.slice B m c] rfl (Rd.one w (.slice B m c) 97) (by simp [Value.oneCell']) (by simp only [maxLen];omega) (by omega) (by simp;omega) ?_);intro v6 w6 hown6 jS iR;obtain⟨g6,gc6,hv6,_,_⟩:=hown6.form (by omega);subst hv6;have uJ:=aa hown6;have qC:=aa jS;have Ol:=aa iR;have K6:=aa ((HK.alloc (.cells #[.slice B m c] 97)).chg (ag.of_grown jS) (fun e=>by have:=(ah HA.own q e).1;omega));have y0:w6.cell? ⟨q,0,none⟩=some out:=K6.out.cell 0;have yf:=K6.out.frozen;clear hown6 jS iR)
 obtain⟨wa,lG⟩:∃W,W=w.alloc (.cells #[.slice B m c] 97):=⟨_,rfl⟩;rw [←lG] at qC Ol;have qo:Below w.heap.size w wa:=by rw [lG];exact(Below.refl _ _).alloc (Nat.le_refl _) _
 have hown:ag (fun b=>out.ownBlock=some b) wa w6:=ag.of_grown qC;have JL:∀g,out.ownBlock=some g→base≤g:=fun g hg=>(ah HA.own g hg).1;subst lG;have hm:=Fy.out;subst hm;have hpush:=(HA.out.below qo).push (c:=c) (B:=B) uJ qC Ol (HL.below qo);have hset:ag (fun b=>b=q∨base≤b) w6 (w6.setCell ⟨q,0,none⟩ (.slice (some ⟨g6,0,none⟩) (j+1) gc6)):=(ag.refl _ _).setCell (p:=⟨q,0,none⟩) (fun _=> .inl rfl) _;have hall:ag (fun b=>b=q∨base≤b) w (w6.setCell ⟨q,0,none⟩ (.slice (some ⟨g6,0,none⟩) (j+1) gc6)):=((ag.of_below (S:=fun b=>b=q∨base≤b) qo).trans hown (fun b _ hb=> .inr (JL b hb))).trans hset (fun b _ hb=>hb);exact dF _ _ _ _ _ _ (K6.out.set_ 0 _) (hpush.chg (ag.set1 w6 q 0 _) (fun b hb h=>by have h:b=q:=h;omega)) hall
theorem vC (F:Nat→Prop) (p:Nat) (nodes root:Int) (sl:List bB) (nd lf fl bl:Int) (inn L:Nat) (N d:Nat→Nat) (X:Nat→Nat→Nd) (w:World) (hx:gm w F p nodes sl root) (hn:sl.length≤65536) (hF:∀b,F b→b<w.heap.size) (hc':aY nd lf inn fl bl)
  (ht:ji sl root nd lf inn L N d X):
  Calls prog 31 #[.pointer (some ⟨p,0,none⟩),.agg #[.int .i64 nd,.int .i64 lf,.int .i64 inn,.int .i64 fl,.int .i64 bl]] w fun e w'=>∃A c,e= .returned (.tuple #[.slice A (L+1) c,.agg #[.int .i64 0,.int .i64 0]])∧L+1≤c∧c≤maxLen∧
   jN w' (From w.heap.size) A (L+1) (fun t=>fM N d X (L-t))∧Below w.heap.size w w':=by
 have HX:=aa hx;have HT:=aa ht;have HC:=aa hc';have tK:=aa hn;have HF:=aa hF;have Qe:∀(fn:Fn) (first cap:Array Value) (w:World),(Instr.makeFunc fn first cap).run prog w= .ok (.func fn first cap) w:=fun _ _ _ _=>rfl;have hmm:= @run_makeMap prog;have hdL:d L+1≤65536:=by have:=ht.fit (Nat.le_refl L);have:=ht.top;omega
 have HR:=aa ht.root;have LV:=ht.deep;clear hx hn hF hc' ht;go_enter_defers func31,ntmps31
 go_upto_region 3 with(go_at_call 52;refine(eH _ _ _).mono ?_;rintro e w' ⟨rfl,rfl⟩)
 obtain⟨w3,hw3⟩:∃W,W=(((w.alloc (.cells #[.int .i64 nd,.int .i64 lf,.int .i64 inn,.int .i64 fl,.int .i64 bl] 23)).alloc (.cells #[.slice none 0 0] 92)).alloc (.cells #[.int .i64 0,.int .i64 0] 94)):=⟨_,rfl⟩;rw [←hw3];obtain⟨k0,k1,k2,hb3⟩:=uu w 23 92 94 #[.int .i64 nd,.int .i64 lf,.int .i64 inn,.int .i64 fl,.int .i64 bl] #[.slice none 0 0] #[.int .i64 0,.int .i64 0];rw [←hw3] at k0 k1 k2 hb3;have HB3:=aa hb3;have jw:=aa (And.intro k0 (And.intro k1 k2));obtain⟨y0,y1,y2,y3,y4⟩:=fK k0;clear hw3 k0 k1 k2 hb3
 have HAT:Hid (∃s,sl[((d L:Int)+1).toNat-1]? =some s∧s.2=X L 0∧Small s.2):=aa (by
  have h0:=(HT.out.lv L (Nat.le_refl L)).at_ 0 (by have:=HT.out.top;omega);rw [show((d L:Int)+1).toNat-1=d L+0 by omega];exact h0)
 have R5:(X L 0).lev=(L:Int):=(HT.out.lv L (Nat.le_refl L)).lev 0 (by have:=HT.out.top;omega);obtain⟨x,jY⟩:∃Y,Y=X L 0:=⟨_,rfl⟩;rw [←jY] at HAT R5;have VN:=aa R5;clear jY R5;have hce:=pW HC;go_upto_region 6 with(first|(go_at_call 52;refine(eH _ _ _).mono ?_;rintro e w' ⟨rfl,rfl⟩)|(go_at_call 53;refine(jh nd lf inn fl bl _).mono ?_;rintro e w4 ⟨rfl,hb4⟩;rw [hce];have dN:=aa hb4;clear hb4)|(go_at_call 14;go_loud (refine(pM F p nodes root sl _ (HX.below (HB3.out.trans (dN.mono HB3.size))) tK (fun s hs=>⟨(HT.even s hs).1,(HT.even s hs).2.1⟩)).mono ?_);rw [jB (fun s hs=>(HT.out.even s hs).2.2) _];rintro e w5 ⟨A5,n5,c5,rfl,hi5,_,hb5⟩;have hn5:n5=0:=hi5.len;subst hn5;have fO:=aa hb5;clear hi5 hb5))
 have LW:Hid (Below w.heap.size w w5):=aa ((HB3.out.trans (dN.mono HB3.size)).trans (fO.mono (Nat.le_trans HB3.size dN.size)));have O8:Below w3.heap.size w3 w5:=dN.out.trans (fO.mono dN.size);have kw:=aa (And.intro (jw.1.below O8) (And.intro (jw.2.1.below O8) (jw.2.2.below O8)));clear O8 y0 y1 y2 y3 y4 HB3 dN fO jw
 go_loopg [28] 0 (fun g' iv wr=>iv= .int .i64 0∧wr=w5)
 case atStart=>exact⟨rfl,rfl⟩
 case round=>
  obtain⟨rfl,rfl⟩:=hrel
  rename World=>w5
  obtain⟨mb,hmb⟩:∃Y,Y=w5.heap.size:=⟨_,rfl⟩;have ZJ:Below w5.heap.size w5 (w5.alloc (.map #[] 0)):=(Below.refl _ _).alloc (Nat.le_refl _) _;have XL:=aa ZJ;have R6:Hid (Below w.heap.size w (w5.alloc (.map #[] 0))):=aa (LW.out.trans (ZJ.mono LW.size));clear ZJ;go_wp2_with (first|(go_at_call 32;refine(zX F p nodes root sl _ (HX.below R6)).mono ?_;rintro e w' ⟨rfl,rfl⟩;rw [HR.out])|(go_at_call 33;go_loud (refine(pR F p nodes root sl ((d L:Int)+1) x _ (HX.below R6) (by omega) tK HAT).mono ?_);rintro e w6 ⟨hA,hn',hc,kA,kn,kc,vA,vn,vc,dA,dn,dc,rfl,hv6,hb6⟩;have lg:=aa hb6;clear hv6 hb6)|(go_at_call 52;refine(eH _ _ _).mono ?_;rintro e w' ⟨rfl,rfl⟩))
  rw [VN.out];obtain⟨w7,hw7⟩:∃W,W=w6.alloc (.cells #[.int .i64 (L:Int),.slice hA hn' hc,.int .i64 x.right,.slice kA kn kc,.slice vA vn vc,.slice dA dn dc] 104):=⟨_,rfl⟩;rw [←hw7,←hmb];have LY:Below w5.heap.size w5 w7:=by rw [hw7];exact(XL.out.trans (lg.mono XL.size)).alloc (Nat.le_trans XL.size lg.size) _
  have Qm:Hid (Below w.heap.size w w7):=aa (LW.out.trans (LY.mono LW.size));have HK7:=aa (And.intro (kw.1.below LY) (And.intro (kw.2.1.below LY) (kw.2.2.below LY)))
  have RY:Hid (bF w7 mb 0 (fun _=>0)):=aa (by
   have h1:=(bF.made w5).below (lg.alloc lg.size (.cells #[.int .i64 (L:Int),.slice hA hn' hc,.int .i64 x.right,.slice kA kn kc,.slice vA vn vc,.slice dA dn dc] 104));rw [hw7,hmb];exact h1)
  have ZK:mb<w7.heap.size:=RY.out.lt;have aj5:w.heap.size+1+1<mb:=by have:=kw.out.2.2.lt;omega
  have YJ:Hid (∀b,F b→b<w.heap.size):=HF;obtain⟨B,hB⟩:∃Y,Y=w7.heap.size:=⟨_,rfl⟩;rw [←hB] at ZK;clear hw7 LY XL R6 lg LW kw HAT VN hmb hce;have VO:Hid (B=w7.heap.size):=aa hB;clear hB
  go_loopg [10,13] (L+1) (fun g' fv lv wr=>∃(k:Nat) (out:Value) (us:List Value),g'=k+1∧k≤L∧fv= .int .i64 ((d k:Int)+1)∧lv= .int .i64 (k:Int)∧(ai wr w.heap.size 23 #[.int .i64 nd,.int .i64 lf,.int .i64 inn,.int .i64 fl,.int .i64 bl]∧ai wr (w.heap.size+1) 92 #[out]∧ai wr (w.heap.size+1+1) 94 #[.int .i64 0,.int .i64 0])∧
   kR wr B out (L-k) us (fun t=>fM N d X (L-t))∧bF wr mb (d (L+1)-d (k+1)) (fun y=>if(d (k+1):Int)+1≤y∧y≤(d (L+1):Int) then 1 else 0)∧B≤wr.heap.size∧Below w.heap.size w wr)
  case atStart=>
   have e:(fun y=>if(d (L+1):Int)+1≤y∧y≤(d (L+1):Int) then(1:Int) else 0)=fun _=>0:=by funext y;rw [if_neg (by omega)]
   refine⟨L,_,[],rfl,Nat.le_refl _,rfl,rfl,HK7,?_,?_,by have:=VO.out;omega,Qm⟩
   ·rw [Nat.sub_self];exact kR.nil _ _ _
   ·rw [e];exact RY.mono (Nat.zero_le _)
  case round=>
   obtain⟨k,out,us,hg,hk,rfl,rfl,hks,hall,hmap,hsz,hb⟩:=hrel;have HG:=aa hg;have xZ:=aa hks;have LZ:=aa hall;have XM:=aa hmap;have HB:=aa hb
   rename World=>wr
   clear hg hks hall hmap hb HK7 RY Qm VO;obtain⟨n,hnn⟩:∃Y,Y=L-k:=⟨_,rfl⟩;rw [←hnn] at LZ;obtain⟨Ao,co,rfl,_,_⟩:=ay LZ.own;have hdk:=HT.out.step k;have hdl:d (L+1)=d L+1:=by rw [HT.out.step,HT.out.top]
   have hdm:d (k+1)≤d (L+1):=HT.out.mono (by omega);have hnk:L-n=k:=by omega
   have hnL:n≤L:=by omega
   have R7:=aa hnn;have hNk:=HT.out.fit hk;have aj6:N k≤65536:=by have:=tK.out;omega
   have hn0:k<L→0<n:=by omega
   have hn1:¬k<L→n=0:=by omega
   have hkn:k<L→L-(n-1)=k+1:=by omega
   clear hnn;obtain⟨y0,y1,y2,y3,y4⟩:=fK xZ.1;go_upto_region 17 with(go_at_call 54;go_loud (refine(Gt F p mb (d (L+1)-d (k+1)) nodes root sl nd lf fl bl inn k (d k) (N k) (X k) _ wr (HX.below HB) tK (fun h=>by have:=HF.out mb h;omega) HC (HT.lv k hk) (HT.pos k) (by omega) XM (by omega) (fun j hj=>by rw [if_neg (by omega)])).mono ?_);rintro e w1 ⟨A,c,rfl,q1,q2,hl1,hm1,hc1⟩;have U9:=aa hl1;have Oj:=aa hm1;have ib:=aa hc1;clear hl1 hm1 hc1)
   have lL:=aa (And.intro (xZ.1.chg ib (fun h=>by have h:w.heap.size=mb:=h;omega)) (And.intro (xZ.2.1.chg ib (fun h=>by have h:w.heap.size+1=mb:=h;omega)) (xZ.2.2.chg ib (fun h=>by have h:w.heap.size+1+1=mb:=h;omega))));have BG:=aa (LZ.chg ib (fun b hb h=>by have h:b=mb:=h;omega));have HB1:Hid (Below w.heap.size w w1):=aa (HB.out.trans (ib.below_of HB.size (fun b hb h=>by have h:b=mb:=h;omega)));have hs1:wr.heap.size≤w1.heap.size:=ib.out.size;have L5:Hid (sD w1 (fun b=>B≤b∧(Value.slice Ao n co).ownBlock≠some b) A (N k) (fM N d X k)):=aa (U9.weak (fun b hb=>⟨Nat.le_trans hsz hb,fun e=>by have h1:=(ah LZ.own b e).2;have hb:wr.heap.size≤b:=hb;omega⟩))
   have XN:Hid (bF w1 mb (d (L+1)-d k) (fun y=>if(d k:Int)+1≤y∧y≤(d (L+1):Int) then 1 else 0)):=aa (by
    have e:(fun y=>if(d k:Int)+1≤y∧y≤(d k:Int)+(N k:Int) then(1:Int) else(if(d (k+1):Int)+1≤y∧y≤(d (L+1):Int) then 1 else 0))=fun y=>if(d k:Int)+1≤y∧y≤(d (L+1):Int) then 1 else 0:=by
     funext y
     by_cases h1:(d k:Int)+1≤y∧y≤(d k:Int)+(N k:Int)
     ·rw [if_pos h1,if_pos (by omega)]
     ·rw [if_neg h1]
      by_cases h2:(d (k+1):Int)+1≤y∧y≤(d (L+1):Int)
      ·rw [if_pos h2,if_pos (by omega)]
      ·rw [if_neg h2,if_neg (by omega)]
    rw [←e];exact Oj.mono (by omega))
   have x1:w1.cell? ⟨w.heap.size+1,0,none⟩=some (.slice Ao n co):=lL.out.2.1.cell 0;clear U9 Oj ib LZ xZ XM HB y0 y1 y2 y3 y4
   by_cases Ny:k<L
   ·have hp1:=hn0 Ny;have eN:=hkn Ny;have hp0:(0:Int)<(n:Int):=by omega
    clear hn0 hn1 hkn;have hi1:=IntWalk.i64_in ((n:Int)-1) (by omega);have hi2:0≤(n:Int)-1:=by omega
    have hi3:(n:Int)-1<(n:Int):=by omega
    have hi4:((n:Int)-1).toNat=n-1:=by omega
    obtain⟨bo,oo,Bu,cu,hAo,_,cu1,ZL⟩:=BG.out.all.at_ (t:=n-1) (by omega);subst hAo;rw [eN,bU] at cu1 ZL;have HLU:=aa ZL;have hf1:=HT.out.fit (k:=k+1) (by omega);have aj7:N (k+1)≤65536:=by have:=tK.out;omega
    clear ZL;go_upto_region 19 with(go_at_call 55;go_loud (refine(yw _ _ Bu A (N (k+1)) cu (N k) c (d (k+1)) (d k) (X (k+1)) (X k) _ HLU L5 (HT.kids k Ny) (by omega) (by omega) (by omega) (fun i hi=>HT.klen (k+1) i (by omega) hi)).mono ?_);rintro e w2 ⟨rfl,hb2⟩;have O9:=aa hb2;clear hb2)
    have iH:=aa (And.intro (lL.1.below O9) (And.intro (lL.2.1.below O9) (lL.2.2.below O9)));have BH:=aa (BG.below O9);have HL2:=aa (L5.below O9);have pz:=aa (XN.below O9);have HB2:=aa (HB1.out.trans (O9.mono HB1.size));have hs2:B≤w2.heap.size:=by have:=O9.out.size;omega
    clear lL BG L5 XN HB1 O9 HLU x1 cu1;go_upto_region 19 with fail
    refine LU B (w.heap.size+1) n (N k) c A (.slice (some ⟨bo,oo,none⟩) n co) us (fun t=>fM N d X (L-t)) _ _ _ (aa iH.2.1) BH (by show Hid (sD _ _ _ _ (fM N d X (L-n)));rw [hnk];exact HL2) (by show N k=(fM N d X (L-n)).length;rw [hnk,bU]) (by omega) (by omega) (by omega) ?_;intro kL v69 v70 v71 v72 w4 hk4 BI hc4;have lH:Hid (ai w4 w.heap.size 23 #[.int .i64 nd,.int .i64 lf,.int .i64 inn,.int .i64 fl,.int .i64 bl]∧ai w4 (w.heap.size+1) 92 #[kL]∧ai w4 (w.heap.size+1+1) 94 #[.int .i64 0,.int .i64 0]):=aa ⟨iH.1.chg hc4 (fun h=>by omega),hk4,iH.2.2.chg hc4 (fun h=>by omega)⟩;have qb:=aa BI;have mM:=aa (pz.chg hc4 (fun h=>by omega));have dN:Hid (Below w.heap.size w w4):=aa (HB2.out.trans (hc4.below_of HB2.size (fun b hb h=>by omega)));have hs4:B≤w4.heap.size:=Nat.le_trans hs2 hc4.size;clear hk4 BI hc4;obtain⟨A4,c4,rfl,a41,a42⟩:=ay qb.own
    by_cases hk0:k=0
    ·subst hk0;have z0:w4.cell? ⟨w.heap.size+1,0,none⟩=some (.slice A4 (n+1) c4):=lH.out.2.1.cell 0;have zf:=lH.out.2.1.frozen;have z1:w4.cell? ⟨w.heap.size+1+1,0,none⟩=some (.int .i64 0):=lH.out.2.2.cell 0;have z2:w4.cell? ⟨w.heap.size+1+1,1,none⟩=some (.int .i64 0):=lH.out.2.2.cell 1;have zg:=lH.out.2.2.frozen;go_wp2_with fail
     refine leaves_cons (f:=51) (args:= #[.pointer (some ⟨w.heap.size+1,0,none⟩),.pointer (some ⟨w.heap.size+1+1,0,none⟩)]) (by simp) (by simp [go_sem]) ?_;refine(sH _ _ _).mono ?_;rintro e u' w'' ⟨rfl,rfl,rfl⟩;obtain⟨wf,hwf⟩:∃W,W=(((w4.setCell ⟨w.heap.size+1,0,none⟩ (.slice A4 (n+1) c4)).setCell ⟨w.heap.size+1+1,0,none⟩ (.int .i64 0)).setCell ⟨w.heap.size+1+1,1,none⟩ (.int .i64 0)):=⟨_,rfl⟩;rw [←hwf]
     have f1:ai wf (w.heap.size+1) 92 #[.slice A4 (n+1) c4]:=by
      rw [hwf];exact((lH.2.1.set_ 0 (.slice A4 (n+1) c4)).far (by show w.heap.size+1≠w.heap.size+1+1;omega) _).far (by show w.heap.size+1≠w.heap.size+1+1;omega) _
     have f2:ai wf (w.heap.size+1+1) 94 #[.int .i64 0,.int .i64 0]:=by
      rw [hwf];exact((lH.2.2.far (by show w.heap.size+1+1≠w.heap.size+1;omega) _).set_ 0 (.int .i64 0)).set_ 1 (.int .i64 0)
     have hch:ag (fun b=>b=w.heap.size+1∨b=w.heap.size+1+1) w4 wf:=by
      rw [hwf];exact(((ag.refl _ _).setCell (p:=⟨w.heap.size+1,0,none⟩) (fun _=> .inl rfl) _).setCell (p:=⟨w.heap.size+1+1,0,none⟩) (fun _=> .inr rfl) _).setCell (p:=⟨w.heap.size+1+1,1,none⟩) (fun _=> .inr rfl) _
     have g0:wf.cell? ⟨w.heap.size+1,0,none⟩=some (.slice A4 (n+1) c4):=f1.cell 0;have g1:wf.cell? ⟨w.heap.size+1+1,0,none⟩=some (.int .i64 0):=f2.cell 0;have g2:wf.cell? ⟨w.heap.size+1+1,1,none⟩=some (.int .i64 0):=f2.cell 1;have L6:n=L:=by omega
     have VP:=(qb.out.all.next (D':=From w.heap.size) hch (fun b _ hb h=>by have hb:B≤b:=hb;omega) (fun b _ hb=>by have hb:B≤b:=hb;show w.heap.size≤b;omega));have hbf:Below w.heap.size w wf:=dN.out.trans (hch.below_of dN.size (fun b hb h=>by omega));rw [L6] at g0 VP a41;rw [L6];clear f1 f2 hwf hch z0 zf z1 z2 zg;refine⟨.tuple #[.slice A4 (L+1) c4,.agg #[.int .i64 0,.int .i64 0]],?_,A4,c4,rfl,a41,a42,VP,hbf⟩
     simp [results,results31,go_sem,g0,g1,g2]
    ·have hk0':((k:Int)==0)=false:=by simp;exact hk0
     obtain⟨B',c',e1,hl⟩:=qb.out.at_ n (by omega);have Nz:us.length=n:=by have:=BH.out.own.1;omega
     rw [List.getElem?_append_right (by omega),Nz,Nat.sub_self] at e1;have e1:Value.slice A (N k) c= .slice B' (fM N d X (L-n)).length c':=by injection e1
     injection e1 with e1 e2 e3
     subst e1;rw [hnk,bU] at hl;obtain⟨b,o,lk,_,_,_,_,ZM,_,_,_,_,_,_,_,_,L8,VQ,R8,_,hlk,_,_,_,_,_,_,_,c7,_,L9⟩:=hl.at_ (j:=0) (HT.pos k)
     have Ma:lk=iw (d k) (X k) 0:=by
      rw [show(fM N d X k)[0]? =some (iw (d k) (X k) 0) from kM (HT.out.pos k)] at hlk;injection hlk with hlk;exact hlk.symm
     have oQ:=HT.out.kid0 (k-1) (by omega);rw [show k-1+1=k by omega] at oQ;subst Ma;have hdl0:0<L8:=by rw [L9.d.len];exact(List.getElem?_eq_some_iff.1 oQ).1
     obtain⟨b2,o2,kid,hA2,_,he2,d1⟩:=L9.d.at_ (k:=0) hdl0
     have hkk:kid=(d (k-1):Int)+1:=by
      have he2:(X k 0).kids[0]? =some kid:=he2;rw [oQ] at he2;injection he2 with he2;exact he2.symm
     subst hkk R8 hA2;rw [Nat.zero_mul,Nat.add_zero] at c7;rw [Nat.add_zero] at d1;have hp2:(0:Int)<(N k:Int):=by have:=HT.out.pos k;omega
     have hp3:(0:Int)<(L8:Int):=by omega
     have c7':w4.cell? ⟨b,o+2+3+2,none⟩=some (.slice (some ⟨b2,o2,none⟩) L8 VQ):=c7
     obtain⟨R9,Mc⟩:∃R9,Hid (kR w4 B (.slice A4 (n+1) c4) (L-(k-1)) R9 (fun t=>fM N d X (L-t))):=by
      have e9:L-(k-1)=n+1:=by omega
      rw [e9];exact⟨_,qb⟩
     have hi9:=IntWalk.i64_in ((k:Int)-1) (by omega);clear e2 e3 hl L9 hlk oQ he2 Nz;go_wp2_with fail
     go_roundg k
     case measure=>have:=HG.out;omega
     case rel=>
      have e9:d (k-1+1)=d k:=by rw [show k-1+1=k by omega]
      refine⟨k-1,.slice A4 (n+1) c4,R9,by omega,by omega,rfl,?_,lH,Mc,?_,hs4,dN⟩
      ·exact congrArg (Value.int .i64) (by omega)
      ·rw [e9];exact mM
   ·have ZN:=hn1 Ny;have hp0:¬(0:Int)<(n:Int):=by omega
    clear hn0 hn1 hkn ZN;have iH:=lL;have BH:=BG;have HL2:=L5;have pz:=XN;have HB2:=HB1;have hs2:B≤w1.heap.size:=by omega
    clear lL BG L5 XN HB1;go_upto_region 19 with fail
    refine LU B (w.heap.size+1) n (N k) c A (.slice Ao n co) us (fun t=>fM N d X (L-t)) _ _ _ (aa iH.2.1) BH (by show Hid (sD _ _ _ _ (fM N d X (L-n)));rw [hnk];exact HL2) (by show N k=(fM N d X (L-n)).length;rw [hnk,bU]) (by omega) (by omega) (by omega) ?_;intro kL v69 v70 v71 v72 w4 hk4 BI hc4;have lH:Hid (ai w4 w.heap.size 23 #[.int .i64 nd,.int .i64 lf,.int .i64 inn,.int .i64 fl,.int .i64 bl]∧ai w4 (w.heap.size+1) 92 #[kL]∧ai w4 (w.heap.size+1+1) 94 #[.int .i64 0,.int .i64 0]):=aa ⟨iH.1.chg hc4 (fun h=>by omega),hk4,iH.2.2.chg hc4 (fun h=>by omega)⟩;have qb:=aa BI;have mM:=aa (pz.chg hc4 (fun h=>by omega));have dN:Hid (Below w.heap.size w w4):=aa (HB2.out.trans (hc4.below_of HB2.size (fun b hb h=>by omega)));have hs4:B≤w4.heap.size:=Nat.le_trans hs2 hc4.size;clear hk4 BI hc4;obtain⟨A4,c4,rfl,a41,a42⟩:=ay qb.own
    by_cases hk0:k=0
    ·subst hk0;have z0:w4.cell? ⟨w.heap.size+1,0,none⟩=some (.slice A4 (n+1) c4):=lH.out.2.1.cell 0;have zf:=lH.out.2.1.frozen;have z1:w4.cell? ⟨w.heap.size+1+1,0,none⟩=some (.int .i64 0):=lH.out.2.2.cell 0;have z2:w4.cell? ⟨w.heap.size+1+1,1,none⟩=some (.int .i64 0):=lH.out.2.2.cell 1;have zg:=lH.out.2.2.frozen;go_wp2_with fail
     refine leaves_cons (f:=51) (args:= #[.pointer (some ⟨w.heap.size+1,0,none⟩),.pointer (some ⟨w.heap.size+1+1,0,none⟩)]) (by simp) (by simp [go_sem]) ?_;refine(sH _ _ _).mono ?_;rintro e u' w'' ⟨rfl,rfl,rfl⟩;obtain⟨wf,hwf⟩:∃W,W=(((w4.setCell ⟨w.heap.size+1,0,none⟩ (.slice A4 (n+1) c4)).setCell ⟨w.heap.size+1+1,0,none⟩ (.int .i64 0)).setCell ⟨w.heap.size+1+1,1,none⟩ (.int .i64 0)):=⟨_,rfl⟩;rw [←hwf]
     have f1:ai wf (w.heap.size+1) 92 #[.slice A4 (n+1) c4]:=by
      rw [hwf];exact((lH.2.1.set_ 0 (.slice A4 (n+1) c4)).far (by show w.heap.size+1≠w.heap.size+1+1;omega) _).far (by show w.heap.size+1≠w.heap.size+1+1;omega) _
     have f2:ai wf (w.heap.size+1+1) 94 #[.int .i64 0,.int .i64 0]:=by
      rw [hwf];exact((lH.2.2.far (by show w.heap.size+1+1≠w.heap.size+1;omega) _).set_ 0 (.int .i64 0)).set_ 1 (.int .i64 0)
     have hch:ag (fun b=>b=w.heap.size+1∨b=w.heap.size+1+1) w4 wf:=by
      rw [hwf];exact(((ag.refl _ _).setCell (p:=⟨w.heap.size+1,0,none⟩) (fun _=> .inl rfl) _).setCell (p:=⟨w.heap.size+1+1,0,none⟩) (fun _=> .inr rfl) _).setCell (p:=⟨w.heap.size+1+1,1,none⟩) (fun _=> .inr rfl) _
     have g0:wf.cell? ⟨w.heap.size+1,0,none⟩=some (.slice A4 (n+1) c4):=f1.cell 0;have g1:wf.cell? ⟨w.heap.size+1+1,0,none⟩=some (.int .i64 0):=f2.cell 0;have g2:wf.cell? ⟨w.heap.size+1+1,1,none⟩=some (.int .i64 0):=f2.cell 1;have L6:n=L:=by omega
     have VP:=(qb.out.all.next (D':=From w.heap.size) hch (fun b _ hb h=>by have hb:B≤b:=hb;omega) (fun b _ hb=>by have hb:B≤b:=hb;show w.heap.size≤b;omega));have hbf:Below w.heap.size w wf:=dN.out.trans (hch.below_of dN.size (fun b hb h=>by omega));rw [L6] at g0 VP a41;rw [L6];clear f1 f2 hwf hch z0 zf z1 z2 zg;refine⟨.tuple #[.slice A4 (L+1) c4,.agg #[.int .i64 0,.int .i64 0]],?_,A4,c4,rfl,a41,a42,VP,hbf⟩
     simp [results,results31,go_sem,g0,g1,g2]
    ·have hk0':((k:Int)==0)=false:=by simp;exact hk0
     obtain⟨B',c',e1,hl⟩:=qb.out.at_ n (by omega);have Nz:us.length=n:=by have:=BH.out.own.1;omega
     rw [List.getElem?_append_right (by omega),Nz,Nat.sub_self] at e1;have e1:Value.slice A (N k) c= .slice B' (fM N d X (L-n)).length c':=by injection e1
     injection e1 with e1 e2 e3
     subst e1;rw [hnk,bU] at hl;obtain⟨b,o,lk,_,_,_,_,ZM,_,_,_,_,_,_,_,_,L8,VQ,R8,_,hlk,_,_,_,_,_,_,_,c7,_,L9⟩:=hl.at_ (j:=0) (HT.pos k)
     have Ma:lk=iw (d k) (X k) 0:=by
      rw [show(fM N d X k)[0]? =some (iw (d k) (X k) 0) from kM (HT.out.pos k)] at hlk;injection hlk with hlk;exact hlk.symm
     have oQ:=HT.out.kid0 (k-1) (by omega);rw [show k-1+1=k by omega] at oQ;subst Ma;have hdl0:0<L8:=by rw [L9.d.len];exact(List.getElem?_eq_some_iff.1 oQ).1
     obtain⟨b2,o2,kid,hA2,_,he2,d1⟩:=L9.d.at_ (k:=0) hdl0
     have hkk:kid=(d (k-1):Int)+1:=by
      have he2:(X k 0).kids[0]? =some kid:=he2;rw [oQ] at he2;injection he2 with he2;exact he2.symm
     subst hkk R8 hA2;rw [Nat.zero_mul,Nat.add_zero] at c7;rw [Nat.add_zero] at d1;have hp2:(0:Int)<(N k:Int):=by have:=HT.out.pos k;omega
     have hp3:(0:Int)<(L8:Int):=by omega
     have c7':w4.cell? ⟨b,o+2+3+2,none⟩=some (.slice (some ⟨b2,o2,none⟩) L8 VQ):=c7
     obtain⟨R9,Mc⟩:∃R9,Hid (kR w4 B (.slice A4 (n+1) c4) (L-(k-1)) R9 (fun t=>fM N d X (L-t))):=by
      have e9:L-(k-1)=n+1:=by omega
      rw [e9];exact⟨_,qb⟩
     have hi9:=IntWalk.i64_in ((k:Int)-1) (by omega);clear e2 e3 hl L9 hlk oQ he2 Nz;go_wp2_with fail
     go_roundg k
     case measure=>have:=HG.out;omega
     case rel=>
      have e9:d (k-1+1)=d k:=by rw [show k-1+1=k by omega]
      refine⟨k-1,.slice A4 (n+1) c4,R9,by omega,by omega,rfl,?_,lH,Mc,?_,hs4,dN⟩
      ·exact congrArg (Value.int .i64) (by omega)
      ·rw [e9];exact mM
end
end Go.Proofs.YtbjgeidjmhialaaGreatDoor
