/- Part 28. -/
import Derived.Test.YtbjgeidjmhialaaGreatDoorLa27
namespace Go.Proofs.YtbjgeidjmhialaaGreatDoor
set_option maxRecDepth 100000
set_option maxHeartbeats 8000000
section
open Go.RowKit
open Go.Lib (compareBytes)
section
variable (nd lf inn fl bl:Int)
def eP:List aH→List aH→List aH×Int
 |l,[]=>(l,0)
 |l,e::es=>if iG nd lf inn fl bl l e=0 then eP (l++ [e]) es else(l,iG nd lf inn fl bl l e)
structure bg where
 rdr:aU
 ents:List aH
 done:Bool
 tree:Option (List bB×Int)
 err:Int
 bad:Nat
def bg.took (m:bg) (l:List aH) (r:aU):bg:=
 if(eP nd lf inn fl bl m.ents l).2=0 then{m with rdr:=r,ents:=(eP nd lf inn fl bl m.ents l).1}
 else{m with rdr:=r,ents:=(eP nd lf inn fl bl m.ents l).1,done:=true,err:=(eP nd lf inn fl bl m.ents l).2,bad:=(r.rows.getLast?.getD ⟨[],0,0,0⟩).at_}
def bg.ends (m:bg) (r:aU):bg:=
 {m with rdr:=r,done:=true,err:=r.err,bad:=r.bad,tree:=if r.err=0 then some (aO fl.toNat inn.toNat m.ents) else none}
def bg.step (m:bg):bg:=
 if m.done=true then m else match m.rdr.next.1 with
  |none=>m.ends inn fl m.rdr.next.2
  |some l=>m.took nd lf inn fl bl l m.rdr.next.2
structure bg.Ok (K:Nat) (m:bg):Prop where
 rdr:m.rdr.Ok K
 go:m.done=false→m.rdr.st≠2∧m.rdr.err=0∧m.err=0∧m.bad=0∧m.tree=none
 bld:(cK nd lf inn fl bl m.ents).1=0
 tr:∀t,m.tree=some t→∃l,t=aO fl.toNat inn.toNat l∧(cK nd lf inn fl bl l).1=0
end
variable {nd lf inn fl bl:Int}
theorem Bz {l:List aH} (h:(cK nd lf inn fl bl l).1=0):l.length≤4194304:=by
 obtain⟨hc,_,hn⟩:=gp.1 h;have h0:=hc;unfold aY at h0;obtain⟨f,rfl⟩:∃f:Nat,fl=f:=⟨fl.toNat,by omega⟩;rw [gq hc (by omega)] at hn;have h1:¬nd-0<parts (l.length:Int) f:=fun h=>by rw [jH h] at hn;exact absurd hn (by decide)
 by_cases hz:l.length=0
 ·omega
 ·have h2:=gK l.length f (by omega);have h3:=(iA l.length f (by omega) (by omega)).1;have h4:pn l.length f≤65536:=by omega
  have h5:pn l.length f*f≤65536*64:=Nat.mul_le_mul h4 (by omega);omega
theorem uZ {l:List aH} (h:(cK nd lf inn fl bl l).1=0):∀e∈l,e.1.length≤64∧e.2.length≤256:=fun e he=>(dC (gp.1 h).2.1 he).2
theorem Pk {l:List aH} {e:aH} (h:(cK nd lf inn fl bl l).1=0) (ha:iG nd lf inn fl bl l e=0):(cK nd lf inn fl bl (l++ [e])).1=0:=by
 have:=E5 (e:=e) h;unfold tY at this;rwa [if_pos ha] at this
theorem rM {l:List aH} (h:(cK nd lf inn fl bl l).1=0):∀es,(cK nd lf inn fl bl (eP nd lf inn fl bl l es).1).1=0
 | []=>h
 |e::es=>by
  unfold eP
  split
  ·rename_i h1;exact rM (Pk h h1) es
  ·exact h
theorem rD {l es:List aH} {i:Nat} {e:aH} (h:es[i]? =some e):eP nd lf inn fl bl l (es.drop i)=if iG nd lf inn fl bl l e=0 then eP nd lf inn fl bl (l++ [e]) (es.drop (i+1)) else(l,iG nd lf inn fl bl l e):=by
 obtain⟨hi,rfl⟩:=List.getElem?_eq_some_iff.1 h;rw [List.drop_eq_getElem_cons hi];rfl
theorem bg.step_ok {K:Nat} {m:bg} (h:m.Ok nd lf inn fl bl K):(m.step nd lf inn fl bl).Ok nd lf inn fl bl K:=by
 obtain⟨n1,n2⟩:=aU.next_ok h.rdr;unfold bg.step
 split
 ·exact h
 ·rename_i hd;have hg:=h.go (by simpa using hd)
  split
  ·refine⟨n1,fun h=>by simp [bg.ends] at h,h.bld,fun t ht=> ?_⟩;unfold bg.ends at ht
   by_cases he:m.rdr.next.2.err=0
   ·simp only [if_pos he] at ht;injection ht with ht
    exact⟨_,ht.symm,h.bld⟩
   ·simp only [if_neg he] at ht
    cases ht
  ·rename_i l hl;have hb:=n2 l hl;unfold bg.took
   split
   ·exact⟨n1,fun _=>⟨by rw [hb.st];decide,n1.err (by rw [hb.st];decide),hg.2.2⟩,rM h.bld _,h.tr⟩
   ·exact⟨n1,fun h=>by simp at h,rM h.bld _,h.tr⟩
theorem bg.step_at {K:Nat} {m:bg} (h:m.Ok nd lf inn fl bl K) (hd:m.done=false) (hn:(m.step nd lf inn fl bl).done=false):m.rdr.cur.at_<(m.step nd lf inn fl bl).rdr.cur.at_∧(m.step nd lf inn fl bl).rdr.cur.at_≤1152921504606:=by
 obtain⟨n1,n2⟩:=aU.next_ok h.rdr;have ho:=bg.step_ok h;have hg:=ho.go hn;have hs:=(ho.rdr.cur hg.1).sum;refine⟨?_,by omega⟩;unfold bg.step at hn⊢;rw [if_neg (by simp [hd])] at hn⊢
 split at hn
 ·simp [bg.ends] at hn
 ·rename_i l hl;have hb:=n2 l hl;unfold bg.took
  split
  ·exact hb.at_
  ·exact hb.at_
theorem bg.step_done {m:bg} (h:m.done=true):m.step nd lf inn fl bl=m:=by unfold bg.step;rw [if_pos h]
end
section
open Go.Proofs.Tryz
open Go.RowKit
open Go.Lib (compareBytes)
def Bc (p:Nat) (nd lf inn fl bl:Int) (x:Value) (w:World):Prop:=w.cell? ⟨p,0,none⟩=some (.int .i64 nd)∧w.cell? ⟨p,1,none⟩=some (.int .i64 lf)∧w.cell? ⟨p,2,none⟩=some (.int .i64 inn)∧w.cell? ⟨p,3,none⟩=some (.int .i64 fl)∧w.cell? ⟨p,4,none⟩=some (.int .i64 bl)∧w.cell? ⟨p,5,none⟩=some x
theorem JO {w:World} {p:Nat} {T:TypeId} {nd lf inn fl bl:Int} {x:Value} (h:ai w p T #[.int .i64 nd,.int .i64 lf,.int .i64 inn,.int .i64 fl,.int .i64 bl,x]):Bc p nd lf inn fl bl x w:=⟨by rw [h.cell];rfl,by rw [h.cell];rfl,by rw [h.cell];rfl,by rw [h.cell];rfl,by rw [h.cell];rfl,by rw [h.cell];rfl⟩
theorem Bc.below {w w':World} {p:Nat} {nd lf inn fl bl:Int} {x:Value} (h:Bc p nd lf inn fl bl x w) (hb:Below w.heap.size w w'):Bc p nd lf inn fl bl x w':=⟨ak hb h.1,ak hb h.2.1,ak hb h.2.2.1,ak hb h.2.2.2.1,ak hb h.2.2.2.2.1,ak hb h.2.2.2.2.2⟩
noncomputable def QY:Code:=aP (f43.body.bind (aA 6))
theorem nodes (p:Nat) (nd lf inn fl bl:Int) (A:Option Addr) (n c:Nat) (w:World) {u1 u2 u3 u4 u5 u6 u7 u8 u9 u10 u11 u12 u13 bN bq u16 u17 bC bD u20 u21 u22 u23 u24 u25 u26 u27 u28 u29 u30 u31 u32 u33 u34 u35 u36 u37 u38 dh u40 bX u42 bY u44 u45 u46 di u48 u49 bV u51 u52 u53 bW u55 dz dB u58 u59 u60 dH dG u63 u64 dO u66 dU u68 u69 u70:Value} (Q:Exit→Act→World→Prop) (nC:Hid (∀c t (a:Act) w,Q (.panic c) ⟨t,a.defers⟩ w→Q (.panic c) a w))
  (hc:aY nd lf inn fl bl) (hn:n≤1152921504606) (hb:Bc p nd lf inn fl bl (.slice A n c) w)
  (au:∀(v6 v38 v39 v40 v41 v42 v43 v44 v45 v46 v47 v48 v49 v50 v51:Value) (w':World),Below w.heap.size w w'→Q .normal ⟨(.pointer (some ⟨p,0,none⟩)::u1::u2::u3::u4::u5::v6:: .int .i64 (aS nd lf inn fl bl ((n+1:Nat):Int)).2::u8::u9::u10::u11::u12::u13::bN::bq::u16::u17::bC::bD::u20::u21::u22::u23::u24::u25::u26::u27::u28::u29::u30::u31::u32::u33::u34::u35::u36::u37::v38::v39::v40::v41::v42::v43::v44::v45::v46::v47::v48::v49::v50::v51::u52::u53::bW::u55::dz::dB::u58::u59::u60::dH::dG::u63::u64::dO::u66::dU::u68::u69::u70:: []).toArray,[]⟩ w'):
  Code.wp prog QY Q ⟨(.pointer (some ⟨p,0,none⟩)::u1::u2::u3::u4::u5::u6::u7::u8::u9::u10::u11::u12::u13::bN::bq::u16::u17::bC::bD::u20::u21::u22::u23::u24::u25::u26::u27::u28::u29::u30::u31::u32::u33::u34::u35::u36::u37::u38::dh::u40::bX::u42::bY::u44::u45::u46::di::u48::u49::bV::u51::u52::u53::bW::u55::dz::dB::u58::u59::u60::dH::dG::u63::u64::dO::u66::dU::u68::u69::u70:: []).toArray,[]⟩ w:=by
 have dF:=aa au;have HC:=aa hc;have hw:=IntWalk.i64_in ((n:Int)+1) (by omega);obtain⟨NE,JP⟩:∃x,x=aS nd lf inn fl bl ((n+1:Nat):Int):=⟨_,rfl⟩;rw [←JP] at dF;have zk:=aa JP;have S0:Bc p nd lf inn fl bl (.slice A n c) w.drew:=hb;clear au hc JP hb;conv=>arg 2;whnf
 refine aX (Bc p nd lf inn fl bl (.slice A n c)) (by kernel_rfl) ?_;refine vT 0 S0 ?_;refine vT 1 S0 ?_;refine vT 2 S0 ?_;refine vT 4 S0 ?_;refine vT 5 S0 ?_;refine vT 6 S0 ?_;refine vT 3 S0 ?_;refine vT 7 S0 ?_;refine vT 8 S0 ?_;refine vT 9 S0 ?_;refine aR (i:=10) (by kernel_rfl) rfl (fun K hK=> ?_);go_simp
 refine(JQ nd lf inn fl bl ((n:Int)+1) _ HC (by omega) (by omega)).mono ?_;rintro e w5 ⟨rfl,hb5⟩;rw [show((n:Int)+1)=((n+1:Nat):Int) by omega,←zk.out];unfold JR;have S5:=S0.below hb5;refine hK.out _ _ S5 ?_;clear hK K;try simp only [aL,aN,aZ,aC]
 refine vT 11 S5 ?_;refine vT 12 S5 ?_;refine vT 13 S5 ?_;refine vT 14 S5 ?_;refine vT 15 S5 ?_;refine bP (by kernel_rfl) ?_ _;exact dF _ _ _ _ _ _ _ _ _ _ _ _ _ _ _ _ ((Below.refl _ _).drew.trans hb5)
noncomputable def QZ:Code:=aP (f43.body.bind (aA 9))
theorem EP (p q:Nat) (T:TypeId) (A:Option Addr) (n c:Nat) (us:List Value) (Ak Av:Option Addr) (nk ck nv cv:Nat) (D:Nat→Prop) (e:aH) (v0 v1 v2 v3 v4:Value) (w:World) {u1 u2 u4 u5 u6 u7 u8 u9 u10 u11 u12 u13 bN bq u16 u17 bC bD u20 u21 u22 u23 u24 u25 u26 u27 u28 u29 u30 u31 u32 u33 u34 u35 u36 u37 u38 dh u40 bX u42 bY u44 u45 u46 di u48 u49 bV u51 u52 u53 bW u55 dz dB u58 u59 u60 dH dG u63 u64 dO u66 dU u68 u69 u70:Value} (Q:Exit→Act→World→Prop) (nC:Hid (∀c t (a:Act) w,Q (.panic c) ⟨t,a.defers⟩ w→Q (.panic c) a w))
  (HB:Hid (ai w p T #[v0,v1,v2,v3,v4,.slice A n c])) (HO:Hid (w.ownsRow 0 57 2 (.slice A n c) n us)) (hT:(Value.slice A n c).ownBlock≠some p) (hn:n≤1152921504606)
  (c1:w.cell? ⟨q,0,none⟩=some (.slice Ak nk ck)) (c2:w.cell? ⟨q,1,none⟩=some (.slice Av nv cv)) (hqo:(Value.slice A n c).ownBlock≠some q)
  (HK:Hid (Bt w D Ak nk ck e.1)) (HV:Hid (Bt w D Av nv cv e.2)) (l1:e.1.length≤1152921504606) (l2:e.2.length≤1152921504606)
  (au:∀(v55 v56 v57 v58 v59 v60 v61 v62 v63 v64 v65 v66 v67 v68 v69 v70:Value) (u v x:Value) (wa w2:World),Below w.heap.size w wa→w2.ownsRow 0 57 2 x (n+1) (us++ [u,v])→wa.grownBy w2 (Value.slice A n c).ownBlock→(x.ownBlock=(Value.slice A n c).ownBlock∨x.ownBlock=some wa.heap.size)→SB wa (From w.heap.size) u e.1→SB wa (From w.heap.size) v e.2→Q .normal ⟨(.pointer (some ⟨p,0,none⟩)::u1::u2:: .pointer (some ⟨q,0,none⟩)::u4::u5::u6::u7::u8::u9::u10::u11::u12::u13::bN::bq::u16::u17::bC::bD::u20::u21::u22::u23::u24::u25::u26::u27::u28::u29::u30::u31::u32::u33::u34::u35::u36::u37::u38::dh::u40::bX::u42::bY::u44::u45::u46::di::u48::u49::bV::u51::u52::u53::bW::v55::v56::v57::v58::v59::v60::v61::v62::v63::v64::v65::v66::v67::v68::v69::v70:: []).toArray,[]⟩ (w2.setCell ⟨p,5,none⟩ x)):
  Code.wp prog QZ Q ⟨(.pointer (some ⟨p,0,none⟩)::u1::u2:: .pointer (some ⟨q,0,none⟩)::u4::u5::u6::u7::u8::u9::u10::u11::u12::u13::bN::bq::u16::u17::bC::bD::u20::u21::u22::u23::u24::u25::u26::u27::u28::u29::u30::u31::u32::u33::u34::u35::u36::u37::u38::dh::u40::bX::u42::bY::u44::u45::u46::di::u48::u49::bV::u51::u52::u53::bW::u55::dz::dB::u58::u59::u60::dH::dG::u63::u64::dO::u66::dU::u68::u69::u70:: []).toArray,[]⟩ w:=by
 obtain⟨i0,hi0,jO,jP,jQ⟩:=info_parts nW;have dF:=aa au;have hpl:=HB.out.lt;have lk:nk≤1152921504606:=by have:=HK.out.len;omega
 have lv:nv≤1152921504606:=by have:=HV.out.len;omega
 have S0:w.drew.cell? ⟨p,5,none⟩=some (.slice A n c)∧w.drew.cell? ⟨q,0,none⟩=some (.slice Ak nk ck)∧w.drew.cell? ⟨q,1,none⟩=some (.slice Av nv cv):=⟨(HB.cell 5).trans rfl,c1,c2⟩;clear au l1 l2;conv=>arg 2;whnf
 refine aM (fun w'=>w'.cell? ⟨p,5,none⟩=some (.slice A n c)∧w'.cell? ⟨q,0,none⟩=some (.slice Ak nk ck)∧w'.cell? ⟨q,1,none⟩=some (.slice Av nv cv)) 16 (by kernel_rfl) ?_;refine uF 0 (fun _=>S0) ?_;refine uF 1 (fun _=>S0) ?_;refine uF 2 (fun _=>S0) ?_;refine uF 3 (fun _=>S0) ?_;refine uF 5 (fun _=>S0) ?_;refine uF 8 (fun _=>S0) ?_;refine uT 4 S0 ?_;refine uT 6 S0 ?_;refine uT 9 S0 ?_;refine az (i:=7) (by kernel_rfl) rfl (fun K hK=> ?_);go_simp
 refine(dm Ak nk ck D e.1 _ HK.2.2.2.drew HK.len lk).mono ?_;rintro e' w1 ⟨A1,n1,d1,rfl,p1,p2,p3,p4,hb1⟩;have F3:=aa (show SB w1 (From w.heap.size) (.slice A1 n1 d1) e.1 from⟨_,_,_,rfl,p1,p2,p3,p4.weak (fun b hb=>hb.1)⟩);have HB1:Hid (Below w.heap.size w w1):=aa ((Below.refl _ _).drew.trans hb1);have S1:w1.cell? ⟨p,5,none⟩=some (.slice A n c)∧w1.cell? ⟨q,0,none⟩=some (.slice Ak nk ck)∧w1.cell? ⟨q,1,none⟩=some (.slice Av nv cv):=⟨ak hb1 S0.1,ak hb1 S0.2.1,ak hb1 S0.2.2⟩;clear p1 p2 p3 p4 hb1;refine hK.out _ _ (fun _=>S1) ?_;clear hK K;try simp only [aL,aN,aZ,aC]
 refine az (i:=10) (by kernel_rfl) rfl (fun K hK=> ?_);go_simp
 refine(dm Av nv cv D e.2 _ ((HV.below HB1).2.2.2) HV.len lv).mono ?_;rintro e' w2 ⟨A2,n2,d2,rfl,p1,p2,p3,p4,hb2⟩;have hz1:=HB1.out.size;have pG:=aa (show SB w2 (From w.heap.size) (.slice A2 n2 d2) e.2 from⟨_,_,_,rfl,p1,p2,p3,p4.weak (fun b hb=>Nat.le_trans hz1 hb.1)⟩);have HB2:Hid (Below w.heap.size w w2):=aa (HB1.out.trans (hb2.mono hz1));have wC:=aa (F3.below hb2);have S2:w2.cell? ⟨p,5,none⟩=some (.slice A n c)∧w2.cell? ⟨q,0,none⟩=some (.slice Ak nk ck)∧w2.cell? ⟨q,1,none⟩=some (.slice Av nv cv):=⟨ak hb2 S1.1,ak hb2 S1.2.1,ak hb2 S1.2.2⟩;clear p1 p2 p3 p4 hb2;refine hK.out _ _ (fun _=>S2) ?_;clear hK K;try simp only [aL,aN,aZ,aC]
 refine uF 11 (fun _=>S2) ?_;refine az (i:=12) (by kernel_rfl) rfl (fun K hK=> ?_);go_simp
 have hb3:Below w2.heap.size w2 (w2.alloc (.cells #[.slice A1 n1 d1,.slice A2 n2 d2] 57)):=(Below.refl _ _).alloc (Nat.le_refl _) _;have HB3:Hid (Below w.heap.size w (w2.alloc (.cells #[.slice A1 n1 d1,.slice A2 n2 d2] 57))):=aa (HB2.out.trans (hb3.mono HB2.size));have HU:=aa (wC.below hb3);have HW:=aa (pG.below hb3);have S3:(w2.alloc (.cells #[.slice A1 n1 d1,.slice A2 n2 d2] 57)).cell? ⟨p,5,none⟩=some (.slice A n c)∧(w2.alloc (.cells #[.slice A1 n1 d1,.slice A2 n2 d2] 57)).cell? ⟨q,0,none⟩=some (.slice Ak nk ck)∧(w2.alloc (.cells #[.slice A1 n1 d1,.slice A2 n2 d2] 57)).cell? ⟨q,1,none⟩=some (.slice Av nv cv):=⟨ak hb3 S2.1,ak hb3 S2.2.1,ak hb3 S2.2.2⟩;refine hK.out _ _ (fun _=>S3) ?_;clear hK K;try simp only [aL,aN,aZ,aC]
 refine az (i:=13) (by kernel_rfl) rfl (fun K hK=> ?_);refine aV _ rfl (.tmp 59) (.tmp 67) _ rfl 0 57 i0 _ 2 48 underlying37 hi0 jO jP jQ rfl (by omega) (.slice A n c) n us rfl (own_below HO HB3) (From w2.heap.size) (some ⟨w2.heap.size,0,none⟩) 1 1 [.slice A1 n1 d1,.slice A2 n2 d2] rfl (Rd.two w2 _ _ _) (by intro u hu;simp at hu;rcases hu with hu|hu<;>subst hu<;>rfl) (by simp only [maxLen];omega) (by omega) (by omega) ?_;intro x w4 eu hg4 jd;obtain⟨K4,P5,hv4,_,_⟩:=ay eu;subst hv4;have lI:=aa eu;have F4:=aa hg4;have F5:=aa jd;have Jp:w4.cell? ⟨p,5,none⟩=some (.slice A n c):=(ag.of_grown hg4).cell hT S3.1;have Uv:∀o,w4.frozen? ⟨p,o,none⟩=false:=((HB.below HB3).chg (ag.of_grown hg4) hT).frozen;have S4:w4.cell? ⟨p,5,none⟩=some (.slice A n c)∧w4.cell? ⟨q,0,none⟩=some (.slice Ak nk ck)∧w4.cell? ⟨q,1,none⟩=some (.slice Av nv cv):=⟨Jp,(ag.of_grown hg4).cell hqo S3.2.1,(ag.of_grown hg4).cell hqo S3.2.2⟩;clear eu hg4 jd;refine hK.out _ _ (fun _=>S4) ?_;clear hK K;try simp only [aL,aN,aZ,aC]
 refine uF 14 (fun _=>S4) ?_;refine uF 15 (fun _=>S4) ?_;refine az (i:=16) (by kernel_rfl) rfl (fun K hK=> ?_);go_simp
 refine hK.out _ _ (fun h=>absurd h (by decide)) ?_;clear hK K;try simp only [aL,aN,aZ,aC]
 refine bL (by kernel_rfl) ?_ _;exact dF _ _ _ _ _ _ _ _ _ _ _ _ _ _ _ _ _ _ _ _ w4 HB3 lI F4 F5 HU HW
end
section
open Go.Proofs.Tryz
open Go.RowKit
open Go.Lib (compareBytes)
theorem Bd.grow {w w':World} {T:TypeId} {F In:Nat→Prop} {p:Nat} {nd lf inn fl bl:Int} {l:List aH} (h:Bd w T F In p nd lf inn fl bl l) (hb:Below w.heap.size w w'):Bd w' T (Grown F w w') In p nd lf inn fl bl l:=by
 obtain⟨A,n,c,us,h1,h2,h3,h4,h5,h6,h7,h8⟩:=h.below hb;refine⟨A,n,c,us,.inl h1,fun b hb'=>hb'.elim (h2 b) (fun h=>h.2),h3,h4,h5,fun g hg=> .inl (h6 g hg),h7,fun i e he=> ?_⟩;obtain⟨u,v,a,b,s1,s2⟩:=h8 i e he;exact⟨u,v,a,b,s1.weak (fun b hb=>⟨hb.1.imp .inl id,hb.2⟩),s2.weak (fun b hb=>⟨hb.1.imp .inl id,hb.2⟩)⟩
def lJ (w:World) (T:TypeId) (F In:Nat→Prop) (p:Nat) (nd lf inn fl bl:Int) (l:List aH) (e:aH) (en:Ending) (w':World):Prop:=
 en= .returned (.int .i64 (iG nd lf inn fl bl l e))∧Bd w' T (Grown F w w') In p nd lf inn fl bl (tY nd lf inn fl bl l e)∧ag F w w'
theorem lJ.stay {w w':World} {T:TypeId} {F In:Nat→Prop} {p:Nat} {nd lf inn fl bl x:Int} {l:List aH} {e:aH} (h:Bd w T F In p nd lf inn fl bl l) (hb:Below w.heap.size w w') (hx:iG nd lf inn fl bl l e=x) (h0:x≠0):lJ w T F In p nd lf inn fl bl l e (.returned (.int .i64 x)) w':=
 ⟨by rw [hx],by unfold tY;rw [if_neg (by rw [hx];exact h0)];exact h.grow hb,ag.of_below hb⟩
theorem Bd.sub {w:World} {T:TypeId} {F G In:Nat→Prop} {p:Nat} {nd lf inn fl bl:Int} {l:List aH} (h:Bd w T F In p nd lf inn fl bl l) (hF:∀b,F b→G b) (hG:∀b,G b→b<w.heap.size):Bd w T G In p nd lf inn fl bl l:=by
 obtain⟨A,n,c,us,h1,h2,h3,h4,h5,h6,h7,h8⟩:=h;refine⟨A,n,c,us,hF _ h1,hG,h3,h4,h5,fun g hg=>hF g (h6 g hg),h7,fun i e he=> ?_⟩;obtain⟨u,v,a,b,s1,s2⟩:=h8 i e he;exact⟨u,v,a,b,s1.weak (fun b hb=>⟨hb.1.imp (hF b) id,hb.2⟩),s2.weak (fun b hb=>⟨hb.1.imp (hF b) id,hb.2⟩)⟩
theorem lJ.put {w w3 w':World} {T:TypeId} {F In:Nat→Prop} {p:Nat} {nd lf inn fl bl:Int} {l:List aH} {e:aH} (hb:Below w.heap.size w w3) (h:Bd w' T (Grown F w3 w') In p nd lf inn fl bl (l++ [e])) (hc:ag F w3 w') (hx:iG nd lf inn fl bl l e=0) (hF:∀b,F b→b<w.heap.size):lJ w T F In p nd lf inn fl bl l e (.returned (.int .i64 0)) w':=by
 have h1:=hb.size;have h2:=hc.size;exact⟨by rw [hx],by unfold tY;rw [if_pos hx];exact h.sub (fun b hb'=>hb'.elim .inl (fun h=> .inr ⟨Nat.le_trans h1 h.1,h.2⟩)) (fun b hb'=>hb'.elim (fun h=>Nat.lt_of_lt_of_le (hF b h) (Nat.le_trans h1 h2)) (fun h=>h.2)),(ag.of_below (S:=F) hb).trans hc (fun _ _ h=>h)⟩
theorem NI (F In D:Nat→Prop) (p:Nat) (nd lf inn fl bl:Int) (l:List aH) (e:aH) (Ak Av:Option Addr) (nk ck nv cv:Nat) (w:World) (hB:Bd w 185 F In p nd lf inn fl bl l) (hc:aY nd lf inn fl bl) (hIn:∀b,In b→b<w.heap.size) (h1:Bt w D Ak nk ck e.1) (h2:Bt w D Av nv cv e.2) (l1:e.1.length≤1152921504606) (l2:e.2.length≤1152921504606) (hl:l.length≤1152921504) (hls:∀x∈l,x.1.length≤1152921504606):
  Calls prog 43 #[.pointer (some ⟨p,0,none⟩),.agg #[.slice Ak nk ck,.slice Av nv cv]] w (lJ w 185 F In p nd lf inn fl bl l e):=by
 have HB:=aa hB;obtain⟨A,n,c,us,b1,b2,b3,b4,b5,b6,b7,b8⟩:=hB;have B2:=aa b2;have B4:=aa b4;have B5:=aa b5;have B6:=aa b6;have B7:=b7;have B8:=aa b8;have HC:=aa hc;have H1:=aa h1;have H2:=aa h2;have HI:=aa hIn;have HLS:=aa hls;have hn:n≤1152921504:=by have:=b7.out;omega
 have hop:(Value.slice A n c).ownBlock≠some p:=ic b5 b4 (by decide);have hoq:(Value.slice A n c).ownBlock≠some w.heap.size:=fun e=>by have:=(ah b5 _ e).2;omega
 have hpw:p<w.heap.size:=b4.lt;have p5:w.cell? ⟨p,5,none⟩=some (.slice A n c):=(b4.cell 5).trans rfl;have hpf:=b4.frozen;clear hc b2 b4 b5 b6 b7 b8 hIn h1 h2 hls
 rcases nX e with he|he
 ·have HX:=aa he;have zF:ai (w.alloc (.cells #[.slice Ak nk ck,.slice Av nv cv] 57)) w.heap.size 57 #[.slice Ak nk ck,.slice Av nv cv]:=ai.new _ _ _;have iC:=aa zF;clear he zF
  rcases Nat.eq_zero_or_pos n with h0|h0
  ·have hn0:¬(0:Int)<(n:Int):=by omega
   have HK:Hid (¬(0<l.length∧0≤compareBytes (l.getD (l.length-1) ([],[])).1 e.1)):=aa (by have:=B7.out;omega);go_enter func43,ntmps43
   go_wp2_with (first|(go_at_call 69;refine(mG Ak Av nk nv ck cv e H1.len H2.len _).mono ?_;rintro e1 w1 ⟨rfl,hb1⟩;rw [HX.out];have HB1:Hid (Below w.heap.size w w1):=aa (((Below.refl _ _).alloc (Nat.le_refl _) _).trans (hb1.mono (by simp)));have xY:=aa (iC.below hb1);have p51:=ak HB1 p5;have x0:w1.cell? ⟨w.heap.size,0,none⟩=some (.slice Ak nk ck):=(xY.out.cell 0).trans rfl;clear hb1))
   go_quiet (fail);rename_i nq;go_wp2;have ek:Hid (Below w.heap.size w (w1.drewN nq)):=aa (below_drewN HB1 nq);obtain⟨W1,hW1⟩:∃x,x=w1.drewN nq:=⟨_,rfl⟩;rw [←hW1] at ek;have dN:Hid (ai W1 p 185 #[.int .i64 nd,.int .i64 lf,.int .i64 inn,.int .i64 fl,.int .i64 bl,.slice A n c]):=aa (B4.out.below ek);have y0:W1.cell? ⟨w.heap.size,0,none⟩=some (.slice Ak nk ck):=by rw [hW1];exact(xY.cell 0).trans rfl
   have y1:W1.cell? ⟨w.heap.size,1,none⟩=some (.slice Av nv cv):=by rw [hW1];exact(xY.cell 1).trans rfl
   first|rw [←hW1]|skip
   clear x0 p51 hW1;obtain⟨NE,JP⟩:∃x,x=(aS nd lf inn fl bl ((n+1:Nat):Int)).2:=⟨_,rfl⟩;have P6:Hid (iG nd lf inn fl bl l e=NE):=aa (by unfold iG;rw [if_neg (by rw [HX.out];decide),if_neg HK,JP,B7.out]);have zk:=aa JP;clear JP;refine nodes p nd lf inn fl bl A n c W1 _ (aa (fun _ _ _ _ h=>h)) HC (by omega) (JO dN) ?_;intro v6 v38 v39 v40 v41 v42 v43 v44 v45 v46 v47 v48 v49 v50 v51 w3 hb3;rw [←zk.out];have HB3:=aa hb3;have z0:=ak hb3 y0;have z1:=ak hb3 y1;have fZ:Hid (Below w.heap.size w w3):=aa (ek.out.trans (hb3.mono ek.size));clear hb3 y0 y1
   by_cases hz:NE=0
   ·have hz':(NE==0)=true:=by rw [beq_iff_eq];exact hz
    have HZ:=aa hz;clear hz;go_wp2;refine EP p w.heap.size 185 A n c us Ak Av nk ck nv cv D e _ _ _ _ _ w3 _ (aa (fun _ _ _ _ h=>h)) (aa (dN.below HB3)) (aa (own_below B5.out fZ)) hop (by omega) z0 z1 hoq (H1.below fZ|>aa) (H2.below fZ|>aa) l1 l2 ?_;intro v55 v56 v57 v58 v59 v60 v61 v62 v63 v64 v65 v66 v67 v68 v69 v70 u' v' x wa w4 lG EQ hg4 jd su sv;have hpush:=Bd.push (F:=F) (In:=In) (T:=185) (l:=l) (e:=e) b1 (fun b hb=>Nat.lt_of_lt_of_le (B2.out b hb) fZ.size) b3 (B4.out.below fZ) (own_below B5.out fZ) B6.out B7 (fun i x hx=>let⟨u,v,q1,q2,s1,s2⟩:=B8.out i x hx;⟨u,v,q1,q2,s1.below fZ,s2.below fZ⟩) lG EQ hg4 jd (su.weak (fun b hb=>⟨.inr (.inr hb),fun e=>by have:=(ah (own_below B5.out fZ) b e).2;have hb:w3.heap.size≤b:=hb;omega,by have hb:w3.heap.size≤b:=hb;have:=fZ.out.size;omega⟩)) (sv.weak (fun b hb=>⟨.inr (.inr hb),fun e=>by have:=(ah (own_below B5.out fZ) b e).2;have hb:w3.heap.size≤b:=hb;omega,by have hb:w3.heap.size≤b:=hb;have:=fZ.out.size;omega⟩)) (fun b hb=>Nat.lt_of_lt_of_le (HI b hb) fZ.size);have HP:=aa hpush;clear hpush EQ hg4 jd
    go_wp2;go_ret;exact lJ.put fZ HP.1 HP.2 (by rw [P6.out];exact HZ) B2.out
   ·have hz':(NE==0)=false:=by rw [beq_eq_false_iff_ne];exact hz
    go_wp2;go_ret
    exact lJ.stay HB fZ P6 hz
  ·have hn0:(0:Int)<(n:Int):=by omega
   have hn1:(n:Int)≤1152921504:=by omega
   obtain⟨g,gc,hv,_,_⟩:=B5.out.form h0;injection hv with hv _ hv'
   subst hv;subst hv';have hll:l.length-1<l.length:=by have:=B7.out;omega
   obtain⟨u,v,u1,_,s1,_⟩:=B8.out (n-1) l[l.length-1] (by have e:=B7.out;rw [e];exact List.getElem?_eq_getElem hll);obtain⟨La,ln,lc,rfl,q1,q2,q3,q4⟩:=s1;have HL:Hid (l.getD (l.length-1) ([],[])=l[l.length-1]):=aa (by rw [List.getD_eq_getElem?_getD,List.getElem?_eq_getElem hll];rfl);have Nj:Hid (Bt w (fun b=>(F b∨In b)∧(Value.slice (some ⟨g,0,none⟩) n c).ownBlock≠some b∧b≠p) La ln lc l[l.length-1].1):=aa ⟨q1,q2,q3,q4⟩;have lsm:l[l.length-1].1.length≤1152921504606:=HLS.out _ (List.getElem_mem hll)
   have cl:w.cell? ⟨g,(n-1)*2,none⟩=some (.slice La ln lc):=by
    have h1:=B5.out.1;rw [B5.out.cellAt ((n-1)*2) (by omega),Nat.mul_comm];exact u1
   have w1':=IntWalk.i64_in ((n:Int)-1) (by omega);have w2':(0:Int)≤(n:Int)-1:=by omega
   have w3':((n:Int)-1)<n:=by omega
   have w4':((n:Int)-1).toNat=n-1:=by omega
   have w5':(1:Int)≤(n:Int):=by omega
   clear u1 q1 q2 q3 q4
   by_cases hcmp:0≤compareBytes l[l.length-1].1 e.1
   ·have HA:Hid (iG nd lf inn fl bl l e=51):=aa (by unfold iG;rw [if_neg (by rw [HX.out];decide),if_pos ⟨by have:=B7.out;omega,by rw [HL.out];exact hcmp⟩]);go_enter func43,ntmps43
    go_wp2_with (first|(go_at_call 69;refine(mG Ak Av nk nv ck cv e H1.len H2.len _).mono ?_;rintro e1 w1 ⟨rfl,hb1⟩;rw [HX.out];have HB1:Hid (Below w.heap.size w w1):=aa (((Below.refl _ _).alloc (Nat.le_refl _) _).trans (hb1.mono (by simp)));have xY:=aa (iC.below hb1);have p51:=ak HB1 p5;have x0:w1.cell? ⟨w.heap.size,0,none⟩=some (.slice Ak nk ck):=(xY.out.cell 0).trans rfl;have cl1:=ak HB1 cl;clear hb1))
    go_quiet ((go_at_call 70;exact dZ (bi _ _ _ _ _ _ _ _ l[l.length-1].1 e.1 _ ((Nj.below HB1).2.2.2.drewN _) Nj.len ((H1.below HB1).2.2.2.drewN _) H1.len)));go_wp2;go_ret
    exact lJ.stay HB (below_drewN HB1 _) HA (by decide)
   ·have HK:Hid (¬(0<l.length∧0≤compareBytes (l.getD (l.length-1) ([],[])).1 e.1)):=aa (fun h=>hcmp (by rw [HL.out] at h;exact h.2));go_enter func43,ntmps43
    go_wp2_with (first|(go_at_call 69;refine(mG Ak Av nk nv ck cv e H1.len H2.len _).mono ?_;rintro e1 w1 ⟨rfl,hb1⟩;rw [HX.out];have HB1:Hid (Below w.heap.size w w1):=aa (((Below.refl _ _).alloc (Nat.le_refl _) _).trans (hb1.mono (by simp)));have xY:=aa (iC.below hb1);have p51:=ak HB1 p5;have x0:w1.cell? ⟨w.heap.size,0,none⟩=some (.slice Ak nk ck):=(xY.out.cell 0).trans rfl;have cl1:=ak HB1 cl;clear hb1))
    go_quiet ((go_at_call 70;exact dZ (bi _ _ _ _ _ _ _ _ l[l.length-1].1 e.1 _ ((Nj.below HB1).2.2.2.drewN _) Nj.len ((H1.below HB1).2.2.2.drewN _) H1.len)));rename_i nq;clear w1' w2' w3' w4' w5' cl cl1;go_wp2;have ek:Hid (Below w.heap.size w (w1.drewN nq)):=aa (below_drewN HB1 nq);obtain⟨W1,hW1⟩:∃x,x=w1.drewN nq:=⟨_,rfl⟩;rw [←hW1] at ek;have dN:Hid (ai W1 p 185 #[.int .i64 nd,.int .i64 lf,.int .i64 inn,.int .i64 fl,.int .i64 bl,.slice (some ⟨g,0,none⟩) n c]):=aa (B4.out.below ek);have y0:W1.cell? ⟨w.heap.size,0,none⟩=some (.slice Ak nk ck):=by rw [hW1];exact(xY.cell 0).trans rfl
    have y1:W1.cell? ⟨w.heap.size,1,none⟩=some (.slice Av nv cv):=by rw [hW1];exact(xY.cell 1).trans rfl
    first|rw [←hW1]|skip
    clear x0 p51 hW1;obtain⟨NE,JP⟩:∃x,x=(aS nd lf inn fl bl ((n+1:Nat):Int)).2:=⟨_,rfl⟩;have P6:Hid (iG nd lf inn fl bl l e=NE):=aa (by unfold iG;rw [if_neg (by rw [HX.out];decide),if_neg HK,JP,B7.out]);have zk:=aa JP;clear JP;refine nodes p nd lf inn fl bl (some ⟨g,0,none⟩) n c W1 _ (aa (fun _ _ _ _ h=>h)) HC (by omega) (JO dN) ?_;intro v6 v38 v39 v40 v41 v42 v43 v44 v45 v46 v47 v48 v49 v50 v51 w3 hb3;rw [←zk.out];have HB3:=aa hb3;have z0:=ak hb3 y0;have z1:=ak hb3 y1;have fZ:Hid (Below w.heap.size w w3):=aa (ek.out.trans (hb3.mono ek.size));clear hb3 y0 y1
    by_cases hz:NE=0
    ·have hz':(NE==0)=true:=by rw [beq_iff_eq];exact hz
     have HZ:=aa hz;clear hz;go_wp2;refine EP p w.heap.size 185 (some ⟨g,0,none⟩) n c us Ak Av nk ck nv cv D e _ _ _ _ _ w3 _ (aa (fun _ _ _ _ h=>h)) (aa (dN.below HB3)) (aa (own_below B5.out fZ)) hop (by omega) z0 z1 hoq (H1.below fZ|>aa) (H2.below fZ|>aa) l1 l2 ?_;intro v55 v56 v57 v58 v59 v60 v61 v62 v63 v64 v65 v66 v67 v68 v69 v70 u' v' x wa w4 lG EQ hg4 jd su sv;have hpush:=Bd.push (F:=F) (In:=In) (T:=185) (l:=l) (e:=e) b1 (fun b hb=>Nat.lt_of_lt_of_le (B2.out b hb) fZ.size) b3 (B4.out.below fZ) (own_below B5.out fZ) B6.out B7 (fun i x hx=>let⟨u,v,q1,q2,s1,s2⟩:=B8.out i x hx;⟨u,v,q1,q2,s1.below fZ,s2.below fZ⟩) lG EQ hg4 jd (su.weak (fun b hb=>⟨.inr (.inr hb),fun e=>by have:=(ah (own_below B5.out fZ) b e).2;have hb:w3.heap.size≤b:=hb;omega,by have hb:w3.heap.size≤b:=hb;have:=fZ.out.size;omega⟩)) (sv.weak (fun b hb=>⟨.inr (.inr hb),fun e=>by have:=(ah (own_below B5.out fZ) b e).2;have hb:w3.heap.size≤b:=hb;omega,by have hb:w3.heap.size≤b:=hb;have:=fZ.out.size;omega⟩)) (fun b hb=>Nat.lt_of_lt_of_le (HI b hb) fZ.size);have HP:=aa hpush;clear hpush EQ hg4 jd
     go_wp2;go_ret;exact lJ.put fZ HP.1 HP.2 (by rw [P6.out];exact HZ) B2.out
    ·have hz':(NE==0)=false:=by rw [beq_eq_false_iff_ne];exact hz
     go_wp2;go_ret
     exact lJ.stay HB fZ P6 hz
 ·have HX:=aa he;have HA:Hid (iG nd lf inn fl bl l e=3):=aa (by unfold iG;rw [if_pos (by rw [he];decide)];exact he);clear he;go_enter func43,ntmps43
  go_wp2_with (first|(go_at_call 69;refine(mG Ak Av nk nv ck cv e H1.len H2.len _).mono ?_;rintro e1 w1 ⟨rfl,hb1⟩;rw [HX.out];have HB1:Hid (Below w.heap.size w w1):=aa (((Below.refl _ _).alloc (Nat.le_refl _) _).trans (hb1.mono (by simp)));clear hb1))
  go_ret
  exact lJ.stay HB HB1 HA (by decide)
end
section
open Go.RowKit
open Go.Lib (compareBytes)
end
section
open Go.Proofs.Tryz
open Go.RowKit
open Go.Lib (compareBytes)
theorem Bd.ents {w:World} {T:TypeId} {F In:Nat→Prop} {p:Nat} {nd lf inn fl bl:Int} {l:List aH} (h:Bd w T F In p nd lf inn fl bl l):∃A n c,ai w p T #[.int .i64 nd,.int .i64 lf,.int .i64 inn,.int .i64 fl,.int .i64 bl,.slice A n c]∧bO w (fun b=>F b∨In b) A n l∧n≤c∧c≤maxLen:=by
 obtain⟨A,n,c,us,h1,h2,h3,h4,h5,h6,h7,h8⟩:=h;obtain⟨_,_,e,q1,q2⟩:=ay h5;injection e with _ _ e
 subst e;exact⟨A,n,_,h4,⟨h7,us,nU h5 (fun g hg=> .inl (h6 g hg)),fun i e he=>let⟨u,v,a,b,s1,s2⟩:=h8 i e he;⟨u,v,a,b,s1.weak (fun b hb=>hb.1),s2.weak (fun b hb=>hb.1)⟩⟩,q1,q2⟩
def Vh (w:World) (T:TypeId) (nd lf inn fl bl:Int) (In:Nat→Prop) (e:Ending) (w':World):Prop:=
 ∃p,e= .returned (.tuple #[.pointer (some ⟨p,0,none⟩),.int .i64 0])∧Bd w' T (fun b=>w.heap.size≤b∧b<w'.heap.size) In p nd lf inn fl bl []∧Below w.heap.size w w'
theorem RD {w:World} {T:TypeId} {F In:Nat→Prop} {p:Nat} {nd lf inn fl bl:Int} (h1:F p) (h2:∀b,F b→b<w.heap.size) (hT:T≠57) (hb:ai w p T #[.int .i64 nd,.int .i64 lf,.int .i64 inn,.int .i64 fl,.int .i64 bl,.slice none 0 0]):Bd w T F In p nd lf inn fl bl []:=
 ⟨none,0,0,[],h1,h2,hT,hb,World.ownsRow_nil _ _ _ _,fun g hg=>by simp [Value.ownBlock] at hg,rfl,fun i e he=>by simp at he⟩
theorem Ou (nd lf inn fl bl:Int) (In:Nat→Prop) (w:World) (hc:aY nd lf inn fl bl):Calls prog 40 #[.agg #[.int .i64 nd,.int .i64 lf,.int .i64 inn,.int .i64 fl,.int .i64 bl]] w (Vh w 185 nd lf inn fl bl In):=by
 have HC:=aa (pW hc);clear hc;go_enter func40,ntmps40
 go_wp2_with (go_at_call 53;refine(jh nd lf inn fl bl _).mono ?_;rintro e w1 ⟨rfl,hb1⟩;rw [HC.out];have HB1:Hid (Below w.heap.size w w1):=aa (((Below.refl _ _).alloc (Nat.le_refl _) _).trans (hb1.mono (by simp)));have lL:=aa ((ai.new w 23 #[.int .i64 nd,.int .i64 lf,.int .i64 inn,.int .i64 fl,.int .i64 bl]).below hb1);obtain⟨z0,z1,z2,z3,z4⟩:=fK lL;clear hb1)
 go_ret2
 exact⟨_,rfl,RD ⟨HB1.size,by simp⟩ (fun b hb=>hb.2) (by decide) (ai.new _ _ _),HB1.alloc HB1.size _⟩
def Vi (w:World) (T:TypeId) (F In:Nat→Prop) (p:Nat) (nd lf inn fl bl:Int) (t:List bB×Int) (en:Ending) (w':World):Prop:=
 ∃a,en= .returned (.pointer (some ⟨a,0,none⟩))∧gm w' (From w.heap.size) a nd t.1 t.2∧Bd w' T F In p nd lf inn fl bl []∧ag F w w'
theorem Gy (nd lf inn fl bl:Int) (A:Option Addr) (n c:Nat) (F0:Nat→Prop) (l:List aH) (w:World) (hok:(cK nd lf inn fl bl l).1=0) (hE:bO w F0 A n l) (hnc:n≤c) (hcm:c≤maxLen) (hn:n≤1152921504606)
  (hsm:∀e∈l,e.1.length≤1152921504606∧e.2.length≤1152921504606):
  Calls prog 68 #[.agg #[.int .i64 nd,.int .i64 lf,.int .i64 inn,.int .i64 fl,.int .i64 bl],.slice A n c] w (tN w nd (aO fl.toNat inn.toNat l)):=by
 obtain⟨hc,hf⟩:=Gz hok;obtain⟨i,rfl⟩:∃i:Nat,inn=i:=⟨inn.toNat,by unfold aY at hc;omega⟩;obtain⟨f,rfl⟩:∃f:Nat,fl=f:=⟨fl.toNat,by unfold aY at hc;omega⟩;exact KH nd lf bl i f A n c F0 l w hc hE hnc hcm hn hsm (by rw [hE.len];exact hf)
noncomputable def Vj:Code:=aP (f42.body.bind (aA 1))
theorem GA (F:Nat→Prop) (p:Nat) (nd lf inn fl bl:Int) (l:List aH) (A:Option Addr) (n c:Nat) (w:World) {u1 u2 u3 u4 u5 u6 u7 u8 u9 u10 u11 u12 u13 bN bq u16:Value} (Q:Exit→Act→World→Prop) (nC:Hid (∀c t (a:Act) w,Q (.panic c) ⟨t,a.defers⟩ w→Q (.panic c) a w))
  (AM:Hid ((cK nd lf inn fl bl l).1=0)) (HE:Hid (bO w F A n l)) (hnc:n≤c) (hcm:c≤maxLen) (hn:n≤1152921504606) (HS:Hid (∀e∈l,e.1.length≤1152921504606∧e.2.length≤1152921504606)) (hb:Bc p nd lf inn fl bl (.slice A n c) w)
  (au:∀(v4 v5 v6 v7 v8 v9 v10 v11 v12:Value) (a:Nat) (w':World),Below w.heap.size w w'→gm w' (From w.heap.size) a nd (aO fl.toNat inn.toNat l).1 (aO fl.toNat inn.toNat l).2→Q .normal ⟨(.pointer (some ⟨p,0,none⟩)::u1::u2:: .pointer (some ⟨a,0,none⟩)::v4::v5::v6::v7::v8::v9::v10::v11::v12::u13::bN::bq::u16:: []).toArray,[]⟩ w'):
  Code.wp prog Vj Q ⟨(.pointer (some ⟨p,0,none⟩)::u1::u2::u3::u4::u5::u6::u7::u8::u9::u10::u11::u12::u13::bN::bq::u16:: []).toArray,[]⟩ w:=by
 have dF:=aa au;have S0:Bc p nd lf inn fl bl (.slice A n c) w.drew:=hb;clear au hb;conv=>arg 2;whnf
 refine aX (Bc p nd lf inn fl bl (.slice A n c)) (by kernel_rfl) ?_;refine vT 0 S0 ?_;refine vT 1 S0 ?_;refine vT 2 S0 ?_;refine vT 4 S0 ?_;refine vT 5 S0 ?_;refine vT 6 S0 ?_;refine vT 3 S0 ?_;refine vT 7 S0 ?_;refine aR (i:=8) (by kernel_rfl) rfl (fun K hK=> ?_);go_simp
 refine(Gy nd lf inn fl bl A n c F l _ AM (HE.below (Below.refl _ _).drew) hnc hcm hn HS).mono ?_;rintro e w5 ⟨a,rfl,q5,hb5⟩;have S5:=S0.below hb5;refine hK.out _ _ S5 ?_;clear hK K;try simp only [aL,aN,aZ,aC]
 refine vT 9 S5 ?_;refine bP (by kernel_rfl) ?_ _;exact dF _ _ _ _ _ _ _ _ _ a _ ((Below.refl _ _).drew.trans hb5) q5
theorem KY (F In:Nat→Prop) (p:Nat) (nd lf inn fl bl:Int) (l:List aH) (w:World) (hB:Bd w 185 F In p nd lf inn fl bl l) (hok:(cK nd lf inn fl bl l).1=0) (hl:l.length≤1152921504606) (hsm:∀e∈l,e.1.length≤1152921504606∧e.2.length≤1152921504606):
  Calls prog 42 #[.pointer (some ⟨p,0,none⟩)] w (Vi w 185 F In p nd lf inn fl bl (aO fl.toNat inn.toNat l)):=by
 have HB:=aa hB;obtain⟨A,n,c,hblk,hE,hnc,hcm⟩:=hB.ents;have HK:=aa hblk;have HE:=aa hE;have HS:=aa hsm;have AM:=aa hok;have hn:n≤1152921504606:=by have:=hE.len;omega
 have hp:F p:=by obtain⟨_,_,_,_,h,_⟩:=hB;exact h
 clear hB hblk hE hsm hok;go_enter func42,ntmps42
 go_wp2;refine GA _ p nd lf inn fl bl l A n c w _ (aa (fun _ _ _ _ h=>h)) AM HE hnc hcm hn HS (JO HK) ?_
 intro v4 v5 v6 v7 v8 v9 v10 v11 v12 a w1 hb1 hx1;have HB1:=aa hb1;have F3:=aa hx1;have lL:=aa (HK.below hb1);have p5:w1.cell? ⟨p,5,none⟩=some (.slice A n c):=(lL.out.cell 5).trans rfl;have pf:=lL.out.frozen;have hpl:p<w.heap.size:=HK.out.lt;clear hb1 hx1;go_wp2;go_ret
 have hch:=ag.set1 w1 p 5 (.slice none 0 0);exact⟨a,rfl,F3.chg hch (fun b hb e=>by have hb:w.heap.size≤b:=hb;have e:b=p:=e;omega),(HB.below HB1).empty,(ag.of_below (S:=F) HB1).trans hch (fun b _ e=>(show b=p from e)▸hp)⟩
end
end Go.Proofs.YtbjgeidjmhialaaGreatDoor
