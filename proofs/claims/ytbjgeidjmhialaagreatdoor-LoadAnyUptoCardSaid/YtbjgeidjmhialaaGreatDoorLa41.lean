/- Part 41. -/
import Derived.Test.YtbjgeidjmhialaaGreatDoorLa40
namespace Go.Proofs.YtbjgeidjmhialaaGreatDoor
set_option maxRecDepth 100000
set_option maxHeartbeats 8000000
section
open Go.Proofs.Tryz
open Go.RowKit
def Row1 (w:World) (A:Option Addr):Prop:=kz w (fun b=>b<w.heap.size) A 1 [kS]
theorem Row1.below {w w':World} {A:Option Addr} (h:Row1 w A) (hb:Below w.heap.size w w'):Row1 w' A:=(kz.below h hb).weak (fun b hb'=>Nat.lt_of_lt_of_le hb' hb.size)
noncomputable def s8C:Code:=aP (f64.body.bind (aA 8))
theorem Sb (F:Nat→Prop) (tb tc lb lc fc kc:Nat) (fA kA:Option Addr) (w:World) {u1 u2 u3 u7 u8 u9 u11 u12 u13 bN bq u16 u17 bC bD u20 u21 u22 u23 u24 u25 u26 u27 u28 u29 u30 u31 u32 u33 u34 u35 u36 u37 u38 dh u40 bX u42 bY u44 u45 u46 di u48 u49 bV u51 u52 u53 bW u55 dz dB u58 u59:Value} (Q:Exit→Act→World→Prop) (nC:Hid (∀c t (a:Act) w,Q (.panic c) ⟨t,a.defers⟩ w→Q (.panic c) a w))
  (HE:Hid (E1 w F lb kA kc)) (HT:Hid (w.cell? ⟨tb,0,none⟩=some (.slice (some ⟨lb,0,none⟩) 1 lc))) (hts:tb<w.heap.size)
  (au:∀(v28 v29 v30 v31 v32 v33 v34 v35 v36 v37 v38 v39 v40 v41 v42 v43 v44 v45 v46 v47 v48 v49 v50 v51 v52 v53 v54:Value) (A':Option Addr) (c':Nat) (w':World),Row1 w' A'→Below w.heap.size w w'→Q .normal ⟨(.slice (some ⟨tb,0,none⟩) 1 tc::u1::u2::u3:: .slice none 0 0:: .slice A' 1 c':: .int .i64 0::u7::u8::u9:: .slice fA 13 fc::u11::u12::u13::bN::bq::u16::u17::bC::bD::u20::u21::u22::u23::u24::u25::u26::u27::v28::v29::v30::v31::v32::v33::v34::v35::v36::v37::v38::v39::v40::v41::v42::v43::v44::v45::v46::v47::v48::v49::v50::v51::v52::v53::v54::u55::dz::dB::u58::u59:: []).toArray,[]⟩ w'):
  Code.wp prog s8C Q ⟨(.slice (some ⟨tb,0,none⟩) 1 tc::u1::u2::u3:: .slice none 0 0:: .slice none 0 0:: .int .i64 0::u7::u8::u9:: .slice fA 13 fc::u11::u12::u13::bN::bq::u16::u17::bC::bD::u20::u21::u22::u23::u24::u25::u26::u27::u28::u29::u30::u31::u32::u33::u34::u35::u36::u37::u38::dh::u40::bX::u42::bY::u44::u45::u46::di::u48::u49::bV::u51::u52::u53::bW::u55::dz::dB::u58::u59:: []).toArray,[]⟩ w:=by
 obtain⟨i0,hi0,jO,jP,jQ⟩:=info_parts rz;have dF:=aa au;have HD:Hid (Below w.heap.size w w.drew):=aa (Below.refl _ _).drew;have S0:w.drew.cell? ⟨tb,0,none⟩=some (.slice (some ⟨lb,0,none⟩) 1 lc)∧w.drew.cell? ⟨lb,0,none⟩=some (.slice kA 1 kc):=⟨HT,HE.c0⟩;have e0:IntKind.i64.wrap 0=0:=by decide
 have e1:IntKind.i64.wrap 1=1:=by decide
 have e8:IntKind.i64.wrap 8=8:=by decide
 have e13:IntKind.i64.wrap 13=13:=by decide
 clear au;conv=>arg 2;whnf
 refine aX (fun w'=>w'.cell? ⟨tb,0,none⟩=some (.slice (some ⟨lb,0,none⟩) 1 lc)∧w'.cell? ⟨lb,0,none⟩=some (.slice kA 1 kc)) (by kernel_rfl) ?_;refine vT 0 S0 ?_;refine vT 1 S0 ?_;refine vT 2 S0 ?_;refine vT 3 S0 ?_;refine vT 5 S0 ?_;refine vT 6 S0 ?_;refine vT 7 S0 ?_;refine vT 14 S0 ?_;refine vT 15 S0 ?_;refine vT 16 S0 ?_;refine vT 17 S0 ?_;refine vT 18 S0 ?_;refine vT 19 S0 ?_;refine vT 20 S0 ?_;refine vT 21 S0 ?_;refine vT 4 S0 ?_;refine vT 8 S0 ?_;refine vT 9 S0 ?_;refine vT 10 S0 ?_;refine vT 11 S0 ?_;refine vT 12 S0 ?_;refine vT 13 S0 ?_;refine vT 22 S0 ?_;refine vT 23 S0 ?_;refine vT 24 S0 ?_;refine aR (i:=25) (by kernel_rfl) rfl (fun K hK=> ?_);go_simp
 obtain⟨w3,hw3⟩:∃W,W=(w.alloc (.cells #[.slice kA 1 kc,.int .i64 8,.int .i64 13,.int .i64 1] 146)).drew:=⟨_,rfl⟩;rw [←hw3];have HB3:Hid (Below w.heap.size w w3):=aa (by rw [hw3];exact((Below.refl _ _).alloc (Nat.le_refl _) _).drew);have Dt:Hid (Rd w3 (From w.heap.size) 4 (some ⟨w.heap.size,0,none⟩) 1 [.slice kA 1 kc,.int .i64 8,.int .i64 13,.int .i64 1]):=aa (by rw [hw3];exact⟨rfl,fun _=>⟨_,0,rfl,Nat.le_refl _,fun k u hk=>by show(w.alloc _).cell? _=_;rw [(ai.new w _ _).cell];simpa using hk⟩⟩);have S3:w3.cell? ⟨tb,0,none⟩=some (.slice (some ⟨lb,0,none⟩) 1 lc)∧w3.cell? ⟨lb,0,none⟩=some (.slice kA 1 kc):=⟨ak HB3 S0.1,ak HB3 S0.2⟩;clear hw3;refine hK.out _ _ S3 ?_;clear hK K;try simp only [aL,aN,aZ,aC]
 refine aR (i:=26) (by kernel_rfl) rfl (fun K hK=> ?_);refine aV _ rfl (.tmp 28) (.tmp 53) _ rfl w.heap.size 146 i0 _ 4 48 underlying143 hi0 jO jP jQ rfl (by omega) (.slice none 0 0) 0 [] rfl (World.ownsRow_nil _ _ _ _) (From w.heap.size) (some ⟨w.heap.size,0,none⟩) 1 1 _ rfl Dt (by intro u hu;simp at hu;rcases hu with rfl|rfl|rfl|rfl<;>rfl) (by simp only [maxLen];omega) (by omega) HB3.size ?_;intro x w4 eu hg4 jd;obtain⟨K4,P5,hv4,_,_⟩:=ay eu;subst hv4;have lI:=aa eu;have dN:Hid (Below w.heap.size w w4):=aa (HB3.grown hg4 HB3.size (fun k hk=>by simp [Value.ownBlock] at hk));have S4:w4.cell? ⟨tb,0,none⟩=some (.slice (some ⟨lb,0,none⟩) 1 lc)∧w4.cell? ⟨lb,0,none⟩=some (.slice kA 1 kc):=⟨ak dN HT,ak dN HE.c0⟩;clear eu hg4 jd;refine hK.out _ _ S4 ?_;clear hK K;try simp only [aL,aN,aZ,aC]
 refine vT 27 S4 ?_;refine bP (by kernel_rfl) ?_ _;go_simp
 have hrow:Row1 w4 K4:=by
  refine⟨rfl,[.slice kA 1 kc,.int .i64 8,.int .i64 13,.int .i64 1],((Rd.of_own lI).lt (by omega)).weak (fun b hb=>hb.2),fun i x hx=> ?_⟩
  match i with
  |0=>
   simp at hx;subst hx
   exact⟨_,rfl,rfl,rfl,rfl,(HE.key.below dN).lt.weak (fun b hb=>hb.2)⟩
  |i+1=>simp at hx
 exact dF _ _ _ _ _ _ _ _ _ _ _ _ _ _ _ _ _ _ _ _ _ _ _ _ _ _ _ K4 P5 w4 hrow dN
theorem BM (F:Nat→Prop) (tb tc lb lc kc:Nat) (kA:Option Addr) (w:World) (h:E1 w F lb kA kc) (ht:w.cell? ⟨tb,0,none⟩=some (.slice (some ⟨lb,0,none⟩) 1 lc)) (hts:tb<w.heap.size):
  Calls prog 64 #[.slice (some ⟨tb,0,none⟩) 1 tc] w fun e w'=>∃A c sA sc,e= .returned (.tuple #[.slice A 13 c,.slice sA 1 sc])∧OB w w' (.slice A 13 c) (66::7::(dS++four (bz dS)))∧Row1 w' sA:=by
 obtain⟨fr,hfr⟩:∃fr,fr=four (bz dS):=⟨_,rfl⟩;have Dv:=aa hfr;have kZ:Hid (fr.length=4):=aa (by rw [hfr];rfl);rw [←hfr];obtain⟨R,hR⟩:∃R:Ending→World→Prop,R=fun e w'=>∃A c sA sc,e= .returned (.tuple #[.slice A 13 c,.slice sA 1 sc])∧OB w w' (.slice A 13 c) (66::7::(dS++fr))∧Row1 w' sA:=⟨_,rfl⟩;have HR:=aa hR;have HE:=aa h;have HT:=aa ht;rw [←hR];clear hR h hfr;go_enter func64,ntmps64
 go_wp2;refine wp_loop_rounds 2 ?_
 rw [rounds_succ];go_upto_region 8 with(first|(go_at_call 85;go_loud (refine(BK F lb lc kc kA w HE).mono ?_;rintro e w1 ⟨A1,c1,rfl,ho⟩;have mH:=aa ho;clear ho))|(go_at_call 86;go_loud (refine(vG 66 dS rfl _ A1 c1 w1 mH.sb).mono ?_;rintro e w2 ⟨A2,n2,c2,hn,rfl,ho⟩;rw [←Dv.out] at hn ho;rw [show(66::7::(dS++fr)).length=13 by simp [dS,kZ.out]] at hn;subst hn;have iV:=aa (ho.ahead mH.bel);clear ho)))
 have HE2:=aa (HE.below iV.bel);have HT2:Hid (w2.cell? ⟨tb,0,none⟩=some (.slice (some ⟨lb,0,none⟩) 1 lc)):=aa (ak iV.bel ht);have HS2:=aa iV.bel.size;refine Sb F tb tc lb lc c2 kc A2 kA w2 _ (aa (fun _ _ _ _ h=>h)) HE2 HT2 (by have:=HS2.out;omega) ?_;intro v28 v29 v30 v31 v32 v33 v34 v35 v36 v37 v38 v39 v40 v41 v42 v43 v44 v45 v46 v47 v48 v49 v50 v51 v52 v53 v54 sA sc w3 hrow hb3;have HRW:=aa hrow;have nD:=aa (iV.after hb3);clear hrow hb3;go_wp2_with (at_builtin;go_loud (refine bJ rfl (.tmp 55) (.tmp 56) rfl w (.slice none 0 0) [] rfl ⟨Ow.nil _ _,nD.bel⟩ _ A2 13 c2 (66::7::(dS++fr)) rfl nD.sb (by simp [dS,kZ.out]) ?_;intro A4 n4 c4 w4 hn ho hc;rw [show([]:List UInt8).length+(66::7::(dS++fr)).length=13 by simp [dS,kZ.out]] at hn;subst hn;rw [List.nil_append] at ho;have lI:=aa ho;have HR4:Hid (Row1 w4 sA):=aa (HRW.below (hc.below_of (Nat.le_refl _) (fun b _ e=>by simp [Value.ownBlock] at e)));clear ho hc))
 rw [rounds_succ];go_wp2
 trace_state
 rw [HR.out];exact⟨_,_,_,_,rfl,lI,HR4⟩
end
section
open Go.Proofs.Tryz
open Go.RowKit
open Go.Lib (compareBytes)
theorem Ph:gu [kS]:=by
 refine⟨by simp,fun x hx=> ?_,fun i x y hx hy=> ?_,fun i x hx=> ?_,fun x hx=> ?_,fun x hx=> ?_⟩
 ·simp at hx;subst hx;simp [kS]
 ·match i with
  |0=>simp at hy
  |i+1=>simp at hy
 ·match i with
  |0=>simp at hx;subst hx;rfl
  |i+1=>simp at hx
 ·simp at hx;subst hx;simp [kS]
 ·simp at hx;subst hx;simp [kS]
theorem Mi (sA:Option Addr) (sc:Nat) (w:World) (h:Row1 w sA):
  Calls prog 66 #[.slice sA 1 sc] w fun e w'=>∃A c,e= .returned (.slice A 25 c)∧OB w w' (.slice A 25 c) (70::7::(bR++four (bz bR))++dX 21):=by
 obtain⟨fr,hfr⟩:∃fr,fr=four (bz bR):=⟨_,rfl⟩;have Dv:=aa hfr;have kZ:Hid (fr.length=4):=aa (by rw [hfr];rfl);rw [←hfr];obtain⟨R,hR⟩:∃R:Ending→World→Prop,R=fun e w'=>∃A c,e= .returned (.slice A 25 c)∧OB w w' (.slice A 25 c) (70::7::(bR++fr)++dX 21):=⟨_,rfl⟩;have HR:=aa hR;have HH:=aa h;obtain⟨b,o,L,ln,lc,x,hA,hF,hx,c0,c1,c2,c3,s⟩:=kz.at_ h (k:=0) (by omega);subst hA;simp at hx;subst hx;have y1:w.cell? ⟨b,o+1,none⟩=some (.int .i64 8):=by rw [Nat.zero_mul,Nat.add_zero] at c1;exact c1
 have y2:w.cell? ⟨b,o+2,none⟩=some (.int .i64 13):=by rw [Nat.zero_mul,Nat.add_zero] at c2;exact c2
 rw [←hR];clear hR h hfr c0 c1 c2 c3 s hF;go_enter func66,ntmps66
 go_wp2;go_quiet (fail)
 obtain⟨w1,hw1⟩:∃W,W=w.drewN nq:=⟨_,rfl⟩;have HB1:Hid (Below w.heap.size w w1):=aa (by rw [hw1];exact rJ (Below.refl _ _) nq);have HR1:=aa (HH.below HB1);rw [←hw1];clear hw1 y1 y2;go_wp2_with (first|(go_at_call 87;go_loud (refine(DN _ (some ⟨b,o,none⟩) 1 sc [kS] w1 HR1 Ph (fun x hx=>by simp at hx;subst hx;simp [kS]) (fun b h=>h)).mono ?_;rintro e w2 ⟨v2,rfl,ho2,hb2⟩;rw [sI] at ho2;obtain⟨A2,n2,c2,rfl,-,-,h2n,-⟩:=ho2.sb;rw [show bR.length=7 from rfl] at h2n;subst h2n;have iV:Hid (OB w1 w2 (.slice A2 7 c2) bR):=aa ⟨ho2,hb2⟩;clear ho2 hb2))|(go_at_call 86;go_loud (refine(vG 70 bR rfl _ A2 c2 w2 iV.sb).mono ?_;rintro e w3 ⟨A3,n3,c3,hn,rfl,ho⟩;rw [←Dv.out] at hn ho;rw [show(70::7::(bR++fr)).length=13 by simp [bR,kZ.out]] at hn;subst hn;have nD:Hid (OB w w3 (.slice A3 13 c3) (70::7::(bR++fr))):=aa (ho.ahead (iV.ahead HB1).bel);clear ho))|(go_at_call 88;go_loud (refine(Ii 21 w3 (by omega)).mono ?_;rintro e w4 ⟨v4,rfl,EQ,hb4⟩;obtain⟨A4,n4,c4,rfl,-,-,VU,-⟩:=EQ.sb;rw [show(dX 21).length=12 from rfl] at VU;subst VU;have lI:Hid (OB w3 w4 (.slice A4 12 c4) (dX 21)):=aa ⟨EQ,hb4⟩;clear EQ hb4))|(at_builtin;go_loud (refine bJ rfl (.tmp 32) (.tmp 34) rfl w (.slice A3 13 c3) (70::7::(bR++fr)) rfl (nD.after lI.bel) _ A4 12 c4 (dX 21) rfl lI.sb (by simp [bR,kZ.out,dX]) ?_;intro A5 n5 c5 w5 hn ho hc;rw [show(70::7::(bR++fr)).length+(dX 21).length=25 by simp [bR,kZ.out,dX]] at hn;subst hn;have AY:=aa ho;clear ho hc)))
 rw [HR.out];exact⟨_,_,rfl,AY⟩
end
section
open Go.Proofs.Tryz
open Go.RowKit
theorem BN {w:World} {base n size:Nat} {e:TypeId} {v:Value} {xs:List Value} (h:w.ownsRow base e size v n xs) (hn:0<n):∃g c,v= .slice (some ⟨g,0,none⟩) n c∧(base≤g∧g<w.heap.size)∧∀(k:Nat) (u:Value),xs[k]? =some u→w.cell? ⟨g,k,none⟩=some u:=by
 obtain⟨h1,⟨_,h2⟩|⟨g,cap,cur,rfl,h2,h3,h4,h5,h6,h7⟩⟩:=h
 ·omega
 ·have hb:ai w g e cur:=h3;refine⟨g,cap,rfl,⟨h2,hb.lt⟩,fun k u hk=> ?_⟩;rw [hb.cell];rw [←h7,List.getElem?_take] at hk
  split at hk
  ·simpa using hk
  ·simp at hk
def Mj:List UInt8:=66::7::(dS++four (bz dS))
def Mk:List UInt8:=70::7::(bR++four (bz bR))++dX 21
theorem Ml:gX++Mj++Mk=jJ:=by simp [jJ,Mj,Mk]
theorem Mm:Mj.length=13:=rfl
theorem Mo:Mk.length=25:=rfl
theorem Ec (F:Nat→Prop) (z tb tc lb lc kc:Nat) (kA:Option Addr) (lv:Value) (w:World) (hz:ai w z 131 #[.int .i64 1,.slice (some ⟨tb,0,none⟩) 1 tc,.slice none 0 0,lv,.bool true,.int .i64 0])
  (h:E1 w F lb kA kc) (ht:w.cell? ⟨tb,0,none⟩=some (.slice (some ⟨lb,0,none⟩) 1 lc)) (hts:tb<w.heap.size):
  Calls prog 39 #[.pointer (some ⟨z,0,none⟩)] w fun e w'=>∃A c,e= .returned (.slice A 46 c)∧Ow w' w.heap.size (.slice A 46 c) jJ∧ag (fun b=>b=z) w w':=by
 have q8:=aa Mm;have JZ:=aa Mo;have jr:=aa Ml;have Km:=aa (BM F tb tc lb lc kc kA w h ht hts);have Gg:=aa Mi;rw [show 66::7::(dS++four (bz dS))=Mj from rfl] at Km;rw [show 70::7::(bR++four (bz bR))++dX 21=Mk from rfl] at Gg;obtain⟨bl,hbl⟩:∃b,b=Mj:=⟨_,rfl⟩;obtain⟨el,hel⟩:∃b,b=Mk:=⟨_,rfl⟩;rw [←hbl] at q8 jr Km;rw [←hel] at JZ jr Gg;have HZ:=aa hz;have y1:w.cell? ⟨z,1,none⟩=some (.slice (some ⟨tb,0,none⟩) 1 tc):=hz.cell 1;have hzl:=hz.lt;refine letter fun R HR=> ?_;clear hz h ht hbl hel;go_enter func39,ntmps39
 go_upto_region 2 with(go_at_call 64;go_loud (refine Km.mono ?_;rintro e w1 ⟨A1,c1,sA,sc,rfl,ho,hr⟩;have mH:=aa ho;have HR1:=aa hr;clear ho hr))
 go_upto_region 3 with(first|(go_at_call 65;go_loud (refine(Ie w1).mono ?_;rintro e w2 ⟨A2,n2,c2,hn,rfl,ho⟩;rw [show gX.length=8 from rfl] at hn;subst hn;have iV:=aa ho;have ZT:=aa (mH.after ho.bel);clear ho))|(at_builtin;go_loud (refine bJ rfl (.tmp 14) (.tmp 15) rfl w1 (.slice A2 8 c2) gX rfl iV _ A1 13 c1 bl rfl ZT.sb (by rw [q8.out];decide) ?_;intro A3 n3 c3 w3 hn ho hc;rw [q8.out,show gX.length+13=21 from rfl] at hn;subst hn;have nD:=aa ho;clear ho hc)))
 have HR3:=aa (HR1.below nD.bel);have HB3:Hid (Below w.heap.size w w3):=aa (mH.bel.trans (nD.bel.mono mH.bel.size));have y34:w3.cell? ⟨z,4,none⟩=some (.bool true):=(HZ.out.below HB3).cell 4;have HW1:=aa mH.bel.size;go_upto_region 5 with(first|(go_at_call 66;go_loud (refine(Gg sA sc w3 HR3).mono ?_;rintro e w4 ⟨A4,c4,rfl,ho⟩;have lI:=aa ho;clear ho))|(at_builtin;go_loud (refine bJ rfl (.tmp 21) (.tmp 23) rfl w1 (.slice A3 21 c3) (gX++bl) rfl (nD.after lI.bel) _ A4 25 c4 el rfl lI.sb (by rw [List.length_append,q8.out,JZ.out];decide) ?_;intro A5 n5 c5 w5 hn ho hc;rw [List.length_append,q8.out,JZ.out,show gX.length+13+25=46 from rfl] at hn;subst hn;have AY:=aa ho;clear ho hc)))
 have fO:Hid (Below w.heap.size w w5):=aa (mH.bel.trans (AY.bel.mono mH.bel.size));have Uh:=aa (HZ.below fO);have y55:w5.cell? ⟨z,5,none⟩=some (.int .i64 0):=Uh.out.cell 5;have hf5:w5.frozen? ⟨z,5,none⟩=false:=Uh.out.frozen 5;go_wp2;rw [HR.out];have hc:=(ag.refl (fun b=>b=z) w5).setCell (p:=⟨z,5,none⟩) (fun _=>rfl) (.int .i64 46);refine⟨A5,c5,rfl,?_,(ag.of_below fO).trans hc (fun _ _ h=>h)⟩;rw [←jr.out];exact Ow.chg (lV AY.own HW1) hc (fun g hg e=>by have h1:=(ah AY.own g hg).1;have h2:=HW1.out;have e:g=z:=e;omega)
theorem Mq:(prog.info? 37).map (fun i=>(i.zero,i.size,i.bytes))=some (some (.slice none 0 0),1,24):=by kernel_rfl
noncomputable def c4C:Code:=aP (f63.body.bind (aA 4))
theorem Sc (z lb lc:Nat) (lv:Value) (w:World) {u1 u2 u3 u4 u5 u6 u7 u8 u9 u10 u11 u12 u13 bN bq u16 u17 bC bD u20 u21 u22 u23 u24 u25 u26 u27 u28:Value} (Q:Exit→Act→World→Prop) (nC:Hid (∀c t (a:Act) w,Q (.panic c) ⟨t,a.defers⟩ w→Q (.panic c) a w))
  (HZ:Hid (ai w z 131 #[.int .i64 1,.slice none 0 0,.slice (some ⟨lb,0,none⟩) 1 lc,lv,.bool false,.int .i64 0]))
  (au:∀(v13 v14 v15 v16 v17 v18 v19 v20 v21 v22 v23 v24 v25:Value) (tb tc:Nat) (w':World),w.heap.size≤tb→tb<w'.heap.size→w'.cell? ⟨tb,0,none⟩=some (.slice (some ⟨lb,0,none⟩) 1 lc)→ai w' z 131 #[.int .i64 1,.slice (some ⟨tb,0,none⟩) 1 tc,.slice (some ⟨lb,0,none⟩) 1 lc,lv,.bool false,.int .i64 0]→ag (fun b=>b=z) w w'→Q .normal ⟨(.pointer (some ⟨z,0,none⟩)::u1::u2::u3::u4::u5::u6::u7::u8::u9::u10::u11::u12::v13::v14::v15::v16::v17::v18::v19::v20::v21::v22::v23::v24::v25::u26::u27::u28:: []).toArray,[]⟩ w'):
  Code.wp prog c4C Q ⟨(.pointer (some ⟨z,0,none⟩)::u1::u2::u3::u4::u5::u6::u7::u8::u9::u10::u11::u12::u13::bN::bq::u16::u17::bC::bD::u20::u21::u22::u23::u24::u25::u26::u27::u28:: []).toArray,[]⟩ w:=by
 obtain⟨i0,hi0,jO,jP,jQ⟩:=info_parts Mq;have dF:=aa au;have hzl:=HZ.out.lt;have S0:w.drew.cell? ⟨z,1,none⟩=some (.slice none 0 0)∧w.drew.cell? ⟨z,2,none⟩=some (.slice (some ⟨lb,0,none⟩) 1 lc):=⟨HZ.cell 1,HZ.cell 2⟩;clear au;conv=>arg 2;whnf
 refine aM (fun w'=>w'.cell? ⟨z,1,none⟩=some (.slice none 0 0)∧w'.cell? ⟨z,2,none⟩=some (.slice (some ⟨lb,0,none⟩) 1 lc)) 13 (by kernel_rfl) ?_;refine uF 0 (fun _=>S0) ?_;refine uF 1 (fun _=>S0) ?_;refine uF 2 (fun _=>S0) ?_;refine uF 3 (fun _=>S0) ?_;refine uF 5 (fun _=>S0) ?_;refine uF 6 (fun _=>S0) ?_;refine uF 7 (fun _=>S0) ?_;refine uT 4 S0 ?_;refine uT 8 S0 ?_;refine az (i:=9) (by kernel_rfl) rfl (fun K hK=> ?_);go_simp
 obtain⟨w3,hw3⟩:∃W,W=(w.alloc (.cells #[.slice (some ⟨lb,0,none⟩) 1 lc] 37)).drew:=⟨_,rfl⟩;rw [←hw3];have HB3:Hid (Below w.heap.size w w3):=aa (by rw [hw3];exact((Below.refl _ _).alloc (Nat.le_refl _) _).drew);have Dt:Hid (Rd w3 (From w.heap.size) 1 (some ⟨w.heap.size,0,none⟩) 1 [.slice (some ⟨lb,0,none⟩) 1 lc]):=aa (by rw [hw3];exact⟨rfl,fun _=>⟨_,0,rfl,Nat.le_refl _,fun k u hk=>by show(w.alloc _).cell? _=_;rw [(ai.new w _ _).cell];simpa using hk⟩⟩);have S3:w3.cell? ⟨z,1,none⟩=some (.slice none 0 0)∧w3.cell? ⟨z,2,none⟩=some (.slice (some ⟨lb,0,none⟩) 1 lc):=⟨ak HB3 S0.1,ak HB3 S0.2⟩;clear hw3;refine hK.out _ _ (fun _=>S3) ?_;clear hK K;try simp only [aL,aN,aZ,aC]
 refine az (i:=10) (by kernel_rfl) rfl (fun K hK=> ?_);refine aV _ rfl (.tmp 17) (.tmp 22) _ rfl w.heap.size 37 i0 _ 1 24 underlying129 hi0 jO jP jQ rfl (by omega) (.slice none 0 0) 0 [] rfl (World.ownsRow_nil _ _ _ _) (From w.heap.size) (some ⟨w.heap.size,0,none⟩) 1 1 _ rfl Dt (by intro u hu;simp at hu;subst hu;rfl) (by simp only [maxLen];omega) (by omega) HB3.size ?_;intro x w4 eu hg4 jd;obtain⟨tb,tc,hv4,htb,htc⟩:=BN eu (by omega);subst hv4;have Hm:=aa htb;have dN:Hid (Below w.heap.size w w4):=aa (HB3.grown hg4 HB3.size (fun k hk=>by simp [Value.ownBlock] at hk));have Ht:=aa (HZ.below dN);have Jp:w4.cell? ⟨z,1,none⟩=some (.slice none 0 0):=Ht.out.cell 1;have Uv:∀o,w4.frozen? ⟨z,o,none⟩=false:=Ht.out.frozen;have S4:w4.cell? ⟨z,1,none⟩=some (.slice none 0 0)∧w4.cell? ⟨z,2,none⟩=some (.slice (some ⟨lb,0,none⟩) 1 lc):=⟨Ht.cell 1,Ht.cell 2⟩;have ZU:=aa htc;clear eu hg4 jd htb htc;refine hK.out _ _ (fun _=>S4) ?_;clear hK K;try simp only [aL,aN,aZ,aC]
 refine uF 11 (fun _=>S4) ?_;refine uF 12 (fun _=>S4) ?_;refine az (i:=13) (by kernel_rfl) rfl (fun K hK=> ?_);go_simp
 refine hK.out _ _ (fun h=>absurd h (by decide)) ?_;clear hK K;try simp only [aL,aN,aZ,aC]
 refine bL (by kernel_rfl) ?_ _;have hc:=(ag.refl (fun b=>b=z) w4).setCell (p:=⟨z,1,none⟩) (fun _=>rfl) (.slice (some ⟨tb,0,none⟩) 1 tc);have hne:¬tb=z:=by have:=Hm.out;omega
 exact dF _ _ _ _ _ _ _ _ _ _ _ _ _ tb tc _ Hm.1 (Nat.lt_of_lt_of_le Hm.2 hc.size) (hc.cell hne (ZU 0 _ rfl)) (Ht.set_ 1 _) ((ag.of_below dN).trans hc (fun _ _ h=>h))
end
section
open Go.Proofs.Tryz
open Go.RowKit
def JC (dn nw lv:Value) (cl:Bool):Array Value:= #[.int .i64 1,dn,nw,lv,.bool cl,.int .i64 0]
theorem Pi (z lb lc:Nat) (lv:Value) (w:World) (h:ai w z 131 (JC (.slice none 0 0) (.slice (some ⟨lb,0,none⟩) 1 lc) lv false)):
  Calls prog 63 #[.pointer (some ⟨z,0,none⟩)] w fun e w'=>∃tb tc,e= .returned (.int .i64 0)∧w.heap.size≤tb∧tb<w'.heap.size∧w'.cell? ⟨tb,0,none⟩=some (.slice (some ⟨lb,0,none⟩) 1 lc)∧ai w' z 131 (JC (.slice (some ⟨tb,0,none⟩) 1 tc) (.slice none 0 0) lv false)∧ag (fun b=>b=z) w w':=by
 have HZ:=aa h;have y4:w.cell? ⟨z,4,none⟩=some (.bool false):=h.cell 4;have y2:w.cell? ⟨z,2,none⟩=some (.slice (some ⟨lb,0,none⟩) 1 lc):=h.cell 2;have hzl:=h.lt;refine letter fun R HR=> ?_;clear h;go_enter func63,ntmps63
 go_upto_region 4 with fail
 refine Sc z lb lc lv w _ (aa (fun _ _ _ _ h=>h)) HZ ?_;intro v13 v14 v15 v16 v17 v18 v19 v20 v21 v22 v23 v24 v25 tb tc w1 h1 h2 h3 h4 h5;have H1:=aa (And.intro h1 h2);have H3:=aa h3;have H4:=aa h4;have H5:=aa h5;have Ju:w1.cell? ⟨z,2,none⟩=some (.slice (some ⟨lb,0,none⟩) 1 lc):=h4.cell 2;have hf:w1.frozen? ⟨z,2,none⟩=false:=h4.frozen 2;clear h1 h2 h3 h4 h5;go_wp2;rw [HR.out];have hc:=(ag.refl (fun b=>b=z) w1).setCell (p:=⟨z,2,none⟩) (fun _=>rfl) (.slice none 0 0);exact⟨tb,tc,rfl,H1.1,Nat.lt_of_lt_of_le H1.2 hc.size,hc.cell (fun e=>by have e:tb=z:=e;have:=H1.out.1;omega) H3,H4.set_ 2 _,H5.out.trans hc (fun _ _ h=>h)⟩
theorem Mr (z:Nat) (dn lv:Value) (w:World) (h:ai w z 131 (JC dn (.slice none 0 0) lv false)):
  Calls prog 63 #[.pointer (some ⟨z,0,none⟩)] w fun e w'=>e= .returned (.int .i64 0)∧w=w':=by
 have y4:w.cell? ⟨z,4,none⟩=some (.bool false):=h.cell 4;have y2:w.cell? ⟨z,2,none⟩=some (.slice none 0 0):=h.cell 2;refine letter fun R HR=> ?_;clear h;go_enter func63,ntmps63
 go_wp2;rw [HR.out]
 exact⟨rfl,rfl⟩
theorem Ed (z:Nat) (dn lv:Value) (w:World) (h:ai w z 131 (JC dn (.slice none 0 0) lv false)):
  Calls prog 38 #[.pointer (some ⟨z,0,none⟩)] w fun e w'=>e= .returned (.int .i64 0)∧ai w' z 131 (JC dn (.slice none 0 0) lv true)∧ag (fun b=>b=z) w w':=by
 have HZ:=aa h;have y4:w.cell? ⟨z,4,none⟩=some (.bool false):=h.cell 4;have hf:w.frozen? ⟨z,4,none⟩=false:=h.frozen 4;refine letter fun R HR=> ?_;clear h;go_enter func38,ntmps38
 go_wp2_with (go_at_call 63;go_loud (refine(Mr z dn lv w HZ).mono ?_;rintro e w' ⟨rfl,rfl⟩))
 rw [HR.out];exact⟨rfl,HZ.set_ 4 _,(ag.refl (fun b=>b=z) _).setCell (p:=⟨z,4,none⟩) (fun _=>rfl) _⟩
noncomputable def ZV:Code:=aP (f37.body.bind (aA 10))
theorem Pj (z x:Nat) (dn lv kv:Value) (w:World) {u1 u2 u4 u5 u6 u7 u8 u9 u10 u11 u12 u13 bN bq u16 u17 bC bD u20 u21 u22 u23 u24 u25 u26 u27 u28 u29 u30 u31 u32 u33 u34 u35 u36 u37 u38 dh u40 bX u42 bY u44 u45 u46 di u48 u49 bV u51 u52 u53 bW u55 dz dB u58 u59 u60 dH dG u63 u64 dO u66 dU u68 u69 u70 dV u72 u73 dP u75:Value} (Q:Exit→Act→World→Prop) (nC:Hid (∀c t (a:Act) w,Q (.panic c) ⟨t,a.defers⟩ w→Q (.panic c) a w))
  (HZ:Hid (ai w z 131 (JC dn (.slice none 0 0) lv false))) (HX:Hid (ai w x 57 #[kv,.slice none 0 0])) (hk1:kv.oneCell'=true)
  (au:∀(v49 v50 v51 v52 v53 v54 v55 v56 v57 v58:Value) (lb lc:Nat) (w':World),w.heap.size≤lb→lb<w'.heap.size→w'.cell? ⟨lb,0,none⟩=some kv→w'.cell? ⟨lb,1,none⟩=some (.slice none 0 0)→ai w' z 131 (JC dn (.slice (some ⟨lb,0,none⟩) 1 lc) lv false)→ag (fun b=>b=z) w w'→Q .normal ⟨(.pointer (some ⟨z,0,none⟩)::u1::u2:: .pointer (some ⟨x,0,none⟩)::u4::u5::u6::u7::u8::u9::u10::u11::u12::u13::bN::bq::u16::u17::bC::bD::u20::u21::u22::u23::u24::u25::u26::u27::u28::u29::u30::u31::u32::u33::u34::u35::u36::u37::u38::dh::u40::bX::u42::bY::u44::u45::u46::di::u48::v49::v50::v51::v52::v53::v54::v55::v56::v57::v58::u59::u60::dH::dG::u63::u64::dO::u66::dU::u68::u69::u70::dV::u72::u73::dP::u75:: []).toArray,[]⟩ w'):
  Code.wp prog ZV Q ⟨(.pointer (some ⟨z,0,none⟩)::u1::u2:: .pointer (some ⟨x,0,none⟩)::u4::u5::u6::u7::u8::u9::u10::u11::u12::u13::bN::bq::u16::u17::bC::bD::u20::u21::u22::u23::u24::u25::u26::u27::u28::u29::u30::u31::u32::u33::u34::u35::u36::u37::u38::dh::u40::bX::u42::bY::u44::u45::u46::di::u48::u49::bV::u51::u52::u53::bW::u55::dz::dB::u58::u59::u60::dH::dG::u63::u64::dO::u66::dU::u68::u69::u70::dV::u72::u73::dP::u75:: []).toArray,[]⟩ w:=by
 obtain⟨i0,hi0,jO,jP,jQ⟩:=info_parts uN;have dF:=aa au;have lL:=aa hk1;have hzl:=HZ.out.lt;have S0:w.drew.cell? ⟨z,2,none⟩=some (.slice none 0 0)∧w.drew.cell? ⟨x,0,none⟩=some kv∧w.drew.cell? ⟨x,1,none⟩=some (.slice none 0 0):=⟨HZ.cell 2,HX.cell 0,HX.cell 1⟩;clear au hk1;conv=>arg 2;whnf
 refine aM (fun w'=>w'.cell? ⟨z,2,none⟩=some (.slice none 0 0)∧w'.cell? ⟨x,0,none⟩=some kv∧w'.cell? ⟨x,1,none⟩=some (.slice none 0 0)) 10 (by kernel_rfl) ?_;refine uF 0 (fun _=>S0) ?_;refine uF 1 (fun _=>S0) ?_;refine uF 2 (fun _=>S0) ?_;refine uF 3 (fun _=>S0) ?_;refine uT 4 S0 ?_;refine uT 5 S0 ?_;refine az (i:=6) (by kernel_rfl) rfl (fun K hK=> ?_);go_simp
 obtain⟨w3,hw3⟩:∃W,W=(w.alloc (.cells #[kv,.slice none 0 0] 57)).drew:=⟨_,rfl⟩;rw [←hw3];have HB3:Hid (Below w.heap.size w w3):=aa (by rw [hw3];exact((Below.refl _ _).alloc (Nat.le_refl _) _).drew);have Dt:Hid (Rd w3 (From w.heap.size) 2 (some ⟨w.heap.size,0,none⟩) 1 [kv,.slice none 0 0]):=aa (by rw [hw3];exact⟨rfl,fun _=>⟨_,0,rfl,Nat.le_refl _,fun k u hk=>by show(w.alloc _).cell? _=_;rw [(ai.new w _ _).cell];simpa using hk⟩⟩);have S3:w3.cell? ⟨z,2,none⟩=some (.slice none 0 0)∧w3.cell? ⟨x,0,none⟩=some kv∧w3.cell? ⟨x,1,none⟩=some (.slice none 0 0):=⟨ak HB3 S0.1,ak HB3 S0.2.1,ak HB3 S0.2.2⟩;clear hw3;refine hK.out _ _ (fun _=>S3) ?_;clear hK K;try simp only [aL,aN,aZ,aC]
 refine az (i:=7) (by kernel_rfl) rfl (fun K hK=> ?_);refine aV _ rfl (.tmp 53) (.tmp 55) _ rfl w.heap.size 57 i0 _ 2 48 underlying37 hi0 jO jP jQ rfl (by omega) (.slice none 0 0) 0 [] rfl (World.ownsRow_nil _ _ _ _) (From w.heap.size) (some ⟨w.heap.size,0,none⟩) 1 1 _ rfl Dt (by intro u hu;simp at hu;rcases hu with rfl|rfl;exact lL;rfl) (by simp only [maxLen];omega) (by omega) HB3.size ?_;intro y w4 eu hg4 jd;obtain⟨lb,lc,hv4,hlb,hlc⟩:=BN eu (by omega);subst hv4;have Nj:=aa hlb;have dN:Hid (Below w.heap.size w w4):=aa (HB3.grown hg4 HB3.size (fun k hk=>by simp [Value.ownBlock] at hk));have Ht:=aa (HZ.below dN);have Jp:w4.cell? ⟨z,2,none⟩=some (.slice none 0 0):=Ht.out.cell 2;have Uv:∀o,w4.frozen? ⟨z,o,none⟩=false:=Ht.out.frozen;have S4:w4.cell? ⟨z,2,none⟩=some (.slice none 0 0)∧w4.cell? ⟨x,0,none⟩=some kv∧w4.cell? ⟨x,1,none⟩=some (.slice none 0 0):=⟨Jp,ak dN S0.2.1,ak dN S0.2.2⟩;have HLC:=aa hlc;clear eu hg4 jd hlb hlc;refine hK.out _ _ (fun _=>S4) ?_;clear hK K;try simp only [aL,aN,aZ,aC]
 refine uF 8 (fun _=>S4) ?_;refine uF 9 (fun _=>S4) ?_;refine az (i:=10) (by kernel_rfl) rfl (fun K hK=> ?_);go_simp
 refine hK.out _ _ (fun h=>absurd h (by decide)) ?_;clear hK K;try simp only [aL,aN,aZ,aC]
 refine bL (by kernel_rfl) ?_ _;have hc:=(ag.refl (fun b=>b=z) w4).setCell (p:=⟨z,2,none⟩) (fun _=>rfl) (.slice (some ⟨lb,0,none⟩) 1 lc);have hne:¬lb=z:=by have:=Nj.out;omega
 exact dF _ _ _ _ _ _ _ _ _ _ lb lc _ Nj.1 (Nat.lt_of_lt_of_le Nj.2 hc.size) (hc.cell hne (HLC 0 _ rfl)) (hc.cell hne (HLC 1 _ rfl)) (Ht.set_ 2 _) ((ag.of_below dN).trans hc (fun _ _ h=>h))
def VW (F:Nat→Prop) (z kc:Nat) (kA:Option Addr) (w:World) (e:Ending) (w':World):Prop:=
 ∃tb tc lb lc,e= .returned (.int .i64 0)∧(w.heap.size≤tb∧tb<w'.heap.size)∧w.heap.size≤lb∧w'.cell? ⟨tb,0,none⟩=some (.slice (some ⟨lb,0,none⟩) 1 lc)∧E1 w' F lb kA kc∧ai w' z 131 (JC (.slice (some ⟨tb,0,none⟩) 1 tc) (.slice none 0 0) (.slice kA 1 kc) false)∧ag (fun b=>b=z) w w'
theorem Ms (F:Nat→Prop) (z kc:Nat) (kA:Option Addr) (w:World) (h:ai w z 131 (JC (.slice none 0 0) (.slice none 0 0) (.slice none 0 0) false)) (hk:SB w F (.slice kA 1 kc) [107]) (hF:∀b,F b→b<w.heap.size∧b≠z):
  Calls prog 37 #[.pointer (some ⟨z,0,none⟩),.agg #[.slice kA 1 kc,.slice none 0 0]] w (VW F z kc kA w):=by
 have HZ:=aa h;have HK:=aa hk;have HF:=aa hF;have hzl:=h.lt;refine letter fun R HR=> ?_;clear h hk hF;go_enter func37,ntmps37
 go_upto_region 4 with(go_at_call 61;go_loud (obtain⟨w1,hw1⟩:∃W,W=w.alloc (.cells #[.slice kA 1 kc,.slice none 0 0] 57):=⟨_,rfl⟩;rw [←hw1];have hx1:ai w1 w.heap.size 57 #[.slice kA 1 kc,.slice none 0 0]:=(by rw [hw1];exact ai.new _ _ _);have hb1:Below w.heap.size w w1:=(by rw [hw1];exact(Below.refl _ _).alloc (Nat.le_refl _) _);clear hw1;refine(jk kA none 1 0 kc 0 ([107],[]) rfl rfl w1).mono ?_;rintro e w2 ⟨rfl,hb2⟩;rw [show gT ([107],[])=0 by decide];have HB2:Hid (Below w.heap.size w w2):=aa (hb1.trans (hb2.mono hb1.size));have pG:=aa (hx1.below hb2);have HZ2:=aa (HZ.below HB2);have y24:w2.cell? ⟨z,4,none⟩=some (.bool false):=HZ2.out.cell 4;have y21:w2.cell? ⟨z,1,none⟩=some (.slice none 0 0):=HZ2.out.cell 1;have y22:w2.cell? ⟨z,2,none⟩=some (.slice none 0 0):=HZ2.out.cell 2;have y23:w2.cell? ⟨z,3,none⟩=some (.slice none 0 0):=HZ2.out.cell 3;clear hx1 hb1 hb2))
 go_wp2;go_quiet (fail)
 obtain⟨w3,hw3⟩:∃W,W=w2.drewN nq:=⟨_,rfl⟩;have HB3:Hid (Below w.heap.size w w3):=aa (by rw [hw3];exact rJ HB2 nq);have Qt:Hid (ai w3 w.heap.size 57 #[.slice kA 1 kc,.slice none 0 0]):=aa (by rw [hw3];exact pG.drewN nq);have HZ3:=aa (HZ.below HB3);have y31:w3.cell? ⟨z,1,none⟩=some (.slice none 0 0):=HZ3.out.cell 1;have y32:w3.cell? ⟨z,2,none⟩=some (.slice none 0 0):=HZ3.out.cell 2;rw [←hw3];clear hw3 y24 y21 y22 y23;go_upto_region 10 with fail
 refine Pj z w.heap.size (.slice none 0 0) (.slice none 0 0) (.slice kA 1 kc) w3 _ (aa (fun _ _ _ _ h=>h)) HZ3 Qt rfl ?_;intro v49 v50 v51 v52 v53 v54 v55 v56 v57 v58 lb lc w4 h1 h2 h3 h4 h5 h6;have Ru:=aa (And.intro h1 h2);have uf:=aa h3;have ib:=aa h4;have Ht:=aa h5;have mP:=aa h6;have Nv:=aa HB3.size;have y40:w4.cell? ⟨w.heap.size,0,none⟩=some (.slice kA 1 kc):=(Qt.out.chg h6 (fun e=>by have e:w.heap.size=z:=e;omega)).cell 0;have y43:w4.cell? ⟨z,3,none⟩=some (.slice none 0 0):=h5.cell 3;have hf:w4.frozen? ⟨z,3,none⟩=false:=h5.frozen 3;clear h1 h2 h3 h4 h5 h6 y31 y32;go_upto_region 12 with fail
 obtain⟨w5,jg⟩:∃W,W=w4.setCell ⟨z,3,none⟩ (.slice kA 1 kc):=⟨_,rfl⟩;have Uh:Hid (ai w5 z 131 (JC (.slice none 0 0) (.slice (some ⟨lb,0,none⟩) 1 lc) (.slice kA 1 kc) false)):=aa (by rw [jg];exact Ht.set_ 3 _);have fQ:Hid (ag (fun b=>b=z) w w5):=aa (by rw [jg];exact((ag.of_below HB3).trans mP (fun _ _ h=>h)).setCell (p:=⟨z,3,none⟩) (fun _=>rfl) _);have ZW:Hid (ag (fun b=>b=z) w4 w5):=aa (by rw [jg];exact(ag.refl (fun b=>b=z) w4).setCell (p:=⟨z,3,none⟩) (fun _=>rfl) _);have y52:w5.cell? ⟨z,2,none⟩=some (.slice (some ⟨lb,0,none⟩) 1 lc):=Uh.out.cell 2;have y50:w5.cell? ⟨z,0,none⟩=some (.int .i64 1):=Uh.out.cell 0;rw [←jg];clear jg y40 y43 hf;go_quiet (fail);obtain⟨w6,kF⟩:∃W,W=w5.drewN nq:=⟨_,rfl⟩;have HZ6:Hid (ai w6 z 131 (JC (.slice none 0 0) (.slice (some ⟨lb,0,none⟩) 1 lc) (.slice kA 1 kc) false)):=aa (by rw [kF];exact Uh.drewN nq);have ZX:Hid (ag (fun b=>b=z) w4 w6):=aa (by rw [kF];exact ZW.drewN nq);have iW:Hid (ag (fun b=>b=z) w w6):=aa (by rw [kF];exact fQ.drewN nq);rw [←kF];clear kF y52 y50;go_wp2_with (go_at_call 63;go_loud (refine(Pi z lb lc (.slice kA 1 kc) w6 HZ6).mono ?_;rintro e w7 ⟨tb,tc,rfl,h1,h2,h3,h4,h5⟩;have Hm:=aa (And.intro h1 h2);have H3:=aa h3;have HZ7:=aa h4;have iE:=aa h5;clear h1 h2 h3 h4 h5))
 rw [HR.out];have hc47:=ZX.out.trans iE (fun _ _ h=>h);have hlz:¬lb=z:=fun e=>by have h1:=Ru.out.1;have h2:=Nv.out;omega
 refine⟨tb,tc,lb,lc,rfl,⟨Nat.le_trans iW.size Hm.1,Hm.2⟩,Nat.le_trans Nv Ru.1,H3,⟨hc47.cell hlz uf,hc47.cell hlz ib,?_,fun b hb=> ?_⟩,HZ7,iW.out.trans iE (fun _ _ h=>h)⟩
 ·exact HK.chg (iW.out.trans iE (fun _ _ h=>h)) (fun b hb e=>(HF b hb).2 e)
 ·rcases hb with hb|hb
  ·rw [hb];exact Nat.lt_of_lt_of_le Ru.2 hc47.size
  ·exact Nat.lt_of_lt_of_le (HF b hb).1 (Nat.le_trans iW.size iE.size)
end
section
open Go.Proofs.Tryz
open Go.RowKit
theorem Ee (F:Nat→Prop) (b0 c0 kc:Nat) (kA:Option Addr) (w:World) (h:E1 w F b0 kA kc):
  Calls prog 15 #[.slice (some ⟨b0,0,none⟩) 1 c0,.int .i64 1] w fun e w'=>∃A c,e= .returned (.tuple #[.slice A 46 c,.int .i64 0,.int .i64 0])∧OB w w' (.slice A 46 c) jJ:=by
 have HE:=aa h;refine letter fun R HR=> ?_;clear h;go_enter func15,ntmps15
 go_wp2;obtain⟨w1,hw1⟩:∃W,W=w.alloc (.cells #[.int .i64 1,.slice none 0 0,.slice none 0 0,.slice none 0 0,.bool false,.int .i64 0] 131):=⟨_,rfl⟩
 rw [←hw1];have hz1:ai w1 w.heap.size 131 (JC (.slice none 0 0) (.slice none 0 0) (.slice none 0 0) false):=by rw [hw1];exact ai.new _ _ _
 have hb1:Below w.heap.size w w1:=by rw [hw1];exact(Below.refl _ _).alloc (Nat.le_refl _) _
 have HZ1:=aa hz1;have HB1:=aa hb1;have ZY:=aa hz1.lt;have y0:w1.cell? ⟨b0,0,none⟩=some (.slice kA 1 kc):=ak hb1 HE.c0;have y1:w1.cell? ⟨b0,1,none⟩=some (.slice none 0 0):=ak hb1 HE.c1;clear hw1 hz1 hb1;refine wp_loop_rounds 2 ?_;rw [rounds_succ];go_wp2_with (go_at_call 37;go_loud (refine(Ms F w.heap.size kc kA w1 HZ1 (HE.key.below HB1) (fun b hb=>by have h1:=HE.out.own b (.inr hb);have h2:=HB1.out.size;exact⟨by omega,by omega⟩)).mono ?_;rintro e w2 ⟨tb,tc,lb,lc,rfl,h1,h2,h3,h4,h5,h6⟩;have Hm:=aa h1;have Nj:=aa h2;have ZU:=aa h3;have HE2:=aa h4;have HZ2:=aa h5;have bI:=aa h6;clear h1 h2 h3 h4 h5 h6))
 rw [rounds_succ];go_wp2_with (first|(go_at_call 38;go_loud (refine(Ed w.heap.size _ _ w2 HZ2).mono ?_;rintro e w3 ⟨rfl,hz3,hc3⟩;have HZ3:=aa hz3;have gN:=aa hc3;have hne:∀b,b=tb∨b=lb∨F b→¬b=w.heap.size:=(fun b hb=>by have h1:=ZY.out;rcases hb with hb|hb|hb;(have:=Hm.out.1;omega);(have:=Nj.out;omega);have:=HE.out.own b (.inr hb);omega);have Ox:=aa (HE2.chg hc3 (fun b hb=>hne b (.inr hb)));have ZZ:Hid (w3.cell? ⟨tb,0,none⟩=some (.slice (some ⟨lb,0,none⟩) 1 lc)):=aa (hc3.cell (hne tb (.inl rfl)) ZU);clear hz3 hc3 hne))|(go_at_call 39;go_loud (refine(Ec F w.heap.size tb tc lb lc kc kA _ w3 HZ3 Ox ZZ (Nat.lt_of_lt_of_le Hm.2 gN.size)).mono ?_;rintro e w4 ⟨A,c,rfl,ho,hc4⟩;have lI:=aa ho;have mP:=aa hc4;clear ho hc4)))
 go_ret3
 rw [HR.out];have hcz:ag (fun b=>b=w.heap.size) w1 w4:=bI.out.trans (gN.out.trans mP (fun _ _ h=>h)) (fun _ _ h=>h);have hsz:w.heap.size≤w3.heap.size:=Nat.le_trans HB1.size (Nat.le_trans bI.size gN.size);exact⟨A,c,rfl,lV lI hsz,HB1.out.trans (hcz.below_of HB1.size (fun b hb e=>by have e:b=w.heap.size:=e;omega))⟩
end
end Go.Proofs.YtbjgeidjmhialaaGreatDoor
