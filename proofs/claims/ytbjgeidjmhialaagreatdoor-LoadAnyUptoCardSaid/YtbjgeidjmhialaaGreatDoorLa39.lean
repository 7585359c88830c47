/- Part 39. -/
import Derived.Test.YtbjgeidjmhialaaGreatDoorLa38
namespace Go.Proofs.YtbjgeidjmhialaaGreatDoor
set_option maxRecDepth 100000
set_option maxHeartbeats 8000000
section
open Go.Proofs.Tryz
open Go.RowKit
theorem SB.next2 {S D D':Nat→Prop} {w w':World} {v:Value} {bs:List UInt8} (h:SB w D v bs) (hc:ag S w w') (hs:∀b,b<w.heap.size→D b→¬S b) (hD:∀b,b<w.heap.size→D b→D' b):SB w' D' v bs:=
 (h.lt.chg hc (fun b hb=>hs b hb.2 hb.1)).weak (fun b hb=>hD b hb.2 hb.1)
structure Er (w:World) (base:Nat) (out:Value) (us:List Value) (l:List aH):Prop where
 own:w.ownsRow base 57 2 out l.length us
 at_:∀(i:Nat) (e:aH),l[i]? =some e→∃u v,us[2*i]? =some u∧us[2*i+1]? =some v∧SB w (fun b=>base≤b∧out.ownBlock≠some b) u e.1∧SB w (fun b=>base≤b∧out.ownBlock≠some b) v e.2
section
variable {S:Nat→Prop} {w w':World} {base:Nat} {out:Value} {us:List Value} {l:List aH}
theorem Er.nil (w:World) (base:Nat):Er w base (.slice none 0 0) [] []:=⟨World.ownsRow_nil _ _ _ _,fun i e h=>by simp at h⟩
theorem Er.chg (h:Er w base out us l) (hc:ag S w w') (hs:∀b,base≤b→¬S b):Er w' base out us l:=
 ⟨aF h.own hc (fun b hb=>hs b (ah h.own b hb).1),fun i e he=>let⟨u,v,a,b,c,d⟩:=h.at_ i e he;⟨u,v,a,b,c.chg hc (fun x hx=>hs x hx.1),d.chg hc (fun x hx=>hs x hx.1)⟩⟩
theorem Er.below (h:Er w base out us l) (hb:Below w.heap.size w w'):Er w' base out us l:=
 ⟨own_below h.own hb,fun i e he=>let⟨u,v,a,b,c,d⟩:=h.at_ i e he;⟨u,v,a,b,c.below hb,d.below hb⟩⟩
theorem Er.push {v2 u v:Value} {e:aH} (h:Er w base out us l) (ho:w'.ownsRow base 57 2 v2 (l.length+1) (us++ [u,v])) (hg:w.grownBy w' out.ownBlock) (hat:v2.ownBlock=out.ownBlock∨v2.ownBlock=some w.heap.size)
  (hu:SB w (fun b=>base≤b∧out.ownBlock≠some b) u e.1) (hv:SB w (fun b=>base≤b∧out.ownBlock≠some b) v e.2):Er w' base v2 (us++ [u,v]) (l++ [e]):=by
 have hl:us.length=l.length*2:=h.own.1
 have key:∀b,b<w.heap.size→(base≤b∧out.ownBlock≠some b)→(base≤b∧v2.ownBlock≠some b):=fun b hb hx=>⟨hx.1,fun e=>by
  rcases hat with h|h
  ·exact hx.2 (h▸e)
  ·rw [h] at e;injection e with e;omega⟩
 have nx:∀{x:Value} {bs:List UInt8},SB w (fun b=>base≤b∧out.ownBlock≠some b) x bs→SB w' (fun b=>base≤b∧v2.ownBlock≠some b) x bs:=fun hx=>hx.next2 (ag.of_grown hg) (fun b _ hb e=>hb.2 e) key;refine⟨by rw [List.length_append];exact ho,fun i e' hi=> ?_⟩
 rcases Nat.lt_or_ge i l.length with h1|h1
 ·rw [List.getElem?_append_left h1] at hi;obtain⟨x,y,a,b,s1,s2⟩:=h.at_ i e' hi
  exact⟨x,y,by rw [List.getElem?_append_left (by omega)];exact a,by rw [List.getElem?_append_left (by omega)];exact b,nx s1,nx s2⟩
 ·rw [List.getElem?_append_right h1] at hi;have hi0:i=l.length:=by have:=(List.getElem?_eq_some_iff.1 hi).1;simp at this;omega
  subst hi0;simp at hi;subst hi
  refine⟨u,v,?_,?_,nx hu,nx hv⟩
  ·rw [List.getElem?_append_right (by omega),show 2*l.length-us.length=0 by omega];rfl
  ·rw [List.getElem?_append_right (by omega),show 2*l.length+1-us.length=1 by omega];rfl
theorem Er.ents {A:Option Addr} {n c:Nat} (h:Er w base (.slice A n c) us l) (hn:n=l.length):bO w (From base) A n l:=by
 subst hn;exact⟨aa rfl,us,Rd.of_own h.own,fun i e he=>let⟨u,v,a,b,s1,s2⟩:=h.at_ i e he;⟨u,v,a,b,s1.weak (fun _ hb=>hb.1),s2.weak (fun _ hb=>hb.1)⟩⟩
end
theorem MB (F:Nat→Prop) (p:Nat) (nodes root:Int) (sl:List bB) (id:Int) (w:World) (h:gm w F p nodes sl root) (h1:id<1∨(sl.length:Int)<id):
  Calls prog 33 #[.pointer (some ⟨p,0,none⟩),.int .i64 id] w fun e w'=>(∃A1 n1 c1 A2 n2 c2 A3 n3 c3 A4 n4 c4,e= .returned (.tuple #[.agg #[.int .i64 0,.slice A1 n1 c1,.int .i64 0,.slice A2 n2 c2,.slice A3 n3 c3,.slice A4 n4 c4],.bool false]))∧Below w.heap.size w w':=by
 have HX:=aa h;have b0:Below w.heap.size w (w.alloc (.cells #[.int .i64 0,.slice none 0 0,.int .i64 0,.slice none 0 0,.slice none 0 0,.slice none 0 0] 104)):=(Below.refl _ _).alloc (Nat.le_refl _) _;have B0:=aa b0;clear h b0;go_enter func33,ntmps33
 go_wp2_with (first|(go_at_call 57;go_loud (refine(Ka F p nodes root sl id _ (HX.below B0.out) h1).mono ?_);rintro e w1 ⟨A1,n1,c1,rfl,r1,hb1⟩;have HB1:=aa (B0.out.trans (hb1.mono (by simp)));have K1:=aa ((ai.new w 104 #[.int .i64 0,.slice none 0 0,.int .i64 0,.slice none 0 0,.slice none 0 0,.slice none 0 0]).below hb1);have L1:Hid (Below w.heap.size w (w1.alloc (.cells #[.int .i64 0,.slice A1 n1 c1,.int .i64 0] 99))):=aa (HB1.alloc HB1.size _);clear hb1 r1)|(go_at_call 58;go_loud (refine(Kb F p nodes root sl id _ (HX.below L1.out) h1).mono ?_);rintro e w2 ⟨A2,n2,c2,A3,n3,c3,A4,n4,c4,rfl,_,r2,r3,r4,hb2⟩;have HB2:=aa hb2;have hb3:Below w2.heap.size w2 (w2.alloc (.cells #[.slice A2 n2 c2,.slice A3 n3 c3,.slice A4 n4 c4] 102)):=(Below.refl _ _).alloc (Nat.le_refl _) _;have HB3:=aa hb3;have K2:=aa (((K1.out.alloc (.cells #[.int .i64 0,.slice A1 n1 c1,.int .i64 0] 99)).below hb2).below hb3);obtain⟨z0,z1,z2,z3,z4,z5⟩:=ed K2.out;have zf:=K2.out.frozen;have y0:=ak hb3 (ak (b:=w1.heap.size) (o:=0) (v:= .int .i64 0) hb2 (by simp));have y1:=ak hb3 (ak (b:=w1.heap.size) (o:=1) (v:= .slice A1 n1 c1) hb2 (by simp));have y2:=ak hb3 (ak (b:=w1.heap.size) (o:=2) (v:= .int .i64 0) hb2 (by simp));have hl1:=K1.out.lt;have hl2:=K2.out.lt;clear hb2 hb3 r2 r3 r4))
 refine bodyPost_ret (v:= .tuple #[.agg #[.int .i64 0,.slice A1 n1 c1,.int .i64 0,.slice A2 n2 c2,.slice A3 n3 c3,.slice A4 n4 c4],.bool false]) (by simp [results,results33,go_sem, *]) rfl ?_;obtain⟨w3,hw3⟩:∃x,x=w2.alloc (.cells #[.slice A2 n2 c2,.slice A3 n3 c3,.slice A4 n4 c4] 102):=⟨_,rfl⟩;rw [←hw3];have hb3:Below w2.heap.size w2 w3:=by rw [hw3];exact HB3
 have hch:=Sd (b:=w.heap.size) (w:=w3) (.int .i64 0) (.slice A1 n1 c1) (.int .i64 0) (.slice A2 n2 c2) (.slice A3 n3 c3) (.slice A4 n4 c4);have s2:w1.heap.size+1≤w2.heap.size:=by have:=HB2.out.size;simpa using this
 have s1:w.heap.size+1≤w1.heap.size:=hl1;have hB:Below w.heap.size w w3:=(L1.out.trans (HB2.mono (by simp;omega))).trans (hb3.mono (by omega));exact⟨⟨_,_,_,_,_,_,_,_,_,_,_,_,rfl⟩,hB.trans (hch.below_of hB.size (fun b hb e=>by simp only [jK] at e;omega))⟩
noncomputable def Se:Code:=aP (f11.body.bind (fC 3))
theorem MC (base q:Nat) (l0:List aH) (x:Nd) (out:Value) (us:List Value) (hA kA vA dA:Option Addr) (hn hc n kc vc dn dc:Nat) (w:World) {u0 u1 u2 u4 u5 u6 u8 u9 u10 u11 u12 u13 bN bq u16 u17 bC bD u20 u21 u22 u23 u24 u25 u26 u27 u28 u29 u30 u31 u32 u33 u34 u35 u36 u37 u38 dh u40 bX u42 bY u44 u45 u46 di u48 u49 bV u51 u52 u53 bW u55 dz dB u58 u59 u60 dH dG u63 u64 dO u69 u70 dV u72 u73 dP u75 eQ eU eX eY eZ fo fq fu fw fE iO jM jC jD lN lQ lS u93:Value} (Q:Exit→Act→World→Prop)
  (HK:Hid (ai w q 104 #[.int .i64 x.lev,.slice hA hn hc,.int .i64 x.right,.slice kA n kc,.slice vA n vc,.slice dA dn dc])) (HV:Hid (ni w (fun b=>base≤b∧b<w.heap.size∧out.ownBlock≠some b) x hA kA vA dA hn hc n kc n vc dn dc)) (HE:Hid (Er w base out us l0)) (hq:base≤q) (hqo:out.ownBlock≠some q) (hbase:base≤w.heap.size) (hl0:l0.length≤1000000000) (hnn:n≤100000)
  (au:∀(kL:Value) (v9 v10 v11 v68 v69 v70 v71 v72 v73 v74 v75 v76 v77 v78 v79 v80 v81 v82 v83 v84 v85 v86 v87 Fh v89 Fj v91 Fp:Value) (lh:List Value) (w':World),Er w' base kL lh (l0++x.keys.zip x.vals)→Below base w w'→Q (.exit 3) ⟨(u0::u1::u2::kL::u4::u5::u6:: .pointer (some ⟨q,0,none⟩)::u8::v9::v10::v11::u12::u13::bN::bq::u16::u17::bC::bD::u20::u21::u22::u23::u24::u25::u26::u27::u28::u29::u30::u31::u32::u33::u34::u35::u36::u37::u38::dh::u40::bX::u42::bY::u44::u45::u46::di::u48::u49::bV::u51::u52::u53::bW::u55::dz::dB::u58::u59::u60::dH::dG::u63::u64::dO:: .slice kA n kc:: .int .i64 n::v68::v69::v70::v71::v72::v73::v74::v75::v76::v77::v78::v79::v80::v81::v82::v83::v84::v85::v86::v87::Fh::v89::Fj::v91::Fp::u93:: []).toArray,[]⟩ w'):
  Code.wp prog Se Q ⟨(u0::u1::u2::out::u4::u5::u6:: .pointer (some ⟨q,0,none⟩)::u8::u9::u10::u11::u12::u13::bN::bq::u16::u17::bC::bD::u20::u21::u22::u23::u24::u25::u26::u27::u28::u29::u30::u31::u32::u33::u34::u35::u36::u37::u38::dh::u40::bX::u42::bY::u44::u45::u46::di::u48::u49::bV::u51::u52::u53::bW::u55::dz::dB::u58::u59::u60::dH::dG::u63::u64::dO:: .slice kA n kc:: .int .i64 n:: .int .i64 0::u69::u70::dV::u72::u73::dP::u75::eQ::eU::eX::eY::eZ::fo::fq::fu::fw::fE::iO::jM::jC::jD::lN::lQ::lS::u93:: []).toArray,[]⟩ w:=by
 have dF:=aa au;obtain⟨i0,hi0,jO,jP,jQ⟩:=info_parts nW;clear au;conv=>arg 2;whnf
 go_loopg [3,68] n (fun g' ov iv wr=>∃(i:Nat) (lh:List Value),g'=n-i∧i≤n∧iv= .int .i64 i∧Er wr base ov lh (l0++(x.keys.zip x.vals).take i)∧ai wr q 104 #[.int .i64 x.lev,.slice hA hn hc,.int .i64 x.right,.slice kA n kc,.slice vA n vc,.slice dA dn dc]∧ni wr (fun b=>base≤b∧b<w.heap.size∧ov.ownBlock≠some b) x hA kA vA dA hn hc n kc n vc dn dc∧ov.ownBlock≠some q∧Below base w wr)
 case atStart=>exact⟨0,us,by omega,by omega,rfl,by simpa using HE.out,HK,HV,hqo,Below.refl _ _⟩
 case round=>
  obtain⟨i,lh,hg,hi,rfl,he,hk,hv,hoq,hb⟩:=hrel;have HG:=aa hg;have jR:=aa he;have RI:=aa hk;have Sf:=aa hv;have HOQ:=aa hoq;have HB:=aa hb
  rename World=>wr
  clear hg he hk hv hoq hb HE HK HV
  by_cases hlt:i<n
  ·have hlt':(i:Int)<(n:Int):=by omega
   obtain⟨b,o,Ak,nk,ck,key,rfl,hF1,hek,c1,p1,p2,p3,p4⟩:=Sf.out.k.at_ (k:=i) hlt;obtain⟨b',o',Av,nv,cv,val,rfl,hF2,hev,c2,r1,r2,r3,r4⟩:=Sf.out.v.at_ (k:=i) hlt;have hkb:SB wr (fun b=>base≤b∧u3.ownBlock≠some b) (.slice Ak nk ck) key:=⟨Ak,nk,ck,rfl,p1,p2,p3,p4.weak (fun b hb=>⟨hb.1,hb.2.2⟩)⟩;have hvb:SB wr (fun b=>base≤b∧u3.ownBlock≠some b) (.slice Av nv cv) val:=⟨Av,nv,cv,rfl,r1,r2,r3,r4.weak (fun b hb=>⟨hb.1,hb.2.2⟩)⟩;have UT:=aa hkb;have Vo:=aa hvb;have hz:(x.keys.zip x.vals)[i]? =some (key,val):=List.getElem?_zip_eq_some.2 ⟨hek,hev⟩;have HZ:Hid ((x.keys.zip x.vals).take (i+1)=(x.keys.zip x.vals).take i++ [(key,val)]):=aa (by rw [List.take_add_one,hz];rfl)
   have hzl:(l0++(x.keys.zip x.vals).take i).length≤1000100000:=by
    rw [List.length_append,List.length_take];omega
   obtain⟨li,XR⟩:∃Y,Y=l0++(x.keys.zip x.vals).take i:=⟨_,rfl⟩;rw [←XR] at hzl;have Sg:Hid (Er wr base u3 lh li):=aa (by rw [XR];exact jR);have YK:=aa XR;have hq1:=RI.out.lt;have hbw:=HB.out.size;have hws:base≤wr.heap.size:=Nat.le_trans hbase hbw;clear hek hev p1 p2 p3 p4 r1 r2 r3 r4 hkb hvb hz XR jR hF1 hF2;obtain⟨wx,hwx⟩:∃W,W=wr.alloc (.cells #[.slice Ak nk ck,.slice none 0 0] 57):=⟨_,rfl⟩;have iC:Hid (Below wr.heap.size wr wx):=aa (by rw [hwx];exact(Below.refl _ _).alloc (Nat.le_refl _) _);have Fu:Hid (ai wx wr.heap.size 57 #[.slice Ak nk ck,.slice none 0 0]):=aa (by rw [hwx];exact ai.new _ _ _);go_upto_region 19 with fail
   rw [←hwx];clear hwx c1;have GR:=aa (RI.below iC);have x4:wx.cell? ⟨q,4,none⟩=some (.slice (some ⟨b',o',none⟩) n vc):=GR.out.cell 4;have y1:wx.cell? ⟨wr.heap.size,1,none⟩=some (.slice none 0 0):=Fu.out.cell 1;have yf:=Fu.out.frozen;have c2x:=ak iC c2;go_upto_region 21 with fail
   obtain⟨wy,XT⟩:∃W,W=wx.setCell ⟨wr.heap.size,1,none⟩ (.slice Av nv cv):=⟨_,rfl⟩;rw [←XT];have hby:Below wr.heap.size wr wy:=by rw [XT];exact iC.setCell (p:=⟨wr.heap.size,1,none⟩) (Nat.le_refl _) _
   have FD:=aa hby;have HQY:Hid (ai wy wr.heap.size 57 #[.slice Ak nk ck,.slice Av nv cv]):=aa (by rw [XT];exact Fu.set_ 1 _);have HEY:=aa (Sg.below hby);have aj8:=hby.size;clear XT hby x4 y1 yf c2 c2x Fu iC GR;have x0:wy.cell? ⟨wr.heap.size,0,none⟩=some (.slice Ak nk ck):=HQY.out.cell 0;have x1:wy.cell? ⟨wr.heap.size,1,none⟩=some (.slice Av nv cv):=HQY.out.cell 1;go_wp2_with (at_builtin;go_loud (refine af _ rfl (.tmp 88) (.tmp 90) _ rfl base 57 i0 _ 2 48 underlying37 hi0 jO jP jQ rfl (by omega) u3 li.length lh rfl (own_below HEY.own ((Below.refl _ _).alloc (Nat.le_refl _) _)) (From wy.heap.size) (some ⟨wy.heap.size,0,none⟩) 1 1 [.slice Ak nk ck,.slice Av nv cv] rfl (Rd.two wy _ _ _) (by simp [Value.oneCell']) (by simp only [maxLen];omega) (by omega) (by simp;omega) ?_);intro v6 w6 hown6 jS iR;have uJ:=aa hown6;have qC:=aa jS;have Ol:=aa iR;clear hown6 jS iR)
   go_roundg (n-(i+1))
   case measure=>have:=HG.out;omega
   case rel=>
    obtain⟨wa,lG⟩:∃W,W=wy.alloc (.cells #[.slice Ak nk ck,.slice Av nv cv] 57):=⟨_,rfl⟩;have jS:=qC.out;have Z5:=Ol.out;rw [←lG] at jS Z5;have qo:Below wr.heap.size wr wa:=FD.out.trans (by rw [lG];exact(Below.refl _ _).alloc (by omega) _);have hown:ag (fun b=>u3.ownBlock=some b) wa w6:=ag.of_grown jS;have JL:∀g,u3.ownBlock=some g→base≤g:=fun g hg=>(ah Sg.own g hg).1;have hpush:=(Sg.out.below qo).push (e:=(key,val)) uJ jS Z5 (UT.below qo) (Vo.below qo)
    have hv6:∀b,b<wr.heap.size→u3.ownBlock≠some b→v6.ownBlock≠some b:=fun b hb hn e=>by
     rcases Z5 with h|h
     ·exact hn (h▸e)
     ·rw [h] at e;injection e with e;have:=qo.size;omega
    rw [YK.out,List.append_assoc,←HZ.out] at hpush
    refine⟨i+1,_,rfl,by omega,by go_num,hpush,(RI.below qo).chg hown (fun e=>HOQ e),((Sf.below qo).chg hown (fun b hb e=>hb.2.2 e)).weak (fun b hb=>⟨hb.1,hb.2.1,hv6 b (by have:=hb.2.1;omega) hb.2.2⟩),hv6 q hq1 HOQ,HB.out.trans ((qo.mono hws).trans (hown.below_of (Nat.le_trans hws qo.size) (fun b hb e=>by have:=JL b e;omega)))⟩
  ·have hlt':¬(i:Int)<(n:Int):=by omega
   obtain rfl:i=n:=by omega
   have HZ:Hid ((x.keys.zip x.vals).take i=x.keys.zip x.vals):=aa (List.take_of_length_le (by rw [List.length_zip];have:=Sf.out.k.len;omega));have hfin:=jR.out;rw [HZ.out] at hfin;have Oh:=aa hfin;clear hfin;go_wp2;exact dF _ _ _ _ _ _ _ _ _ _ _ _ _ _ _ _ _ _ _ _ _ _ _ _ _ _ _ _ _ _ _ Oh HB
end
section
open Go.Proofs.Tryz
open Go.RowKit Go.Maps
def gM (L:Nat) (N d:Nat→Nat) (s:Nat):Nat:=if s<L then d (L-s)+1 else if s<L+N 0 then s-L+1 else 0
def d9 (x:Nd):List aH:=x.keys.zip x.vals
section
variable {sl:List bB} {root nd lf:Int} {inn L:Nat} {N d:Nat→Nat} {X:Nat→Nat→Nd}
theorem SQ (h:ji sl root nd lf inn L N d X) {s t:Nat} (hst:s<t) (ht:t≤L+N 0):gM L N d s≠gM L N d t:=by
 unfold gM;have h01:d 1=N 0:=by rw [h.step,h.base];omega
 by_cases h1:s<L
 ·rw [if_pos h1]
  by_cases h2:t<L
  ·rw [if_pos h2];have a:=h.mono (j:=L-t+1) (k:=L-s) (by omega);have b:=h.step (L-t);have c:=h.pos (L-t)
   omega
  ·rw [if_neg h2];have a:=h.mono (j:=1) (k:=L-s) (by omega)
   split<;>omega
 ·rw [if_neg h1,if_neg (show¬t<L by omega),if_pos (show s<L+N 0 by omega)];split<;>omega
end
theorem Cj {w:World} {b n:Nat} {f:Int→Int} {k:Int} (h:bF w b n (fun j=>if j=k then 1 else f j)) (h1: -9223372036854775808≤k) (h2:k≤9223372036854775807):(Instr.lookup 107 (.map (some b)) (.int .i64 k) false).run prog w= .ok (.int .i64 1) w:=by
 have:(Instr.lookup 107 (.map (some b)) (.int .i64 k) false).run prog w= .ok (.int .i64 (if k=k then(1:Int) else f k)) w:=h.look h1 h2;rw [if_pos rfl] at this;exact this
theorem EY (F:Nat→Prop) (p:Nat) (nodes root:Int) (sl:List bB) (nd lf:Int) (inn L:Nat) (N d:Nat→Nat) (X:Nat→Nat→Nd) (w:World) (hx:gm w F p nodes sl root) (hn:sl.length≤65536) (hF:∀b,F b→b<w.heap.size)
  (ht:ji sl root nd lf inn L N d X) (hlf:lf≤100000) (hln:∀j,j≤N 0→((List.range j).flatMap fun i=>d9 (X 0 i)).length≤1000000000):
  Calls prog 11 #[.pointer (some ⟨p,0,none⟩)] w fun e w'=>∃A n c,e= .returned (.slice A n c)∧bO w' (From w.heap.size) A n ((List.range (N 0)).flatMap fun i=>d9 (X 0 i))∧Below w.heap.size w w':=by
 have HX:=aa hx;have HT:=aa ht;have HF:=aa hF;have tK:=aa hn;have jv:=aa hln;have Ym:=aa hlf;have PK:=aa ht.root;have LV:=ht.deep;have hN0:=ht.fit (Nat.zero_le L);have hmm:= @run_makeMap prog;have HB0:Hid (Below w.heap.size w (w.alloc (.map #[] 0))):=aa ((Below.refl _ _).alloc (Nat.le_refl _) _);have Qg:=aa (bF.made w);clear hx hF ht hln hlf;go_enter func11,ntmps11
 go_wp2;go_step3
 go_wp2;go_step3
 go_wp2_with (go_at_call 32;refine(zX F p nodes root sl _ (HX.below HB0)).mono ?_;rintro e w' ⟨rfl,rfl⟩;rw [PK.out])
 go_loopg [3,5,6] (L+N 0+1) (fun g' ov lv iv wr=>∃(s:Nat) (us:List Value) (f:Int→Int),g'=L+N 0+1-s∧s≤L+N 0∧lv= .bool (decide (L<s))∧iv= .int .i64 ((gM L N d s:Nat):Int)∧Er wr (w.heap.size+1) ov us ((List.range (s-L)).flatMap fun i=>d9 (X 0 i))∧bF wr w.heap.size s f∧Hid (∀y,f y≠0→∃t,t<s∧y=(gM L N d t:Int))∧Below w.heap.size w wr)
 case atStart=>
  have hr:((d L:Int)+1)=((gM L N d 0:Nat):Int):=by
   unfold gM
   by_cases h:0<L
   ·rw [if_pos h];simp
   ·have h0:L=0:=by omega
    have hp:=HT.out.pos 0;rw [if_neg h,if_pos (by omega),h0,HT.out.base];simp
  refine⟨0,[],fun _=>0,by omega,by omega,by simp,congrArg (Value.int .i64) hr,?_,Qg,aa (fun y h=>absurd rfl h),HB0⟩
  rw [Nat.zero_sub];exact Er.nil _ _
 case round=>
  obtain⟨s,us,f,hg,hs,rfl,rfl,he,hmp,hfv,hb⟩:=hrel;have HG:=aa hg;have HE:=aa he;have HM:=aa hmp;have HB:=aa hb;have HFV:=hfv
  rename World=>wr
  have hws:w.heap.size+1≤wr.heap.size:=hmp.lt;obtain⟨m,hmm'⟩:∃Y,Y=gM L N d s:=⟨_,rfl⟩;rw [←hmm'];have Fy:=aa hmm'
  have JU:Hid (f (m:Int)=0):=aa (by
   by_cases h0:f (m:Int)=0
   ·exact h0
   ·obtain⟨t,ht,e⟩:=hfv.out _ h0;have:=SQ HT ht hs;exact absurd (by rw [←hmm'];omega) this)
  clear hg he hmp hb hfv Qg HB0 hmm';have hmid:s<L→m=d (L-s)+1:=fun h=>by rw [Fy.out];unfold gM;rw [if_pos h]
  have FR:¬s<L→s<L+N 0→m=s-L+1:=fun h h2=>by rw [Fy.out];unfold gM;rw [if_neg h,if_pos h2]
  have FT:¬s<L→¬s<L+N 0→m=0:=fun h h2=>by rw [Fy.out];unfold gM;rw [if_neg h,if_neg h2]
  by_cases hsL:s<L
  ·obtain⟨k,hk⟩:∃k,k=L-s:=⟨_,rfl⟩;have hmk:m=d k+1:=by rw [hmid hsL,hk]
   have Ny:k≤L:=by omega
   have hk1:1≤k:=by omega
   have Vl:=HT.out.fit Ny;have hpk:=HT.out.pos k;obtain⟨x,jY⟩:∃Y,Y=X k 0:=⟨_,rfl⟩;have hm1:1≤(m:Int):=by omega
   have HAT:Hid (∃s',sl[((m:Int)).toNat-1]? =some s'∧s'.2=x∧Small s'.2):=aa (by
    rw [show((m:Int)).toNat-1=d k+0 by omega,jY];exact(HT.lv k Ny).at_ 0 (by omega))
   have jr:Hid (x.lev=(k:Int)):=aa (by rw [jY];exact(HT.lv k Ny).lev 0 (by omega))
   have MZ:Hid (x.kids[0]? =some ((d (k-1):Int)+1)):=aa (by
    have:=HT.out.kid0 (k-1) (by omega);rw [show k-1+1=k by omega] at this;rw [jY];exact this)
   have zm:Hid ((d (k-1):Int)+1=((gM L N d (s+1):Nat):Int)):=aa (by
    unfold gM
    by_cases h:s+1<L
    ·rw [if_pos h,show L-(s+1)=k-1 by omega];simp
    ·have hp:=HT.out.pos 0;rw [if_neg h,if_pos (by omega),show k-1=0 by omega,HT.out.base,show s+1-L=0 by omega];simp)
   have HKK:=aa hk;have hm2:m≤65537:=by have:=tK.out;omega
   clear hmid FR FT hk jY hmk;have hlf:¬L<s:=by omega
   go_upto_region 10 with(first|(go_at_call 33;go_loud (refine(pR F p nodes root sl (m:Int) x wr (HX.below HB) hm1 tK HAT).mono ?_);rintro e w1 ⟨hA,hn',hc,kA,kn,kc,vA,vn,vc,dA,dn,dc,rfl,hv1,hb1⟩;have hz1:=hb1.size;have hb2:Below wr.heap.size wr (w1.alloc (.cells #[.int .i64 x.lev,.slice hA hn' hc,.int .i64 x.right,.slice kA kn kc,.slice vA vn vc,.slice dA dn dc] 104)):=hb1.alloc hz1 _;have HB2:=aa hb2;have CE:Hid (ni (w1.alloc (.cells #[.int .i64 x.lev,.slice hA hn' hc,.int .i64 x.right,.slice kA kn kc,.slice vA vn vc,.slice dA dn dc] 104)) (From wr.heap.size) x hA kA vA dA hn' hc kn kc vn vc dn dc):=aa (hv1.below ((Below.refl _ _).alloc (Nat.le_refl _) _));have iH:Hid (ai (w1.alloc (.cells #[.int .i64 x.lev,.slice hA hn' hc,.int .i64 x.right,.slice kA kn kc,.slice vA vn vc,.slice dA dn dc] 104)) w1.heap.size 104 #[.int .i64 x.lev,.slice hA hn' hc,.int .i64 x.right,.slice kA kn kc,.slice vA vn vc,.slice dA dn dc]):=aa (ai.new _ _ _);have hl1:(Instr.lookup 107 (.map (some w.heap.size)) (.int .i64 (m:Int)) false).run prog (w1.alloc (.cells #[.int .i64 x.lev,.slice hA hn' hc,.int .i64 x.right,.slice kA kn kc,.slice vA vn vc,.slice dA dn dc] 104))= .ok (.int .i64 0) (w1.alloc (.cells #[.int .i64 x.lev,.slice hA hn' hc,.int .i64 x.right,.slice kA kn kc,.slice vA vn vc,.slice dA dn dc] 104)):=jX (HM.below hb2) (by omega) (by omega) JU;clear hv1 hb1 hb2)|(at_mapUpdate;go_loud (refine dw rfl _ _ _ rfl rfl (HM.below HB2) (by unfold maxLen;omega) (m:Int) 1 rfl rfl (by omega) (by omega) (by omega) (by omega) ?_);intro w2 hm2 hc2;have pz:=aa hm2;have bI:=aa hc2;have hl2:(Instr.lookup 107 (.map (some w.heap.size)) (.int .i64 (m:Int)) false).run prog w2= .ok (.int .i64 1) w2:=Cj hm2 (by omega) (by omega);clear hm2 hc2 hl1))
   obtain⟨q,hqq⟩:∃Y,Y=w1.heap.size:=⟨_,rfl⟩;rw [←hqq];have ad5:wr.heap.size≤w2.heap.size:=Nat.le_trans HB2.size bI.size;have I9:Hid (Below w.heap.size w w2):=aa (HB.out.trans ((HB2.mono (by omega)).trans (bI.below_of (Nat.le_trans (by omega) HB2.size) (fun b hb h=>by have h:b=w.heap.size:=h;omega))));have HE2:=aa ((HE.below HB2).chg bI (fun b hb h=>by have h:b=w.heap.size:=h;omega))
   have PL:Hid (∀y,(fun j=>if j=(m:Int) then 1 else f j) y≠0→∃t,t<s+1∧y=(gM L N d t:Int)):=aa (fun y hy=>by
    by_cases hym:y=(m:Int)
    ·exact⟨s,by omega,by rw [hym,Fy.out]⟩
    ·obtain⟨t,ht,e⟩:=HFV.out y (fun h0=>hy (by show(if y=(m:Int) then(1:Int) else f y)=0;rw [if_neg hym];exact h0));exact⟨t,by omega,e⟩)
   have X4:Hid (ai w2 q 104 #[.int .i64 x.lev,.slice hA hn' hc,.int .i64 x.right,.slice kA kn kc,.slice vA vn vc,.slice dA dn dc]):=aa (by rw [hqq];exact iH.chg bI (fun h=>by have h:w1.heap.size=w.heap.size:=h;omega));have SS:Hid (ni w2 (From wr.heap.size) x hA kA vA dA hn' hc kn kc vn vc dn dc):=aa (CE.chg bI (fun b hb h=>by have h:b=w.heap.size:=h;have hb:wr.heap.size≤b:=hb;omega));have Yr:wr.heap.size≤q:=by omega
   clear hqq HB2 CE iH bI hz1;have hkl:0<dn:=by rw [SS.out.d.len];exact(List.getElem?_eq_some_iff.1 MZ).1
   obtain⟨b2,o2,kid,hA2,_,he2,d1⟩:=SS.out.d.at_ (k:=0) hkl;have hkk:kid=(d (k-1):Int)+1:=by have h:=MZ.out;rw [he2] at h;injection h
   subst hkk hA2;rw [Nat.add_zero] at d1;have sS:Hid (ai w2 q 104 #[.int .i64 (k:Int),.slice hA hn' hc,.int .i64 x.right,.slice kA kn kc,.slice vA vn vc,.slice (some ⟨b2,o2,none⟩) dn dc]):=aa (by have:=X4.out;rw [jr.out] at this;exact this);obtain⟨z0,z1,z2,z3,z4,z5⟩:=ed sS;have hp1:¬(k:Int)≤0:=by omega
   have hp2:((dn:Int)==0)=false:=by simp;omega
   have hp3:(0:Int)<(dn:Int):=by omega
   clear he2;go_wp2_with fail
   go_roundg (L+N 0+1-(s+1))
   case measure=>have:=HG.out;omega
   case rel=>
    refine⟨s+1,us,_,rfl,by omega,?_,congrArg (Value.int .i64) zm,?_,pz,PL,I9⟩
    ·have:=HKK.out;simp;omega
    ·have h1:s-L=0:=by omega
     have h2:s+1-L=0:=by omega
     have:=HE2.out;rw [h1] at this
     rw [h2];exact this
  ·by_cases hsN:s<L+N 0
   ·obtain⟨i,hi⟩:∃i,i=s-L:=⟨_,rfl⟩;have Nh:m=i+1:=by rw [FR hsL hsN,hi]
    have SV:i<N 0:=by omega
    obtain⟨x,jY⟩:∃Y,Y=X 0 i:=⟨_,rfl⟩;have hm1:1≤(m:Int):=by omega
    have hm2:m≤65537:=by have:=tK.out;omega
    have HAT:Hid (∃s',sl[((m:Int)).toNat-1]? =some s'∧s'.2=x∧Small s'.2):=aa (by
     rw [show((m:Int)).toNat-1=d 0+i by rw [HT.out.base];omega,jY];exact(HT.lv 0 (Nat.zero_le _)).at_ i SV)
    have jr:Hid (x.lev=0):=aa (by rw [jY];exact(HT.lv 0 (Nat.zero_le _)).lev i SV)
    have zm:Hid (x.right=((gM L N d (s+1):Nat):Int)):=aa (by
     rw [jY,(HT.out.lv 0 (Nat.zero_le _)).right i SV,HT.out.base];unfold gM
     by_cases h:i+1<N 0
     ·rw [if_pos h,if_neg (by omega),if_pos (by omega)];omega
     ·rw [if_neg h,if_neg (by omega),if_neg (by omega)];rfl)
    have HVN:Hid (x.vals.length=x.keys.length):=aa (by rw [jY];exact(((HT.lv 0 (Nat.zero_le _)).fine i SV).leaf ((HT.lv 0 (Nat.zero_le _)).lev i SV)).1)
    have UT:Hid (x.keys.length≤100000):=aa (by
     have h1:=(((HT.lv 0 (Nat.zero_le _)).fine i SV).leaf ((HT.lv 0 (Nat.zero_le _)).lev i SV)).2.1;rw [jY];have:=Ym.out;omega)
    have Rf:=aa jY;have HII:=aa hi;clear hmid FR FT hi jY Nh;go_upto_region 10 with(first|(go_at_call 33;go_loud (refine(pR F p nodes root sl (m:Int) x wr (HX.below HB) hm1 tK HAT).mono ?_);rintro e w1 ⟨hA,hn',hc,kA,kn,kc,vA,vn,vc,dA,dn,dc,rfl,hv1,hb1⟩;have hz1:=hb1.size;have hb2:Below wr.heap.size wr (w1.alloc (.cells #[.int .i64 x.lev,.slice hA hn' hc,.int .i64 x.right,.slice kA kn kc,.slice vA vn vc,.slice dA dn dc] 104)):=hb1.alloc hz1 _;have HB2:=aa hb2;have CE:Hid (ni (w1.alloc (.cells #[.int .i64 x.lev,.slice hA hn' hc,.int .i64 x.right,.slice kA kn kc,.slice vA vn vc,.slice dA dn dc] 104)) (From wr.heap.size) x hA kA vA dA hn' hc kn kc vn vc dn dc):=aa (hv1.below ((Below.refl _ _).alloc (Nat.le_refl _) _));have iH:Hid (ai (w1.alloc (.cells #[.int .i64 x.lev,.slice hA hn' hc,.int .i64 x.right,.slice kA kn kc,.slice vA vn vc,.slice dA dn dc] 104)) w1.heap.size 104 #[.int .i64 x.lev,.slice hA hn' hc,.int .i64 x.right,.slice kA kn kc,.slice vA vn vc,.slice dA dn dc]):=aa (ai.new _ _ _);have hl1:(Instr.lookup 107 (.map (some w.heap.size)) (.int .i64 (m:Int)) false).run prog (w1.alloc (.cells #[.int .i64 x.lev,.slice hA hn' hc,.int .i64 x.right,.slice kA kn kc,.slice vA vn vc,.slice dA dn dc] 104))= .ok (.int .i64 0) (w1.alloc (.cells #[.int .i64 x.lev,.slice hA hn' hc,.int .i64 x.right,.slice kA kn kc,.slice vA vn vc,.slice dA dn dc] 104)):=jX (HM.below hb2) (by omega) (by omega) JU;clear hv1 hb1 hb2)|(at_mapUpdate;go_loud (refine dw rfl _ _ _ rfl rfl (HM.below HB2) (by unfold maxLen;omega) (m:Int) 1 rfl rfl (by omega) (by omega) (by omega) (by omega) ?_);intro w2 hm2 hc2;have pz:=aa hm2;have bI:=aa hc2;have hl2:(Instr.lookup 107 (.map (some w.heap.size)) (.int .i64 (m:Int)) false).run prog w2= .ok (.int .i64 1) w2:=Cj hm2 (by omega) (by omega);clear hm2 hc2 hl1))
    obtain⟨q,hqq⟩:∃Y,Y=w1.heap.size:=⟨_,rfl⟩;rw [←hqq];have ad5:wr.heap.size≤w2.heap.size:=Nat.le_trans HB2.size bI.size;have I9:Hid (Below w.heap.size w w2):=aa (HB.out.trans ((HB2.mono (by omega)).trans (bI.below_of (Nat.le_trans (by omega) HB2.size) (fun b hb h=>by have h:b=w.heap.size:=h;omega))));have HE2:=aa ((HE.below HB2).chg bI (fun b hb h=>by have h:b=w.heap.size:=h;omega))
    have PL:Hid (∀y,(fun j=>if j=(m:Int) then 1 else f j) y≠0→∃t,t<s+1∧y=(gM L N d t:Int)):=aa (fun y hy=>by
     by_cases hym:y=(m:Int)
     ·exact⟨s,by omega,by rw [hym,Fy.out]⟩
     ·obtain⟨t,ht,e⟩:=HFV.out y (fun h0=>hy (by show(if y=(m:Int) then(1:Int) else f y)=0;rw [if_neg hym];exact h0));exact⟨t,by omega,e⟩)
    have X4:Hid (ai w2 q 104 #[.int .i64 x.lev,.slice hA hn' hc,.int .i64 x.right,.slice kA kn kc,.slice vA vn vc,.slice dA dn dc]):=aa (by rw [hqq];exact iH.chg bI (fun h=>by have h:w1.heap.size=w.heap.size:=h;omega));have SS:Hid (ni w2 (From wr.heap.size) x hA kA vA dA hn' hc kn kc vn vc dn dc):=aa (CE.chg bI (fun b hb h=>by have h:b=w.heap.size:=h;have hb:wr.heap.size≤b:=hb;omega));have Yr:wr.heap.size≤q:=by omega
    clear hqq HB2 CE iH bI hz1;have Z6:vn=kn:=by rw [SS.out.v.len,SS.out.k.len,HVN.out]
    have hkn:kn≤100000:=by rw [SS.out.k.len];exact UT
    subst Z6;have sS:Hid (ai w2 q 104 #[.int .i64 0,.slice hA hn' hc,.int .i64 ((gM L N d (s+1):Nat):Int),.slice kA vn kc,.slice vA vn vc,.slice dA dn dc]):=aa (by have:=X4.out;rw [jr.out,zm.out] at this;exact this);obtain⟨z0,z1,z2,z3,z4,z5⟩:=ed sS;obtain⟨nx,hnx⟩:∃Y,Y=gM L N d (s+1):=⟨_,rfl⟩;rw [←hnx] at z2;have R7:=aa hnx;have hlen:(((List.range (s-L)).flatMap fun i=>d9 (X 0 i))).length≤1000000000:=jv.out (s-L) (by omega);have zI:=aa hlen;have hrow:∀b,wr.heap.size≤b→u3.ownBlock≠some b:=fun b hb e=>by have:=(ah HE.own b e).2;omega
    have Sf:Hid (ni w2 (fun b=>w.heap.size+1≤b∧b<w2.heap.size∧u3.ownBlock≠some b) x hA kA vA dA hn' hc vn kc vn vc dn dc):=aa (SS.lt.weak (fun b hb=>⟨Nat.le_trans hws hb.1,hb.2,hrow b hb.1⟩));have hqo:u3.ownBlock≠some q:=hrow q Yr;have GR:Hid (ai w2 q 104 #[.int .i64 x.lev,.slice hA hn' hc,.int .i64 x.right,.slice kA vn kc,.slice vA vn vc,.slice dA dn dc]):=X4;clear hnx hlen hrow
    by_cases PM:L<s
    ·have hd:decide (L<s)=true:=decide_eq_true PM;go_wp2_with fail
     refine MC (w.heap.size+1) q _ x u3 us hA kA vA dA hn' hc vn kc vc dn dc w2 _ GR Sf HE2 (by omega) hqo (by omega) zI hkn ?_;intro kL v9 v10 v11 v68 v69 v70 v71 v72 v73 v74 v75 v76 v77 v78 v79 v80 v81 v82 v83 v84 v85 v86 v87 Fh v89 Fj v91 Fp lh w5 Wu hb5;have HE5:=aa Wu;have je:ag (fun b=>w.heap.size+1≤b) w2 w5:=ag.of_below_ hb5 (fun b _ h=>h);have sU:=aa (pz.chg je (fun h=>by have h:w.heap.size+1≤w.heap.size:=h;omega));have fO:Hid (Below w.heap.size w w5):=aa (I9.out.trans (je.below_of I9.size (fun b hb h=>by have h:w.heap.size+1≤b:=h;omega)));clear Wu hb5 je;go_wp2_with fail
     go_roundg (L+N 0+1-(s+1))
     case measure=>have:=HG.out;omega
     case rel=>
      have e1:(List.range (s+1-L)).flatMap (fun i=>d9 (X 0 i))=((List.range (s-L)).flatMap fun i=>d9 (X 0 i))++x.keys.zip x.vals:=by
       have h1:s+1-L=(s-L)+1:=by omega
       rw [h1,List.range_succ,List.flatMap_append,List.flatMap_singleton,←HII.out,←Rf.out];rfl
      refine⟨s+1,lh,_,rfl,by omega,?_,congrArg (fun t:Nat=>Value.int .i64 (t:Int)) R7,?_,sU,PL,fO⟩
      ·have:decide (L<s+1)=true:=decide_eq_true (by omega)
       rw [this]
      ·rw [e1];exact HE5
    ·have hd:decide (L<s)=false:=decide_eq_false PM;go_wp2_with fail
     refine MC (w.heap.size+1) q _ x u3 us hA kA vA dA hn' hc vn kc vc dn dc w2 _ GR Sf HE2 (by omega) hqo (by omega) zI hkn ?_;intro kL v9 v10 v11 v68 v69 v70 v71 v72 v73 v74 v75 v76 v77 v78 v79 v80 v81 v82 v83 v84 v85 v86 v87 Fh v89 Fj v91 Fp lh w5 Wu hb5;have HE5:=aa Wu;have je:ag (fun b=>w.heap.size+1≤b) w2 w5:=ag.of_below_ hb5 (fun b _ h=>h);have sU:=aa (pz.chg je (fun h=>by have h:w.heap.size+1≤w.heap.size:=h;omega));have fO:Hid (Below w.heap.size w w5):=aa (I9.out.trans (je.below_of I9.size (fun b hb h=>by have h:w.heap.size+1≤b:=h;omega)));clear Wu hb5 je;go_wp2_with fail
     go_roundg (L+N 0+1-(s+1))
     case measure=>have:=HG.out;omega
     case rel=>
      have e1:(List.range (s+1-L)).flatMap (fun i=>d9 (X 0 i))=((List.range (s-L)).flatMap fun i=>d9 (X 0 i))++x.keys.zip x.vals:=by
       have h1:s+1-L=(s-L)+1:=by omega
       rw [h1,List.range_succ,List.flatMap_append,List.flatMap_singleton,←HII.out,←Rf.out];rfl
      refine⟨s+1,lh,_,rfl,by omega,?_,congrArg (fun t:Nat=>Value.int .i64 (t:Int)) R7,?_,sU,PL,fO⟩
      ·have:decide (L<s+1)=true:=decide_eq_true (by omega)
       rw [this]
      ·rw [e1];exact HE5
   ·have hm0:=FT hsL hsN;have hsE:s=L+N 0:=by omega
    subst hm0;clear hmid FR FT;go_wp2_with (first|(go_at_call 33;go_loud (refine(MB F p nodes root sl _ wr (HX.below HB) (.inl (by decide))).mono ?_);rintro e w1 ⟨⟨A1,n1,c1,A2,n2,c2,A3,n3,c3,A4,n4,c4,rfl⟩,hb1⟩;have hz1:=hb1.size;have hb2:Below wr.heap.size wr (w1.alloc (.cells #[.int .i64 0,.slice A1 n1 c1,.int .i64 0,.slice A2 n2 c2,.slice A3 n3 c3,.slice A4 n4 c4] 104)):=hb1.alloc hz1 _;have HB2:=aa hb2;have hl1:(Instr.lookup 107 (.map (some w.heap.size)) (.int .i64 0) false).run prog (w1.alloc (.cells #[.int .i64 0,.slice A1 n1 c1,.int .i64 0,.slice A2 n2 c2,.slice A3 n3 c3,.slice A4 n4 c4] 104))= .ok (.int .i64 0) (w1.alloc (.cells #[.int .i64 0,.slice A1 n1 c1,.int .i64 0,.slice A2 n2 c2,.slice A3 n3 c3,.slice A4 n4 c4] 104)):=jX (HM.below hb2) (by omega) (by omega) JU;clear hb1 hb2)|(at_mapUpdate;go_loud (refine dw rfl _ _ _ rfl rfl (HM.below HB2) (by unfold maxLen;omega) 0 1 rfl rfl (by omega) (by omega) (by omega) (by omega) ?_);intro w2 hm2 hc2;have bI:=aa hc2;clear hm2 hc2 hl1))
    simp only [Exit.noGoto];obtain⟨A,c,rfl,a1,a2⟩:=ay HE.own;go_ret
    have hbw:Below w.heap.size w w2:=HB.out.trans ((HB2.mono (by omega)).trans (bI.below_of (Nat.le_trans (by omega) HB2.size) (fun b hb h=>by have h:b=w.heap.size:=h;omega)));have he:=((HE.below HB2).chg bI (fun b hb h=>by have h:b=w.heap.size:=h;omega)).ents rfl;rw [show s-L=N 0 by omega] at he⊢;exact⟨A,_,c,rfl,he.weak (fun b hb=>by simp only [From] at hb⊢;omega),hbw⟩
end
section
open Go.Proofs.Tryz
open Go.RowKit
theorem xD:∀(l:List aH),(l.map Prod.fst).zip (l.map Prod.snd)=l
 | []=>rfl
 |e::l=>by simp [xD l]
section
variable {fill inn:Nat} {l:List aH}
theorem qD (i:Nat):d9 (sL fill inn l 0 i).2=dW fill l i:=by
 unfold d9;rw [gz,rO];exact xD _
theorem Il {nd lf bl:Int} (hc:aY nd lf inn fill bl) (hr:bu l) (hf:(aS nd lf inn fill bl l.length).2=0) (hsm:∀e∈l,e.1.length≤1152921504606∧e.2.length≤1152921504606):
  ∃L,ji (aO fill inn l).1 (aO fill inn l).2 nd lf inn L (nL fill inn l) (dL fill inn l) (fun k i=>(sL fill inn l k i).2):=by
 obtain⟨L,a1,a2,a3,a4,a5,a6,a7,a8⟩:=vI hc hf;obtain⟨t1,t2,t3⟩:=yI hc hsm hf;obtain⟨c1,c2,c3,c4,c5,c6,c7,c8,c9,c10⟩:=hc;have h1:1≤fill:=by omega
 have h2:1≤inn:=by omega
 have Pm:∀k,(fun i=>(sL fill inn l k i).2.high)=hL fill inn l k:=fun k=>by funext i;exact mU k i
 have hkl:∀k i,(sL fill inn l k i).2.kids.length≤1000:=fun k i=>by
  cases k with
  |zero=>show([]:List Int).length≤1000;simp
  |succ k=>rw [gL];unfold mK;omega
 refine⟨L,⟨a4,a2,a1,fun k=>fG h1 h2 k,rfl,fun k=>rfl,fun k hk=>⟨fun j hj=> ?_,fun j hj=>FK hr h1 h2 (by omega) (by omega) ?_ hj,fun j _=>rF k j,fun j _=>right_eq k j,fun j hj=> ?_⟩,fun k hk i hi c kid hcd=> ?_,fun k hk=> ?_,fun k i _ _=>hkl k i,t3⟩⟩
 ·obtain⟨s,hs,e⟩:=a8 k j hk hj
  exact⟨s,hs,e,t2 s (List.mem_of_getElem? hs)⟩
 ·have:=yF (fill:=fill) (inn:=inn) (l:=l) (j:=k+1) (k:=L+1) (by omega)
  omega
 ·rw [Pm];exact My hr h1 h2 hj
 ·have hcl:c<mK inn (nL fill inn l k) i:=by
   have:=(List.getElem?_eq_some_iff.1 hcd).1;rw [gL] at this;exact this
  obtain⟨q1,q2,q3,q4⟩:=yJ h1 h2 hi hcl;have oQ:kid=(dL fill inn l k:Int)+((i*inn+c:Nat):Int)+1:=by rw [q1] at hcd;injection hcd with hcd;exact hcd.symm
  refine⟨i*inn+c,q2,oQ,fun hc0=> ?_,fun hc0=> ?_⟩
  ·show bQ (fun t=>(sL fill inn l (k+1) t).2.high) i=bQ (fun t=>(sL fill inn l k t).2.high) _
   rw [Pm,Pm];exact q4 hc0
  ·show _=some (bQ (fun t=>(sL fill inn l k t).2.high) _)
   rw [Pm];exact q3 hc0
 ·have hp:=yH (inn:=inn) h2 (fG (l:=l) h1 h2 k) (i:=0) (by have:=fG (l:=l) h1 h2 (k+1);exact this);have:=(yJ (fill:=fill) (inn:=inn) (l:=l) h1 h2 (k:=k) (i:=0) (j:=0) (by have:=fG (l:=l) h1 h2 (k+1);omega) (by omega)).1;rw [this];simp
theorem Mw (F:Nat→Prop) (p:Nat) (nodes nd lf bl:Int) (hc:aY nd lf inn fill bl) (hr:bu l) (hf:(aS nd lf inn fill bl l.length).2=0) (w:World) (hx:gm w F p nodes (aO fill inn l).1 (aO fill inn l).2) (hF:∀b,F b→b<w.heap.size) (hl:l.length≤4194304):
  Calls prog 11 #[.pointer (some ⟨p,0,none⟩)] w fun e w'=>∃A n c,e= .returned (.slice A n c)∧bO w' (From w.heap.size) A n l∧Below w.heap.size w w':=by
 have hsm:∀e∈l,e.1.length≤1152921504606∧e.2.length≤1152921504606:=fun e he=>by have:=dC hr he;omega
 obtain⟨L,ht⟩:=Il hc hr hf hsm;obtain⟨t1,t2,t3⟩:=yI hc hsm hf;obtain⟨c1,c2,c3,c4,c5,c6,c7,c8,c9,c10⟩:=hc;have e:(fun i=>d9 (sL fill inn l 0 i).2)=dW fill l:=by funext i;exact qD i
 have hall:((List.range (nL fill inn l 0)).flatMap fun i=>d9 (sL fill inn l 0 i).2)=l:=by rw [e];exact pJ (by omega)
 have h:=EY F p nodes (aO fill inn l).2 (aO fill inn l).1 nd lf inn L (nL fill inn l) (dL fill inn l) (fun k i=>(sL fill inn l k i).2) w hx t1 hF ht (by omega) (fun j _=>by
  rw [e,CY,List.length_take];omega)
 rw [hall] at h;exact h
end
end
end Go.Proofs.YtbjgeidjmhialaaGreatDoor
