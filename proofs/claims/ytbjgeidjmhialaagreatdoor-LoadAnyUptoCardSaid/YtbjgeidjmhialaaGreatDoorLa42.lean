/- Part 42. -/
import Derived.Test.YtbjgeidjmhialaaGreatDoorLa41
import Derived.Lib.SlBytesConst
import Derived.Test.YtbjgeidjmhialaaGreatDoorLa32
import Derived.Test.YtbjgeidjmhialaaGreatDoorRows
import Derived.Deep.Slices
import Derived.Deep.Fields
import Derived.ChangeSlices
namespace Go.Proofs.YtbjgeidjmhialaaGreatDoor
set_option maxRecDepth 100000
set_option maxHeartbeats 8000000
section
open Go.Proofs.Tryz
open Go.RowKit
theorem Mt (w:World):Calls prog 16 #[] w fun e w'=>e= .returned (.agg #[.int .i64 9,.int .i64 4,.int .i64 3,.int .i64 2,.int .i64 1])∧Below w.heap.size w w':=by
 refine letter fun R HR=> ?_;go_enter func16,ntmps16
 go_wp2;obtain⟨w1,hw1⟩:∃W,W=w.alloc (.cells #[.int .i64 9,.int .i64 4,.int .i64 3,.int .i64 2,.int .i64 1] 23):=⟨_,rfl⟩
 rw [←hw1];have hb:ai w1 w.heap.size 23 #[.int .i64 9,.int .i64 4,.int .i64 3,.int .i64 2,.int .i64 1]:=by rw [hw1];exact ai.new _ _ _
 have y0:w1.cell? ⟨w.heap.size,0,none⟩=some (.int .i64 9):=hb.cell 0;have y1:w1.cell? ⟨w.heap.size,1,none⟩=some (.int .i64 4):=hb.cell 1;have y2:w1.cell? ⟨w.heap.size,2,none⟩=some (.int .i64 3):=hb.cell 2;have y3:w1.cell? ⟨w.heap.size,3,none⟩=some (.int .i64 2):=hb.cell 3;have y4:w1.cell? ⟨w.heap.size,4,none⟩=some (.int .i64 1):=hb.cell 4;refine bodyPost_ret (v:= .agg #[.int .i64 9,.int .i64 4,.int .i64 3,.int .i64 2,.int .i64 1]) (by simp [results,results16,go_sem,y0,y1,y2,y3,y4]) rfl ?_;rw [HR.out];exact⟨rfl,by rw [hw1];exact(Below.refl _ _).alloc (Nat.le_refl _) _⟩
theorem Ef (w:World):∃w2,w2=(w.alloc (.cells #[.int .u8 107] 5 (1,2))).alloc (.cells #[.slice (some ⟨w.heap.size,0,none⟩) 1 1,.slice none 0 0] 57)∧E1 w2 (jK w.heap.size) (w.heap.size+1) (some ⟨w.heap.size,0,none⟩) 1∧Below w.heap.size w w2:=by
 obtain⟨w1,hw1⟩:∃W,W=w.alloc (.cells #[.int .u8 107] 5 (1,2)):=⟨_,rfl⟩;have hb1:Below w.heap.size w w1:=by rw [hw1];exact(Below.refl _ _).alloc (Nat.le_refl _) _
 have hs1:w1.heap.size=w.heap.size+1:=by rw [hw1];simp
 have hc1:w1.cell? ⟨w.heap.size,0,none⟩=some (.int .u8 107):=by rw [hw1];exact cell_of_row _ _ _ _ _ _ (heap_alloc_new w _)
 rw [←hw1];refine⟨_,rfl,?_,hb1.alloc hb1.size _⟩;have hx2:ai (w1.alloc (.cells #[.slice (some ⟨w.heap.size,0,none⟩) 1 1,.slice none 0 0] 57)) (w.heap.size+1) 57 #[.slice (some ⟨w.heap.size,0,none⟩) 1 1,.slice none 0 0]:=by rw [←hs1];exact ai.new _ _ _
 have Ij:Below w1.heap.size w1 (w1.alloc (.cells #[.slice (some ⟨w.heap.size,0,none⟩) 1 1,.slice none 0 0] 57)):=(Below.refl _ _).alloc (Nat.le_refl _) _
 refine⟨hx2.cell 0,hx2.cell 1,SB.mk (Nat.le_refl _) (by simp [maxLen]) rfl ⟨rfl,fun _=>⟨_,0,rfl,rfl,fun k u hk=> ?_⟩⟩,fun b hb=> ?_⟩
 ·match k with
  |0=>simp [aK] at hk;subst hk;exact ak Ij hc1
  |k+1=>simp [aK] at hk
 ·have h2:=hx2.lt
  rcases hb with hb|hb
  ·omega
  ·have hb:b=w.heap.size:=hb;omega
theorem kT:aY 9 4 3 2 1∧bu [([107],[])]∧(aS 9 4 3 2 1 (([([107],[])]:List aH).length:Nat)).2=0:=gp.1 (by decide)
theorem zH (w:World):Calls prog 4 #[] w fun e w'=>e= .returned (.bool true)∧Below w.heap.size w w':=by
 refine letter fun R HR=> ?_;have kc:=fun(w:World) (C:Array Value) (n c:Nat)=>Lib.run_convert_bytes_const (P:=prog) w 24 5 C n c underlying24 underlying5;go_enter func4,ntmps4
 go_upto_region 2 with(go_at_call 15;go_loud (obtain⟨w2,hw2,he2,hb2⟩:=Ef w;rw [←hw2];clear hw2;refine(Ee _ _ 1 1 _ w2 he2).mono ?_;rintro e w3 ⟨A3,c3,rfl,ho⟩;have nD:=aa ho;have HB3:Hid (Below w.heap.size w w3):=aa (hb2.trans (ho.bel.mono hb2.size));clear ho hb2 he2))
 go_upto_region 3 with(first|(go_at_call 16;go_loud (refine(Mt w3).mono ?_;rintro e w4 ⟨rfl,hb4⟩;have dN:=aa hb4;have lI:=aa (nD.after hb4);clear hb4))|(go_at_call 7;go_loud (refine(jL _ 46 c3 0 0 A3 none jJ [] 0 false w4 lI.sb.parts.2.2.2 rfl (by omega) (Rd.none_ w4 _ 1 none) (by omega)).mono ?_;rintro e w5 ⟨p,rfl,h1,h2,h3,h4⟩;have HP:=aa (And.intro h1 h2);have HSX:=aa h3;have fO:=aa h4;clear h1 h2 h3 h4))|(go_at_call 6;go_loud (refine(EV _ p 9 4 3 2 1 ⟨jJ,[],0,false,0⟩ w5 kT.1 HSX ⟨by decide,by decide,rfl⟩ HP.2 (fun b hb=>⟨by have:=HP.out.2;have:=hb.2;omega,by have:=hb.2;omega⟩)).mono ?_;rintro e w6 ⟨mf,tv,ev,hf,rfl,ht,he,-,hc6⟩;obtain⟨mf0,g1,g2,g3⟩:=Mv;obtain rfl:=hf.unique g1;rw [g2] at he;rw [g3] at ht;obtain rfl:ev= .nilIface:=(by rcases he with he|he;exact he.2;exact absurd rfl he.1);obtain⟨ap,hap,har⟩:∃a,tv= .pointer (some ⟨a,0,none⟩)∧gm w6 (From w5.heap.size) a 9 (aO 2 3 [([107],[])]).1 (aO 2 3 [([107],[])]).2:=(by rcases ht with ht|⟨y,a,ht,e1,e2⟩;exact absurd ht.1 (by simp);injection ht with ht;subst ht;exact⟨a,e1,e2⟩);subst hap;have Z0:=aa har;have iW:=aa hc6;clear hf g1 g2 g3 he ht har hc6)))
 have XM:=aa (Mw (fill:=2) (inn:=3) (l:= [([107],[])]) (fun b=>From w5.heap.size b∧b<w6.heap.size) ap 9 9 4 1 kT.1 kT.2.1 kT.2.2 w6 Z0.lt (fun b hb=>hb.2) (by simp));go_upto_region 6 with(go_at_call 11;go_loud (refine XM.mono ?_;rintro e w7 ⟨A7,n7,c7,rfl,he,hb⟩;obtain rfl:n7=1:=he.len;obtain⟨b,o,Ak,nk,ck,Av,nv,cv,key,val,rfl,-,Fe,k0,-,-,-,k4,k5,-,-,-,-⟩:=he.at_ (k:=0) (by omega);simp at Fe;obtain⟨rfl,rfl⟩:=Fe;have Qm:=aa hb;have CV:=dR w7 _ Ak nk ck [107] k5 k4.out;rw [Nat.zero_mul,Nat.add_zero] at k0;clear he hb k4 k5))
 go_wp2;rw [HR.out]
 have h4:=HB3.out.size;have h5:=dN.out.size;have h6:=fO.out.size;refine⟨?_,((HB3.out.trans (dN.mono h4)).trans (fO.mono (Nat.le_trans h4 h5))).trans ((iW.below_of (B:=w.heap.size) (by omega) (fun b hb e=>by have e:b=p:=e;have:=HP.out.1;omega)).trans (Qm.mono (by have:=iW.out.size;omega)))⟩;rw [vH];rfl
end
section
open Go.Proofs.Tryz
open Go.RowKit Go.Maps
theorem CQ {fill:Nat} {nd:Int} (h:1≤fill∧fill≤2) (k:1≤nd∧nd≤60):0≤(fill:Int)*nd∧(fill:Int)*nd≤120:=by
 obtain⟨h1,h2⟩:=h;have:fill=1∨fill=2:=by omega
 rcases this with rfl|rfl<;>omega
theorem Nk.of {cB fB:Nat} {nd lf inn fl bl f:Int} {bA gA:Option Addr} {bn bc gn gc:Nat} {ea:Bool} {w:World} (h:ai w cB 23 #[.int .i64 nd,.int .i64 lf,.int .i64 inn,.int .i64 fl,.int .i64 bl]) (k:ai w fB 27 #[.slice bA bn bc,.slice gA gn gc,.int .i64 f,.bool ea]):Nk cB fB nd lf inn fl bl f bA gA bn bc gn gc ea w:=⟨⟨h.cell 0,h.cell 1,h.cell 2,h.cell 3,h.cell 4⟩,k.cell 0,k.cell 1,k.cell 2,k.cell 3⟩
theorem CR (a b c d e5:Int) (ha:Jq a) (hb:Jq b) (hc:Jq c) (hd:Jq d) (hf:Jq e5) (bA gA:Option Addr) (bn bc gn gc:Nat) (bs:List UInt8) (gs:List Int) (f:Int) (ea:Bool) (w:World)
  (hsb:SB w (fun b=>b<w.heap.size) (.slice bA bn bc) bs) (hg:Rd w (fun b=>b<w.heap.size) 1 gA gn (lK gs)) (hbs:bs.length≤1048576) (hgs:gs.length≤1048576)
  (hgl:w.cell? ⟨0,0,none⟩=some (.iface 153 (.agg #[.pointer (some ⟨2,32,none⟩)]))):
  Calls prog 3 #[.agg #[.int .i64 a,.int .i64 b,.int .i64 c,.int .i64 d,.int .i64 e5],.agg #[.slice bA bn bc,.slice gA gn gc,.int .i64 f,.bool ea]] w fun e w'=>e= .returned (.bool true)∧Below w.heap.size w w':=by
 refine letter fun R HR=> ?_;have p1:=iD (c:=a) (n:=60) (by omega);have p2:=iD (c:=b) (n:=5) (by omega);have p3:=iD (c:=c) (n:=4) (by omega);have p4:=iD (c:=d) (n:=2) (by omega);have p5:=iD (c:=e5) (n:=8) (by omega);obtain⟨nd,h1⟩:∃y,1+pick a 60=y:=⟨_,rfl⟩;obtain⟨lf,h2⟩:∃y,2+pick b 5=y:=⟨_,rfl⟩;obtain⟨inn,h3⟩:∃y:Nat,3+pick c 4=(y:Int):=⟨(3+pick c 4).toNat,by omega⟩;obtain⟨fill,h4⟩:∃y:Nat,1+pick d 2=(y:Int):=⟨(1+pick d 2).toNat,by omega⟩;obtain⟨bl,h5⟩:∃y,1+pick e5 8=y:=⟨_,rfl⟩;have hcf:aY nd lf inn fill bl:=by unfold aY;omega
 have hnd:1≤nd∧nd≤60:=by omega
 have hfl:1≤fill∧fill≤2:=by omega
 have Yg:lf≤6:=by omega
 have F8:=aa h1;have zl:=aa h2;have TR:=aa h3;have Xk:=aa h4;have Xl:=aa h5;have TS:=aa hcf;have HA:=aa ha;have ER:=aa hb;have ES:=aa hc;have HD:=aa hd;have HF:=aa hf;obtain⟨src,hsrc⟩:∃s,s=(⟨bs,gs,f,ea,0⟩:Src):=⟨_,rfl⟩;have CS:=aa hsrc;have Yh:Hid (rX src):=aa (by rw [hsrc];exact⟨hbs,hgs,rfl⟩);have hbn:bn≤1048576:=by rw [hsb.parts.2.2.1];exact hbs
 have hgn:gn≤1048576:=by have:=hg.1;simp [lK] at this;omega
 have Uw:Hid (gn=gs.length):=aa (by have:=hg.1;simp [lK] at this;omega);obtain⟨w0,hw0⟩:∃W,W=(w.alloc (.cells #[.int .i64 a,.int .i64 b,.int .i64 c,.int .i64 d,.int .i64 e5] 23)).alloc (.cells #[.slice bA bn bc,.slice gA gn gc,.int .i64 f,.bool ea] 27):=⟨_,rfl⟩;have hb0:Below w.heap.size w w0:=by rw [hw0];exact((Below.refl _ _).alloc (Nat.le_refl _) _).alloc (by simp) _
 have hsz:w0.heap.size=w.heap.size+2:=by rw [hw0];simp
 have hc0:ai w0 w.heap.size 23 #[.int .i64 a,.int .i64 b,.int .i64 c,.int .i64 d,.int .i64 e5]:=by rw [hw0];exact(ai.new _ _ _).alloc _
 have hf0:ai w0 (w.heap.size+1) 27 #[.slice bA bn bc,.slice gA gn gc,.int .i64 f,.bool ea]:=by
  have:=ai.new (w.alloc (.cells #[.int .i64 a,.int .i64 b,.int .i64 c,.int .i64 d,.int .i64 e5] 23)) 27 #[.slice bA bn bc,.slice gA gn gc,.int .i64 f,.bool ea];rw [hw0];simpa using this
 have uf:=aa hc0;have JU:=aa hf0;have HB0:=aa hb0;have xW:=aa hsz;have ET:=aa (hsb.below hb0);have HG:=aa (hg.below hb0);have CU:Hid (w0.cell? ⟨0,0,none⟩=some (.iface 153 (.agg #[.pointer (some ⟨2,32,none⟩)]))):=aa (ak hb0 hgl);have jr:=aa (zH w0);clear p1 p2 p3 p4 p5 h1 h2 h3 h4 h5 hcf ha hb hc hd hf hsrc hsb hg hbs hgs hb0 hsz hc0 hf0 hgl;go_enter func3,ntmps3
 go_upto_region 1 with fail
 rw [←hw0];clear hw0;go_upto_region 2 with(go_at_call 4;go_loud (refine jr.mono ?_);rintro e w1 ⟨rfl,hb⟩;have HB1:=aa hb;clear hb)
 obtain⟨z0,z1,z2,z3,z4⟩:=fK (uf.below HB1);go_upto_region 3 with(go_at_call 5;refine(NJ a b c d e5 HA ER ES HD HF _).mono ?_;rintro e w2 ⟨rfl,hb2⟩;rw [F8.out,zl.out,TR.out,Xk.out,Xl.out];have HB2:=aa hb2;clear hb2)
 obtain⟨wA,CW⟩:∃W,W=w2.alloc (.cells #[.int .i64 nd,.int .i64 lf,.int .i64 inn,.int .i64 fill,.int .i64 bl] 23):=⟨_,rfl⟩;have hcB:w1.heap.size≤w2.heap.size:=HB2.out.size;have hs1:w0.heap.size≤w1.heap.size:=HB1.out.size;have hs0:=xW.out;obtain⟨cB,hcb⟩:∃x,x=w2.heap.size:=⟨_,rfl⟩;obtain⟨fB,NK⟩:∃x,x=w.heap.size+1:=⟨_,rfl⟩;have Ux:Below w2.heap.size w2 wA:=by rw [CW];exact(Below.refl _ _).alloc (Nat.le_refl _) _
 have Js:ai wA cB 23 #[.int .i64 nd,.int .i64 lf,.int .i64 inn,.int .i64 fill,.int .i64 bl]:=by rw [CW,hcb];exact ai.new _ _ _
 have hsA:wA.heap.size=cB+1:=by rw [CW,hcb];simp
 have F9:Below w0.heap.size w0 wA:=HB1.out.trans ((HB2.out.trans (Ux.mono hcB)).mono hs1);have hfA:ai wA fB 27 #[.slice bA bn bc,.slice gA gn gc,.int .i64 f,.bool ea]:=by rw [NK];exact JU.below F9
 rw [←CW,←hcb,←NK];have hcs:w0.heap.size≤cB:=by omega
 have hfs:fB<w0.heap.size:=by omega
 have CX:=aa (And.intro hcs (And.intro hfs hsA));have wD:=aa Js;have NL:=aa hfA;have kY:=aa F9;clear CW Ux Js hfA F9 hcB hs1 hs0 hcb NK hcs hfs hsA z0 z1 z2 z3 z4 HB1 HB2 uf JU jr;refine NM cB fB nd lf inn fill bl f bA gA bn bc gn gc ea wA _ (aa (fun _ _ _ _ h=>h)) (Nk.of wD NL) (aa ?_);have hbd:Below wA.heap.size wA wA.drew:=(Below.refl _ _).drew;have EU:=aa (ET.below (kY.out.trans (hbd.mono kY.size)));have HGA:=aa (HG.below (kY.out.trans (hbd.mono kY.size)));have tK:=aa (jL _ bn bc gn gc bA gA bs gs f ea wA.drew EU.parts.2.2.2 EU.parts.2.2.1 (by omega) HGA (by omega));rw [←CS.out] at tK;refine tK.mono ?_;rintro e w3 ⟨p,rfl,h1,h2,h3,h4⟩;have h1:wA.heap.size≤p:=h1;have h3:fU w3 (fun b=>wA.heap.size≤b∧b<p) p src:=h3;have hB3:Below wA.heap.size wA w3:=hbd.trans h4;refine⟨p,rfl,Nk.of (wD.below hB3) (NL.below hB3),?_⟩;have hs3:=hB3.size;refine(EV _ p nd lf inn fill bl src w3 TS h3 Yh h2 (fun b hb=>⟨by omega,by omega⟩)).mono ?_;rintro e w4 ⟨mf,tv,ev,k1,rfl,k2,k3,k4,k5⟩;have hB4:Below wA.heap.size wA w4:=hB3.trans (k5.below_of hs3 (fun b hb e=>by omega));refine⟨tv,ev,rfl,Nk.of (wD.below hB4) (NL.below hB4),?_⟩;have lL:=aa k1;have NN:=aa (k2.low hs3);have JV:=aa (k3.low hs3);have dN:=aa hB4;clear h1 h2 h3 h4 hB3 hs3 k1 k2 k3 k4 k5 hB4 hbd tK EU HGA;intro v21 v22 v23 v24 v25 v26 v27 v28;have HF4:=aa (NL.below dN);have y0:w4.cell? ⟨fB,0,none⟩=some (.slice bA bn bc):=HF4.out.cell 0;have Uy:=aa (ET.below (kY.out.trans (dN.mono kY.size)));have HPA:=aa (Ga _ bA bn bc bs w4 Uy (by have:=Yh.out.left;rw [CS.out] at this;exact this));go_upto_region 5 with(go_at_call 8;go_loud (refine HPA.mono ?_);rintro e w5 ⟨es,rf,eA,en,ec,q1,q2,rfl,q3,q4⟩;have HQ:=aa (And.intro q1 (And.intro q2 q3));have fO:=aa q4;clear q1 q2 q3 q4 y0)
 have Yi:=aa (Gb Yh TS lL (es:=es) (rf:=rf) (by rw [CS.out];exact HQ.1));have zI:=aa (show rf.err=0→en=es.length from fun h=>(HQ.2.2 h).len);have wH:=aa (And.intro hnd (And.intro hfl Yg));have nY:Hid (Below w.heap.size w w5):=aa (HB0.out.trans ((kY.out.trans ((dN.out.trans (fO.mono dN.size)).mono kY.size)).mono HB0.size));have zJ:Hid (Below wA.heap.size wA w5):=aa (dN.out.trans (fO.mono dN.size));have kw:=aa (wD.below zJ);have Xm:=aa (NL.below zJ);clear HPA Uy lL ET HG wD NL HF4 HF HA ER ES HD F8 zl TR Xk Xl
 rcases Yi.out with⟨t1,t2,t3,t4⟩|⟨t1,t2,t3,t4⟩
 ·obtain rfl:tv= .pointer none:=by
   rcases NN.out with⟨_,h⟩|⟨x,a,h,_⟩
   ·exact h
   ·rw [t1] at h;cases h
  obtain⟨_,g,rfl,hft,hg⟩:=JV.out.resolve_left (fun h=>t2 h.1);have zK:=aa (hft.below fO);obtain⟨E,hE⟩:∃x,x=mf.err:=⟨_,rfl⟩;obtain⟨B,hB⟩:∃x,x=mf.bad:=⟨_,rfl⟩;obtain⟨e',he'⟩:∃x,x=rf.err:=⟨_,rfl⟩;obtain⟨b',hb'⟩:∃x,x=rf.bad:=⟨_,rfl⟩;rw [←hE,←hB] at zK;have T3:=aa t3;have T4:=aa t4;rw [←hE,←he'] at T3;rw [←hE,←hB,←he',←hb'] at T4;rw [←he'] at zI⊢;rw [←hb'];obtain⟨X,hX⟩:∃x,x=(if e'=0 then 0 else b'):=⟨_,rfl⟩;have HX:Hid (¬e'=0→X=b'):=aa (fun h=>by rw [hX,if_neg h]);rw [←hX];clear t1 t2 t3 t4 hft hg hE hB he' hb' hX Yi NN JV HQ;have y1:w5.cell? ⟨fB,1,none⟩=some (.slice gA gn gc):=Xm.out.cell 1;have y2:w5.cell? ⟨fB,2,none⟩=some (.int .i64 f):=Xm.out.cell 2
  by_cases hf1:f<1
  ·by_cases Q5:(gn:Int)<16
   ·have JW:Hid src.calm:=aa ⟨by rw [CS.out];exact hf1,by rw [CS.out];have:=Uw.out;show gs.length<16;omega⟩;obtain⟨w6,kF⟩:∃W,W=w5.alloc (.cells #[.pointer none] 41):=⟨_,rfl⟩;have lM:Below w5.heap.size w5 w6:=by rw [kF];exact(Below.refl _ _).alloc (Nat.le_refl _) _
    have P7:Hid (ai w6 w5.heap.size 41 #[.pointer none]):=aa (by rw [kF];exact ai.new _ _ _);have HAS:=aa (ug g w5.heap.size w6 (ak (kY.out.trans ((zJ.out.trans (lM.mono zJ.size)).mono kY.size)) CU) P7);have zL:=aa (zK.below lM);have Cy:=aa (kw.below lM);have zM:=aa (nY.out.trans (lM.mono nY.size));have hg5:g<w5.heap.size:=zK.out.lt;have je:cB<w5.heap.size:=kw.out.lt;go_upto_region 10 with fail
    rw [←kF];clear kF lM;go_upto_region 13 with(go_at_call 9;go_loud (refine HAS.mono ?_);rintro e w7 ⟨rfl,Jt,h72⟩;have P8:=aa Jt;have iE:=aa h72;clear Jt h72)
    have x0:w7.cell? ⟨w5.heap.size,0,none⟩=some (.pointer (some ⟨g,0,none⟩)):=P8.out.cell 0;have hft:ai w7 g 45 #[.int .i64 E,.int .i64 (B:Nat)]:=zL.out.chg iE (by omega);have P9:ai w7 cB 23 #[.int .i64 nd,.int .i64 lf,.int .i64 inn,.int .i64 fill,.int .i64 bl]:=Cy.out.chg iE (by omega);have x1:w7.cell? ⟨g,0,none⟩=some (.int .i64 E):=hft.cell 0;have x2:w7.cell? ⟨g,1,none⟩=some (.int .i64 (B:Nat)):=hft.cell 1;have x3:w7.cell? ⟨cB,0,none⟩=some (.int .i64 nd):=P9.cell 0;have x4:w7.cell? ⟨cB,3,none⟩=some (.int .i64 fill):=P9.cell 3;have mZ:Hid (Below w.heap.size w w7):=aa (zM.out.trans (iE.below_of zM.size (fun b hb e=>by have:=nY.out.size;omega)));clear P8 zL HAS P7 Cy iE
    by_cases he0:e'=0
    ·subst he0
     by_cases h2:E=2
     ·subst h2;obtain⟨r1,r2⟩:=T3.out rfl rfl;rw [←zI.out rfl] at r1 r2
      by_cases JX:nd<3
      ·go_wp2;rw [HR.out]
       exact⟨rfl,mZ⟩
      ·have n2:=r2.resolve_left JX;have hm:=CQ (fill:=fill) (nd:=nd) wH.2.1 wH.1;have hw:=IntWalk.i64_in ((fill:Int)*nd) (by omega);have hq:((fill:Int)*nd).tdiv 3=(fill:Int)*nd/3:=Int.tdiv_eq_ediv_of_nonneg hm.1;have hw2:=IntWalk.i64_in ((fill:Int)*nd/3) (by omega);go_wp2;rw [HR.out]
       exact⟨rfl,mZ⟩
     ·exact absurd rfl (T4.out JW h2).1
    ·have pI:=aa he0
     rcases Decidable.em (E=2) with h2|h2
     ·subst h2;go_wp2;rw [HR.out]
      exact⟨rfl,mZ⟩
     ·(obtain⟨_,hEe,hBb⟩:=T4.out JW h2;rw [HX.out he0];subst hEe;subst hBb;go_wp2;rw [HR.out];exact⟨by simp [pI.out],mZ⟩)
   ·have JW:Hid (¬src.calm):=aa (fun h=>Q5 (by have h2:=h.2;rw [CS.out] at h2;have:=Uw.out;have h2:gs.length<16:=h2;omega));obtain⟨w6,kF⟩:∃W,W=w5.alloc (.cells #[.pointer none] 41):=⟨_,rfl⟩;have lM:Below w5.heap.size w5 w6:=by rw [kF];exact(Below.refl _ _).alloc (Nat.le_refl _) _
    have P7:Hid (ai w6 w5.heap.size 41 #[.pointer none]):=aa (by rw [kF];exact ai.new _ _ _);have HAS:=aa (ug g w5.heap.size w6 (ak (kY.out.trans ((zJ.out.trans (lM.mono zJ.size)).mono kY.size)) CU) P7);have zL:=aa (zK.below lM);have Cy:=aa (kw.below lM);have zM:=aa (nY.out.trans (lM.mono nY.size));have hg5:g<w5.heap.size:=zK.out.lt;have je:cB<w5.heap.size:=kw.out.lt;go_upto_region 10 with fail
    rw [←kF];clear kF lM;go_upto_region 13 with(go_at_call 9;go_loud (refine HAS.mono ?_);rintro e w7 ⟨rfl,Jt,h72⟩;have P8:=aa Jt;have iE:=aa h72;clear Jt h72)
    have x0:w7.cell? ⟨w5.heap.size,0,none⟩=some (.pointer (some ⟨g,0,none⟩)):=P8.out.cell 0;have hft:ai w7 g 45 #[.int .i64 E,.int .i64 (B:Nat)]:=zL.out.chg iE (by omega);have P9:ai w7 cB 23 #[.int .i64 nd,.int .i64 lf,.int .i64 inn,.int .i64 fill,.int .i64 bl]:=Cy.out.chg iE (by omega);have x1:w7.cell? ⟨g,0,none⟩=some (.int .i64 E):=hft.cell 0;have x2:w7.cell? ⟨g,1,none⟩=some (.int .i64 (B:Nat)):=hft.cell 1;have x3:w7.cell? ⟨cB,0,none⟩=some (.int .i64 nd):=P9.cell 0;have x4:w7.cell? ⟨cB,3,none⟩=some (.int .i64 fill):=P9.cell 3;have mZ:Hid (Below w.heap.size w w7):=aa (zM.out.trans (iE.below_of zM.size (fun b hb e=>by have:=nY.out.size;omega)));clear P8 zL HAS P7 Cy iE
    by_cases he0:e'=0
    ·subst he0
     by_cases h2:E=2
     ·subst h2;obtain⟨r1,r2⟩:=T3.out rfl rfl;rw [←zI.out rfl] at r1 r2
      by_cases JX:nd<3
      ·go_wp2;rw [HR.out]
       exact⟨rfl,mZ⟩
      ·have n2:=r2.resolve_left JX;have hm:=CQ (fill:=fill) (nd:=nd) wH.2.1 wH.1;have hw:=IntWalk.i64_in ((fill:Int)*nd) (by omega);have hq:((fill:Int)*nd).tdiv 3=(fill:Int)*nd/3:=Int.tdiv_eq_ediv_of_nonneg hm.1;have hw2:=IntWalk.i64_in ((fill:Int)*nd/3) (by omega);go_wp2;rw [HR.out]
       exact⟨rfl,mZ⟩
     ·(go_wp2;rw [HR.out];exact⟨rfl,mZ⟩)
    ·have pI:=aa he0
     rcases Decidable.em (E=2) with h2|h2
     ·subst h2;go_wp2;rw [HR.out]
      exact⟨rfl,mZ⟩
     ·(go_wp2;rw [HR.out];exact⟨rfl,mZ⟩)
  ·have JW:Hid (¬src.calm):=aa (fun h=>hf1 (by have h2:=h.1;rw [CS.out] at h2;exact h2));obtain⟨w6,kF⟩:∃W,W=w5.alloc (.cells #[.pointer none] 41):=⟨_,rfl⟩;have lM:Below w5.heap.size w5 w6:=by rw [kF];exact(Below.refl _ _).alloc (Nat.le_refl _) _
   have P7:Hid (ai w6 w5.heap.size 41 #[.pointer none]):=aa (by rw [kF];exact ai.new _ _ _);have HAS:=aa (ug g w5.heap.size w6 (ak (kY.out.trans ((zJ.out.trans (lM.mono zJ.size)).mono kY.size)) CU) P7);have zL:=aa (zK.below lM);have Cy:=aa (kw.below lM);have zM:=aa (nY.out.trans (lM.mono nY.size));have hg5:g<w5.heap.size:=zK.out.lt;have je:cB<w5.heap.size:=kw.out.lt;go_upto_region 10 with fail
   rw [←kF];clear kF lM;go_upto_region 13 with(go_at_call 9;go_loud (refine HAS.mono ?_);rintro e w7 ⟨rfl,Jt,h72⟩;have P8:=aa Jt;have iE:=aa h72;clear Jt h72)
   have x0:w7.cell? ⟨w5.heap.size,0,none⟩=some (.pointer (some ⟨g,0,none⟩)):=P8.out.cell 0;have hft:ai w7 g 45 #[.int .i64 E,.int .i64 (B:Nat)]:=zL.out.chg iE (by omega);have P9:ai w7 cB 23 #[.int .i64 nd,.int .i64 lf,.int .i64 inn,.int .i64 fill,.int .i64 bl]:=Cy.out.chg iE (by omega);have x1:w7.cell? ⟨g,0,none⟩=some (.int .i64 E):=hft.cell 0;have x2:w7.cell? ⟨g,1,none⟩=some (.int .i64 (B:Nat)):=hft.cell 1;have x3:w7.cell? ⟨cB,0,none⟩=some (.int .i64 nd):=P9.cell 0;have x4:w7.cell? ⟨cB,3,none⟩=some (.int .i64 fill):=P9.cell 3;have mZ:Hid (Below w.heap.size w w7):=aa (zM.out.trans (iE.below_of zM.size (fun b hb e=>by have:=nY.out.size;omega)));clear P8 zL HAS P7 Cy iE
   by_cases he0:e'=0
   ·subst he0
    by_cases h2:E=2
    ·subst h2;obtain⟨r1,r2⟩:=T3.out rfl rfl;rw [←zI.out rfl] at r1 r2
     by_cases JX:nd<3
     ·go_wp2;rw [HR.out]
      exact⟨rfl,mZ⟩
     ·have n2:=r2.resolve_left JX;have hm:=CQ (fill:=fill) (nd:=nd) wH.2.1 wH.1;have hw:=IntWalk.i64_in ((fill:Int)*nd) (by omega);have hq:((fill:Int)*nd).tdiv 3=(fill:Int)*nd/3:=Int.tdiv_eq_ediv_of_nonneg hm.1;have hw2:=IntWalk.i64_in ((fill:Int)*nd/3) (by omega);go_wp2;rw [HR.out]
      exact⟨rfl,mZ⟩
    ·(go_wp2;rw [HR.out];exact⟨rfl,mZ⟩)
   ·have pI:=aa he0
    rcases Decidable.em (E=2) with h2|h2
    ·subst h2;go_wp2;rw [HR.out]
     exact⟨rfl,mZ⟩
    ·(go_wp2;rw [HR.out];exact⟨rfl,mZ⟩)
 ·have hE0:=JV.out.resolve_right (fun h=>h.1 t1);obtain⟨_,rfl⟩:=hE0;obtain⟨x,ap,hx,rfl,hax⟩:=NN.out.resolve_left (fun h=>by rw [t3] at h;cases h.1);rw [t3] at hx;injection hx with hx
  rw [Int.toNat_natCast,Int.toNat_natCast] at hx;subst hx;have NP:=(hax.below fO).lt
  have hrise:bu es∧(aS nd lf inn fill bl es.length).2=0:=by
   unfold cK at t4;rw [if_neg (by simpa using TS.out)] at t4
   split at t4
   ·next h=>exact absurd t4 h
   ·next h=>exact⟨(nZ es).1 (by simpa using h),t4⟩
  have hsm:∀e∈es,e.1.length≤1152921504606∧e.2.length≤1152921504606:=fun e he=>by have:=dC hrise.1 he;omega
  obtain⟨L,ht,hlen,Q6,hsz,hpk,hks,htop⟩:=JY (fill:=fill) (inn:=inn) (l:=es) (nd:=nd) (lf:=lf) (bl:=bl) TS hrise.1 hrise.2 hsm;have hel:=HQ.out.2.1;have JZ:=aa hel;obtain⟨sl,hsl⟩:∃x,x=(aO fill inn es).1:=⟨_,rfl⟩;obtain⟨root,hroot⟩:∃x,x=(aO fill inn es).2:=⟨_,rfl⟩;rw [←hsl] at NP hsz ht;rw [←hroot] at NP ht;have TT:=aa NP;have HT:=aa ht;have EW:=aa hpk;have xZ:=aa hks;have Yj:=aa htop;have Gc:=aa hsz;have Xn:=aa (HQ.2.2 t2);obtain⟨e',he'⟩:∃x,x=rf.err:=⟨_,rfl⟩
  obtain⟨E,e1,e2,e3,e4⟩:∃E:Nat→Nat,E 0=0∧(∀i,i<nL fill inn es 0→E (i+1)=E i+(sL fill inn es 0 i).2.keys.length)∧(∀i,i≤nL fill inn es 0→E i≤1000000000)∧E (nL fill inn es 0)=es.length:=by
   refine⟨fun i=>((List.range i).map fun j=>(dW fill es j).length).sum,rfl,fun i _=> ?_,fun i _=> ?_,?_⟩
   ·show((List.range (i+1)).map fun j=>(dW fill es j).length).sum=_
    rw [List.range_succ,List.map_append,List.sum_append,gz,List.length_map];simp
   ·show((List.range i).map fun j=>(dW fill es j).length).sum≤_
    rw [zN];omega
   ·show((List.range (nL fill inn es 0)).map fun j=>(dW fill es j).length).sum=_;rw [zN];exact Nat.min_eq_right (J2 (by omega))
  have zx:=aa e1;have Yk:=aa e2;have Yl:=aa e3;have Q7:=aa e4
  have TU:Hid (((List.range (nL fill inn es 0)).flatMap fun i=>d9 (sL fill inn es 0 i).2)=es):=aa (by
   have e:(fun i=>d9 (sL fill inn es 0 i).2)=dW fill es:=by funext i;exact qD i
   rw [e];exact pJ (by omega))
  have HMB:Hid (∀j,j≤nL fill inn es 0→((List.range j).flatMap fun i=>d9 (sL fill inn es 0 i).2).length≤1000000000):=aa (fun j _=>by
   have e:(fun i=>d9 (sL fill inn es 0 i).2)=dW fill es:=by funext i;exact qD i
   rw [e,CY,List.length_take];omega)
  have Gd:Hid (en=es.length):=aa Xn.len;rw [t2];have y1:w5.cell? ⟨fB,1,none⟩=some (.slice gA gn gc):=Xm.out.cell 1;have y2:w5.cell? ⟨fB,2,none⟩=some (.int .i64 f):=Xm.out.cell 2;have Uz:lf≤100000:=by omega
  have Ym:=aa Uz;clear t1 t2 t3 t4 hax NP hrise hsm ht hlen Q6 hsz hpk hks htop hsl hroot Yi NN JV HQ hel e1 e2 e3 e4 he' Uz zI;have Q8:=aa (fun w' (hb:Below w5.heap.size w5 w')=>zO _ ap nd root sl nd lf fill bl inn L (nL fill inn es) (dL fill inn es) (fun k i=>(sL fill inn es k i).2) E w' (TT.below hb) Gc (fun b h=>Nat.lt_of_lt_of_le h.2 hb.size) TS HT zx Yk Yl);have Q9:=aa (fun w' (hb:Below w5.heap.size w5 w')=>EY _ ap nd root sl nd lf inn L (nL fill inn es) (dL fill inn es) (fun k i=>(sL fill inn es k i).2) w' (TT.below hb) Gc (fun b h=>Nat.lt_of_lt_of_le h.2 hb.size) HT Ym HMB);have Ra:=aa (fun w' (hb:Below w5.heap.size w5 w')=>CZ _ ap nd root sl nd lf bl inn fill L (nL fill inn es) (dL fill inn es) (fun k i=>(sL fill inn es k i).2) w' (TT.below hb) Gc (fun b h=>Nat.lt_of_lt_of_le h.2 hb.size) TS HT EW xZ Yj);obtain⟨X,hX⟩:∃x,x=(if(0:Int)=0 then 0 else rf.bad):=⟨_,rfl⟩;rw [←hX];clear hX
  rcases Decidable.em (f<1) with hf1|hf1
  ·rcases Decidable.em ((gn:Int)<16) with Q5|Q5
   ·
    go_upto_region 16 with fail
    obtain⟨y0,J3,Ju,y3,y4⟩:=fK kw;go_upto_region 17 with(go_at_call 10;go_loud (refine(Q8 w5 (Below.refl _ _)).mono ?_);rintro e w6 ⟨rfl,hb6⟩;rw [Q7.out];have zP:=aa hb6;clear hb6 y0 J3 Ju y3 y4 y1 y2)
    obtain⟨w7,hw7⟩:∃W,W=w6.alloc (.cells #[.bool true,.int .i64 0,.int .i64 0,.int .i64 ((L:Int)+1),.int .i64 (dL fill inn es (L+1):Nat),.int .i64 (es.length:Nat)] 47):=⟨_,rfl⟩;rw [←hw7];obtain⟨q,hq⟩:∃Y,Y=w6.heap.size:=⟨_,rfl⟩;rw [←hq];have zQ:Below w6.heap.size w6 w7:=by rw [hw7];exact(Below.refl _ _).alloc (Nat.le_refl _) _
    have UA:Hid (ai w7 q 47 #[.bool true,.int .i64 0,.int .i64 0,.int .i64 ((L:Int)+1),.int .i64 (dL fill inn es (L+1):Nat),.int .i64 (es.length:Nat)]):=aa (by rw [hw7,hq];exact ai.new _ _ _);have uh:Hid (Below w5.heap.size w5 w7):=aa (zP.out.trans (zQ.mono zP.size));clear hw7 hq zQ;go_upto_region 18 with(go_at_call 11;go_loud (refine(Q9 w7 uh).mono ?_);rintro e w8 ⟨A8,n8,c8,rfl,ui,Qa⟩;have UB:=aa ui;have uj:=aa Qa;clear ui Qa)
    have pK:Hid (Below w5.heap.size w5 w8):=aa (uh.out.trans (uj.mono uh.size));obtain⟨y0,J3,Ju,y3,y4⟩:=fK (kw.below pK);go_upto_region 19 with(go_at_call 12;go_loud (refine(Ra w8 pK).mono ?_);rintro e w9 ⟨rfl,wI⟩;have uk:=aa wI;clear wI y0 J3 Ju y3 y4)
    have ul:Hid (Below w5.heap.size w5 w9):=aa (pK.out.trans (uk.mono pK.size));have J4:Hid (Below w7.heap.size w7 w9):=aa (uj.out.trans (uk.mono uj.size));have x0:w9.cell? ⟨q,0,none⟩=some (.bool true):=(UA.out.below J4).cell 0;have ui:=UB.out.below uk;rw [show((List.range (nL fill inn es 0)).flatMap fun i=>d9 ((fun k i=>(sL fill inn es k i).2) 0 i))=es from TU.out] at ui;obtain rfl:n8=en:=by rw [ui.len,Gd.out]
    have Qb:=aa (sameEntries_eq _ _ A8 eA n8 c8 ec es w9 ui (Xn.below ul) (by rw [Gd.out];exact Nat.le_trans JZ (by decide)));clear ui;have hz:(0:Int)==0:=rfl;go_wp2_with (first|(go_at_call 13;go_loud (refine Qb.mono ?_);rintro e wa ⟨rfl,qo⟩;have um:Hid (Below w5.heap.size w5 wa):=aa (ul.out.trans (qo.mono ul.size));clear qo)|(go_at_call 14;go_loud (refine(pM _ ap nd root sl _ (TT.below um) Gc (fun s hs=>⟨(HT.even s hs).1,(HT.even s hs).2.1⟩)).mono ?_);rw [jB (fun s hs=>(HT.out.even s hs).2.2) _];rintro e wb ⟨Ab,nb',cb,rfl,hib,_,hbb⟩;have hnb:nb'=0:=hib.len;subst hnb;have J5:Hid (Below w5.heap.size w5 wb):=aa (um.out.trans (hbb.mono um.size));clear hib hbb))
    rw [HR.out]
    exact⟨rfl,nY.out.trans (J5.mono nY.size)⟩
   ·
    go_upto_region 16 with fail
    obtain⟨y0,J3,Ju,y3,y4⟩:=fK kw;go_upto_region 17 with(go_at_call 10;go_loud (refine(Q8 w5 (Below.refl _ _)).mono ?_);rintro e w6 ⟨rfl,hb6⟩;rw [Q7.out];have zP:=aa hb6;clear hb6 y0 J3 Ju y3 y4 y1 y2)
    obtain⟨w7,hw7⟩:∃W,W=w6.alloc (.cells #[.bool true,.int .i64 0,.int .i64 0,.int .i64 ((L:Int)+1),.int .i64 (dL fill inn es (L+1):Nat),.int .i64 (es.length:Nat)] 47):=⟨_,rfl⟩;rw [←hw7];obtain⟨q,hq⟩:∃Y,Y=w6.heap.size:=⟨_,rfl⟩;rw [←hq];have zQ:Below w6.heap.size w6 w7:=by rw [hw7];exact(Below.refl _ _).alloc (Nat.le_refl _) _
    have UA:Hid (ai w7 q 47 #[.bool true,.int .i64 0,.int .i64 0,.int .i64 ((L:Int)+1),.int .i64 (dL fill inn es (L+1):Nat),.int .i64 (es.length:Nat)]):=aa (by rw [hw7,hq];exact ai.new _ _ _);have uh:Hid (Below w5.heap.size w5 w7):=aa (zP.out.trans (zQ.mono zP.size));clear hw7 hq zQ;go_upto_region 18 with(go_at_call 11;go_loud (refine(Q9 w7 uh).mono ?_);rintro e w8 ⟨A8,n8,c8,rfl,ui,Qa⟩;have UB:=aa ui;have uj:=aa Qa;clear ui Qa)
    have pK:Hid (Below w5.heap.size w5 w8):=aa (uh.out.trans (uj.mono uh.size));obtain⟨y0,J3,Ju,y3,y4⟩:=fK (kw.below pK);go_upto_region 19 with(go_at_call 12;go_loud (refine(Ra w8 pK).mono ?_);rintro e w9 ⟨rfl,wI⟩;have uk:=aa wI;clear wI y0 J3 Ju y3 y4)
    have ul:Hid (Below w5.heap.size w5 w9):=aa (pK.out.trans (uk.mono pK.size));have J4:Hid (Below w7.heap.size w7 w9):=aa (uj.out.trans (uk.mono uj.size));have x0:w9.cell? ⟨q,0,none⟩=some (.bool true):=(UA.out.below J4).cell 0;have ui:=UB.out.below uk;rw [show((List.range (nL fill inn es 0)).flatMap fun i=>d9 ((fun k i=>(sL fill inn es k i).2) 0 i))=es from TU.out] at ui;obtain rfl:n8=en:=by rw [ui.len,Gd.out]
    have Qb:=aa (sameEntries_eq _ _ A8 eA n8 c8 ec es w9 ui (Xn.below ul) (by rw [Gd.out];exact Nat.le_trans JZ (by decide)));clear ui;have hz:(0:Int)==0:=rfl;go_wp2_with (first|(go_at_call 13;go_loud (refine Qb.mono ?_);rintro e wa ⟨rfl,qo⟩;have um:Hid (Below w5.heap.size w5 wa):=aa (ul.out.trans (qo.mono ul.size));clear qo)|(go_at_call 14;go_loud (refine(pM _ ap nd root sl _ (TT.below um) Gc (fun s hs=>⟨(HT.even s hs).1,(HT.even s hs).2.1⟩)).mono ?_);rw [jB (fun s hs=>(HT.out.even s hs).2.2) _];rintro e wb ⟨Ab,nb',cb,rfl,hib,_,hbb⟩;have hnb:nb'=0:=hib.len;subst hnb;have J5:Hid (Below w5.heap.size w5 wb):=aa (um.out.trans (hbb.mono um.size));clear hib hbb))
    rw [HR.out]
    exact⟨rfl,nY.out.trans (J5.mono nY.size)⟩
  ·
   go_upto_region 16 with fail
   obtain⟨y0,J3,Ju,y3,y4⟩:=fK kw;go_upto_region 17 with(go_at_call 10;go_loud (refine(Q8 w5 (Below.refl _ _)).mono ?_);rintro e w6 ⟨rfl,hb6⟩;rw [Q7.out];have zP:=aa hb6;clear hb6 y0 J3 Ju y3 y4 y1 y2)
   obtain⟨w7,hw7⟩:∃W,W=w6.alloc (.cells #[.bool true,.int .i64 0,.int .i64 0,.int .i64 ((L:Int)+1),.int .i64 (dL fill inn es (L+1):Nat),.int .i64 (es.length:Nat)] 47):=⟨_,rfl⟩;rw [←hw7];obtain⟨q,hq⟩:∃Y,Y=w6.heap.size:=⟨_,rfl⟩;rw [←hq];have zQ:Below w6.heap.size w6 w7:=by rw [hw7];exact(Below.refl _ _).alloc (Nat.le_refl _) _
   have UA:Hid (ai w7 q 47 #[.bool true,.int .i64 0,.int .i64 0,.int .i64 ((L:Int)+1),.int .i64 (dL fill inn es (L+1):Nat),.int .i64 (es.length:Nat)]):=aa (by rw [hw7,hq];exact ai.new _ _ _);have uh:Hid (Below w5.heap.size w5 w7):=aa (zP.out.trans (zQ.mono zP.size));clear hw7 hq zQ;go_upto_region 18 with(go_at_call 11;go_loud (refine(Q9 w7 uh).mono ?_);rintro e w8 ⟨A8,n8,c8,rfl,ui,Qa⟩;have UB:=aa ui;have uj:=aa Qa;clear ui Qa)
   have pK:Hid (Below w5.heap.size w5 w8):=aa (uh.out.trans (uj.mono uh.size));obtain⟨y0,J3,Ju,y3,y4⟩:=fK (kw.below pK);go_upto_region 19 with(go_at_call 12;go_loud (refine(Ra w8 pK).mono ?_);rintro e w9 ⟨rfl,wI⟩;have uk:=aa wI;clear wI y0 J3 Ju y3 y4)
   have ul:Hid (Below w5.heap.size w5 w9):=aa (pK.out.trans (uk.mono pK.size));have J4:Hid (Below w7.heap.size w7 w9):=aa (uj.out.trans (uk.mono uj.size));have x0:w9.cell? ⟨q,0,none⟩=some (.bool true):=(UA.out.below J4).cell 0;have ui:=UB.out.below uk;rw [show((List.range (nL fill inn es 0)).flatMap fun i=>d9 ((fun k i=>(sL fill inn es k i).2) 0 i))=es from TU.out] at ui;obtain rfl:n8=en:=by rw [ui.len,Gd.out]
   have Qb:=aa (sameEntries_eq _ _ A8 eA n8 c8 ec es w9 ui (Xn.below ul) (by rw [Gd.out];exact Nat.le_trans JZ (by decide)));clear ui;have hz:(0:Int)==0:=rfl;go_wp2_with (first|(go_at_call 13;go_loud (refine Qb.mono ?_);rintro e wa ⟨rfl,qo⟩;have um:Hid (Below w5.heap.size w5 wa):=aa (ul.out.trans (qo.mono ul.size));clear qo)|(go_at_call 14;go_loud (refine(pM _ ap nd root sl _ (TT.below um) Gc (fun s hs=>⟨(HT.even s hs).1,(HT.even s hs).2.1⟩)).mono ?_);rw [jB (fun s hs=>(HT.out.even s hs).2.2) _];rintro e wb ⟨Ab,nb',cb,rfl,hib,_,hbb⟩;have hnb:nb'=0:=hib.len;subst hnb;have J5:Hid (Below w5.heap.size w5 wb):=aa (um.out.trans (hbb.mono um.size));clear hib hbb))
   rw [HR.out];exact⟨rfl,nY.out.trans (J5.mono nY.size)⟩
end
section
open Go.Proofs.Tryz
open Go.ChangeShapes Go.WideShapes Go.Deep Go.RowKit
theorem ML {H:Type} (d:DataW H):1≤Rows.uptoBulk d:=by
 cases d with
 |lit l=>cases l<;>simp [Rows.uptoBulk]
 |_=>simp [Rows.uptoBulk]
theorem xC {H:Type} {d:DataW H} {l:List (DataW H)} (h:d∈l):Rows.uptoBulk d≤Rows.uptoBulkAll l:=by
 induction l with
 |nil=>cases h
 |cons x r ih=>
  simp only [Rows.uptoBulkAll]
  cases List.mem_cons.1 h with
  |inl e=>subst e;omega
  |inr e=>have:=ih e;omega
theorem BJ {H:Type} (l:List (DataW H)):l.length≤Rows.uptoBulkAll l:=by
 induction l with
 |nil=>simp [Rows.uptoBulkAll]
 |cons x r ih=>have:=ML x;simp only [Rows.uptoBulkAll,List.length_cons];omega
theorem vE {H:Type} (elems spare:List (DataW H)):Rows.uptoBulkAll elems+1≤Rows.uptoBulk (.slice elems spare):=by
 simp only [Rows.uptoBulk];omega
def iB (w:World):Value→List UInt8
 | .slice (some a) n _=>(List.range n).map fun j=>match w.cell? (a.add j) with|some (.int _ z)=>UInt8.ofNat z.toNat|_=>0
 |_=> []
section
variable {H:Type} {enc:TypeId×Value→H} {w:World} {base:Nat} {spare:Nat→Bool} {held:Bool}
theorem FI {a:Addr} {v:Value} (h:w.cell? (a.add 0)=some v):a=⟨a.block,a.off,none⟩:=by
 obtain⟨b,o',s⟩:=a;have hs:s=none:=by simpa [Addr.add] using World.cell?_spot h
 subst hs;rfl
theorem Ea {fuel:Nat} {v:Value} {y:DataW H×List MemPlace} (h:DataW.trod enc prog w base spare held fuel 24 [v]=some y):SB w (fun _=>True) v (iB w v)∧(iB w v).length+1≤Rows.uptoBulk y.1:=by
 rcases open_ints underlying24 underlying5 (by kernel_rfl) h with⟨hcs,rfl⟩|⟨a,len,cap,zs,hcs,_,hl,hm,hz,rfl,hcell,hwz⟩
 ·have hv:v= .slice none 0 0:=by simpa using hcs
  subst hv
  exact⟨SB.nil _ _,by simp [iB,Rows.uptoBulk]⟩
 ·have hv:v= .slice (some a) len cap:=by simpa using hcs
  subst hv;have hzl:len≤zs.length:=by rw [hz];split<;>omega
  have hrl:(iB w (.slice (some a) len cap)).length=len:=by simp [iB]
  refine⟨⟨some a,len,cap,rfl,hl,hm,hrl.symm,by rw [dM,hrl,Nat.mul_one],fun hn=> ?_⟩,?_⟩
  ·have ha:=FI (hcell 0 (by omega));refine⟨a.block,a.off,by rw [←ha],trivial,fun j u hj=> ?_⟩;have hj':j<len:=by have:=(List.getElem?_eq_some_iff.1 hj).1;rw [dM,hrl] at this;exact this
   have hc:=hcell j (by omega);have hz1:=hwz (zs.getD j 0) (by rw [List.getD_eq_getElem?_getD,List.getElem?_eq_getElem (by omega)];exact List.getElem_mem (by omega));have hz2:0≤zs.getD j 0∧zs.getD j 0≤255:=by simpa [Lit.wf,IntKind.min,IntKind.max,IntKind.signed,IntKind.bits] using hz1
   simp only [aK,iB,List.map_map,List.getElem?_map,List.getElem?_range hj',Option.map_some,Function.comp,hc] at hj;injection hj with hj
   subst hj;rw [ha,iP] at hc;rw [hc];unfold bv;congr 2
   rw [UInt8.toNat_ofNat']
   omega
  ·rw [hrl];have h1:=vE (lits (H:=H) IntKind.u8 (zs.take len)) (lits IntKind.u8 (zs.drop len));have h2:=BJ (lits (H:=H) IntKind.u8 (zs.take len));have h3:(lits (H:=H) IntKind.u8 (zs.take len)).length=len:=by simp [lits];omega
   show len+1≤Rows.uptoBulk (.slice (lits IntKind.u8 (zs.take len)) (lits IntKind.u8 (zs.drop len)));omega
end
end
end Go.Proofs.YtbjgeidjmhialaaGreatDoor
