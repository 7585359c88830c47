/- Part 17. -/
import Derived.Test.YtbjgeidjmhialaaGreatDoorLa16
namespace Go.Proofs.YtbjgeidjmhialaaGreatDoor
set_option maxRecDepth 100000
set_option maxHeartbeats 8000000
section
open Go.Proofs.Tryz
open Go.RowKit
theorem nM {S:Nat→Prop} {w w2:World} {o:Obj} (h:ag S (w.alloc o) w2):w.heap.size+1≤w2.heap.size:=by have:=h.size;simpa using this
theorem LF (more:Bool) (F G:Nat→Prop) (p mm:Nat) (nodes root:Int) (sl:List bB) (nd:Nd) (hA kA vA dA:Option Addr) (hn hc kn kc vn vc dn dc:Nat) (w:World)
  (hx:gm w F p nodes sl root) (hf:(sl.length:Int)<nodes) (hnn:nodes≤65536) (hm:ai w mm 214 #[.pointer (some ⟨p,0,none⟩),.bool false]) (LC:¬F mm)
  (h1:Bt w G hA hn hc nd.high) (h2:Tx w G kA kn kc nd.keys) (h3:Tx w G vA vn vc nd.vals) (h4:It w G dA dn dc nd.kids) (hG:∀b,G b→¬F b∧b≠mm) (hs:Small nd) (rt:Int) (hrt:rt=if more then(sl.length:Int)+1+1 else nd.right):
  Calls prog 123 #[.pointer (some ⟨mm,0,none⟩),.agg #[.int .i64 nd.lev,.slice hA hn hc,.int .i64 nd.right,.slice kA kn kc,.slice vA vn vc,.slice dA dn dc],.bool more] w
   (uW w F p mm nodes root (sl++ [(2,⟨nd.lev,nd.high,rt,nd.keys,nd.vals,nd.kids⟩)]) ((sl.length:Int)+1)):=by
 have b1:Below w.heap.size w (w.alloc (.cells #[.int .i64 nd.lev,.slice hA hn hc,.int .i64 nd.right,.slice kA kn kc,.slice vA vn vc,.slice dA dn dc] 104)):=(Below.refl _ _).alloc (Nat.le_refl _) _;have HX:=aa ((show gm w (aI F w) p nodes _ root from hx.lt).below b1);have HM:=aa (hm.below b1);have HB:=aa (ai.new w 104 #[.int .i64 nd.lev,.slice hA hn hc,.int .i64 nd.right,.slice kA kn kc,.slice vA vn vc,.slice dA dn dc])
 obtain⟨m0,m1,mf⟩:(w.alloc (.cells #[.int .i64 nd.lev,.slice hA hn hc,.int .i64 nd.right,.slice kA kn kc,.slice vA vn vc,.slice dA dn dc] 104)).cell? ⟨mm,0,none⟩=some (.pointer (some ⟨p,0,none⟩))∧(w.alloc (.cells #[.int .i64 nd.lev,.slice hA hn hc,.int .i64 nd.right,.slice kA kn kc,.slice vA vn vc,.slice dA dn dc] 104)).cell? ⟨mm,1,none⟩=some (.bool false)∧jb w mm:=
  ⟨by rw [HM.out.cell];rfl,by rw [HM.out.cell];rfl,hm.soft⟩
 have Ng:=hm.lt;have H1:=aa (show Bt w (aI G w) hA hn hc nd.high from h1.lt);have H2:=aa (show Tx w (aI G w) kA kn kc nd.keys from h2.lt);have H3:=aa (show Tx w (aI G w) vA vn vc nd.vals from h3.lt);have H4:=aa (show It w (aI G w) dA dn dc nd.kids from h4.lt);have HS:=aa hs;clear hx hm h1 h2 h3 h4 hs;have AL:=aa (Ke (aI F w) p nodes root sl _ HX hf hnn)
 cases more
 ·go_enter func123,ntmps123
  go_wp2_with (first|(go_at_call 147;go_loud (refine AL.out.mono ?_;rintro e w2 ⟨rfl,hx2,hc2⟩;have pG:=aa hx2.grown;have bI:=aa hc2;have pz:=aa (HM.chg hc2 (fun h=>LC h.1));have HB2:=aa (HB.chg hc2 (fun h=>by have:=h.2;omega));have z2:w.heap.size+1≤w2.heap.size:=nM hc2;have n2:w2.cell? ⟨w.heap.size,2,none⟩=some (.int .i64 nd.right):=(HB2.out.cell _).trans rfl;have VC:∀o,w2.frozen? ⟨w.heap.size,o,none⟩=false:=HB2.out.frozen;have e1:=IntWalk.i64_in ((sl.length:Int)+1+1) (by omega);clear hx2 hc2)))
  have DT:=pz;have oV:=HB2;have Hq:=pG;have oW:Hid (ag (fun b=>(aI F w b∨b=mm)∨w.heap.size≤b) w w2):=aa ((ag.of_below b1).trans bI (fun b _ h=> .inl (.inl h)));have hI1:(1:Int)≤(sl.length:Int)+1:=by omega
  have hI2:((sl.length:Int)+1)≤((sl++ [(1,Nd.zero)]:List bB).length:Int):=by simp
  have DU:(sl++ [(1,Nd.zero)]:List bB).length≤65536:=by simp;omega
  have hS0:((sl.length:Int)+1).toNat-1=sl.length:=by omega
  have hS1:(sl++ [(1,Nd.zero)]:List bB)[((sl.length:Int)+1).toNat-1]? =some (1,Nd.zero):=by rw [hS0];simp
  have hfin:(sl++ [(1,Nd.zero)]:List bB).set (((sl.length:Int)+1).toNat-1) (2,⟨nd.lev,nd.high,nd.right,nd.keys,nd.vals,nd.kids⟩)=sl++ [(2,⟨nd.lev,nd.high,rt,nd.keys,nd.vals,nd.kids⟩)]:=by rw [hrt,hS0];simp
  have fv:∀b,Grown (aI F w) (w.alloc (.cells #[.int .i64 nd.lev,.slice hA hn hc,.int .i64 nd.right,.slice kA kn kc,.slice vA vn vc,.slice dA dn dc] 104)) w2 b→aI F w b∨(w.heap.size<b∧b<(w2).heap.size):=fun b h=>h.elim .inl (fun h=>by have h1:=h.1;have h2:=h.2;simp at h1;exact .inr ⟨by omega,by exact h2⟩);clear b1 HX HM HB pG bI pz HB2 n2 VC m0 m1 mf AL;obtain⟨FV,VD⟩:∃FV,FV=Grown (aI F w) (w.alloc (.cells #[.int .i64 nd.lev,.slice hA hn hc,.int .i64 nd.right,.slice kA kn kc,.slice vA vn vc,.slice dA dn dc] 104)) w2:=⟨_,rfl⟩;rw [←VD] at Hq fv;clear VD
  --the slot is held:the head,the body,the LD
  have b0:(w2).cell? ⟨mm,0,none⟩=some (.pointer (some ⟨p,0,none⟩)):=by rw [DT.out.cell];rfl
  have x0:(w2).cell? ⟨w.heap.size,0,none⟩=some (.int .i64 nd.lev):=by rw [oV.out.cell];rfl
  have x1:(w2).cell? ⟨w.heap.size,1,none⟩=some (.slice hA hn hc):=by rw [oV.out.cell];rfl
  have x2:(w2).cell? ⟨w.heap.size,2,none⟩=some (.int .i64 nd.right):=by rw [oV.out.cell];rfl
  have x3:(w2).cell? ⟨w.heap.size,3,none⟩=some (.slice kA kn kc):=by rw [oV.out.cell];rfl
  have x4:(w2).cell? ⟨w.heap.size,4,none⟩=some (.slice vA vn vc):=by rw [oV.out.cell];rfl
  have x5:(w2).cell? ⟨w.heap.size,5,none⟩=some (.slice dA dn dc):=by rw [oV.out.cell];rfl
  obtain⟨V,hV⟩:∃V,V=w2:=⟨_,rfl⟩;rw [←hV] at fv b0 x0 x1 x2 x3 x4 x5 DT oV Hq oW⊢;clear hV;have zV:=oW.out.size;have gV:∀b,aI G w b→¬((aI F w b∨b=mm)∨w.heap.size≤b):=fun b hb h=>h.elim (fun h=>h.elim (fun h=>(hG b hb.1).1 h.1) (hG b hb.1).2) (fun h=>by have:=hb.2;omega);have T1:=aa ((H1.chg oW gV).below (Below.refl _ _).drew);have T2:=aa ((H2.chg oW gV).below (Below.refl _ _).drew);have T3:=aa ((H3.chg oW gV).below (Below.refl _ _).drew);have T4:=aa ((H4.chg oW gV).below (Below.refl _ _).drew);have gF:∀b,aI G w b→¬FV b:=fun b hb h=>(fv b h).elim (fun h=>(hG b hb.1).1 h.1) (fun h=>by have:=hb.2;omega);have nm:¬FV mm:=fun h=>(fv _ h).elim (fun h=>LC h.1) (fun h=>by omega);have nb:¬FV w.heap.size:=fun h=>(fv _ h).elim (fun h=>by have:=h.2;omega) (fun h=>by omega);refine aM (fun w'=>w'.cell? ⟨mm,0,none⟩=some (.pointer (some ⟨p,0,none⟩))∧w'.cell? ⟨w.heap.size,0,none⟩=some (.int .i64 nd.lev)∧w'.cell? ⟨w.heap.size,1,none⟩=some (.slice hA hn hc)∧w'.cell? ⟨w.heap.size,2,none⟩=some (.int .i64 nd.right)) 7 (by kernel_rfl) ?_;have S0:V.drew.cell? ⟨mm,0,none⟩=some (.pointer (some ⟨p,0,none⟩))∧V.drew.cell? ⟨w.heap.size,0,none⟩=some (.int .i64 nd.lev)∧V.drew.cell? ⟨w.heap.size,1,none⟩=some (.slice hA hn hc)∧V.drew.cell? ⟨w.heap.size,2,none⟩=some (.int .i64 nd.right):=⟨b0,x0,x1,x2⟩;refine uF 0 (fun _=>S0) ?_;refine uF 1 (fun _=>S0) ?_;refine uF 2 (fun _=>S0) ?_;refine uF 4 (fun _=>S0) ?_;refine uF 5 (fun _=>S0) ?_;refine uT 3 S0 ?_;refine uT 6 S0 ?_;refine az (i:=7) (by kernel_rfl) rfl (fun K hK=> ?_);go_simp
  refine(kH FV p nodes root (sl++ [(1,Nd.zero)]) ((sl.length:Int)+1) (1,Nd.zero) V.drew Hq.drew hI1 hI2 DU hS1 (by simp) (by simp) (by simp) (aI G w) hA hn hc nd.lev nd.right nd.high T1.out HS.1).mono ?_;rintro e w4 ⟨rfl,hx4,hc4⟩;refine hK.out _ _ (fun h=>absurd h (by decide)) ?_;clear hK K;try simp only [aL,aN,aZ,aC]
  refine bL (by kernel_rfl) ?_ _;have OY:=aa hx4.grown;have mP:=aa hc4;have U0:=hc4.cell nm b0;have U3:=hc4.cell nb x3;have U4:=hc4.cell nb x4;have U5:=hc4.cell nb x5;have V2:=aa ((T2.out.chg hc4 gF).below (Below.refl _ _).drew);have V3:=aa ((T3.out.chg hc4 gF).below (Below.refl _ _).drew);have V4:=aa ((T4.out.chg hc4 gF).below (Below.refl _ _).drew);have z4:V.heap.size≤w4.heap.size:=hc4.size;have mM:=aa (DT.drew.chg hc4 nm);clear hx4 hc4 S0 b0 x0 x1 x2 x3 x4 x5;go_wp2_with fail
  refine aM (fun w'=>w'.cell? ⟨mm,0,none⟩=some (.pointer (some ⟨p,0,none⟩))∧w'.cell? ⟨w.heap.size,3,none⟩=some (.slice kA kn kc)∧w'.cell? ⟨w.heap.size,4,none⟩=some (.slice vA vn vc)∧w'.cell? ⟨w.heap.size,5,none⟩=some (.slice dA dn dc)) 7 (by kernel_rfl) ?_;have S9:w4.drew.cell? ⟨mm,0,none⟩=some (.pointer (some ⟨p,0,none⟩))∧w4.drew.cell? ⟨w.heap.size,3,none⟩=some (.slice kA kn kc)∧w4.drew.cell? ⟨w.heap.size,4,none⟩=some (.slice vA vn vc)∧w4.drew.cell? ⟨w.heap.size,5,none⟩=some (.slice dA dn dc):=⟨U0,U3,U4,U5⟩;refine uF 0 (fun _=>S9) ?_;refine uF 1 (fun _=>S9) ?_;refine uF 2 (fun _=>S9) ?_;refine uF 4 (fun _=>S9) ?_;refine uF 5 (fun _=>S9) ?_;refine uT 3 S9 ?_;refine uT 6 S9 ?_;refine az (i:=7) (by kernel_rfl) rfl (fun K hK=> ?_);go_simp
  refine(kI (Grown FV V.drew w4) p nodes root _ ((sl.length:Int)+1) (1,⟨nd.lev,nd.high,nd.right,[],[],[]⟩) w4.drew OY.drew hI1 (by rw [List.length_set];exact hI2) (by rw [List.length_set];exact DU) (by rw [List.getElem?_set_self (List.getElem?_eq_some_iff.1 hS1).1];rfl) (by simp) (by simp) (by simp) (aI G w) kA vA dA kn kc vn vc dn dc nd.keys nd.vals nd.kids V2.out V3.out V4.out ⟨by simp,HS.2.1,HS.2.2.1,HS.2.2.2.1,HS.2.2.2.2.1,HS.2.2.2.2.2⟩).mono ?_;rintro e w5 ⟨rfl,hx5,je⟩;refine hK.out _ _ (fun h=>absurd h (by decide)) ?_;clear hK K;try simp only [aL,aN,aZ,aC]
  refine bL (by kernel_rfl) ?_ _;have DV:¬Grown FV V.drew w4 mm:=fun h=>h.elim nm (fun h=>by have h1:V.heap.size≤mm:=h.1;omega);have oN:=aa hx5.grown;have fQ:=aa je;have W0:=je.cell DV U0;have sU:=aa (mM.drew.chg je DV);have z5:w4.heap.size≤w5.heap.size:=je.size;clear hx5 je S9 U0 U3 U4 U5;have UL:=aa (jE (Grown (Grown FV V.drew w4) w4.drew w5) p nodes root _ ((sl.length:Int)+1) (1,⟨nd.lev,nd.high,nd.right,nd.keys,nd.vals,nd.kids⟩) _ oN hI1 (by rw [List.length_set,List.length_set];exact hI2) (by rw [List.length_set,List.length_set];exact DU) (by rw [List.set_set,List.getElem?_set_self (List.getElem?_eq_some_iff.1 hS1).1]) (by simp) (by simp) (by simp));go_wp2_with (go_at_call 150;refine UL.out.mono ?_;rintro e w6 ⟨rfl,hx6,hc6⟩;have RS:=aa hx6;have iW:=aa hc6;clear hx6 hc6)
  go_ret
  have z6:=iW.out.size
  refine⟨rfl,?_,sU.chg iW (fun h=>h.elim DV (fun h=>by have h1:w4.heap.size≤mm:=h.1;omega)),?_⟩
  ·have h:=RS.out;rw [List.set_set,List.set_set] at h;rw [←hfin]
   exact h.weak (fun b hb=>hb.elim (fun h=>h.elim (fun h=>(fv b h).elim (fun h=> .inl h.1) (fun h=> .inr ⟨by omega,by omega⟩)) (fun h=>by have h1:V.heap.size≤b:=h.1;exact .inr ⟨by omega,by omega⟩)) (fun h=>by have h1:w4.heap.size≤b:=h.1;exact .inr ⟨by omega,by omega⟩))
  ·refine(((oW.mono (T:=fun b=>F b∨b=mm) (fun b hb h=>h.elim (fun h=>h.elim (fun h=> .inl h.1) .inr) (fun h=>absurd h (by omega)))).drew.trans mP (fun b hb h=>(fv b h).elim (fun h=> .inl h.1) (fun h=>by omega))).drew.trans fQ (fun b hb h=>h.elim (fun h=>(fv b h).elim (fun h=> .inl h.1) (fun h=>by omega)) (fun h=>by have h1:V.heap.size≤b:=h.1;omega))).trans iW (fun b hb h=>h.elim (fun h=>h.elim (fun h=>(fv b h).elim (fun h=> .inl h.1) (fun h=>by omega)) (fun h=>by have h1:V.heap.size≤b:=h.1;omega)) (fun h=>by have h1:w4.heap.size≤b:=h.1;omega))
 ·go_enter func123,ntmps123
  go_wp2_with (first|(go_at_call 147;go_loud (refine AL.out.mono ?_;rintro e w2 ⟨rfl,hx2,hc2⟩;have pG:=aa hx2.grown;have bI:=aa hc2;have pz:=aa (HM.chg hc2 (fun h=>LC h.1));have HB2:=aa (HB.chg hc2 (fun h=>by have:=h.2;omega));have z2:w.heap.size+1≤w2.heap.size:=nM hc2;have n2:w2.cell? ⟨w.heap.size,2,none⟩=some (.int .i64 nd.right):=(HB2.out.cell _).trans rfl;have VC:∀o,w2.frozen? ⟨w.heap.size,o,none⟩=false:=HB2.out.frozen;have e1:=IntWalk.i64_in ((sl.length:Int)+1+1) (by omega);clear hx2 hc2)))
  have DT:Hid (ai (w2.setCell ⟨w.heap.size,2,none⟩ (.int .i64 ((sl.length:Int)+1+1))) mm 214 #[.pointer (some ⟨p,0,none⟩),.bool false]):=aa (ai.far pz (p:=⟨w.heap.size,2,none⟩) (Nat.ne_of_lt Ng) _);have oV:Hid (ai (w2.setCell ⟨w.heap.size,2,none⟩ (.int .i64 ((sl.length:Int)+1+1))) w.heap.size 104 #[.int .i64 nd.lev,.slice hA hn hc,.int .i64 ((sl.length:Int)+1+1),.slice kA kn kc,.slice vA vn vc,.slice dA dn dc]):=aa (HB2.set_ 2 _);have Hq:Hid (gm (w2.setCell ⟨w.heap.size,2,none⟩ (.int .i64 ((sl.length:Int)+1+1))) (Grown (aI F w) (w.alloc (.cells #[.int .i64 nd.lev,.slice hA hn hc,.int .i64 nd.right,.slice kA kn kc,.slice vA vn vc,.slice dA dn dc] 104)) w2) p nodes (sl++ [(1,Nd.zero)]) root):=aa (pG.chg (ag.set1 _ w.heap.size 2 _) (fun b hb e=>by have e:b=w.heap.size:=e;exact hb.elim (fun h=>by have:=h.2;omega) (fun h=>by have h1:=h.1;simp at h1;omega)));have oW:Hid (ag (fun b=>(aI F w b∨b=mm)∨w.heap.size≤b) w (w2.setCell ⟨w.heap.size,2,none⟩ (.int .i64 ((sl.length:Int)+1+1)))):=aa (((ag.of_below b1).trans bI (fun b _ h=> .inl (.inl h))).setCell (p:=⟨w.heap.size,2,none⟩) (fun _=> .inr (Nat.le_refl _)) _);have hI1:(1:Int)≤(sl.length:Int)+1:=by omega
  have hI2:((sl.length:Int)+1)≤((sl++ [(1,Nd.zero)]:List bB).length:Int):=by simp
  have DU:(sl++ [(1,Nd.zero)]:List bB).length≤65536:=by simp;omega
  have hS0:((sl.length:Int)+1).toNat-1=sl.length:=by omega
  have hS1:(sl++ [(1,Nd.zero)]:List bB)[((sl.length:Int)+1).toNat-1]? =some (1,Nd.zero):=by rw [hS0];simp
  have hfin:(sl++ [(1,Nd.zero)]:List bB).set (((sl.length:Int)+1).toNat-1) (2,⟨nd.lev,nd.high,((sl.length:Int)+1+1),nd.keys,nd.vals,nd.kids⟩)=sl++ [(2,⟨nd.lev,nd.high,rt,nd.keys,nd.vals,nd.kids⟩)]:=by rw [hrt,hS0];simp
  have fv:∀b,Grown (aI F w) (w.alloc (.cells #[.int .i64 nd.lev,.slice hA hn hc,.int .i64 nd.right,.slice kA kn kc,.slice vA vn vc,.slice dA dn dc] 104)) w2 b→aI F w b∨(w.heap.size<b∧b<(w2.setCell ⟨w.heap.size,2,none⟩ (.int .i64 ((sl.length:Int)+1+1))).heap.size):=fun b h=>h.elim .inl (fun h=>by have h1:=h.1;have h2:=h.2;simp at h1;exact .inr ⟨by omega,by simpa [World.setCell] using h2⟩);clear b1 HX HM HB pG bI pz HB2 n2 VC m0 m1 mf AL;obtain⟨FV,VD⟩:∃FV,FV=Grown (aI F w) (w.alloc (.cells #[.int .i64 nd.lev,.slice hA hn hc,.int .i64 nd.right,.slice kA kn kc,.slice vA vn vc,.slice dA dn dc] 104)) w2:=⟨_,rfl⟩;rw [←VD] at Hq fv;clear VD
  --the slot is held:the head,the body,the LD
  have b0:(w2.setCell ⟨w.heap.size,2,none⟩ (.int .i64 ((sl.length:Int)+1+1))).cell? ⟨mm,0,none⟩=some (.pointer (some ⟨p,0,none⟩)):=by rw [DT.out.cell];rfl
  have x0:(w2.setCell ⟨w.heap.size,2,none⟩ (.int .i64 ((sl.length:Int)+1+1))).cell? ⟨w.heap.size,0,none⟩=some (.int .i64 nd.lev):=by rw [oV.out.cell];rfl
  have x1:(w2.setCell ⟨w.heap.size,2,none⟩ (.int .i64 ((sl.length:Int)+1+1))).cell? ⟨w.heap.size,1,none⟩=some (.slice hA hn hc):=by rw [oV.out.cell];rfl
  have x2:(w2.setCell ⟨w.heap.size,2,none⟩ (.int .i64 ((sl.length:Int)+1+1))).cell? ⟨w.heap.size,2,none⟩=some (.int .i64 ((sl.length:Int)+1+1)):=by rw [oV.out.cell];rfl
  have x3:(w2.setCell ⟨w.heap.size,2,none⟩ (.int .i64 ((sl.length:Int)+1+1))).cell? ⟨w.heap.size,3,none⟩=some (.slice kA kn kc):=by rw [oV.out.cell];rfl
  have x4:(w2.setCell ⟨w.heap.size,2,none⟩ (.int .i64 ((sl.length:Int)+1+1))).cell? ⟨w.heap.size,4,none⟩=some (.slice vA vn vc):=by rw [oV.out.cell];rfl
  have x5:(w2.setCell ⟨w.heap.size,2,none⟩ (.int .i64 ((sl.length:Int)+1+1))).cell? ⟨w.heap.size,5,none⟩=some (.slice dA dn dc):=by rw [oV.out.cell];rfl
  obtain⟨V,hV⟩:∃V,V=w2.setCell ⟨w.heap.size,2,none⟩ (.int .i64 ((sl.length:Int)+1+1)):=⟨_,rfl⟩;rw [←hV] at fv b0 x0 x1 x2 x3 x4 x5 DT oV Hq oW⊢;clear hV;have zV:=oW.out.size;have gV:∀b,aI G w b→¬((aI F w b∨b=mm)∨w.heap.size≤b):=fun b hb h=>h.elim (fun h=>h.elim (fun h=>(hG b hb.1).1 h.1) (hG b hb.1).2) (fun h=>by have:=hb.2;omega);have T1:=aa ((H1.chg oW gV).below (Below.refl _ _).drew);have T2:=aa ((H2.chg oW gV).below (Below.refl _ _).drew);have T3:=aa ((H3.chg oW gV).below (Below.refl _ _).drew);have T4:=aa ((H4.chg oW gV).below (Below.refl _ _).drew);have gF:∀b,aI G w b→¬FV b:=fun b hb h=>(fv b h).elim (fun h=>(hG b hb.1).1 h.1) (fun h=>by have:=hb.2;omega);have nm:¬FV mm:=fun h=>(fv _ h).elim (fun h=>LC h.1) (fun h=>by omega);have nb:¬FV w.heap.size:=fun h=>(fv _ h).elim (fun h=>by have:=h.2;omega) (fun h=>by omega);refine aM (fun w'=>w'.cell? ⟨mm,0,none⟩=some (.pointer (some ⟨p,0,none⟩))∧w'.cell? ⟨w.heap.size,0,none⟩=some (.int .i64 nd.lev)∧w'.cell? ⟨w.heap.size,1,none⟩=some (.slice hA hn hc)∧w'.cell? ⟨w.heap.size,2,none⟩=some (.int .i64 ((sl.length:Int)+1+1))) 7 (by kernel_rfl) ?_;have S0:V.drew.cell? ⟨mm,0,none⟩=some (.pointer (some ⟨p,0,none⟩))∧V.drew.cell? ⟨w.heap.size,0,none⟩=some (.int .i64 nd.lev)∧V.drew.cell? ⟨w.heap.size,1,none⟩=some (.slice hA hn hc)∧V.drew.cell? ⟨w.heap.size,2,none⟩=some (.int .i64 ((sl.length:Int)+1+1)):=⟨b0,x0,x1,x2⟩;refine uF 0 (fun _=>S0) ?_;refine uF 1 (fun _=>S0) ?_;refine uF 2 (fun _=>S0) ?_;refine uF 4 (fun _=>S0) ?_;refine uF 5 (fun _=>S0) ?_;refine uT 3 S0 ?_;refine uT 6 S0 ?_;refine az (i:=7) (by kernel_rfl) rfl (fun K hK=> ?_);go_simp
  refine(kH FV p nodes root (sl++ [(1,Nd.zero)]) ((sl.length:Int)+1) (1,Nd.zero) V.drew Hq.drew hI1 hI2 DU hS1 (by simp) (by simp) (by simp) (aI G w) hA hn hc nd.lev ((sl.length:Int)+1+1) nd.high T1.out HS.1).mono ?_;rintro e w4 ⟨rfl,hx4,hc4⟩;refine hK.out _ _ (fun h=>absurd h (by decide)) ?_;clear hK K;try simp only [aL,aN,aZ,aC]
  refine bL (by kernel_rfl) ?_ _;have OY:=aa hx4.grown;have mP:=aa hc4;have U0:=hc4.cell nm b0;have U3:=hc4.cell nb x3;have U4:=hc4.cell nb x4;have U5:=hc4.cell nb x5;have V2:=aa ((T2.out.chg hc4 gF).below (Below.refl _ _).drew);have V3:=aa ((T3.out.chg hc4 gF).below (Below.refl _ _).drew);have V4:=aa ((T4.out.chg hc4 gF).below (Below.refl _ _).drew);have z4:V.heap.size≤w4.heap.size:=hc4.size;have mM:=aa (DT.drew.chg hc4 nm);clear hx4 hc4 S0 b0 x0 x1 x2 x3 x4 x5;go_wp2_with fail
  refine aM (fun w'=>w'.cell? ⟨mm,0,none⟩=some (.pointer (some ⟨p,0,none⟩))∧w'.cell? ⟨w.heap.size,3,none⟩=some (.slice kA kn kc)∧w'.cell? ⟨w.heap.size,4,none⟩=some (.slice vA vn vc)∧w'.cell? ⟨w.heap.size,5,none⟩=some (.slice dA dn dc)) 7 (by kernel_rfl) ?_;have S9:w4.drew.cell? ⟨mm,0,none⟩=some (.pointer (some ⟨p,0,none⟩))∧w4.drew.cell? ⟨w.heap.size,3,none⟩=some (.slice kA kn kc)∧w4.drew.cell? ⟨w.heap.size,4,none⟩=some (.slice vA vn vc)∧w4.drew.cell? ⟨w.heap.size,5,none⟩=some (.slice dA dn dc):=⟨U0,U3,U4,U5⟩;refine uF 0 (fun _=>S9) ?_;refine uF 1 (fun _=>S9) ?_;refine uF 2 (fun _=>S9) ?_;refine uF 4 (fun _=>S9) ?_;refine uF 5 (fun _=>S9) ?_;refine uT 3 S9 ?_;refine uT 6 S9 ?_;refine az (i:=7) (by kernel_rfl) rfl (fun K hK=> ?_);go_simp
  refine(kI (Grown FV V.drew w4) p nodes root _ ((sl.length:Int)+1) (1,⟨nd.lev,nd.high,((sl.length:Int)+1+1),[],[],[]⟩) w4.drew OY.drew hI1 (by rw [List.length_set];exact hI2) (by rw [List.length_set];exact DU) (by rw [List.getElem?_set_self (List.getElem?_eq_some_iff.1 hS1).1];rfl) (by simp) (by simp) (by simp) (aI G w) kA vA dA kn kc vn vc dn dc nd.keys nd.vals nd.kids V2.out V3.out V4.out ⟨by simp,HS.2.1,HS.2.2.1,HS.2.2.2.1,HS.2.2.2.2.1,HS.2.2.2.2.2⟩).mono ?_;rintro e w5 ⟨rfl,hx5,je⟩;refine hK.out _ _ (fun h=>absurd h (by decide)) ?_;clear hK K;try simp only [aL,aN,aZ,aC]
  refine bL (by kernel_rfl) ?_ _;have DV:¬Grown FV V.drew w4 mm:=fun h=>h.elim nm (fun h=>by have h1:V.heap.size≤mm:=h.1;omega);have oN:=aa hx5.grown;have fQ:=aa je;have W0:=je.cell DV U0;have sU:=aa (mM.drew.chg je DV);have z5:w4.heap.size≤w5.heap.size:=je.size;clear hx5 je S9 U0 U3 U4 U5;have UL:=aa (jE (Grown (Grown FV V.drew w4) w4.drew w5) p nodes root _ ((sl.length:Int)+1) (1,⟨nd.lev,nd.high,((sl.length:Int)+1+1),nd.keys,nd.vals,nd.kids⟩) _ oN hI1 (by rw [List.length_set,List.length_set];exact hI2) (by rw [List.length_set,List.length_set];exact DU) (by rw [List.set_set,List.getElem?_set_self (List.getElem?_eq_some_iff.1 hS1).1]) (by simp) (by simp) (by simp));go_wp2_with (go_at_call 150;refine UL.out.mono ?_;rintro e w6 ⟨rfl,hx6,hc6⟩;have RS:=aa hx6;have iW:=aa hc6;clear hx6 hc6)
  go_ret
  have z6:=iW.out.size
  refine⟨rfl,?_,sU.chg iW (fun h=>h.elim DV (fun h=>by have h1:w4.heap.size≤mm:=h.1;omega)),?_⟩
  ·have h:=RS.out;rw [List.set_set,List.set_set] at h;rw [←hfin]
   exact h.weak (fun b hb=>hb.elim (fun h=>h.elim (fun h=>(fv b h).elim (fun h=> .inl h.1) (fun h=> .inr ⟨by omega,by omega⟩)) (fun h=>by have h1:V.heap.size≤b:=h.1;exact .inr ⟨by omega,by omega⟩)) (fun h=>by have h1:w4.heap.size≤b:=h.1;exact .inr ⟨by omega,by omega⟩))
  ·refine(((oW.mono (T:=fun b=>F b∨b=mm) (fun b hb h=>h.elim (fun h=>h.elim (fun h=> .inl h.1) .inr) (fun h=>absurd h (by omega)))).drew.trans mP (fun b hb h=>(fv b h).elim (fun h=> .inl h.1) (fun h=>by omega))).drew.trans fQ (fun b hb h=>h.elim (fun h=>(fv b h).elim (fun h=> .inl h.1) (fun h=>by omega)) (fun h=>by have h1:V.heap.size≤b:=h.1;omega))).trans iW (fun b hb h=>h.elim (fun h=>h.elim (fun h=>(fv b h).elim (fun h=> .inl h.1) (fun h=>by omega)) (fun h=>by have h1:V.heap.size≤b:=h.1;omega)) (fun h=>by have h1:w4.heap.size≤b:=h.1;omega))
end
section
open Go.Proofs.Tryz
open Go.RowKit
def dI (w:World) (F:Nat→Prop) (p mm:Nat) (nodes root:Int) (done:List bB):Prop:=
 ¬F mm∧(∀b,F b→b<w.heap.size)∧mm<w.heap.size∧((done= []∧gm w F p nodes [(0,Nd.zero)] root∧ai w mm 214 #[.pointer (some ⟨p,0,none⟩),.bool true])∨(done≠ []∧gm w F p nodes done root∧ai w mm 214 #[.pointer (some ⟨p,0,none⟩),.bool false]))
def Off (F:Nat→Prop) (mm:Nat):Nat→Prop:=fun b=>¬F b∧b≠mm
section
variable {S F G:Nat→Prop} {w w':World} {p mm:Nat} {nodes root:Int} {done:List bB}
theorem dI.chg (h:dI w F p mm nodes root done) (hc:ag S w w') (hs:∀b,F b→¬S b) (hm:¬S mm):dI w' F p mm nodes root done:=by
 obtain⟨h1,h2,h3,h4⟩:=h;refine⟨h1,fun b hb=>Nat.lt_of_lt_of_le (h2 b hb) hc.size,Nat.lt_of_lt_of_le h3 hc.size,?_⟩
 rcases h4 with⟨e,a,b⟩|⟨e,a,b⟩
 ·exact .inl ⟨e,a.chg hc hs,b.chg hc hm⟩
 ·exact .inr ⟨e,a.chg hc hs,b.chg hc hm⟩
theorem dI.below (h:dI w F p mm nodes root done) (hb:Below w.heap.size w w'):dI w' F p mm nodes root done:=h.chg (S:=Nil) (ag.of_below hb) (fun _ _ hf=>hf) (fun hf=>hf)
theorem off_next {b:Nat} (hb:b<w.heap.size) (h:Off F mm b):Off (Grown F w w') mm b:=⟨fun hg=>hg.elim h.1 (fun h=>by have:=h.1;omega),h.2⟩
theorem EO (more:Bool) (nd:Nd) (hA kA vA dA:Option Addr) (hn hc kn kc vn vc dn dc:Nat) (h:dI w F p mm nodes root done) (hf:(done.length:Int)<nodes) (hn1:nodes≤65536)
  (h1:Bt w (Off F mm) hA hn hc nd.high) (h2:Tx w (Off F mm) kA kn kc nd.keys) (h3:Tx w (Off F mm) vA vn vc nd.vals) (h4:It w (Off F mm) dA dn dc nd.kids) (hs:Small nd):
  Calls prog 123 #[.pointer (some ⟨mm,0,none⟩),.agg #[.int .i64 nd.lev,.slice hA hn hc,.int .i64 nd.right,.slice kA kn kc,.slice vA vn vc,.slice dA dn dc],.bool more] w
   (fun e w'=>e= .returned (.int .i64 ((done.length:Int)+1))∧dI w' (Grown F w w') p mm nodes root (done++ [(2,⟨nd.lev,nd.high,if more then(done.length:Int)+1+1 else nd.right,nd.keys,nd.vals,nd.kids⟩)])∧ag (fun b=>F b∨b=mm) w w'):=by
 obtain⟨k1,k2,k3,k4⟩:=h;have hG:∀b,Off F mm b→¬F b∧b≠mm:=fun b h=>h
 have fin:∀(e:Ending) (w':World) (l':List bB) (id:Int),l'≠ []→uW w F p mm nodes root l' id e w'→e= .returned (.int .i64 id)∧dI w' (Grown F w w') p mm nodes root l'∧ag (fun b=>F b∨b=mm) w w':=by
  intro e w' l' id hl ⟨q1,q2,q3,q4⟩;exact⟨q1,⟨fun h=>h.elim k1 (fun h=>by have:=h.1;omega),fun b hb=>hb.elim (fun h=>Nat.lt_of_lt_of_le (k2 b h) q4.size) (fun h=>h.2),Nat.lt_of_lt_of_le k3 q4.size,.inr ⟨hl,q2,q3⟩⟩,q4⟩
 rcases k4 with⟨rfl,a,b⟩|⟨e,a,b⟩
 ·refine(LB more F (Off F mm) p mm nodes root nd hA kA vA dA hn hc kn kc vn vc dn dc w a b k1 h1 h2 h3 h4 hG hs _ rfl).mono fun e w' hl=> ?_;have:=fin e w' _ _ (by simp) hl
  simpa using this
 ·refine(LF more F (Off F mm) p mm nodes root done nd hA kA vA dA hn hc kn kc vn vc dn dc w a hf hn1 b k1 h1 h2 h3 h4 hG hs _ rfl).mono fun e w' hl=> ?_;exact fin e w' _ _ (by simp) hl
end
end
section
open Go.Proofs.Tryz
open Go.RowKit
def j4 (w:World) (F:Nat→Prop) (xs:List Value) (most k:Nat) (vals:List Value):Prop:=
 ∀i,i<k→∃A c,vals[i]? =some (.slice A most c)∧most≤c∧c≤maxLen∧Rd w F 2 A most ((xs.drop (i*most*2)).take (most*2))
section
variable {S F G:Nat→Prop} {w w':World} {xs vals:List Value} {most k:Nat}
theorem j4.chg (h:j4 w F xs most k vals) (hc:ag S w w') (hs:∀b,F b→¬S b):j4 w' F xs most k vals:=fun i hi=>let⟨A,c,a,b,d,e⟩:=h i hi;⟨A,c,a,b,d,e.chg hc hs⟩
theorem j4.below (h:j4 w F xs most k vals) (hb:Below w.heap.size w w'):j4 w' F xs most k vals:=h.chg (S:=Nil) (ag.of_below hb) (fun _ _ hf=>hf)
theorem j4.push (h:j4 w F xs most k vals) (hl:vals.length=k) {A:Option Addr} {c:Nat} (h1:most≤c) (h2:c≤maxLen) (hr:Rd w F 2 A most ((xs.drop (k*most*2)).take (most*2))):j4 w F xs most (k+1) (vals++ [.slice A most c]):=by
 intro i hi
 rcases Nat.lt_or_ge i k with h'|h'
 ·obtain⟨B,d,q1,q2⟩:=h i h'
  exact⟨B,d,by rw [List.getElem?_append_left (by omega)];exact q1,q2⟩
 ·obtain rfl:i=k:=by omega
  exact⟨A,c,by rw [List.getElem?_append_right (by omega),hl];simp,h1,h2,hr⟩
end
def Bn (t:TypeId) (w:World) (F:Nat→Prop) (n:Nat) (xs:List Value) (most:Nat) (e:Ending) (w':World):Prop:=
 ∃K vals A m c v,e= .returned v∧w'.ownsRow w.heap.size t 1 v (K+1) (vals++ [.slice A m c])∧vals.length=K∧j4 w' F xs most K vals∧
  n=K*most+m∧m≤most∧(K=0∨0<m)∧m≤c∧c≤maxLen∧Rd w' F 2 A m (xs.drop (K*most*2))∧Below w.heap.size w w'
theorem GX:(prog.info? 37).map (fun i=>(i.zero,i.size,i.bytes))=some (some (.slice none 0 0),1,24):=by kernel_rfl
theorem GY:(prog.info? 215).map (fun i=>(i.zero,i.size,i.bytes))=some (some (.slice none 0 0),1,24):=by kernel_rfl
theorem Bo (A:Option Addr) (n c:Nat) (most:Nat) (F:Nat→Prop) (xs:List Value) (w:World) (h:Rd w F 2 A n xs) (hnc:n≤c) (hcm:c≤maxLen) (hm:1≤most) (hm2:most≤1152921504606) (hn2:n≤1152921504606):
  Calls prog 121 #[.slice A n c,.int .i64 most] w (Bn 37 w F n xs most):=by
 obtain⟨i0,hi0,jO,jP,jQ⟩:=info_parts GX;have HH:=aa h;clear h;go_enter func121,ntmps121
 go_wp2
 go_loopg [0,5] n (fun g l vs wr=>∃(k m c':Nat) (v:Value) (vals:List Value) (B:Option Addr),g=m∧Hid (n=k*most+m)∧k≤n∧l= .slice B m c'∧v=vs∧m≤c'∧c'≤maxLen∧(k=0∨0<m)∧wr.ownsRow w.heap.size 37 1 v k vals∧j4 w F xs most k vals∧Rd w F 2 B m (xs.drop (k*most*2))∧Below w.heap.size w wr)
 case atStart=>exact⟨0,n,c,_,[],A,rfl,aa (by omega),by omega,rfl,rfl,hnc,hcm,.inl rfl,World.ownsRow_nil _ _ _ _,fun i hi=>absurd hi (by omega),by simpa using HH.out,Below.refl _ _⟩
 case round=>
  obtain⟨k,m,c',v,vals,B,hg,hnk,hkn,rfl,rfl,hmc,hcm',hk0,hown,RL,hrd,hbl⟩:=hrel;have HG:=aa hg;have HO:=aa hown;have HP:=aa RL;have HR:=aa hrd;have hsz:=hbl.size;simp only [maxLen] at hcm';clear hg
  by_cases hlt:most<m
  ·obtain⟨b,o,rfl,AB,_⟩:=hrd.2 (by omega);have hne:¬c'=most:=by omega
   clear hown RL hrd;go_wp2_with (at_builtin;refine af _ rfl (.tmp 10) (.tmp 15) _ rfl w.heap.size 37 i0 _ 1 24 underlying129 hi0 jO jP jQ rfl (by omega) v k vals rfl (HO.alloc _) (From wr.heap.size) (some ⟨wr.heap.size,0,none⟩) 1 1 [.slice (some ⟨b,o,none⟩) most most] rfl (Rd.one wr _ _) (by intro u hu;simp at hu;subst hu;rfl) (by simp only [maxLen];omega) (by omega) (by simp;omega) ?_;intro v2 w2 hown2 hg2 gP)
   go_roundg (m-most)
   case measure=>have:=HG.out;omega
   case rel=>
    refine⟨k+1,m-most,c'-most,v2,vals++ [.slice (some ⟨b,o,none⟩) most most],some ⟨b,o+most*2,none⟩,rfl,aa (by have:=hnk.out;rw [Nat.add_mul];omega),?_,rfl,rfl,by omega,by simp only [maxLen];omega,.inr (by omega),hown2,HP.push (by have:=HO.out.1;omega) (Nat.le_refl _) (by simp only [maxLen];omega) (HR.take (by omega)),?_,(hbl.alloc hsz _).grown hg2 (by simp;omega) (fun q hq=>(ah HO q hq).1)⟩
    ·have h1:=hnk.out;have h2:(k+1)*1≤(k+1)*most:=Nat.mul_le_mul_left _ hm;rw [Nat.add_mul] at h2;rw [Nat.add_mul (n:=k)] at h2
     omega
    ·have hc:=HR.out.cut (k:=most) (cap:=c') (by omega) hmc;rw [if_neg hne,Option.map_some,iP,List.drop_drop] at hc;have he:k*most*2+most*2=(k+1)*most*2:=by rw [Nat.add_mul,Nat.add_mul];omega
     rwa [he] at hc
  ·clear hown RL hrd;go_wp2_with (at_builtin;refine af _ rfl (.tmp 20) (.tmp 22) _ rfl w.heap.size 37 i0 _ 1 24 underlying129 hi0 jO jP jQ rfl (by omega) v k vals rfl (HO.alloc _) (From wr.heap.size) (some ⟨wr.heap.size,0,none⟩) 1 1 [.slice B m c'] rfl (Rd.one wr _ _) (by intro u hu;simp at hu;subst hu;rfl) (by simp only [maxLen];omega) (by omega) (by simp;omega) ?_;intro v2 w2 hown2 hg2 gP)
   have HB:=aa ((hbl.alloc hsz (.cells #[.slice B m c'] 37)).grown hg2 (by simp;omega) (fun q hq=>(ah HO q hq).1));have iV:=aa hown2;clear hown2 hg2 gP;go_ret
   refine⟨k,vals,B,m,c',v2,rfl,iV,by have:=HO.out.1;omega,?_,hnk.out,by omega,hk0,hmc,by simp only [maxLen];omega,?_,HB⟩
   ·exact HP.below HB
   ·exact HR.below HB
theorem zC (A:Option Addr) (n c:Nat) (most:Nat) (F:Nat→Prop) (xs:List Value) (w:World) (h:Rd w F 2 A n xs) (hnc:n≤c) (hcm:c≤maxLen) (hm:1≤most) (hm2:most≤1152921504606) (hn2:n≤1152921504606):
  Calls prog 124 #[.slice A n c,.int .i64 most] w (Bn 215 w F n xs most):=by
 obtain⟨i0,hi0,jO,jP,jQ⟩:=info_parts GY;have HH:=aa h;clear h;go_enter func124,ntmps124
 go_wp2
 go_loopg [0,5] n (fun g l vs wr=>∃(k m c':Nat) (v:Value) (vals:List Value) (B:Option Addr),g=m∧Hid (n=k*most+m)∧k≤n∧l= .slice B m c'∧v=vs∧m≤c'∧c'≤maxLen∧(k=0∨0<m)∧wr.ownsRow w.heap.size 215 1 v k vals∧j4 w F xs most k vals∧Rd w F 2 B m (xs.drop (k*most*2))∧Below w.heap.size w wr)
 case atStart=>exact⟨0,n,c,_,[],A,rfl,aa (by omega),by omega,rfl,rfl,hnc,hcm,.inl rfl,World.ownsRow_nil _ _ _ _,fun i hi=>absurd hi (by omega),by simpa using HH.out,Below.refl _ _⟩
 case round=>
  obtain⟨k,m,c',v,vals,B,hg,hnk,hkn,rfl,rfl,hmc,hcm',hk0,hown,RL,hrd,hbl⟩:=hrel;have HG:=aa hg;have HO:=aa hown;have HP:=aa RL;have HR:=aa hrd;have hsz:=hbl.size;simp only [maxLen] at hcm';clear hg
  by_cases hlt:most<m
  ·obtain⟨b,o,rfl,AB,_⟩:=hrd.2 (by omega);have hne:¬c'=most:=by omega
   clear hown RL hrd;go_wp2_with (at_builtin;refine af _ rfl (.tmp 10) (.tmp 15) _ rfl w.heap.size 215 i0 _ 1 24 underlying245 hi0 jO jP jQ rfl (by omega) v k vals rfl (HO.alloc _) (From wr.heap.size) (some ⟨wr.heap.size,0,none⟩) 1 1 [.slice (some ⟨b,o,none⟩) most most] rfl (Rd.one wr _ _) (by intro u hu;simp at hu;subst hu;rfl) (by simp only [maxLen];omega) (by omega) (by simp;omega) ?_;intro v2 w2 hown2 hg2 gP)
   go_roundg (m-most)
   case measure=>have:=HG.out;omega
   case rel=>
    refine⟨k+1,m-most,c'-most,v2,vals++ [.slice (some ⟨b,o,none⟩) most most],some ⟨b,o+most*2,none⟩,rfl,aa (by have:=hnk.out;rw [Nat.add_mul];omega),?_,rfl,rfl,by omega,by simp only [maxLen];omega,.inr (by omega),hown2,HP.push (by have:=HO.out.1;omega) (Nat.le_refl _) (by simp only [maxLen];omega) (HR.take (by omega)),?_,(hbl.alloc hsz _).grown hg2 (by simp;omega) (fun q hq=>(ah HO q hq).1)⟩
    ·have h1:=hnk.out;have h2:(k+1)*1≤(k+1)*most:=Nat.mul_le_mul_left _ hm;rw [Nat.add_mul] at h2;rw [Nat.add_mul (n:=k)] at h2
     omega
    ·have hc:=HR.out.cut (k:=most) (cap:=c') (by omega) hmc;rw [if_neg hne,Option.map_some,iP,List.drop_drop] at hc;have he:k*most*2+most*2=(k+1)*most*2:=by rw [Nat.add_mul,Nat.add_mul];omega
     rwa [he] at hc
  ·clear hown RL hrd;go_wp2_with (at_builtin;refine af _ rfl (.tmp 20) (.tmp 22) _ rfl w.heap.size 215 i0 _ 1 24 underlying245 hi0 jO jP jQ rfl (by omega) v k vals rfl (HO.alloc _) (From wr.heap.size) (some ⟨wr.heap.size,0,none⟩) 1 1 [.slice B m c'] rfl (Rd.one wr _ _) (by intro u hu;simp at hu;subst hu;rfl) (by simp only [maxLen];omega) (by omega) (by simp;omega) ?_;intro v2 w2 hown2 hg2 gP)
   have HB:=aa ((hbl.alloc hsz (.cells #[.slice B m c'] 215)).grown hg2 (by simp;omega) (fun q hq=>(ah HO q hq).1));have iV:=aa hown2;clear hown2 hg2 gP;go_ret
   refine⟨k,vals,B,m,c',v2,rfl,iV,by have:=HO.out.1;omega,?_,hnk.out,by omega,hk0,hmc,by simp only [maxLen];omega,?_,HB⟩
   ·exact HP.below HB
   ·exact HR.below HB
end
end Go.Proofs.YtbjgeidjmhialaaGreatDoor
