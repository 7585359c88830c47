/- Part 14. -/
import Derived.Test.YtbjgeidjmhialaaGreatDoorLa13
import Derived.Deep.RegionWith
import Derived.Deep.CutRange
import Derived.Deep.DeepCutAuto
namespace Go.Proofs.YtbjgeidjmhialaaGreatDoor
set_option maxRecDepth 100000
set_option maxHeartbeats 8000000
section
open Go.Proofs.Tryz
open Go.RowKit
def Small (nd:Nd):Prop:=nd.high.length≤1152921504606∧nd.keys.length≤1152921504606∧nd.vals.length≤1152921504606∧nd.kids.length≤1152921504606∧(∀t∈nd.keys,t.length≤1152921504606)∧(∀t∈nd.vals,t.length≤1152921504606)
theorem tV {w0 w1:World} {B:Nat} {v1 v2 v3 v4:Value} (hb:Below w0.heap.size w0 w1)
  (h:w0.cell? ⟨B,1,none⟩=some v1∧w0.cell? ⟨B,3,none⟩=some v2∧w0.cell? ⟨B,4,none⟩=some v3∧w0.cell? ⟨B,5,none⟩=some v4):
  w1.cell? ⟨B,1,none⟩=some v1∧w1.cell? ⟨B,3,none⟩=some v2∧w1.cell? ⟨B,4,none⟩=some v3∧w1.cell? ⟨B,5,none⟩=some v4:=
 ⟨ak hb h.1,ak hb h.2.1,ak hb h.2.2.1,ak hb h.2.2.2⟩
def FL (w:World) (nd:Nd) (e:Ending) (w':World):Prop:=
 ∃hA hn hc kA kn kc vA vn vc dA dn dc,e= .returned (.agg #[.int .i64 nd.lev,.slice hA hn hc,.int .i64 nd.right,.slice kA kn kc,.slice vA vn vc,.slice dA dn dc])∧
  Bt w' (From w.heap.size) hA hn hc nd.high∧Tx w' (From w.heap.size) kA kn kc nd.keys∧Tx w' (From w.heap.size) vA vn vc nd.vals∧It w' (From w.heap.size) dA dn dc nd.kids∧Below w.heap.size w w'
def vM (w:World) (nd:Nd) (e:Ending) (w':World):Prop:=
 ∃hA hn hc kA kn kc vA vn vc dA dn dc g hi,e= .returned (.agg #[.int .i64 nd.lev,.slice hA hn hc,.int .i64 nd.right,.slice kA kn kc,.slice vA vn vc,.slice dA dn dc])∧w.heap.size≤g∧
  Bt w' (fF (From w.heap.size) w') hA hn hc nd.high∧EZ w' g hi kA kn kc nd.keys∧Tx w' (From w.heap.size) vA vn vc nd.vals∧It w' (fF (From hi) w') dA dn dc nd.kids∧Below w.heap.size w w'
theorem vM.new {w w':World} {nd:Nd} {e:Ending} (h:vM w nd e w'):FL w nd e w':=by
 obtain⟨hA,hn,hc,kA,kn,kc,vA,vn,vc,dA,dn,dc,g,hi,h0,hg,h1,h2,h3,h4,h5⟩:=h;exact⟨hA,hn,hc,kA,kn,kc,vA,vn,vc,dA,dn,dc,h0,h1.weak (fun b hb=>hb.1),h2.tx hg,h3,h4.weak (fun b hb=>by have hb:=hb.1;have:=h2.2.2.2.2.1;simp only [From] at hb⊢;omega),h5⟩
theorem uo (nd:Nd) (F:Nat→Prop) (hA kA vA dA:Option Addr) (hn hc kn kc vn vc dn dc:Nat) (w:World)
  (h1:Bt w F hA hn hc nd.high) (h2:Tx w F kA kn kc nd.keys) (h3:Tx w F vA vn vc nd.vals) (h4:It w F dA dn dc nd.kids) (hs:Small nd):
  Calls prog 81 #[.agg #[.int .i64 nd.lev,.slice hA hn hc,.int .i64 nd.right,.slice kA kn kc,.slice vA vn vc,.slice dA dn dc]] w (vM w nd):=by
 have H1:=aa h1;have H2:=aa h2;have H3:=aa h3;have H4:=aa h4;have HS:=aa hs;have l1:hn≤1152921504606:=by have:=h1.len;have:=hs.1;omega
 have l2:kn≤1152921504606:=by have:=h2.len;have:=hs.2.1;omega
 have l3:vn≤1152921504606:=by have:=h3.len;have:=hs.2.2.1;omega
 have l4:dn≤1152921504606:=by have:=h4.len;have:=hs.2.2.2.1;omega
 clear h1 h2 h3 h4 hs;go_enter func81,ntmps81
 go_wp2_with fail
 refine aM (fun w'=>w'.cell? ⟨w.heap.size,1,none⟩=some (.slice hA hn hc)∧w'.cell? ⟨w.heap.size,3,none⟩=some (.slice kA kn kc)∧w'.cell? ⟨w.heap.size,4,none⟩=some (.slice vA vn vc)∧w'.cell? ⟨w.heap.size,5,none⟩=some (.slice dA dn dc)) 18 (by kernel_rfl) ?_;obtain⟨w0,hw0⟩:∃w0,w0=((w.alloc (.cells #[.int .i64 nd.lev,.slice hA hn hc,.int .i64 nd.right,.slice kA kn kc,.slice vA vn vc,.slice dA dn dc] 104)).alloc (.cells #[.int .i64 0,.slice none 0 0,.int .i64 0,.slice none 0 0,.slice none 0 0,.slice none 0 0] 104)).drew:=⟨_,rfl⟩;rw [←hw0]
 have S0:w0.cell? ⟨w.heap.size,1,none⟩=some (.slice hA hn hc)∧w0.cell? ⟨w.heap.size,3,none⟩=some (.slice kA kn kc)∧w0.cell? ⟨w.heap.size,4,none⟩=some (.slice vA vn vc)∧w0.cell? ⟨w.heap.size,5,none⟩=some (.slice dA dn dc):=by
  subst hw0;simp
 have hb0:Below w.heap.size w w0:=by subst hw0;exact(((Below.refl _ _).alloc (Nat.le_refl _) _).alloc (by simp) _).drew
 have kb0:ai w0 w.heap.size 104 #[.int .i64 nd.lev,.slice hA hn hc,.int .i64 nd.right,.slice kA kn kc,.slice vA vn vc,.slice dA dn dc]:=by subst hw0;exact((ai.new _ _ _).alloc _).drew
 have kb1:ai w0 (w.heap.size+1) 104 #[.int .i64 0,.slice none 0 0,.int .i64 0,.slice none 0 0,.slice none 0 0,.slice none 0 0]:=by subst hw0;simpa using (ai.new (w.alloc (.cells #[.int .i64 nd.lev,.slice hA hn hc,.int .i64 nd.right,.slice kA kn kc,.slice vA vn vc,.slice dA dn dc] 104)) 104 #[.int .i64 0,.slice none 0 0,.int .i64 0,.slice none 0 0,.slice none 0 0,.slice none 0 0]).drew
 clear hw0;refine bS (i:=0) (v:= ?_) rfl (by kernel_rfl) (by kernel_rfl) (by kernel_rfl) (by kernel_rfl) (fun _ _ _ h=>h) (fun _=>S0) (Or.inl ⟨by rfl,?_⟩) ?_
 rotate_left
 ·intro w hSw;go_simp
  try with_reducible rfl
 try simp only [Act.put,List.setIfInBounds_toArray,List.set_cons_zero,List.set_cons_succ]
 refine bS (i:=1) (v:= ?_) rfl (by kernel_rfl) (by kernel_rfl) (by kernel_rfl) (by kernel_rfl) (fun _ _ _ h=>h) (fun _=>S0) (Or.inl ⟨by rfl,?_⟩) ?_
 rotate_left
 ·intro w hSw;go_simp
  try with_reducible rfl
 try simp only [Act.put,List.setIfInBounds_toArray,List.set_cons_zero,List.set_cons_succ]
 refine bS (i:=4) (v:= ?_) rfl (by kernel_rfl) (by kernel_rfl) (by kernel_rfl) (by kernel_rfl) (fun _ _ _ h=>h) (fun _=>S0) (Or.inl ⟨by rfl,?_⟩) ?_
 rotate_left
 ·intro w hSw;go_simp
  try with_reducible rfl
 try simp only [Act.put,List.setIfInBounds_toArray,List.set_cons_zero,List.set_cons_succ]
 refine bS (i:=5) (v:= ?_) rfl (by kernel_rfl) (by kernel_rfl) (by kernel_rfl) (by kernel_rfl) (fun _ _ _ h=>h) (fun _=>S0) (Or.inl ⟨by rfl,?_⟩) ?_
 rotate_left
 ·intro w hSw;go_simp
  try with_reducible rfl
 try simp only [Act.put,List.setIfInBounds_toArray,List.set_cons_zero,List.set_cons_succ]
 refine bS (i:=8) (v:= ?_) rfl (by kernel_rfl) (by kernel_rfl) (by kernel_rfl) (by kernel_rfl) (fun _ _ _ h=>h) (fun _=>S0) (Or.inl ⟨by rfl,?_⟩) ?_
 rotate_left
 ·intro w hSw;go_simp
  try with_reducible rfl
 try simp only [Act.put,List.setIfInBounds_toArray,List.set_cons_zero,List.set_cons_succ]
 refine bS (i:=9) (v:= ?_) rfl (by kernel_rfl) (by kernel_rfl) (by kernel_rfl) (by kernel_rfl) (fun _ _ _ h=>h) (fun _=>S0) (Or.inl ⟨by rfl,?_⟩) ?_
 rotate_left
 ·intro w hSw;go_simp
  try with_reducible rfl
 try simp only [Act.put,List.setIfInBounds_toArray,List.set_cons_zero,List.set_cons_succ]
 refine bS (i:=12) (v:= ?_) rfl (by kernel_rfl) (by kernel_rfl) (by kernel_rfl) (by kernel_rfl) (fun _ _ _ h=>h) (fun _=>S0) (Or.inl ⟨by rfl,?_⟩) ?_
 rotate_left
 ·intro w hSw;go_simp
  try with_reducible rfl
 try simp only [Act.put,List.setIfInBounds_toArray,List.set_cons_zero,List.set_cons_succ]
 refine bS (i:=13) (v:= ?_) rfl (by kernel_rfl) (by kernel_rfl) (by kernel_rfl) (by kernel_rfl) (fun _ _ _ h=>h) (fun _=>S0) (Or.inl ⟨by rfl,?_⟩) ?_
 rotate_left
 ·intro w hSw;go_simp
  try with_reducible rfl
 try simp only [Act.put,List.setIfInBounds_toArray,List.set_cons_zero,List.set_cons_succ]
 refine mh (i:=2) (v:= ?_) rfl (by kernel_rfl) (by kernel_rfl) (by kernel_rfl) (by kernel_rfl) (fun _ _ _ h=>h) S0 (Or.inl ⟨by rfl,?_⟩) ?_
 rotate_left
 ·intro w hSw;obtain⟨s1,s3,s4,s5⟩:=hSw;go_simp
  try with_reducible rfl
 try simp only [Act.put,List.setIfInBounds_toArray,List.set_cons_zero,List.set_cons_succ]
 refine mh (i:=6) (v:= ?_) rfl (by kernel_rfl) (by kernel_rfl) (by kernel_rfl) (by kernel_rfl) (fun _ _ _ h=>h) S0 (Or.inl ⟨by rfl,?_⟩) ?_
 rotate_left
 ·intro w hSw;obtain⟨s1,s3,s4,s5⟩:=hSw;go_simp
  try with_reducible rfl
 try simp only [Act.put,List.setIfInBounds_toArray,List.set_cons_zero,List.set_cons_succ]
 refine mh (i:=10) (v:= ?_) rfl (by kernel_rfl) (by kernel_rfl) (by kernel_rfl) (by kernel_rfl) (fun _ _ _ h=>h) S0 (Or.inl ⟨by rfl,?_⟩) ?_
 rotate_left
 ·intro w hSw;obtain⟨s1,s3,s4,s5⟩:=hSw;go_simp
  try with_reducible rfl
 try simp only [Act.put,List.setIfInBounds_toArray,List.set_cons_zero,List.set_cons_succ]
 refine mh (i:=14) (v:= ?_) rfl (by kernel_rfl) (by kernel_rfl) (by kernel_rfl) (by kernel_rfl) (fun _ _ _ h=>h) S0 (Or.inl ⟨by rfl,?_⟩) ?_
 rotate_left
 ·intro w hSw;obtain⟨s1,s3,s4,s5⟩:=hSw;go_simp
  try with_reducible rfl
 try simp only [Act.put,List.setIfInBounds_toArray,List.set_cons_zero,List.set_cons_succ]
 refine az (i:=3) (by kernel_rfl) rfl (fun K hK=> ?_);go_simp
 refine(dm _ _ _ F nd.high _ (H1.2.2.2.below hb0) H1.2.2.1 l1).mono ?_;rintro e w1 ⟨A1,n1,c1,rfl,p1,p2,p3,p4,hb1⟩;have S1:=tV hb1 S0;have hB1:=hb0.trans (hb1.mono hb0.size);refine hK.out _ _ (fun _=>S1) ?_;clear hK K;try simp only [Act.put,List.setIfInBounds_toArray,List.set_cons_zero,List.set_cons_succ]
 refine bS (i:=16) (v:= ?_) rfl (by kernel_rfl) (by kernel_rfl) (by kernel_rfl) (by kernel_rfl) (fun _ _ _ h=>h) (fun _=>S1) (Or.inl ⟨by rfl,?_⟩) ?_
 rotate_left
 ·intro w hSw;go_simp
  try with_reducible rfl
 try simp only [Act.put,List.setIfInBounds_toArray,List.set_cons_zero,List.set_cons_succ]
 refine bS (i:=17) (v:= ?_) rfl (by kernel_rfl) (by kernel_rfl) (by kernel_rfl) (by kernel_rfl) (fun _ _ _ h=>h) (fun _=>S1) (Or.inl ⟨by rfl,?_⟩) ?_
 rotate_left
 ·intro w hSw;go_simp
  try with_reducible rfl
 try simp only [Act.put,List.setIfInBounds_toArray,List.set_cons_zero,List.set_cons_succ]
 refine az (i:=7) (by kernel_rfl) rfl (fun K hK=> ?_);go_simp
 refine(xE _ _ _ F nd.keys _ (H2.below hB1) l2 HS.2.2.2.2.1).mono ?_;rintro e w2 ⟨A2,n2,c2,rfl,q2,hb2⟩;have S2:=tV hb2 S1;have hB2:=hB1.trans (hb2.mono hB1.size);refine hK.out _ _ (fun _=>S2) ?_;clear hK K;try simp only [Act.put,List.setIfInBounds_toArray,List.set_cons_zero,List.set_cons_succ]
 refine az (i:=11) (by kernel_rfl) rfl (fun K hK=> ?_);go_simp
 refine(xE _ _ _ F nd.vals _ (H3.below hB2) l3 HS.2.2.2.2.2).mono ?_;rintro e w3 ⟨A3,n3,c3,rfl,q3,hb3⟩;have S3:=tV hb3 S2;have hB3:=hB2.trans (hb3.mono hB2.size);refine hK.out _ _ (fun _=>S3) ?_;clear hK K;try simp only [Act.put,List.setIfInBounds_toArray,List.set_cons_zero,List.set_cons_succ]
 refine az (i:=15) (by kernel_rfl) rfl (fun K hK=> ?_);go_simp
 refine(nG _ _ _ F (nd.kids.map (Value.int .i64)) _ (H4.2.2.2.below hB3) (MI _) l4).mono ?_;rintro e w4 ⟨A4,c4,rfl,r1,r2,r3,hb4⟩;have S4:=tV hb4 S3;have hB4:=hB3.trans (hb4.mono hB3.size);refine hK.out _ _ (fun _=>S4) ?_;clear hK K;try simp only [Act.put,List.setIfInBounds_toArray,List.set_cons_zero,List.set_cons_succ]
 have k0:=((((kb0.below hb1).below hb2).below hb3).below hb4);have k1:=((((kb1.below hb1).below hb2).below hb3).below hb4);have z0:w4.cell? ⟨w.heap.size,0,none⟩=some (.int .i64 nd.lev):=by rw [k0.cell];rfl
 have z2:w4.cell? ⟨w.heap.size,2,none⟩=some (.int .i64 nd.right):=by rw [k0.cell];rfl
 obtain⟨z1,z3,z4,z5⟩:=S4;have f0:∀o,w4.frozen? ⟨w.heap.size,o,none⟩=false:=k0.frozen;have f1:∀o,w4.frozen? ⟨w.heap.size+1,o,none⟩=false:=k1.frozen;have y0:w4.cell? ⟨w.heap.size+1,0,none⟩=some (.int .i64 0):=by rw [k1.cell];rfl
 have y1:w4.cell? ⟨w.heap.size+1,1,none⟩=some (.slice none 0 0):=by rw [k1.cell];rfl
 have y2:w4.cell? ⟨w.heap.size+1,2,none⟩=some (.int .i64 0):=by rw [k1.cell];rfl
 have y3:w4.cell? ⟨w.heap.size+1,3,none⟩=some (.slice none 0 0):=by rw [k1.cell];rfl
 have y4:w4.cell? ⟨w.heap.size+1,4,none⟩=some (.slice none 0 0):=by rw [k1.cell];rfl
 have y5:w4.cell? ⟨w.heap.size+1,5,none⟩=some (.slice none 0 0):=by rw [k1.cell];rfl
 refine az (i:=18) (by kernel_rfl) rfl (fun K hK=> ?_);go_simp
 refine hK.out _ _ (fun h=>absurd h (by decide)) ?_;clear hK K;try simp only [Act.put,List.setIfInBounds_toArray,List.set_cons_zero,List.set_cons_succ]
 refine bS (i:=19) (v:= ?_) rfl (by kernel_rfl) (by kernel_rfl) (by kernel_rfl) (by kernel_rfl) (fun _ _ _ h=>h) (fun h=>absurd h (by decide)) (Or.inl ⟨by rfl,?_⟩) ?_
 rotate_left
 ·intro w hSw;go_simp
  try with_reducible rfl
 try simp only [Act.put,List.setIfInBounds_toArray,List.set_cons_zero,List.set_cons_succ]
 refine bS (i:=20) (v:= ?_) rfl (by kernel_rfl) (by kernel_rfl) (by kernel_rfl) (by kernel_rfl) (fun _ _ _ h=>h) (fun h=>absurd h (by decide)) (Or.inl ⟨by rfl,?_⟩) ?_
 rotate_left
 ·intro w hSw;go_simp
  try with_reducible rfl
 try simp only [Act.put,List.setIfInBounds_toArray,List.set_cons_zero,List.set_cons_succ]
 refine az (i:=21) (by kernel_rfl) rfl (fun K hK=> ?_);go_simp
 refine hK.out _ _ (fun h=>absurd h (by decide)) ?_;clear hK K;try simp only [Act.put,List.setIfInBounds_toArray,List.set_cons_zero,List.set_cons_succ]
 refine bS (i:=22) (v:= ?_) rfl (by kernel_rfl) (by kernel_rfl) (by kernel_rfl) (by kernel_rfl) (fun _ _ _ h=>h) (fun h=>absurd h (by decide)) (Or.inl ⟨by rfl,?_⟩) ?_
 rotate_left
 ·intro w hSw;go_simp
  try with_reducible rfl
 try simp only [Act.put,List.setIfInBounds_toArray,List.set_cons_zero,List.set_cons_succ]
 refine bS (i:=23) (v:= ?_) rfl (by kernel_rfl) (by kernel_rfl) (by kernel_rfl) (by kernel_rfl) (fun _ _ _ h=>h) (fun h=>absurd h (by decide)) (Or.inl ⟨by rfl,?_⟩) ?_
 rotate_left
 ·intro w hSw;go_simp
  try with_reducible rfl
 try simp only [Act.put,List.setIfInBounds_toArray,List.set_cons_zero,List.set_cons_succ]
 refine az (i:=24) (by kernel_rfl) rfl (fun K hK=> ?_);go_simp
 refine hK.out _ _ (fun h=>absurd h (by decide)) ?_;clear hK K;try simp only [Act.put,List.setIfInBounds_toArray,List.set_cons_zero,List.set_cons_succ]
 refine bS (i:=25) (v:= ?_) rfl (by kernel_rfl) (by kernel_rfl) (by kernel_rfl) (by kernel_rfl) (fun _ _ _ h=>h) (fun h=>absurd h (by decide)) (Or.inl ⟨by rfl,?_⟩) ?_
 rotate_left
 ·intro w hSw;go_simp
  try with_reducible rfl
 try simp only [Act.put,List.setIfInBounds_toArray,List.set_cons_zero,List.set_cons_succ]
 refine bS (i:=26) (v:= ?_) rfl (by kernel_rfl) (by kernel_rfl) (by kernel_rfl) (by kernel_rfl) (fun _ _ _ h=>h) (fun h=>absurd h (by decide)) (Or.inl ⟨by rfl,?_⟩) ?_
 rotate_left
 ·intro w hSw;go_simp
  try with_reducible rfl
 try simp only [Act.put,List.setIfInBounds_toArray,List.set_cons_zero,List.set_cons_succ]
 refine az (i:=27) (by kernel_rfl) rfl (fun K hK=> ?_);go_simp
 refine hK.out _ _ (fun h=>absurd h (by decide)) ?_;clear hK K;try simp only [Act.put,List.setIfInBounds_toArray,List.set_cons_zero,List.set_cons_succ]
 refine bL (by kernel_rfl) ?_ _;go_wp2;refine bodyPost_ret (v:= .agg #[.int .i64 nd.lev,.slice A1 n1 c1,.int .i64 nd.right,.slice A2 n2 c2,.slice A3 n3 c3,.slice A4 dn c4]) (by simp [results,results81,go_sem, *]) rfl ?_
 have hch:ag (fun b=>w.heap.size≤b∧b≤w.heap.size+1) w4 ((((((((((w4.setCell ⟨w.heap.size,1,none⟩ (.slice A1 n1 c1)).setCell ⟨w.heap.size,3,none⟩ (.slice A2 n2 c2)).setCell ⟨w.heap.size,4,none⟩ (.slice A3 n3 c3)).setCell ⟨w.heap.size,5,none⟩ (.slice A4 dn c4)).setCell ⟨w.heap.size+1,0,none⟩ (.int .i64 nd.lev)).setCell ⟨w.heap.size+1,1,none⟩ (.slice A1 n1 c1)).setCell ⟨w.heap.size+1,2,none⟩ (.int .i64 nd.right)).setCell ⟨w.heap.size+1,3,none⟩ (.slice A2 n2 c2)).setCell ⟨w.heap.size+1,4,none⟩ (.slice A3 n3 c3)).setCell ⟨w.heap.size+1,5,none⟩ (.slice A4 dn c4)):=by
  repeat (refine ag.setCell ?_ (p:=⟨_,_,none⟩) (fun _=>by simp) _)
  exact ag.refl _ _
 have hn:∀b,From (w.heap.size+2) b→¬(w.heap.size≤b∧b≤w.heap.size+1):=fun b hb h=>by have hb:w.heap.size+2≤b:=hb;omega
 have z0:w.heap.size+2≤w0.heap.size:=by have:=kb1.lt;omega
 have z1:=hb1.size;have z2:=hb2.size;have z3:=hb3.size;have g1:Bt w4 (fF (From (w.heap.size+2)) w4) A1 n1 c1 nd.high:=((((show Bt w1 (fF (From w0.heap.size) w1) A1 n1 c1 nd.high from⟨p1,p2,p3,p4⟩).soft_below hb2).soft_below hb3).soft_below hb4).weak (fF.weak (fun b hb=>by have hb:w0.heap.size≤b:=hb;show w.heap.size+2≤b;omega));have g2:EZ w4 w1.heap.size w2.heap.size A2 n2 c2 nd.keys:=(q2.below hb3).below hb4;have g3:Tx w4 (From (w.heap.size+2)) A3 n3 c3 nd.vals:=((q3.tx (Nat.le_refl _)).below hb4).weak (fun b hb=>by have hb:w2.heap.size≤b:=hb;show w.heap.size+2≤b;omega);have g4:It w4 (fF (From w2.heap.size) w4) A4 dn c4 nd.kids:=⟨r1,r2,H4.2.2.1,r3.weak (fF.weak (fun b hb=>by have hb:w3.heap.size≤b:=hb;show w2.heap.size≤b;omega))⟩;have up:∀b,From (w.heap.size+2) b→From w.heap.size b:=fun b hb=>by have hb:w.heap.size+2≤b:=hb;show w.heap.size≤b;omega
 exact⟨_,_,_,_,_,_,_,_,_,_,_,_,w1.heap.size,w2.heap.size,rfl,by omega,(g1.soft_chg hch hn).weak (fF.weak up),g2.chg hch (fun b h1 _ h=>by omega),(g3.chg hch hn).weak up,g4.soft_chg hch (fun b hb h=>by simp only [From] at hb;omega),hB4.trans (hch.below_of hB4.size (fun b hb h=>by omega))⟩
theorem ut (nd:Nd) (F:Nat→Prop) (hA kA vA dA:Option Addr) (hn hc kn kc vn vc dn dc:Nat) (w:World)
  (h1:Bt w F hA hn hc nd.high) (h2:Tx w F kA kn kc nd.keys) (h3:Tx w F vA vn vc nd.vals) (h4:It w F dA dn dc nd.kids) (hs:Small nd):
  Calls prog 81 #[.agg #[.int .i64 nd.lev,.slice hA hn hc,.int .i64 nd.right,.slice kA kn kc,.slice vA vn vc,.slice dA dn dc]] w (FL w nd):=
 (uo nd F hA kA vA dA hn hc kn kc vn vc dn dc w h1 h2 h3 h4 hs).mono fun _ _ h=>h.new
end
section
open Go.RowKit
theorem Z8 (w:World) (g i:Nat) (u:Value):ag (jK g) w (w.setCell ⟨g,i,none⟩ u):=ag.set1 w g i u
theorem UD (w:World) (g i j:Nat) (u v:Value):ag (jK g) w ((w.setCell ⟨g,i,none⟩ u).setCell ⟨g,j,none⟩ v):=(Z8 w g i u).setCell (p:=⟨g,j,none⟩) (fun _=>rfl) v
end
section
open Go.Proofs.Tryz
open Go.RowKit
theorem zR (F:Nat→Prop) (p:Nat) (nodes root:Int) (sl:List bB) (A:Option Addr) (n c:Nat) (bs:List Nat) (id:Int) (w:World) (h:kG w F p nodes sl root A n c bs) (h1:1≤id) (h2:id≤n) (hn:n≤65536) (g:Nat) (hg:bs[id.toNat-1]? =some g):
  Calls prog 80 #[.pointer (some ⟨p,0,none⟩),.int .i64 id] w fun e w'=>e= .returned (.pointer (some ⟨g,0,none⟩))∧w=w':=by
 obtain⟨c0,c1,c2,cf⟩:=h.cells;obtain⟨r,g',rfl,hg',cr⟩:=h.at_ (k:=id.toNat-1) (by omega);rw [hg] at hg';injection hg' with hg'
 subst hg';clear hg h;go_enter func80,ntmps80
 go_wp2;go_ret
 exact⟨rfl,rfl⟩
theorem J8 (F:Nat→Prop) (p:Nat) (nodes root:Int) (sl:List bB) (A:Option Addr) (n c:Nat) (bs:List Nat) (id:Int) (w:World) (h:kG w F p nodes sl root A n c bs) (h1:id<1∨(n:Int)<id):
  Calls prog 80 #[.pointer (some ⟨p,0,none⟩),.int .i64 id] w fun e w'=>e= .returned (.pointer none)∧w=w':=by
 obtain⟨c0,c1,c2,cf⟩:=h.cells;clear h
 rcases Int.lt_or_le id 1 with h0|h0
 ·go_enter func80,ntmps80
  go_wp2;go_ret
  exact⟨rfl,rfl⟩
 ·have h3:(n:Int)<id:=by omega
  clear h1;go_enter func80,ntmps80
  go_wp2;go_ret
  exact⟨rfl,rfl⟩
theorem zS (a b c d e f:Value) (w:World):(Instr.field 104 (.agg #[a,b,c,d,e,f]) 0).run prog w= .ok (.agg #[a,b,c]) w:=by kernel_rfl
theorem zT (a b c d e f:Value) (w:World):(Instr.field 104 (.agg #[a,b,c,d,e,f]) 1).run prog w= .ok (.agg #[d,e,f]) w:=by kernel_rfl
theorem yg {w:World} {g:Nat} {t:TypeId} {v0 v1 v2 v3 v4 v5 v6:Value} (h:ai w g t #[v0,v1,v2,v3,v4,v5,v6]):
  w.cell? ⟨g,0,none⟩=some v0∧w.cell? ⟨g,1,none⟩=some v1∧w.cell? ⟨g,2,none⟩=some v2∧w.cell? ⟨g,3,none⟩=some v3∧w.cell? ⟨g,4,none⟩=some v4∧w.cell? ⟨g,5,none⟩=some v5∧w.cell? ⟨g,6,none⟩=some v6∧(∀o,w.frozen? ⟨g,o,none⟩=false):=
 ⟨by rw [h.cell];rfl,by rw [h.cell];rfl,by rw [h.cell];rfl,by rw [h.cell];rfl,by rw [h.cell];rfl,by rw [h.cell];rfl,by rw [h.cell];rfl,h.frozen⟩
theorem kG.slot_at {F:Nat→Prop} {w:World} {p:Nat} {nodes root:Int} {sl:List bB} {A:Option Addr} {n c:Nat} {bs:List Nat} (h:kG w F p nodes sl root A n c bs) {id:Int} (h1:1≤id) (h2:id≤n):
  ∃g s,bs[id.toNat-1]? =some g∧sl[id.toNat-1]? =some s∧F g∧eF w (fun b=>F b∧¬J9 p (.slice A n c) bs b) g s:=by
 have e1:n=sl.length:=h.len;have e2:bs.length=n:=h.blen;have l1:id.toNat-1<bs.length:=by omega
 have l2:id.toNat-1<sl.length:=by omega
 exact⟨bs[id.toNat-1],sl[id.toNat-1],List.getElem?_eq_getElem l1,List.getElem?_eq_getElem l2,h.fbs _ (List.getElem_mem l1),h.slot _ _ _ (List.getElem?_eq_getElem l1) (List.getElem?_eq_getElem l2)⟩
def zU (w:World) (lev:Int) (high:List UInt8) (right x:Int) (e:Ending) (w':World):Prop:=
 ∃A n c,e= .returned (.tuple #[.agg #[.int .i64 lev,.slice A n c,.int .i64 right],.int .i64 x])∧Bt w' (fF (From w.heap.size) w') A n c high∧Below w.heap.size w w'
def zW (w:World) (keys vals:List (List UInt8)) (kids:List Int) (x:Int) (e:Ending) (w':World):Prop:=
 ∃A n c B m d C l k,e= .returned (.tuple #[.agg #[.slice A n c,.slice B m d,.slice C l k],.int .i64 x])∧(keys= []∧n=0∧kids= []∧l=0∨∃g hi,w.heap.size≤g∧EZ w' g hi A n c keys∧It w' (fF (From hi) w') C l k kids)∧
  Tx w' (From w.heap.size) A n c keys∧Tx w' (From w.heap.size) B m d vals∧It w' (From w.heap.size) C l k kids∧Below w.heap.size w w'
theorem NQ (F:Nat→Prop) (p:Nat) (nodes root:Int) (sl:List bB) (id:Int) (s:bB) (w:World) (h:gm w F p nodes sl root) (h1:1≤id) (h2:id≤sl.length) (hn:sl.length≤65536) (hs:sl[id.toNat-1]? =some s) (hsm:s.2.high.length≤1152921504606):
  Calls prog 57 #[.pointer (some ⟨p,0,none⟩),.int .i64 id] w (zU w s.2.lev s.2.high s.2.right 0):=by
 obtain⟨A,n,c,bs,hY⟩:=h;have e1:n=sl.length:=hY.len;obtain⟨g,s',hg,hs',_,hx⟩:=hY.slot_at h1 (by omega);rw [hs] at hs';injection hs' with hs'
 subst hs';obtain⟨hA,hn',hc,kA,kn,kc,vA,vn,vc,dA,dn,dc,hb,q1,q2,q3,q4⟩:=hx;have b1:Below w.heap.size w (w.alloc (.cells #[.int .i64 0,.slice none 0 0,.int .i64 0] 99)):=(Below.refl _ _).alloc (Nat.le_refl _) _;obtain⟨z0,z1,z2,z3,z4,z5,z6,z7⟩:=yg (hb.below b1);have xg:=hY.below b1;have h3:id≤n:=by omega
 have h4:n≤65536:=by omega
 have HG:=aa hg;have Q1:=aa (q1.below b1);have tL:=aa hsm;clear hg hs h2 hn e1 hb q1 q2 q3 q4 hY hsm;have Rb:=zS;go_enter func57,ntmps57
 go_wp2_with (first|(go_at_call 80;refine(zR F p nodes root sl A n c bs id _ xg h1 h3 h4 g HG).mono ?_;rintro e w' ⟨rfl,rfl⟩)|(go_at_call 81;refine(uo ⟨s.2.lev,s.2.high,s.2.right,[],[],[]⟩ (fun b=>F b∧¬J9 p (.slice A n c) bs b) hA none none none hn' hc 0 0 0 0 0 0 _ Q1.out (Tx.nil _ _) (Tx.nil _ _) (It.nil _ _) ⟨tL,by simp,by simp,by simp,by simp,by simp⟩).mono ?_;rintro e w1 ⟨A1,n1,c1,A2,n2,c2,A3,n3,c3,A4,n4,c4,gk,hk,rfl,UC,r1,r2,r3,r4,hb1⟩;have y0:=ak (b:=w.heap.size) (o:=0) (v:= .int .i64 0) hb1 (by simp);have y1:=ak (b:=w.heap.size) (o:=1) (v:= .slice none 0 0) hb1 (by simp);have y2:=ak (b:=w.heap.size) (o:=2) (v:= .int .i64 0) hb1 (by simp);have yf:∀o,w1.frozen? ⟨w.heap.size,o,none⟩=false:=((ai.new w 99 #[.int .i64 0,.slice none 0 0,.int .i64 0]).below hb1).frozen))
 refine bodyPost_ret (v:= .tuple #[.agg #[.int .i64 s.2.lev,.slice A1 n1 c1,.int .i64 s.2.right],.int .i64 0]) (by simp [results,results57,go_sem, *]) rfl ?_;have hch:ag (jK w.heap.size) w1 (((w1.setCell ⟨w.heap.size,0,none⟩ (.int .i64 s.2.lev)).setCell ⟨w.heap.size,1,none⟩ (.slice A1 n1 c1)).setCell ⟨w.heap.size,2,none⟩ (.int .i64 s.2.right)):=(UD w1 w.heap.size 0 1 _ _).setCell (p:=⟨w.heap.size,2,none⟩) (fun _=>rfl) _;have hB1:=b1.trans (hb1.mono b1.size);have no:∀b,From (w.heap.size+1) b→¬jK w.heap.size b:=fun b hb e=>by simp only [From,jK] at hb e;omega
 refine⟨A1,n1,c1,rfl,((r1.weak (G:=fF (From (w.heap.size+1)) w1) (fF.weak (fun b hb=>by simpa [From] using hb))).soft_chg hch no).weak (fF.weak (fun b hb=> ?_)),hB1.trans (hch.below_of hB1.size (fun b hb e=> ?_))⟩
 ·simp only [From] at hb⊢;omega
 ·simp only [jK] at e;omega
theorem NR (F:Nat→Prop) (p:Nat) (nodes root:Int) (sl:List bB) (id:Int) (s:bB) (w:World) (h:gm w F p nodes sl root) (h1:1≤id) (h2:id≤sl.length) (hn:sl.length≤65536) (hs:sl[id.toNat-1]? =some s) (hsm:Small s.2):
  Calls prog 58 #[.pointer (some ⟨p,0,none⟩),.int .i64 id] w (zW w s.2.keys s.2.vals s.2.kids 0):=by
 obtain⟨A,n,c,bs,hY⟩:=h;have e1:n=sl.length:=hY.len;obtain⟨g,s',hg,hs',_,hx⟩:=hY.slot_at h1 (by omega);rw [hs] at hs';injection hs' with hs'
 subst hs';obtain⟨hA,hn',hc,kA,kn,kc,vA,vn,vc,dA,dn,dc,hb,q1,q2,q3,q4⟩:=hx;have b1:Below w.heap.size w (w.alloc (.cells #[.slice none 0 0,.slice none 0 0,.slice none 0 0] 102)):=(Below.refl _ _).alloc (Nat.le_refl _) _;obtain⟨z0,z1,z2,z3,z4,z5,z6,z7⟩:=yg (hb.below b1);have xg:=hY.below b1;have h3:id≤n:=by omega
 have h4:n≤65536:=by omega
 have HG:=aa hg;have Q2:=aa (q2.below b1);have Q3:=aa (q3.below b1);have Q4:=aa (q4.below b1);have tL:=aa hsm;clear hg hs h2 hn e1 hb q1 q2 q3 q4 hY hsm;have Rb:=zT;go_enter func58,ntmps58
 go_wp2_with (first|(go_at_call 80;refine(zR F p nodes root sl A n c bs id _ xg h1 h3 h4 g HG).mono ?_;rintro e w' ⟨rfl,rfl⟩)|(go_at_call 81;refine(uo ⟨0,[],0,s.2.keys,s.2.vals,s.2.kids⟩ (fun b=>F b∧¬J9 p (.slice A n c) bs b) none kA vA dA 0 0 kn kc vn vc dn dc _ (Bt.nil _ _) Q2.out Q3.out Q4.out ⟨by simp,tL.2.1,tL.2.2.1,tL.2.2.2.1,tL.2.2.2.2.1,tL.2.2.2.2.2⟩).mono ?_;rintro e w1 ⟨A1,n1,c1,A2,n2,c2,A3,n3,c3,A4,n4,c4,gk,hk,rfl,UC,r1,r2,r3,r4,hb1⟩;have y0:=ak (b:=w.heap.size) (o:=0) (v:= .slice none 0 0) hb1 (by simp);have y1:=ak (b:=w.heap.size) (o:=1) (v:= .slice none 0 0) hb1 (by simp);have y2:=ak (b:=w.heap.size) (o:=2) (v:= .slice none 0 0) hb1 (by simp);have yf:∀o,w1.frozen? ⟨w.heap.size,o,none⟩=false:=((ai.new w 102 #[.slice none 0 0,.slice none 0 0,.slice none 0 0]).below hb1).frozen))
 refine bodyPost_ret (v:= .tuple #[.agg #[.slice A2 n2 c2,.slice A3 n3 c3,.slice A4 n4 c4],.int .i64 0]) (by simp [results,results58,go_sem, *]) rfl ?_;have hch:ag (jK w.heap.size) w1 (((w1.setCell ⟨w.heap.size,0,none⟩ (.slice A2 n2 c2)).setCell ⟨w.heap.size,1,none⟩ (.slice A3 n3 c3)).setCell ⟨w.heap.size,2,none⟩ (.slice A4 n4 c4)):=(UD w1 w.heap.size 0 1 _ _).setCell (p:=⟨w.heap.size,2,none⟩) (fun _=>rfl) _;have hB1:=b1.trans (hb1.mono b1.size);have up:∀b,From (w.heap.size+1) b→From w.heap.size b:=fun b hb=>by simp only [From] at hb⊢;omega
 have no:∀b,From (w.heap.size+1) b→¬jK w.heap.size b:=fun b hb e=>by simp only [From,jK] at hb e;omega
 have hgs:w.heap.size+1≤gk:=by simpa using UC
 have R2:EZ _ gk hk A2 n2 c2 s.2.keys:=r2.chg hch (fun b h1 _ e=>by simp only [jK] at e;omega);have hlt:gk<hk:=r2.2.2.2.2.1;have R4:=r4.soft_chg hch (fun b hb e=>by simp only [From,jK] at hb e;omega)
 exact⟨A2,n2,c2,A3,n3,c3,A4,n4,c4,rfl,.inr ⟨gk,hk,by omega,R2,R4⟩,R2.tx (by omega),((r3.weak (G:=From (w.heap.size+1)) (fun b hb=>by simpa [From] using hb)).chg hch no).weak up,
  R4.weak (fun b hb=>by have hb:=hb.1;simp only [From] at hb⊢;omega),hB1.trans (hch.below_of hB1.size (fun b hb e=>by simp only [jK] at e;omega))⟩
theorem Ka (F:Nat→Prop) (p:Nat) (nodes root:Int) (sl:List bB) (id:Int) (w:World) (h:gm w F p nodes sl root) (h1:id<1∨(sl.length:Int)<id):
  Calls prog 57 #[.pointer (some ⟨p,0,none⟩),.int .i64 id] w (zU w 0 [] 0 101):=by
 obtain⟨A,n,c,bs,hY⟩:=h;have e1:n=sl.length:=hY.len;have h3:id<1∨(n:Int)<id:=by omega
 have b1:Below w.heap.size w (w.alloc (.cells #[.int .i64 0,.slice none 0 0,.int .i64 0] 99)):=(Below.refl _ _).alloc (Nat.le_refl _) _;have xg:=hY.below b1;clear h1 e1 hY;go_enter func57,ntmps57
 go_wp2_with (first|(go_at_call 80;refine(J8 F p nodes root sl A n c bs id _ xg h3).mono ?_;rintro e w' ⟨rfl,rfl⟩))
 refine bodyPost_ret (v:= .tuple #[.agg #[.int .i64 0,.slice none 0 0,.int .i64 0],.int .i64 101]) (by simp [results,results57,go_sem]) rfl ?_;exact⟨none,0,0,rfl,Bt.nil _ _,b1⟩
theorem Kb (F:Nat→Prop) (p:Nat) (nodes root:Int) (sl:List bB) (id:Int) (w:World) (h:gm w F p nodes sl root) (h1:id<1∨(sl.length:Int)<id):
  Calls prog 58 #[.pointer (some ⟨p,0,none⟩),.int .i64 id] w (zW w [] [] [] 101):=by
 obtain⟨A,n,c,bs,hY⟩:=h;have e1:n=sl.length:=hY.len;have h3:id<1∨(n:Int)<id:=by omega
 have b1:Below w.heap.size w (w.alloc (.cells #[.slice none 0 0,.slice none 0 0,.slice none 0 0] 102)):=(Below.refl _ _).alloc (Nat.le_refl _) _;have xg:=hY.below b1;clear h1 e1 hY;go_enter func58,ntmps58
 go_wp2_with (first|(go_at_call 80;refine(J8 F p nodes root sl A n c bs id _ xg h3).mono ?_;rintro e w' ⟨rfl,rfl⟩))
 refine bodyPost_ret (v:= .tuple #[.agg #[.slice none 0 0,.slice none 0 0,.slice none 0 0],.int .i64 101]) (by simp [results,results58,go_sem]) rfl ?_;exact⟨none,0,0,none,0,0,none,0,0,rfl,.inl ⟨rfl,rfl,rfl,rfl⟩,Tx.nil _ _,Tx.nil _ _,It.nil _ _,b1⟩
theorem zX (F:Nat→Prop) (p:Nat) (nodes root:Int) (sl:List bB) (w:World) (h:gm w F p nodes sl root):
  Calls prog 32 #[.pointer (some ⟨p,0,none⟩)] w fun e w'=>e= .returned (.int .i64 root)∧w=w':=by
 obtain⟨A,n,c,bs,hY⟩:=h;obtain⟨c0,c1,c2,cf⟩:=hY.cells;clear hY;go_enter func32,ntmps32
 go_wp2_with (first|(go_at_call 56;refine(zY _ _ _ _ c2).mono ?_;rintro e w' ⟨rfl,rfl⟩))
 go_ret
 exact⟨rfl,rfl⟩
end
end Go.Proofs.YtbjgeidjmhialaaGreatDoor
