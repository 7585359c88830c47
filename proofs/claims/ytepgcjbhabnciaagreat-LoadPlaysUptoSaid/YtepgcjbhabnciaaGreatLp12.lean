/- Part 12. -/
import Derived.Test.YtepgcjbhabnciaaGreatLp11
import Derived.Deep.RegionWith
import Derived.Deep.CutRange
import Derived.Deep.DeepCutAuto
namespace Go.Proofs.YtepgcjbhabnciaaGreat
set_option maxRecDepth 100000
set_option maxHeartbeats 8000000
open Go.Proofs.Tryz Go.RowKit
variable {hn hc kn kc vn vc dn dc g p n c B a:Nat} {v1 v2 b i v3 x:Value} {hA kA vA dA A:Option Addr} {w q w1 w':World} {root id:Int} {nd:Nd} {F:Nat->Prop} {t:TypeId} {sl:List aX} {bs:List Nat}
def Small (nd:Nd):Prop:=nd.high.length<=1152921504606/\nd.keys.length<=1152921504606/\nd.vals.length<=1152921504606/\nd.kids.length<=1152921504606/\(∀t∈nd.keys,t.length<=1152921504606)/\(∀t∈nd.vals,t.length<=1152921504606)
theorem xV (a:Below q q w1)
  (h:q.cell? ⟨B,1,none⟩=some v1/\q.cell? ⟨B,3,none⟩=some v2/\q.cell? ⟨B,4,none⟩=some b/\q.cell? ⟨B,5,none⟩=some i):
  w1.cell? ⟨B,1,none⟩=some v1/\w1.cell? ⟨B,3,none⟩=some v2/\w1.cell? ⟨B,4,none⟩=some b/\w1.cell? ⟨B,5,none⟩=some i:=
 ⟨aj a h.1,aj a h.2.1,aj a h.2.2.1,aj a h.2.2.2⟩
def DU (w:World) (nd:Nd) (e:Ending) (w':World):Prop:=
 ∃hA hn hc kA kn kc vA vn vc dA dn dc,e= .returned (.agg #[(nd.lev:Int),.slice hA hn hc,(nd.right:Int),.slice kA kn kc,.slice vA vn vc,.slice dA dn dc])/\
  Bt w' (From w) hA hn hc nd.high/\Tx w' (From w) kA kn kc nd.keys/\Tx w' (From w) vA vn vc nd.vals/\It w' (From w) dA dn dc nd.kids/\Below w w w'
def zh (w:World) (nd:Nd) (e:Ending) (w':World):Prop:=
 ∃hA hn hc kA kn kc vA vn vc dA dn dc g hi,e= .returned (.agg #[(nd.lev:Int),.slice hA hn hc,(nd.right:Int),.slice kA kn kc,.slice vA vn vc,.slice dA dn dc])/\w.heap.size<=g/\
  Bt w' (fG (From w) w') hA hn hc nd.high/\Dh w' g hi kA kn kc nd.keys/\Tx w' (From w) vA vn vc nd.vals/\It w' (fG (From hi) w') dA dn dc nd.kids/\Below w.heap.size w w'
theorem zh.new {e:Ending} (h:zh w nd e w'):DU w nd e w':=by
 obtain⟨hA,hn,hc,kA,kn,kc,vA,vn,vc,dA,dn,dc,g,hi,d,l,f,c,i,j,k⟩:=h;exact⟨hA,hn,hc,kA,kn,kc,vA,vn,vc,dA,dn,dc,d,f.weak (fun b a=>a.1),c.tx l,i,j.weak (fun b a=>by have a:=a.1;have:=c.2.2.2.2.1;simp only [From] at a|-;omega),k⟩
theorem yh (nd:Nd) (F:Nat->Prop)
  (M:Bt w F hA hn hc nd.high) (P:Tx w F kA kn kc nd.keys) (Q:Tx w F vA vn vc nd.vals) (R:It w F dA dn dc nd.kids) (n:Small nd):
  Calls prog 132 #[.agg #[(nd.lev:Int),.slice hA hn hc,(nd.right:Int),.slice kA kn kc,.slice vA vn vc,.slice dA dn dc]] w (zh w nd):=by
 have Y:=aa M;have H2:=aa P;have H3:=aa Q;have Z:=aa R;have HS:=aa n;have l1:hn<=1152921504606:=by have:=M.len;have:=n.1;omega
 have l2:kn<=1152921504606:=by have:=P.len;have:=n.2.1;omega
 have l3:vn<=1152921504606:=by have:=Q.len;have:=n.2.2.1;omega
 have l4:dn<=1152921504606:=by have:=R.len;have:=n.2.2.2.1;omega
 clear M P Q R n;go_enter func132,ntmps132;go_wp2_with fail
 refine aM (fun w'=>w'.cell? ⟨w,1,none⟩=some (.slice hA hn hc)/\w'.cell? ⟨w,3,none⟩=some (.slice kA kn kc)/\w'.cell? ⟨w,4,none⟩=some (.slice vA vn vc)/\w'.cell? ⟨w,5,none⟩=some (.slice dA dn dc)) 18 (by kernel_rfl) ?_;obtain⟨s,m⟩:=gF (((w.alloc (.cells #[.int .i64 nd.lev,.slice hA hn hc,.int .i64 nd.right,.slice kA kn kc,.slice vA vn vc,.slice dA dn dc] 132)).alloc (.cells #[.int .i64 0,.slice none 0 0,.int .i64 0,.slice none 0 0,.slice none 0 0,.slice none 0 0] 132)).drew);rw [<-m]
 have k:s.cell? ⟨w,1,none⟩=some (.slice hA hn hc)/\s.cell? ⟨w,3,none⟩=some (.slice kA kn kc)/\s.cell? ⟨w,4,none⟩=some (.slice vA vn vc)/\s.cell? ⟨w,5,none⟩=some (.slice dA dn dc):=by
  subst m;simp
 have y:Below w w s:=by subst m;exact(gV.alloc (by simp) _).drew
 have T:ak s w 132 #[(nd.lev:Int),.slice hA hn hc,(nd.right:Int),.slice kA kn kc,.slice vA vn vc,.slice dA dn dc]:=by subst m;exact((ak.new _ _ _).alloc _).drew
 have B:ak s (w+1) 132 #[.int .i64 0,(),.int .i64 0,(),(),()]:=by subst m;simpa using (ak.new (w.alloc (.cells #[(nd.lev:Int),.slice hA hn hc,(nd.right:Int),.slice kA kn kc,.slice vA vn vc,.slice dA dn dc] 132)) 132 #[.int .i64 0,(),.int .i64 0,(),(),()]).drew
 clear m;refine dU (i:=0) (v:= ?_) rfl (by kernel_rfl) (by kernel_rfl) (by kernel_rfl) (by kernel_rfl) (fun _ _ _ h=>h) (fun _=>k) (Or.inl ⟨by rfl,?_⟩) ?_
 rotate_left
 ·intro w a;go_simp;try with_reducible rfl
 try simp only [Act.put,List.setIfInBounds_toArray]
 refine dU (i:=1) (v:= ?_) rfl (by kernel_rfl) (by kernel_rfl) (by kernel_rfl) (by kernel_rfl) (fun _ _ _ h=>h) (fun _=>k) (Or.inl ⟨by rfl,?_⟩) ?_
 rotate_left
 ·intro w a;go_simp;try with_reducible rfl
 try simp only [Act.put]
 refine dU (i:=4) (v:= ?_) rfl (by kernel_rfl) (by kernel_rfl) (by kernel_rfl) (by kernel_rfl) (fun _ _ _ h=>h) (fun _=>k) (Or.inl ⟨by rfl,?_⟩) ?_
 rotate_left
 ·intro w a;go_simp;try with_reducible rfl
 try simp only [Act.put]
 refine dU (i:=5) (v:= ?_) rfl (by kernel_rfl) (by kernel_rfl) (by kernel_rfl) (by kernel_rfl) (fun _ _ _ h=>h) (fun _=>k) (Or.inl ⟨by rfl,?_⟩) ?_
 rotate_left
 ·intro w a;go_simp;try with_reducible rfl
 try simp only [Act.put]
 refine dU (i:=8) (v:= ?_) rfl (by kernel_rfl) (by kernel_rfl) (by kernel_rfl) (by kernel_rfl) (fun _ _ _ h=>h) (fun _=>k) (Or.inl ⟨by rfl,?_⟩) ?_
 rotate_left
 ·intro w a;go_simp;try with_reducible rfl
 try simp only [Act.put]
 refine dU (i:=9) (v:= ?_) rfl (by kernel_rfl) (by kernel_rfl) (by kernel_rfl) (by kernel_rfl) (fun _ _ _ h=>h) (fun _=>k) (Or.inl ⟨by rfl,?_⟩) ?_
 rotate_left
 ·intro w a;go_simp;try with_reducible rfl
 try simp only [Act.put]
 refine dU (i:=12) (v:= ?_) rfl (by kernel_rfl) (by kernel_rfl) (by kernel_rfl) (by kernel_rfl) (fun _ _ _ h=>h) (fun _=>k) (Or.inl ⟨by rfl,?_⟩) ?_
 rotate_left
 ·intro w a;go_simp;try with_reducible rfl
 try simp only [Act.put]
 refine dU (i:=13) (v:= ?_) rfl (by kernel_rfl) (by kernel_rfl) (by kernel_rfl) (by kernel_rfl) (fun _ _ _ h=>h) (fun _=>k) (Or.inl ⟨by rfl,?_⟩) ?_
 rotate_left
 ·intro w a;go_simp;try with_reducible rfl
 try simp only [Act.put]
 refine pX (i:=2) (v:= ?_) rfl (by kernel_rfl) (by kernel_rfl) (by kernel_rfl) (by kernel_rfl) (fun _ _ _ h=>h) k (Or.inl ⟨by rfl,?_⟩) ?_
 rotate_left
 ·intro w a;obtain⟨U,V,W,X⟩:=a;go_simp;try with_reducible rfl
 try simp only [Act.put]
 refine pX (i:=6) (v:= ?_) rfl (by kernel_rfl) (by kernel_rfl) (by kernel_rfl) (by kernel_rfl) (fun _ _ _ h=>h) k (Or.inl ⟨by rfl,?_⟩) ?_
 rotate_left
 ·intro w a;obtain⟨U,V,W,X⟩:=a;go_simp;try with_reducible rfl
 try simp only [Act.put]
 refine pX (i:=10) (v:= ?_) rfl (by kernel_rfl) (by kernel_rfl) (by kernel_rfl) (by kernel_rfl) (fun _ _ _ h=>h) k (Or.inl ⟨by rfl,?_⟩) ?_
 rotate_left
 ·intro w a;obtain⟨U,V,W,X⟩:=a;go_simp;try with_reducible rfl
 try simp only [Act.put]
 refine pX (i:=14) (v:= ?_) rfl (by kernel_rfl) (by kernel_rfl) (by kernel_rfl) (by kernel_rfl) (fun _ _ _ h=>h) k (Or.inl ⟨by rfl,?_⟩) ?_
 rotate_left
 ·intro w a;obtain⟨U,V,W,X⟩:=a;go_simp;try with_reducible rfl
 try simp only [Act.put]
 refine mR 3 fun K c=> ?_;go_simp;refine(eG _ (Y.2.2.2.below y) Y.2.2.1 l1).mono ?_;rintro e w1 ⟨z,C,c1,rfl,p1,p2,p3,p4,q⟩;have H:=xV q k;have t:=y.trans (q.mono y.size);refine c.out _ _ (fun _=>H) ?_;clear c K;try simp only [Act.put,List.setIfInBounds_toArray,List.set_cons_zero,List.set_cons_succ]
 refine dU (i:=16) (v:= ?_) rfl (by kernel_rfl) (by kernel_rfl) (by kernel_rfl) (by kernel_rfl) (fun _ _ _ h=>h) (fun _=>H) (Or.inl ⟨by rfl,?_⟩) ?_
 rotate_left
 ·intro w a;go_simp;try with_reducible rfl
 try simp only [Act.put,List.setIfInBounds_toArray]
 refine dU (i:=17) (v:= ?_) rfl (by kernel_rfl) (by kernel_rfl) (by kernel_rfl) (by kernel_rfl) (fun _ _ _ h=>h) (fun _=>H) (Or.inl ⟨by rfl,?_⟩) ?_
 rotate_left
 ·intro w a;go_simp;try with_reducible rfl
 try simp only [Act.put]
 refine mR 7 fun K c=> ?_;go_simp;refine(Cw (H2.below t) l2 HS.2.2.2.2.1).mono ?_;rintro e w2 ⟨D,N,I,rfl,q2,l⟩;have S2:=xV l H;have u:=t.trans (l.mono t.size);refine c.out _ _ (fun _=>S2) ?_;clear c K;try simp only [Act.put,List.setIfInBounds_toArray,List.set_cons_zero,List.set_cons_succ]
 refine mR 11 fun K c=> ?_;go_simp;refine(Cw (H3.below u) l3 HS.2.2.2.2.2).mono ?_;rintro e w3 ⟨E,O,J,rfl,q3,g⟩;have S3:=xV g S2;have x:=u.trans (g.mono u.size);refine c.out _ _ (fun _=>S3) ?_;clear c K;try simp only [Act.put,List.setIfInBounds_toArray,List.set_cons_zero,List.set_cons_succ]
 refine mR 15 fun K c=> ?_;go_simp;refine(qT _ (xs:=nd.kids.map (Value.int .i64)) (Z.2.2.2.below x) (GV _) l4).mono ?_;rintro e d ⟨G,L,rfl,r1,r2,r3,j⟩;have S4:=xV j S3;have A:=x.trans (j.mono x.size);refine c.out _ _ (fun _=>S4) ?_;clear c K;try simp only [Act.put,List.setIfInBounds_toArray,List.set_cons_zero,List.set_cons_succ]
 have S:=((((T.below q).below l).below g).below j);have k1:=((((B.below q).below l).below g).below j);have z0:d.cell? w=some (.int .i64 nd.lev):=by rw [S.cell];rfl
 have z2:d.cell? ⟨w,2,none⟩=some (.int .i64 nd.right):=by rw [S.cell];rfl
 obtain⟨z1,z3,z4,z5⟩:=S4;have f0:∀o,d.frozen? ⟨w,o,none⟩=false:=S.frozen;have f1:∀o,d.frozen? ⟨w+1,o,none⟩=false:=k1.frozen;have y0:d.cell? ⟨w+1,0,none⟩=some (.int .i64 0):=by rw [k1.cell];rfl
 have y1:d.cell? ⟨w+1,1,none⟩=some (.slice none 0 0):=by rw [k1.cell];rfl
 have y2:d.cell? ⟨w+1,2,none⟩=some (.int .i64 0):=by rw [k1.cell];rfl
 have y3:d.cell? ⟨w+1,3,none⟩=some (.slice none 0 0):=by rw [k1.cell];rfl
 have y4:d.cell? ⟨w+1,4,none⟩=some (.slice none 0 0):=by rw [k1.cell];rfl
 have y5:d.cell? ⟨w+1,5,none⟩=some (.slice none 0 0):=by rw [k1.cell];rfl
 refine mR 18 fun K c=> ?_;go_simp;refine c.out _ _ (fun h=>absurd h (by decide)) ?_;clear c K;try simp only [Act.put,List.setIfInBounds_toArray,List.set_cons_zero,List.set_cons_succ]
 refine dU (i:=19) (v:= ?_) rfl (by kernel_rfl) (by kernel_rfl) (by kernel_rfl) (by kernel_rfl) (fun _ _ _ h=>h) (fun h=>absurd h (by decide)) (Or.inl ⟨by rfl,?_⟩) ?_
 rotate_left
 ·intro w a;go_simp;try with_reducible rfl
 try simp only [Act.put,List.setIfInBounds_toArray]
 refine dU (i:=20) (v:= ?_) rfl (by kernel_rfl) (by kernel_rfl) (by kernel_rfl) (by kernel_rfl) (fun _ _ _ h=>h) (fun h=>absurd h (by decide)) (Or.inl ⟨by rfl,?_⟩) ?_
 rotate_left
 ·intro w a;go_simp;try with_reducible rfl
 try simp only [Act.put]
 refine mR 21 fun K c=> ?_;go_simp;refine c.out _ _ (fun h=>absurd h (by decide)) ?_;clear c K;try simp only [Act.put,List.setIfInBounds_toArray,List.set_cons_zero,List.set_cons_succ]
 refine dU (i:=22) (v:= ?_) rfl (by kernel_rfl) (by kernel_rfl) (by kernel_rfl) (by kernel_rfl) (fun _ _ _ h=>h) (fun h=>absurd h (by decide)) (Or.inl ⟨by rfl,?_⟩) ?_
 rotate_left
 ·intro w a;go_simp;try with_reducible rfl
 try simp only [Act.put,List.setIfInBounds_toArray]
 refine dU (i:=23) (v:= ?_) rfl (by kernel_rfl) (by kernel_rfl) (by kernel_rfl) (by kernel_rfl) (fun _ _ _ h=>h) (fun h=>absurd h (by decide)) (Or.inl ⟨by rfl,?_⟩) ?_
 rotate_left
 ·intro w a;go_simp;try with_reducible rfl
 try simp only [Act.put]
 refine mR 24 fun K c=> ?_;go_simp;refine c.out _ _ (fun h=>absurd h (by decide)) ?_;clear c K;try simp only [Act.put,List.setIfInBounds_toArray,List.set_cons_zero,List.set_cons_succ]
 refine dU (i:=25) (v:= ?_) rfl (by kernel_rfl) (by kernel_rfl) (by kernel_rfl) (by kernel_rfl) (fun _ _ _ h=>h) (fun h=>absurd h (by decide)) (Or.inl ⟨by rfl,?_⟩) ?_
 rotate_left
 ·intro w a;go_simp;try with_reducible rfl
 try simp only [Act.put,List.setIfInBounds_toArray]
 refine dU (i:=26) (v:= ?_) rfl (by kernel_rfl) (by kernel_rfl) (by kernel_rfl) (by kernel_rfl) (fun _ _ _ h=>h) (fun h=>absurd h (by decide)) (Or.inl ⟨by rfl,?_⟩) ?_
 rotate_left
 ·intro w a;go_simp;try with_reducible rfl
 try simp only [Act.put]
 refine mR 27 fun K c=> ?_;go_simp;refine c.out _ _ (fun h=>absurd h (by decide)) ?_;clear c K;try simp only [Act.put,List.setIfInBounds_toArray,List.set_cons_zero,List.set_cons_succ]
 refine bH (by kernel_rfl) ?_ _;go_wp2;refine bodyPost_ret (v:= .agg #[(nd.lev:Int),.slice z C c1,(nd.right:Int),.slice D N I,.slice E O J,.slice G dn L]) (by simp [results,results132,go_sem, *]) rfl ?_
 have r:ag (fun b=>w<=b/\b<=w+1) d ((((((((((d.setCell ⟨w,1,none⟩ (.slice z C c1)).setCell ⟨w,3,none⟩ (.slice D N I)).setCell ⟨w,4,none⟩ (.slice E O J)).setCell ⟨w,5,none⟩ (.slice G dn L)).setCell ⟨w+1,0,none⟩ (nd.lev:Int)).setCell ⟨w+1,1,none⟩ (.slice z C c1)).setCell ⟨w+1,2,none⟩ (nd.right:Int)).setCell ⟨w+1,3,none⟩ (.slice D N I)).setCell ⟨w+1,4,none⟩ (.slice E O J)).setCell ⟨w+1,5,none⟩ (.slice G dn L)):=by
  repeat (refine ag.setCell ?_ (p:=⟨_,_,none⟩) (fun _=>by simp) _)
  exact ag.refl _ _
 have hn:∀b,From (w+2) b->¬(w<=b/\b<=w+1):=fun b f h=>by have f:w+2<=b:=f;omega
 have z0:w.heap.size+2<=s.heap.size:=by have:=B.lt;omega
 have z1:=q.size;have z2:=l.size;have z3:=g.size;have g1:Bt d (fG (From (w+2)) d) z C c1 nd.high:=((((show Bt w1 (fG (From s) w1) z C c1 nd.high from⟨p1,p2,p3,p4⟩).soft_below l).soft_below g).soft_below j).weak (fG.weak (fun b f=>by have f:s<=b:=f;show w.heap.size+2<=b;omega));have g2:Dh d w1 w2 D N I nd.keys:=(q2.below g).below j;have g3:Tx d (From (w+2)) E O J nd.vals:=((q3.tx jO).below j).weak (fun b f=>by have f:w2<=b:=f;show w.heap.size+2<=b;omega);have g4:It d (fG (From w2) d) G dn L nd.kids:=⟨r1,r2,Z.2.2.1,r3.weak (fG.weak (fun b f=>by have f:w3<=b:=f;show w2<=b;omega))⟩;have up:∀b,From (w+2) b->From w b:=fun b f=>by have f:w+2<=b:=f;show w<=b;omega
 exact⟨_,_,_,_,_,_,_,_,_,_,_,_,w1,w2.heap.size,rfl,by omega,(g1.soft_chg r hn).weak (fG.weak up),g2.chg r (fun b M _ h=>by omega),(g3.chg r hn).weak up,g4.soft_chg r (fun b f h=>by simp only [From] at f;omega),A.trans (r.below_of A.size (fun b f h=>by omega))⟩
theorem ym (nd:Nd)
  (a:Bt w F hA hn hc nd.high) (b:Tx w F kA kn kc nd.keys) (c:Tx w F vA vn vc nd.vals) (d:It w F dA dn dc nd.kids) (n:Small nd):
  Calls prog 132 #[.agg #[(nd.lev:Int),.slice hA hn hc,(nd.right:Int),.slice kA kn kc,.slice vA vn vc,.slice dA dn dc]] w (DU w nd):=
 (yh nd F a b c d n).mono fun _ _ h=>h.new
theorem Oi (w:World) (t:TypeId) (c0 c1 a:Array Value):
  ak (((w.alloc (.cells c0 t)).alloc (.cells c1 t)).alloc (.cells a t)) w t c0/\ak (((w.alloc (.cells c0 t)).alloc (.cells c1 t)).alloc (.cells a t)) (w+1) t c1/\
  ak (((w.alloc (.cells c0 t)).alloc (.cells c1 t)).alloc (.cells a t)) (w+1+1) t a/\Below w w (((w.alloc (.cells c0 t)).alloc (.cells c1 t)).alloc (.cells a t)):=by
 refine⟨((ak.new w t c0).alloc _).alloc _,?_,?_,(gV.alloc (by simp) _).alloc (by simp;omega) _⟩
 ·have:=(ak.new (w.alloc (.cells c0 t)) t c1).alloc (.cells a t)
  simpa using this
 ·have:=ak.new ((w.alloc (.cells c0 t)).alloc (.cells c1 t)) t a;simpa using this
theorem DV (h:ak w g t #[b,v1,v2,v3,i,x]):
  w.cell? g=some b/\w.cell? ⟨g,1,none⟩=some v1/\w.cell? ⟨g,2,none⟩=some v2/\w.cell? ⟨g,3,none⟩=some v3/\w.cell? ⟨g,4,none⟩=some i/\w.cell? ⟨g,5,none⟩=some x/\(∀o,w.frozen? ⟨g,o,none⟩=false):=
 ⟨by rw [h.cell];rfl,by rw [h.cell];rfl,by rw [h.cell];rfl,by rw [h.cell];rfl,by rw [h.cell];rfl,by rw [h.cell];rfl,h.frozen⟩
theorem ZH (w:World) (g i:Nat) (u:Value):ag (jX g) w (w.setCell ⟨g,i,none⟩ u):=ag.set1 w g i u
theorem chg2 (w:World) (g i j:Nat) (u v:Value):ag (jX g) w ((w.setCell ⟨g,i,none⟩ u).setCell ⟨g,j,none⟩ v):=(ZH w g i u).setCell (p:=⟨g,j,none⟩) (fun _=>rfl) v
theorem vY {b:Nat} (h:a≠b):¬jX b a:=fun e=>h e
theorem lZ
  (h1:Bt w F hA hn hc nd.high) (h2:Tx w F kA kn kc nd.keys) (h3:Tx w F vA vn vc nd.vals) (h4:It w F dA dn dc nd.kids) (n:Small nd):
  Calls prog 116 #[.agg #[(nd.lev:Int),.slice hA hn hc,(nd.right:Int),.slice kA kn kc,.slice vA vn vc,.slice dA dn dc]] w (DU w nd):=by
 obtain⟨i0,ac,iC,iD,iE⟩:=info_parts jL;have H1:=aa h1;have H2:=aa h2;have H3:=aa h3;have H4:=aa h4;have HS:=aa n;have l1:hn<=1152921504606:=by have:=h1.len;have:=n.1;omega
 have l2:kn<=1152921504606:=by have:=h2.len;have:=n.2.1;omega
 have l3:vn<=1152921504606:=by have:=h3.len;have:=n.2.2.1;omega
 have l4:dn<=1152921504606:=by have:=h4.len;have:=n.2.2.2.1;omega
 clear h1 h2 h3 h4 n;go_enter func116,ntmps116;go_wp2_with fail
 obtain⟨i,k1,k2,z⟩:=Oi w 132 #[(nd.lev:Int),.slice hA hn hc,(nd.right:Int),.slice kA kn kc,.slice vA vn vc,.slice dA dn dc] #[.int .i64 0,(),.int .i64 0,(),(),()] #[(nd.lev:Int),(),.int .i64 0,(),(),()];have s0:=k2.lt;refine(yz _ (H1.2.2.2.below z) H1.2.2.1 l1).mono ?_;rintro e w1 ⟨m,r,c1,rfl,p1,p2,p3,p4,j⟩;have i:=i.below j;have k1:=k1.below j;have k2:=k2.below j;have L:=z.trans (j.mono z.size);obtain⟨Q,R,S,T,U,V,W⟩:=DV i;obtain⟨X,Y,Z,b3,b4,b5,b6⟩:=DV k2;go_wp2_with fail;have K:=chg2 w1 (w+1+1) 1 2 (.slice m r c1) (nd.right:Int);have C:=i.chg K (vY (by omega));have D:=k1.chg K (vY (by omega));have E:ak ((w1.setCell ⟨w+1+1,1,none⟩ (.slice m r c1)).setCell ⟨w+1+1,2,none⟩ (nd.right:Int)) (w+1+1) 132 #[(nd.lev:Int),.slice m r c1,(nd.right:Int),(),(),()]:=(k2.set_ 1 _).set_ 2 _;have A:Below w w ((w1.setCell ⟨w+1+1,1,none⟩ (.slice m r c1)).setCell ⟨w+1+1,2,none⟩ (nd.right:Int)):=L.trans (K.below_of L.size (fun b a e=>by have e:b=w.heap.size+1+1:=e;omega));clear i k1 k2 Q R S T U V W X Y Z b3 b4 b5 b6;refine(zi (H2.below A) l2 HS.2.2.2.2.1).mono ?_;rintro e w2 ⟨t,x,u,rfl,q2,f⟩;have i:=C.below f;have k1:=D.below f;have k2:=E.below f;have M:=A.trans (f.mono A.size);clear C D E;obtain⟨Q,R,S,T,U,V,W⟩:=DV i;obtain⟨X,Y,Z,b3,b4,b5,b6⟩:=DV k2;go_wp2_with fail;have I:=ZH w2 (w+1+1) 3 (.slice t x u);have C:=i.chg I (vY (by omega));have D:=k1.chg I (vY (by omega));have E:ak (w2.setCell ⟨w+1+1,3,none⟩ (.slice t x u)) (w+1+1) 132 #[(nd.lev:Int),.slice m r c1,(nd.right:Int),.slice t x u,(),()]:=k2.set_ 3 _;have B:Below w w (w2.setCell ⟨w+1+1,3,none⟩ (.slice t x u)):=M.trans (I.below_of M.size (fun b a e=>by have e:b=w.heap.size+1+1:=e;omega));clear i k1 k2 Q R S T U V W X Y Z b3 b4 b5 b6;refine(zi (H3.below B) l3 HS.2.2.2.2.2).mono ?_;rintro e J ⟨o,s,q,rfl,q3,c⟩;have i:=C.below c;have k1:=D.below c;have k2:=E.below c;have N:=B.trans (c.mono B.size);clear C D E;have y:=ZH J (w+1+1) 4 (.slice o s q);have C:=i.chg y (vY (by omega));have D:=k1.chg y (vY (by omega));have E:ak (J.setCell ⟨w+1+1,4,none⟩ (.slice o s q)) (w+1+1) 132 #[(nd.lev:Int),.slice m r c1,(nd.right:Int),.slice t x u,.slice o s q,()]:=k2.set_ 4 _;have Vk:Below w w (J.setCell ⟨w+1+1,4,none⟩ (.slice o s q)):=N.trans (y.below_of N.size (fun b a e=>by have e:b=w.heap.size+1+1:=e;omega));obtain⟨Q,R,S,T,U,V,W⟩:=DV i;obtain⟨X,Y,Z,b3,b4,b5,b6⟩:=DV k2;go_wp2_with (at_builtin;refine af _ rfl (.tmp 34) (.tmp 37) _ rfl (J.setCell ⟨w+1+1,4,none⟩ (.slice o s q)).heap.size 3 i0 _ 1 8 underlying25 ac iC iD iE rfl (by omega) () 0 [] rfl (World.ownsRow_nil _ _ _ _) F dA dn dc (nd.kids.map (Value.int .i64)) rfl (H4.2.2.2.below Vk) (GV _) (by simp only [maxLen];omega) (by omega) jO ?_;intro v4 H di ab gp;have d:Below (J.setCell ⟨w+1+1,4,none⟩ (.slice o s q)).heap.size (J.setCell ⟨w+1+1,4,none⟩ (.slice o s q)) H:=mh.grown ab jO (fun k hk=>by simp [Value.ownBlock] at hk);obtain⟨P,c4,ad,r1,r2⟩:=ax di;subst ad;have ae:=C.below d;have al:=D.below d;have am:=E.below d;obtain⟨y0,y1,y2,y3,y4,y5,y6⟩:=DV ae;obtain⟨x0,x1,x2,x3,x4,x5,x6⟩:=DV al;obtain⟨u0,u1,u2,u3,u4,u5,u6⟩:=DV am);refine bodyPost_ret (v:= .agg #[(nd.lev:Int),.slice m r c1,(nd.right:Int),.slice t x u,.slice o s q,.slice P dn c4]) (by simp [results,results116,go_sem, *]) rfl ?_
 have l:ag (fun b=>w<=b/\b<=w+1+1) H (((((((H.setCell ⟨w+1+1,5,none⟩ (.slice P dn c4)).setCell ⟨w+1,0,none⟩ (nd.lev:Int)).setCell ⟨w+1,1,none⟩ (.slice m r c1)).setCell ⟨w+1,2,none⟩ (nd.right:Int)).setCell ⟨w+1,3,none⟩ (.slice t x u)).setCell ⟨w+1,4,none⟩ (.slice o s q)).setCell ⟨w+1,5,none⟩ (.slice P dn c4)):=by
  repeat (refine ag.setCell ?_ (p:=⟨_,_,none⟩) (fun _=>by simp;try omega) _)
  exact ag.refl _ _
 have hn:∀b,From (w+3) b->¬(w<=b/\b<=w+1+1):=fun b a h=>by have a:w+3<=b:=a;omega
 have g:∀b,From (w+3) b->¬jX (w+1+1) b:=fun b a h=>by have a:w+3<=b:=a;have h:b=w.heap.size+1+1:=h;omega
 have z1:=j.size;have z2:=f.size;have z3:=c.size;have t1:=K.size;have t2:=I.size;have t3:=y.size;have g1:Bt H (From (w+3)) m r c1 nd.high:=((((((show Bt w1 (From (w+3)) m r c1 nd.high from⟨p1,p2,p3,p4.weak (fun b a=>by have a:=a.1;simp only [From,World.size_alloc] at a|-;omega)⟩).chg K g).below f).chg I g).below c).chg y g).below d;have g2:Tx H (From (w+3)) t x u nd.keys:=((((q2.weak (G:=From (w+3)) (fun b a=>by simp only [From] at a|-;omega)).chg I g).below c).chg y g).below d;have g3:Tx H (From (w+3)) o s q nd.vals:=((q3.weak (G:=From (w+3)) (fun b a=>by simp only [From] at a|-;omega)).chg y g).below d
 have g4:It H (From (w+3)) P dn c4 nd.kids:=by
  simp only [Nat.zero_add,List.nil_append] at di;exact⟨by omega,r2,H4.2.2.1,(Rd.of_own di).weak (fun b a=>by simp only [From] at a|-;omega)⟩
 have up:∀b,From (w+3) b->From w b:=fun b a=>by have a:w+3<=b:=a;show w<=b;omega
 have O:=Vk.trans (d.mono Vk.size);exact⟨_,_,_,_,_,_,_,_,_,_,_,_,rfl,(g1.chg l hn).weak up,(g2.chg l hn).weak up,(g3.chg l hn).weak up,(g4.chg l hn).weak up,O.trans (l.below_of O.size (fun b a h=>by omega))⟩
theorem BO {nodes:Int} (id:Int) (h:og w F p nodes sl root A n c bs) (a:1<=id) (m:id<=n) (hn:n<=65536) (g:Nat) (d:bs[id.toNat-1]? =some g):
  Calls prog 131 #[p,id] w fun e w'=>e= .returned g/\w=w':=by
 obtain⟨c0,c1,f,i⟩:=h.cells;obtain⟨r,l,rfl,b,j⟩:=h.at_ (k:=id.toNat-1) (by omega);rw [d] at b;injection b with b;subst b;clear d h;go_enter func131,ntmps131;go_wp2;go_ret
 exact⟨rfl,rfl⟩
theorem I1 {nodes:Int} (id:Int) (h:og w F p nodes sl root A n c bs) (b:id<1\/(n:Int)<id):
  Calls prog 131 #[p,id] w fun e w'=>e= .returned (.pointer none)/\w=w':=by
 obtain⟨c0,c1,d,f⟩:=h.cells;clear h
 rcases Int.lt_or_le id 1 with a|a
 ·go_enter func131,ntmps131
  go_wp2;go_ret
  exact⟨rfl,rfl⟩
 ·have g:(n:Int)<id:=by omega
  clear b;go_enter func131,ntmps131;go_wp2;go_ret
  exact⟨rfl,rfl⟩
theorem Fq (a b c d e f:Value) (w:World):(Instr.field 132 (.agg #[a,b,c,d,e,f]) 0).run prog w= .ok (.agg #[a,b,c]) w:=by kernel_rfl
theorem Fu (a b c d e f:Value) (w:World):(Instr.field 132 (.agg #[a,b,c,d,e,f]) 1).run prog w= .ok (.agg #[d,e,f]) w:=by kernel_rfl
theorem Aq {c:Value} (h:ak w g t #[b,v1,v2,v3,i,x,c]):
  w.cell? g=some b/\w.cell? ⟨g,1,none⟩=some v1/\w.cell? ⟨g,2,none⟩=some v2/\w.cell? ⟨g,3,none⟩=some v3/\w.cell? ⟨g,4,none⟩=some i/\w.cell? ⟨g,5,none⟩=some x/\w.cell? ⟨g,6,none⟩=some c/\(∀o,w.frozen? ⟨g,o,none⟩=false):=
 ⟨by rw [h.cell];rfl,by rw [h.cell];rfl,by rw [h.cell];rfl,by rw [h.cell];rfl,by rw [h.cell];rfl,by rw [h.cell];rfl,by rw [h.cell];rfl,h.frozen⟩
theorem og.slot_at {nodes:Int} (h:og w F p nodes sl root A n c bs) (a:1<=id) (j:id<=n):
  ∃g s,bs[id.toNat-1]? =some g/\sl[id.toNat-1]? =some s/\F g/\gu w (fun b=>F b/\¬Qh p (.slice A n c) bs b) g s:=by
 have f:n=sl.length:=h.len;have i:bs.length=n:=h.blen;have d:id.toNat-1<bs.length:=by omega
 have e:id.toNat-1<sl.length:=by omega
 exact⟨bs[id.toNat-1],sl[id.toNat-1],mP d,mP e,h.fbs _ (List.getElem_mem d),h.slot _ _ _ (mP d) (mP e)⟩
theorem Ux {nodes:Int} (id:Int) (s:aX) (h:gL w F p nodes sl root) (a:1<=id) (o:id<=sl.length) (hn:sl.length<=65536) (j:sl[id.toNat-1]? =some s):
  Calls prog 122 #[p,id] w fun e w'=>e= .returned (.tuple #[.int .u64 s.1,.int .i64 0])/\w=w':=by
 obtain⟨A,n,c,bs,d⟩:=h;have l:n=sl.length:=d.len;obtain⟨g,v,i,b,_,t⟩:=d.slot_at a (by omega);rw [j] at b;injection b with b;subst b;obtain⟨hA,r,hc,kA,kn,kc,vA,vn,vc,dA,dn,dc,f,_⟩:=t;obtain⟨u,x,y,z,B,C,D,E⟩:=Aq f;have m:id<=n:=by omega
 have q:n<=65536:=by omega
 have k:=aa i;clear i j o hn l f;go_enter func122,ntmps122;go_wp2_with (first|(go_at_call 131;refine(BO id d a m q g k).mono ?_;rintro e w' ⟨rfl,rfl⟩)|(go_at_call 121;refine(lV u).mono ?_;rintro e w' ⟨rfl,rfl⟩))
 go_ret2
 exact⟨rfl,rfl⟩
theorem Qi {nodes:Int} (id:Int) (h:gL w F p nodes sl root) (d:id<1\/(sl.length:Int)<id):
  Calls prog 122 #[p,id] w fun e w'=>e= .returned (.tuple #[.int .u64 0,.int .i64 101])/\w=w':=by
 obtain⟨A,n,c,bs,a⟩:=h;have b:n=sl.length:=a.len;have f:id<1\/(n:Int)<id:=by omega
 clear d b;go_enter func122,ntmps122;go_wp2_with (first|(go_at_call 131;refine(I1 id a f).mono ?_;rintro e w' ⟨rfl,rfl⟩))
 go_ret2
 exact⟨rfl,rfl⟩
def Df (w:World) (lev:Int) (high:List UInt8) (right x:Int) (e:Ending) (w':World):Prop:=
 ∃A n c,e= .returned (.tuple #[.agg #[lev,.slice A n c,right],x])/\Bt w' (From w) A n c high/\Below w w w'
def Dg (w:World) (keys vals:List (List UInt8)) (kids:List Int) (x:Int) (e:Ending) (w':World):Prop:=
 ∃A n c B m d C l k,e= .returned (.tuple #[.agg #[.slice A n c,.slice B m d,.slice C l k],x])/\Tx w' (From w) A n c keys/\Tx w' (From w) B m d vals/\It w' (From w) C l k kids/\Below w w w'
def yc (w:World) (lev:Int) (high:List UInt8) (right x:Int) (e:Ending) (w':World):Prop:=
 ∃A n c,e= .returned (.tuple #[.agg #[lev,.slice A n c,right],x])/\Bt w' (fG (From w) w') A n c high/\Below w w w'
def pI (w:World) (keys vals:List (List UInt8)) (kids:List Int) (x:Int) (e:Ending) (w':World):Prop:=
 ∃A n c B m d C l k,e= .returned (.tuple #[.agg #[.slice A n c,.slice B m d,.slice C l k],x])/\(keys= []/\n=0/\kids= []/\l=0\/∃g hi,w.heap.size<=g/\Dh w' g hi A n c keys/\It w' (fG (From hi) w') C l k kids)/\
  Tx w' (From w) A n c keys/\Tx w' (From w) B m d vals/\It w' (From w) C l k kids/\Below w w w'
theorem LF {nodes:Int} (id:Int) (s:aX) (h:gL w F p nodes sl root) (a:1<=id) (h2:id<=sl.length) (hn:sl.length<=65536) (x:sl[id.toNat-1]? =some s) (m:s.2.high.length<=1152921504606):
  Calls prog 87 #[p,id] w (yc w s.2.lev s.2.high s.2.right 0):=by
 obtain⟨A,n,c,bs,q⟩:=h;have C:n=sl.length:=q.len;obtain⟨g,s',u,i,_,I⟩:=q.slot_at a (by omega);rw [x] at i;injection i with i;subst i;obtain⟨hA,H,hc,kA,kn,kc,vA,vn,vc,dA,dn,dc,f,y,K,L,M⟩:=I;have j:Below w w (w.alloc (.cells #[.int .i64 0,(),.int .i64 0] 127)):=gV;obtain⟨z0,z1,z2,z3,z4,z5,z6,z7⟩:=Aq (f.below j);have O:=q.below j;have D:id<=n:=by omega
 have E:n<=65536:=by omega
 have z:=aa u;have B:=aa (y.below j);have J:=aa m;clear u x h2 hn C f y K L M q m;have T:=Fq;go_enter func87,ntmps87;go_wp2_with (first|(go_at_call 131;refine(BO id O a D E g z).mono ?_;rintro e w' ⟨rfl,rfl⟩)|(go_at_call 132;refine(yh ⟨s.2.lev,s.2.high,s.2.right,[],[],[]⟩ (fun b=>F b/\¬Qh p (.slice A n c) bs b) (kA:=none) (vA:=none) (dA:=none) (kn:=0) (kc:=0) (vn:=0) (vc:=0) (dn:=0) (dc:=0) B.out (Tx.nil _ _) (Tx.nil _ _) (It.nil _ _) ⟨J,by simp,by simp,by simp,by simp,by simp⟩).mono ?_;rintro e w1 ⟨r,t,c1,P,Y,U,Q,Z,V,R,n4,W,gk,X,rfl,S,N,r2,r3,r4,d⟩;have y0:=aj (b:=w.heap.size) (o:=0) (v:= .int .i64 0) d (by simp);have y1:=aj (b:=w.heap.size) (o:=1) (v:= ()) d (by simp);have y2:=aj (b:=w.heap.size) (o:=2) (v:= .int .i64 0) d (by simp);have yf:∀o,w1.frozen? ⟨w,o,none⟩=false:=((ak.new w 127 #[.int .i64 0,(),.int .i64 0]).below d).frozen))
 refine bodyPost_ret (v:= .tuple #[.agg #[(s.2.lev:Int),.slice r t c1,(s.2.right:Int)],.int .i64 0]) (by simp [results,results87,go_sem, *]) rfl ?_;have l:ag (jX w) w1 (((w1.setCell w (s.2.lev:Int)).setCell ⟨w,1,none⟩ (.slice r t c1)).setCell ⟨w,2,none⟩ (s.2.right:Int)):=(chg2 w1 w 0 1 _ _).setCell (p:=⟨w,2,none⟩) (fun _=>rfl) _;have k:=j.trans (d.mono j.size);have no:∀b,From (w+1) b->¬jX w b:=fun b f e=>by simp only [From,jX] at f e;omega
 refine⟨r,t,c1,rfl,((N.weak (G:=fG (From (w+1)) w1) (fG.weak (fun b f=>by simpa [From] using f))).soft_chg l no).weak (fG.weak (fun b f=> ?_)),k.trans (l.below_of k.size (fun b f e=> ?_))⟩
 ·simp only [From] at f|-;omega
 ·simp only [jX] at e;omega
theorem LG {nodes:Int} (id:Int) {s:aX} (h:gL w F p nodes sl root) (a:1<=id) (h2:id<=sl.length) (hn:sl.length<=65536) (K:sl[id.toNat-1]? =some s) (M:Small s.2):
  Calls prog 88 #[p,id] w (pI w s.2.keys s.2.vals s.2.kids 0):=by
 obtain⟨A,n,c,bs,t⟩:=h;have V:n=sl.length:=t.len;obtain⟨g,s',J,j,_,hx⟩:=t.slot_at a (by omega);rw [K] at j;injection j with j;subst j;obtain⟨hA,ab,hc,kA,kn,kc,vA,vn,vc,dA,dn,dc,d,q1,L,N,O⟩:=hx;have k:Below w w (w.alloc (.cells #[(),(),()] 130)):=gV;obtain⟨z0,z1,z2,z3,z4,z5,z6,z7⟩:=Aq (d.below k);have yg:=t.below k;have W:id<=n:=by omega
 have X:n<=65536:=by omega
 have Q:=aa J;have S:=aa (L.below k);have T:=aa (N.below k);have U:=aa (O.below k);have m:=aa M;clear J K h2 hn V d q1 L N O t M;have YM:=Fu;go_enter func88,ntmps88;go_wp2_with (first|(go_at_call 131;refine(BO id yg a W X g Q).mono ?_;rintro e w' ⟨rfl,rfl⟩)|(go_at_call 132;refine(yh ⟨0,[],0,s.2.keys,s.2.vals,s.2.kids⟩ (fun b=>F b/\¬Qh p (.slice A n c) bs b) (hA:=none) (hn:=0) (hc:=0) (Bt.nil _ _) S.out T.out U.out ⟨by simp,m.2.1,m.2.2.1,m.2.2.2.1,m.2.2.2.2.1,m.2.2.2.2.2⟩).mono ?_;rintro e w1 ⟨A1,n1,c1,q,u,r,x,D,z,y,E,B,gk,C,rfl,R,r1,P,r3,r4,f⟩;have y0:=aj (b:=w.heap.size) (o:=0) (v:= ()) f (by simp);have y1:=aj (b:=w.heap.size) (o:=1) (v:= ()) f (by simp);have y2:=aj (b:=w.heap.size) (o:=2) (v:= ()) f (by simp);have yf:∀o,w1.frozen? ⟨w,o,none⟩=false:=((ak.new w 130 #[(),(),()]).below f).frozen))
 refine bodyPost_ret (v:= .tuple #[.agg #[.slice q u r,.slice x D z,.slice y E B],.int .i64 0]) (by simp [results,results88,go_sem, *]) rfl ?_;have i:ag (jX w) w1 (((w1.setCell w (.slice q u r)).setCell ⟨w,1,none⟩ (.slice x D z)).setCell ⟨w,2,none⟩ (.slice y E B)):=(chg2 w1 w 0 1 _ _).setCell (p:=⟨w,2,none⟩) (fun _=>rfl) _;have l:=k.trans (f.mono k.size);have up:∀b,From (w+1) b->From w b:=fun b d=>by simp only [From] at d|-;omega
 have no:∀b,From (w+1) b->¬jX w b:=fun b d e=>by simp only [From,jX] at d e;omega
 have Y:w+1<=gk:=by simpa using R
 have H:Dh _ gk C q u r s.2.keys:=P.chg i (fun b a _ e=>by simp only [jX] at e;omega);have Z:gk<C:=P.2.2.2.2.1;have I:=r4.soft_chg i (fun b d e=>by simp only [From,jX] at d e;omega)
 exact⟨q,u,r,x,D,z,y,E,B,rfl,.inr ⟨gk,C,by omega,H,I⟩,H.tx (by omega),((r3.weak (G:=From (w.heap.size+1)) (fun b d=>by simpa [From] using d)).chg i no).weak up,
  I.weak (fun b d=>by have d:=d.1;simp only [From] at d|-;omega),l.trans (i.below_of l.size (fun b d e=>by simp only [jX] at e;omega))⟩
theorem Fv {nodes:Int} (id:Int) (h:gL w F p nodes sl root) (f:id<1\/(sl.length:Int)<id):
  Calls prog 87 #[p,id] w (yc w 0 [] 0 101):=by
 obtain⟨A,n,c,bs,a⟩:=h;have d:n=sl.length:=a.len;have g:id<1\/(n:Int)<id:=by omega
 have b:Below w w (w.alloc (.cells #[.int .i64 0,(),.int .i64 0] 127)):=gV;have i:=a.below b;clear f d a;go_enter func87,ntmps87;go_wp2_with (first|(go_at_call 131;refine(I1 id i g).mono ?_;rintro e w' ⟨rfl,rfl⟩))
 refine bodyPost_ret (v:= .tuple #[.agg #[.int .i64 0,(),.int .i64 0],.int .i64 101]) (by simp [results,results87,go_sem]) rfl ?_;exact⟨none,0,0,rfl,Bt.nil _ _,b⟩
theorem Fw {nodes:Int} (id:Int) (h:gL w F p nodes sl root) (f:id<1\/(sl.length:Int)<id):
  Calls prog 88 #[p,id] w (pI w [] [] [] 101):=by
 obtain⟨A,n,c,bs,a⟩:=h;have d:n=sl.length:=a.len;have g:id<1\/(n:Int)<id:=by omega
 have b:Below w w (w.alloc (.cells #[(),(),()] 130)):=gV;have i:=a.below b;clear f d a;go_enter func88,ntmps88;go_wp2_with (first|(go_at_call 131;refine(I1 id i g).mono ?_;rintro e w' ⟨rfl,rfl⟩))
 refine bodyPost_ret (v:= .tuple #[.agg #[(),(),()],.int .i64 101]) (by simp [results,results88,go_sem]) rfl ?_;exact⟨none,0,0,none,0,0,none,0,0,rfl,.inl ⟨rfl,rfl,rfl,rfl⟩,Tx.nil _ _,Tx.nil _ _,It.nil _ _,b⟩
theorem Qc {nodes:Int} (h:gL w F p nodes sl root):
  Calls prog 75 #[p] w fun e w'=>e= .returned (sl.length:Int)/\w=w':=by
 obtain⟨A,n,c,bs,a⟩:=h;have b:=aa a.len;obtain⟨c0,c1,d,f⟩:=a.cells;clear a;go_enter func75,ntmps75;go_wp2;go_ret
 exact⟨bR (by have:n=sl.length:=b.out.out;omega),rfl⟩
theorem Qd {nodes:Int} (h:gL w F p nodes sl root) (d:sl.length<=65536) (j:0<=nodes) (k:nodes<=65536):
  Calls prog 76 #[p] w fun e w'=>e= .returned (.int .i64 (nodes-sl.length))/\∃q,w'=w.drewN q:=by
 obtain⟨A,n,c,bs,a⟩:=h;have b:=aa a.len;have l:n<=65536:=by have:n=sl.length:=a.len;omega
 obtain⟨c0,c1,f,g⟩:=a.cells;clear a d;go_enter func76,ntmps76;have i:=IntWalk.i64_in (nodes-(n:Int)) (by omega);go_wp2;go_quiet (fail);go_wp2;go_ret;exact⟨bR (by have:n=sl.length:=b.out.out;omega),_,rfl⟩
theorem Fj {nodes:Int} (h:gL w F p nodes sl root):
  Calls prog 48 #[p] w fun e w'=>e= .returned root/\w=w':=by
 obtain⟨A,n,c,bs,a⟩:=h;obtain⟨c0,c1,b,d⟩:=a.cells;clear a;go_enter func48,ntmps48;go_wp2_with (first|(go_at_call 86;refine(Fy b).mono ?_;rintro e w' ⟨rfl,rfl⟩))
 go_ret
 exact⟨rfl,rfl⟩
end Go.Proofs.YtepgcjbhabnciaaGreat
