/- Part 10. -/
import Derived.Test.YtepgcjbhabnciaaGreatLe07
import Derived.Deep.OwnRows
import Derived.Deep.RegionWith
import Derived.Deep.CutRange
import Derived.Deep.DeepCutAuto
namespace Go.Proofs.YtepgcjbhabnciaaGreat
set_option maxRecDepth 100000
set_option maxHeartbeats 8000000
open Go.Proofs.Tryz Go.RowKit
variable {q w w' w1:World} {n k B:Nat} {ts:List (List UInt8)}
theorem lH:(prog.info? 24).map (fun i=>(i.zero,i.size,i.bytes))=some (some (.slice none 0 0),1,24):=by kernel_rfl
def jk (q:World) (ts:List (List UInt8)) (n k:Nat) (w:World):Prop:=
 ∃cs:List Value,cs.length=n/\aj w q.heap.size 24 cs.toArray/\∀(j:Nat) (t:List UInt8),j<k->ts[j]? =some t->∃v,cs[j]? =some v/\SB w (fG (From (q.heap.size+1)) w) v t
theorem yI (w:World) (ts:List (List UInt8)) (n:Nat):jk w ts n 0 (w.alloc (.cells (madeCells #[.slice none 0 0] n) 24)):=by
 refine⟨(madeCells #[.slice none 0 0] n).toList,by simp [size_madeCells],?_,fun j t a=>absurd a (by omega)⟩;simpa using aj.new w 24 (madeCells #[.slice none 0 0] n)
theorem BH (h:jk q ts n k w) (i:Nat) (hi:i<n):(∃v,w.cell? ⟨q.heap.size,i,none⟩=some v)/\w.frozen? ⟨q.heap.size,i,none⟩=false:=by
 obtain⟨cs,hl,a,_⟩:=h;refine⟨⟨cs[i],?_⟩,a.frozen i⟩;rw [a.cell];simp [hl,hi]
theorem o6 (h:jk q ts n k w) (c:Below w.heap.size w w'):jk q ts n k w':=by
 obtain⟨cs,hl,f,i⟩:=h;exact⟨cs,hl,f.below c,fun j t e g=>let⟨v,a,b⟩:=i j t e g;⟨v,a,b.soft_chg (S:=Nil) (ag.of_below c) (fun _ _ d=>d)⟩⟩
theorem BI {t:List UInt8} {v:Value} (h:jk q ts n k w) (r:k<n) (m:ts[k]? =some t) (hv:SB w (fG (From (q.heap.size+1)) w) v t):
  jk q ts n (k+1) (w.setCell ⟨q.heap.size,k,none⟩ v):=by
 obtain⟨cs,hl,l,o⟩:=h;have g:ag (mZ q.heap.size) w (w.setCell ⟨q.heap.size,k,none⟩ v):=ag.set1 w _ k v;have i:∀b,From (q.heap.size+1) b->¬mZ q.heap.size b:=fun b e f=>by have e:q.heap.size+1<=b:=e;have f:b=q.heap.size:=f;omega
 refine⟨cs.set k v,by simp [hl],by simpa using l.set_ k v,fun j u p a=> ?_⟩
 rcases Nat.lt_or_ge j k with h|h
 ·obtain⟨x,c,d⟩:=o j u h a
  exact⟨x,by rw [List.getElem?_set_ne (by omega)];exact c,d.soft_chg g i⟩
 ·obtain rfl:j=k:=by omega
  rw [m] at a;injection a with a
  subst a;exact⟨v,by rw [List.getElem?_set_self (by omega)],hv.soft_chg g i⟩
theorem BJ (h:jk q ts n n w) (k:n=ts.length) (g:n<=maxLen):Hz w q.heap.size w.heap.size (some ⟨q.heap.size,0,none⟩) n n ts:=by
 obtain⟨cs,hl,a,l⟩:=h;refine⟨Nat.le_refl _,g,k,rfl,a.lt,cs,⟨by simpa using hl,fun _=>⟨q.heap.size,0,rfl,⟨rfl,a.soft⟩,fun j u f=>by rw [a.cell];simpa using f⟩⟩,fun i t c=> ?_⟩;have hi:i<ts.length:=(List.getElem?_eq_some_iff.1 c).1;obtain⟨v,d,e⟩:=l i t (by omega) c;exact⟨v,d,e.lt.weak (fun b a=>⟨⟨by have a:=a.1.1;simp only [From] at a;omega,a.2⟩,a.1.2⟩)⟩
def Lh (w:World) (ts:List (List UInt8)) (e:Ending) (w':World):Prop:=
 ∃A n c,e= .returned (.slice A n c)/\Hz w' w.heap.size w'.heap.size A n c ts/\Below w.heap.size w w'
theorem zl (A:Option Addr) (n c:Nat) (F:Nat->Prop) (ts:List (List UInt8)) (w:World) (h:Tx w F A n c ts) (K:n<=1152921504606) (x:∀t∈ts,t.length<=1152921504606):
  Calls prog 160 #[.slice A n c] w (Lh w ts):=by
 have D:=aa h;have E:=aa h.len;have G:=aa x;have L:=run_make_row' (P:=prog) 128 24 (.slice none 0 0) 24 underlying128 lH rfl .i64 .i64 n (by omega) (by omega);clear h x;go_enter func160,ntmps160
 go_wp2
 go_loopg [10] n (fun g i wr=>∃(k:Nat),g=n-k/\k<=n/\i= .int .i64 k/\jk w ts n k wr/\Below w.heap.size w wr)
 case atStart=>exact⟨0,by omega,by omega,rfl,yI w ts n,(Below.refl _ _).alloc (Nat.le_refl _) _⟩
 case round=>
  obtain⟨k,v,Z,rfl,s,d⟩:=hrel;have C:=aa v;have j:=aa s;clear v s
  by_cases f:k<n
  ·obtain⟨b,o,U,O,V,t,rfl,_,p,c1,X,Y,q,r⟩:=D.out.at_ f;have W:=ak d c1;have H:=aa p;have z:=aa r;have hz:w.heap.size<wr.heap.size:=by obtain⟨cs,_,l,_⟩:=j.out;exact l.lt
   have m:O<=1152921504606:=by have:=q.out;have:=G.out t (List.mem_of_getElem? p);omega
   clear c1 p r;go_wp2_with (go_at_call 24;refine(dH _ _ _ F t _ (z.below d) q.out m).mono ?_;rintro e w1 ⟨y,N,I,rfl,Q,R,S,T,a⟩;obtain⟨⟨u,hu⟩,J⟩:=BH (o6 j a) k f;have M:=a.size)
   go_roundg (n-(k+1))
   case measure=>have:=C.out;omega
   case rel=>exact⟨k+1,rfl,by omega,by go_num,BI (o6 j a) f H ⟨y,N,I,rfl,Q,R,S,T.weak (fG.weak (fun b l=>by simp only [From] at l|-;omega))⟩,(d.trans (a.mono (by omega))).setCell (Nat.le_refl _) _⟩
  ·have B:=aa (BJ (show jk w ts n n wr from(show k=n by omega)▸j.out) E (by simp only [maxLen];omega));go_wp2;go_ret
   exact⟨_,_,_,rfl,B,d⟩
def Small (nd:Nd):Prop:=nd.high.length<=1152921504606/\nd.keys.length<=1152921504606/\nd.vals.length<=1152921504606/\nd.kids.length<=1152921504606/\(∀t∈nd.keys,t.length<=1152921504606)/\(∀t∈nd.vals,t.length<=1152921504606)
theorem uD {Y v2 F M:Value} (a:Below q.heap.size q w1)
  (h:q.cell? ⟨B,1,none⟩=some Y/\q.cell? ⟨B,3,none⟩=some v2/\q.cell? ⟨B,4,none⟩=some F/\q.cell? ⟨B,5,none⟩=some M):
  w1.cell? ⟨B,1,none⟩=some Y/\w1.cell? ⟨B,3,none⟩=some v2/\w1.cell? ⟨B,4,none⟩=some F/\w1.cell? ⟨B,5,none⟩=some M:=
 ⟨ak a h.1,ak a h.2.1,ak a h.2.2.1,ak a h.2.2.2⟩
def IJ (w:World) (nd:Nd) (e:Ending) (w':World):Prop:=
 ∃d g f h j i k m l a c b,e= .returned (.agg #[.int .i64 nd.lev,.slice d g f,.int .i64 nd.right,.slice h j i,.slice k m l,.slice a c b])/\
  Bt w' (From w.heap.size) d g f nd.high/\Tx w' (From w.heap.size) h j i nd.keys/\Tx w' (From w.heap.size) k m l nd.vals/\It w' (From w.heap.size) a c b nd.kids/\Below w.heap.size w w'
def wD (w:World) (nd:Nd) (e:Ending) (w':World):Prop:=
 ∃d h f i k j l n m a c b g hi,e= .returned (.agg #[.int .i64 nd.lev,.slice d h f,.int .i64 nd.right,.slice i k j,.slice l n m,.slice a c b])/\w.heap.size<=g/\
  Bt w' (fG (From w.heap.size) w') d h f nd.high/\Hz w' g hi i k j nd.keys/\Tx w' (From w.heap.size) l n m nd.vals/\It w' (fG (From hi) w') a c b nd.kids/\Below w.heap.size w w'
theorem wD.new {nd:Nd} {e:Ending} (h:wD w nd e w'):IJ w nd e w':=by
 obtain⟨o,r,p,s,u,t,v,y,x,d,i,f,g,hi,j,q,k,c,l,m,n⟩:=h;exact⟨o,r,p,s,u,t,v,y,x,d,i,f,j,k.weak (fun b a=>a.1),c.tx q,l,m.weak (fun b a=>by have a:=a.1;have:=c.2.2.2.2.1;simp only [From] at a|-;omega),n⟩
theorem uJ (nd:Nd) (F:Nat->Prop) (k Q vA c:Option Addr) (hn hc n j t vc a dc:Nat) (w:World)
  (S:Bt w F k hn hc nd.high) (V:Tx w F Q n j nd.keys) (W:Tx w F vA t vc nd.vals) (X:It w F c a dc nd.kids) (x:Small nd):
  Calls prog 132 #[.agg #[.int .i64 nd.lev,.slice k hn hc,.int .i64 nd.right,.slice Q n j,.slice vA t vc,.slice c a dc]] w (wD w nd):=by
 have H1:=aa S;have H2:=aa V;have H3:=aa W;have H4:=aa X;have HS:=aa x;have l1:hn<=1152921504606:=by have:=S.len;have:=x.1;omega
 have l2:n<=1152921504606:=by have:=V.len;have:=x.2.1;omega
 have l3:t<=1152921504606:=by have:=W.len;have:=x.2.2.1;omega
 have l4:a<=1152921504606:=by have:=X.len;have:=x.2.2.2.1;omega
 clear S V W X x;go_enter func132,ntmps132
 go_wp2_with fail
 refine aS (fun w'=>w'.cell? ⟨w.heap.size,1,none⟩=some (.slice k hn hc)/\w'.cell? ⟨w.heap.size,3,none⟩=some (.slice Q n j)/\w'.cell? ⟨w.heap.size,4,none⟩=some (.slice vA t vc)/\w'.cell? ⟨w.heap.size,5,none⟩=some (.slice c a dc)) 18 (by kernel_rfl) ?_;obtain⟨u,s⟩:∃u,u=((w.alloc (.cells #[.int .i64 nd.lev,.slice k hn hc,.int .i64 nd.right,.slice Q n j,.slice vA t vc,.slice c a dc] 132)).alloc (.cells #[.int .i64 0,.slice none 0 0,.int .i64 0,.slice none 0 0,.slice none 0 0,.slice none 0 0] 132)).drew:=⟨_,rfl⟩;rw [<-s]
 have q:u.cell? ⟨w.heap.size,1,none⟩=some (.slice k hn hc)/\u.cell? ⟨w.heap.size,3,none⟩=some (.slice Q n j)/\u.cell? ⟨w.heap.size,4,none⟩=some (.slice vA t vc)/\u.cell? ⟨w.heap.size,5,none⟩=some (.slice c a dc):=by
  subst s;simp
 have D:Below w.heap.size w u:=by subst s;exact(((Below.refl _ _).alloc (Nat.le_refl _) _).alloc (by simp) _).drew
 have Z:aj u w.heap.size 132 #[.int .i64 nd.lev,.slice k hn hc,.int .i64 nd.right,.slice Q n j,.slice vA t vc,.slice c a dc]:=by subst s;exact((aj.new _ _ _).alloc _).drew
 have H:aj u (w.heap.size+1) 132 #[.int .i64 0,.slice none 0 0,.int .i64 0,.slice none 0 0,.slice none 0 0,.slice none 0 0]:=by subst s;simpa using (aj.new (w.alloc (.cells #[.int .i64 nd.lev,.slice k hn hc,.int .i64 nd.right,.slice Q n j,.slice vA t vc,.slice c a dc] 132)) 132 #[.int .i64 0,.slice none 0 0,.int .i64 0,.slice none 0 0,.slice none 0 0,.slice none 0 0]).drew
 clear s;refine dh (i:=0) (v:= ?_) rfl (by kernel_rfl) (by kernel_rfl) (by kernel_rfl) (by kernel_rfl) (fun _ _ _ h=>h) (fun _=>q) (Or.inl ⟨by rfl,?_⟩) ?_
 rotate_left
 ·intro w hSw;go_simp
  try with_reducible rfl
 try simp only [Act.put,List.setIfInBounds_toArray]
 refine dh (i:=1) (v:= ?_) rfl (by kernel_rfl) (by kernel_rfl) (by kernel_rfl) (by kernel_rfl) (fun _ _ _ h=>h) (fun _=>q) (Or.inl ⟨by rfl,?_⟩) ?_
 rotate_left
 ·intro w hSw;go_simp
  try with_reducible rfl
 try simp only [Act.put]
 refine dh (i:=4) (v:= ?_) rfl (by kernel_rfl) (by kernel_rfl) (by kernel_rfl) (by kernel_rfl) (fun _ _ _ h=>h) (fun _=>q) (Or.inl ⟨by rfl,?_⟩) ?_
 rotate_left
 ·intro w hSw;go_simp
  try with_reducible rfl
 try simp only [Act.put]
 refine dh (i:=5) (v:= ?_) rfl (by kernel_rfl) (by kernel_rfl) (by kernel_rfl) (by kernel_rfl) (fun _ _ _ h=>h) (fun _=>q) (Or.inl ⟨by rfl,?_⟩) ?_
 rotate_left
 ·intro w hSw;go_simp
  try with_reducible rfl
 try simp only [Act.put]
 refine dh (i:=8) (v:= ?_) rfl (by kernel_rfl) (by kernel_rfl) (by kernel_rfl) (by kernel_rfl) (fun _ _ _ h=>h) (fun _=>q) (Or.inl ⟨by rfl,?_⟩) ?_
 rotate_left
 ·intro w hSw;go_simp
  try with_reducible rfl
 try simp only [Act.put]
 refine dh (i:=9) (v:= ?_) rfl (by kernel_rfl) (by kernel_rfl) (by kernel_rfl) (by kernel_rfl) (fun _ _ _ h=>h) (fun _=>q) (Or.inl ⟨by rfl,?_⟩) ?_
 rotate_left
 ·intro w hSw;go_simp
  try with_reducible rfl
 try simp only [Act.put]
 refine dh (i:=12) (v:= ?_) rfl (by kernel_rfl) (by kernel_rfl) (by kernel_rfl) (by kernel_rfl) (fun _ _ _ h=>h) (fun _=>q) (Or.inl ⟨by rfl,?_⟩) ?_
 rotate_left
 ·intro w hSw;go_simp
  try with_reducible rfl
 try simp only [Act.put]
 refine dh (i:=13) (v:= ?_) rfl (by kernel_rfl) (by kernel_rfl) (by kernel_rfl) (by kernel_rfl) (fun _ _ _ h=>h) (fun _=>q) (Or.inl ⟨by rfl,?_⟩) ?_
 rotate_left
 ·intro w hSw;go_simp
  try with_reducible rfl
 try simp only [Act.put]
 refine nI (i:=2) (v:= ?_) rfl (by kernel_rfl) (by kernel_rfl) (by kernel_rfl) (by kernel_rfl) (fun _ _ _ h=>h) q (Or.inl ⟨by rfl,?_⟩) ?_
 rotate_left
 ·intro w hSw;obtain⟨s1,s3,s4,s5⟩:=hSw;go_simp
  try with_reducible rfl
 try simp only [Act.put]
 refine nI (i:=6) (v:= ?_) rfl (by kernel_rfl) (by kernel_rfl) (by kernel_rfl) (by kernel_rfl) (fun _ _ _ h=>h) q (Or.inl ⟨by rfl,?_⟩) ?_
 rotate_left
 ·intro w hSw;obtain⟨s1,s3,s4,s5⟩:=hSw;go_simp
  try with_reducible rfl
 try simp only [Act.put]
 refine nI (i:=10) (v:= ?_) rfl (by kernel_rfl) (by kernel_rfl) (by kernel_rfl) (by kernel_rfl) (fun _ _ _ h=>h) q (Or.inl ⟨by rfl,?_⟩) ?_
 rotate_left
 ·intro w hSw;obtain⟨s1,s3,s4,s5⟩:=hSw;go_simp
  try with_reducible rfl
 try simp only [Act.put]
 refine nI (i:=14) (v:= ?_) rfl (by kernel_rfl) (by kernel_rfl) (by kernel_rfl) (by kernel_rfl) (fun _ _ _ h=>h) q (Or.inl ⟨by rfl,?_⟩) ?_
 rotate_left
 ·intro w hSw;obtain⟨s1,s3,s4,s5⟩:=hSw;go_simp
  try with_reducible rfl
 try simp only [Act.put]
 refine aH (i:=3) (by kernel_rfl) rfl (fun K d=> ?_);go_simp
 refine(dH _ _ _ F nd.high _ (H1.2.2.2.below D) H1.2.2.1 l1).mono ?_;rintro e w1 ⟨E,I,c1,rfl,p1,p2,p3,p4,y⟩;have N:=uD y q;have A:=D.trans (y.mono D.size);refine d.out _ _ (fun _=>N) ?_;clear d K;try simp only [Act.put,List.setIfInBounds_toArray,List.set_cons_zero,List.set_cons_succ]
 refine dh (i:=16) (v:= ?_) rfl (by kernel_rfl) (by kernel_rfl) (by kernel_rfl) (by kernel_rfl) (fun _ _ _ h=>h) (fun _=>N) (Or.inl ⟨by rfl,?_⟩) ?_
 rotate_left
 ·intro w hSw;go_simp
  try with_reducible rfl
 try simp only [Act.put,List.setIfInBounds_toArray]
 refine dh (i:=17) (v:= ?_) rfl (by kernel_rfl) (by kernel_rfl) (by kernel_rfl) (by kernel_rfl) (fun _ _ _ h=>h) (fun _=>N) (Or.inl ⟨by rfl,?_⟩) ?_
 rotate_left
 ·intro w hSw;go_simp
  try with_reducible rfl
 try simp only [Act.put]
 refine aH (i:=7) (by kernel_rfl) rfl (fun K d=> ?_);go_simp
 refine(zl _ _ _ F nd.keys _ (H2.below A) l2 HS.2.2.2.2.1).mono ?_;rintro e w2 ⟨J,T,O,rfl,q2,r⟩;have S2:=uD r N;have B:=A.trans (r.mono A.size);refine d.out _ _ (fun _=>S2) ?_;clear d K;try simp only [Act.put,List.setIfInBounds_toArray,List.set_cons_zero,List.set_cons_succ]
 refine aH (i:=11) (by kernel_rfl) rfl (fun K d=> ?_);go_simp
 refine(zl _ _ _ F nd.vals _ (H3.below B) l3 HS.2.2.2.2.2).mono ?_;rintro e w3 ⟨L,U,P,rfl,q3,l⟩;have S3:=uD l S2;have C:=B.trans (l.mono B.size);refine d.out _ _ (fun _=>S3) ?_;clear d K;try simp only [Act.put,List.setIfInBounds_toArray,List.set_cons_zero,List.set_cons_succ]
 refine aH (i:=15) (by kernel_rfl) rfl (fun K d=> ?_);go_simp
 refine(oK _ _ _ F (nd.kids.map (Value.int .i64)) _ (H4.2.2.2.below C) (Oa _) l4).mono ?_;rintro e f ⟨M,R,rfl,r1,r2,r3,m⟩;have S4:=uD m S3;have G:=C.trans (m.mono C.size);refine d.out _ _ (fun _=>S4) ?_;clear d K;try simp only [Act.put,List.setIfInBounds_toArray,List.set_cons_zero,List.set_cons_succ]
 have Y:=((((Z.below y).below r).below l).below m);have k1:=((((H.below y).below r).below l).below m);have z0:f.cell? ⟨w.heap.size,0,none⟩=some (.int .i64 nd.lev):=by rw [Y.cell];rfl
 have z2:f.cell? ⟨w.heap.size,2,none⟩=some (.int .i64 nd.right):=by rw [Y.cell];rfl
 obtain⟨z1,z3,z4,z5⟩:=S4;have f0:∀o,f.frozen? ⟨w.heap.size,o,none⟩=false:=Y.frozen;have f1:∀o,f.frozen? ⟨w.heap.size+1,o,none⟩=false:=k1.frozen;have y0:f.cell? ⟨w.heap.size+1,0,none⟩=some (.int .i64 0):=by rw [k1.cell];rfl
 have y1:f.cell? ⟨w.heap.size+1,1,none⟩=some (.slice none 0 0):=by rw [k1.cell];rfl
 have y2:f.cell? ⟨w.heap.size+1,2,none⟩=some (.int .i64 0):=by rw [k1.cell];rfl
 have y3:f.cell? ⟨w.heap.size+1,3,none⟩=some (.slice none 0 0):=by rw [k1.cell];rfl
 have y4:f.cell? ⟨w.heap.size+1,4,none⟩=some (.slice none 0 0):=by rw [k1.cell];rfl
 have y5:f.cell? ⟨w.heap.size+1,5,none⟩=some (.slice none 0 0):=by rw [k1.cell];rfl
 refine aH (i:=18) (by kernel_rfl) rfl (fun K d=> ?_);go_simp
 refine d.out _ _ (fun h=>absurd h (by decide)) ?_;clear d K;try simp only [Act.put,List.setIfInBounds_toArray,List.set_cons_zero,List.set_cons_succ]
 refine dh (i:=19) (v:= ?_) rfl (by kernel_rfl) (by kernel_rfl) (by kernel_rfl) (by kernel_rfl) (fun _ _ _ h=>h) (fun h=>absurd h (by decide)) (Or.inl ⟨by rfl,?_⟩) ?_
 rotate_left
 ·intro w hSw;go_simp
  try with_reducible rfl
 try simp only [Act.put,List.setIfInBounds_toArray]
 refine dh (i:=20) (v:= ?_) rfl (by kernel_rfl) (by kernel_rfl) (by kernel_rfl) (by kernel_rfl) (fun _ _ _ h=>h) (fun h=>absurd h (by decide)) (Or.inl ⟨by rfl,?_⟩) ?_
 rotate_left
 ·intro w hSw;go_simp
  try with_reducible rfl
 try simp only [Act.put]
 refine aH (i:=21) (by kernel_rfl) rfl (fun K d=> ?_);go_simp
 refine d.out _ _ (fun h=>absurd h (by decide)) ?_;clear d K;try simp only [Act.put,List.setIfInBounds_toArray,List.set_cons_zero,List.set_cons_succ]
 refine dh (i:=22) (v:= ?_) rfl (by kernel_rfl) (by kernel_rfl) (by kernel_rfl) (by kernel_rfl) (fun _ _ _ h=>h) (fun h=>absurd h (by decide)) (Or.inl ⟨by rfl,?_⟩) ?_
 rotate_left
 ·intro w hSw;go_simp
  try with_reducible rfl
 try simp only [Act.put,List.setIfInBounds_toArray]
 refine dh (i:=23) (v:= ?_) rfl (by kernel_rfl) (by kernel_rfl) (by kernel_rfl) (by kernel_rfl) (fun _ _ _ h=>h) (fun h=>absurd h (by decide)) (Or.inl ⟨by rfl,?_⟩) ?_
 rotate_left
 ·intro w hSw;go_simp
  try with_reducible rfl
 try simp only [Act.put]
 refine aH (i:=24) (by kernel_rfl) rfl (fun K d=> ?_);go_simp
 refine d.out _ _ (fun h=>absurd h (by decide)) ?_;clear d K;try simp only [Act.put,List.setIfInBounds_toArray,List.set_cons_zero,List.set_cons_succ]
 refine dh (i:=25) (v:= ?_) rfl (by kernel_rfl) (by kernel_rfl) (by kernel_rfl) (by kernel_rfl) (fun _ _ _ h=>h) (fun h=>absurd h (by decide)) (Or.inl ⟨by rfl,?_⟩) ?_
 rotate_left
 ·intro w hSw;go_simp
  try with_reducible rfl
 try simp only [Act.put,List.setIfInBounds_toArray]
 refine dh (i:=26) (v:= ?_) rfl (by kernel_rfl) (by kernel_rfl) (by kernel_rfl) (by kernel_rfl) (fun _ _ _ h=>h) (fun h=>absurd h (by decide)) (Or.inl ⟨by rfl,?_⟩) ?_
 rotate_left
 ·intro w hSw;go_simp
  try with_reducible rfl
 try simp only [Act.put]
 refine aH (i:=27) (by kernel_rfl) rfl (fun K d=> ?_);go_simp
 refine d.out _ _ (fun h=>absurd h (by decide)) ?_;clear d K;try simp only [Act.put,List.setIfInBounds_toArray,List.set_cons_zero,List.set_cons_succ]
 refine bS (by kernel_rfl) ?_ _;go_wp2;refine bodyPost_ret (v:= .agg #[.int .i64 nd.lev,.slice E I c1,.int .i64 nd.right,.slice J T O,.slice L U P,.slice M a R]) (by simp [results,results132,go_sem, *]) rfl ?_
 have z:ag (fun b=>w.heap.size<=b/\b<=w.heap.size+1) f ((((((((((f.setCell ⟨w.heap.size,1,none⟩ (.slice E I c1)).setCell ⟨w.heap.size,3,none⟩ (.slice J T O)).setCell ⟨w.heap.size,4,none⟩ (.slice L U P)).setCell ⟨w.heap.size,5,none⟩ (.slice M a R)).setCell ⟨w.heap.size+1,0,none⟩ (.int .i64 nd.lev)).setCell ⟨w.heap.size+1,1,none⟩ (.slice E I c1)).setCell ⟨w.heap.size+1,2,none⟩ (.int .i64 nd.right)).setCell ⟨w.heap.size+1,3,none⟩ (.slice J T O)).setCell ⟨w.heap.size+1,4,none⟩ (.slice L U P)).setCell ⟨w.heap.size+1,5,none⟩ (.slice M a R)):=by
  repeat (refine ag.setCell ?_ (p:=⟨_,_,none⟩) (fun _=>by simp) _)
  exact ag.refl _ _
 have hn:∀b,From (w.heap.size+2) b->¬(w.heap.size<=b/\b<=w.heap.size+1):=fun b g h=>by have g:w.heap.size+2<=b:=g;omega
 have z0:w.heap.size+2<=u.heap.size:=by have:=H.lt;omega
 have z1:=y.size;have z2:=r.size;have z3:=l.size;have g1:Bt f (fG (From (w.heap.size+2)) f) E I c1 nd.high:=((((show Bt w1 (fG (From u.heap.size) w1) E I c1 nd.high from⟨p1,p2,p3,p4⟩).soft_below r).soft_below l).soft_below m).weak (fG.weak (fun b g=>by have g:u.heap.size<=b:=g;show w.heap.size+2<=b;omega));have g2:Hz f w1.heap.size w2.heap.size J T O nd.keys:=(q2.below l).below m;have g3:Tx f (From (w.heap.size+2)) L U P nd.vals:=((q3.tx (Nat.le_refl _)).below m).weak (fun b g=>by have g:w2.heap.size<=b:=g;show w.heap.size+2<=b;omega);have g4:It f (fG (From w2.heap.size) f) M a R nd.kids:=⟨r1,r2,H4.2.2.1,r3.weak (fG.weak (fun b g=>by have g:w3.heap.size<=b:=g;show w2.heap.size<=b;omega))⟩;have up:∀b,From (w.heap.size+2) b->From w.heap.size b:=fun b g=>by have g:w.heap.size+2<=b:=g;show w.heap.size<=b;omega
 exact⟨_,_,_,_,_,_,_,_,_,_,_,_,w1.heap.size,w2.heap.size,rfl,by omega,(g1.soft_chg z hn).weak (fG.weak up),g2.chg z (fun b S _ h=>by omega),(g3.chg z hn).weak up,g4.soft_chg z (fun b g h=>by simp only [From] at g;omega),G.trans (z.below_of G.size (fun b g h=>by omega))⟩
theorem uL (nd:Nd) (F:Nat->Prop) (k Q b c:Option Addr) (o i n j vn vc a t:Nat) (w:World)
  (d:Bt w F k o i nd.high) (e:Tx w F Q n j nd.keys) (f:Tx w F b vn vc nd.vals) (g:It w F c a t nd.kids) (x:Small nd):
  Calls prog 132 #[.agg #[.int .i64 nd.lev,.slice k o i,.int .i64 nd.right,.slice Q n j,.slice b vn vc,.slice c a t]] w (IJ w nd):=
 (uJ nd F k Q b c o i n j vn vc a t w d e f g x).mono fun _ _ h=>h.new
theorem xS (w:World) (g i:Nat) (u:Value):ag (mZ g) w (w.setCell ⟨g,i,none⟩ u):=ag.set1 w g i u
theorem chg2 (w:World) (g i j:Nat) (u v:Value):ag (mZ g) w ((w.setCell ⟨g,i,none⟩ u).setCell ⟨g,j,none⟩ v):=(xS w g i u).setCell (p:=⟨g,j,none⟩) (fun _=>rfl) v
end Go.Proofs.YtepgcjbhabnciaaGreat
