/- Part 40. -/
import Derived.Maps.OwnOps
import Derived.Maps.Views
import Derived.WalkArith
import Derived.Test.YtepgcjbhabnciaaGreatLp39
import Derived.WalkMore
namespace Go.Proofs.YtepgcjbhabnciaaGreat
set_option maxRecDepth 100000
set_option maxHeartbeats 8000000
open Go.RowKit Go.Proofs.Tryz
open Go.Lib (compareBytes)
open Go.RowKit Go.Maps
variable {b p k inn L q n j:Nat} {root nd lf:Int} {d N:Nat->Nat} {w:World} {F:Nat->Prop} {sl:List aX} {X:Nat->Nat->Nd}
structure Cv (w:World) (F:Nat->Prop) (x:Nd) (hA kA vA dA:Option Addr) (hn hc kn kc vn vc dn dc:Nat):Prop where
 h:Bt w F hA hn hc x.high
 k:Tx w F kA kn kc x.keys
 v:Tx w F vA vn vc x.vals
 d:It w F dA dn dc x.kids
theorem Cv.below {w w':World} {F:Nat->Prop} {x:Nd} {hA kA vA dA:Option Addr} {hn hc kn kc vn vc dn dc:Nat} (h:Cv w F x hA kA vA dA hn hc kn kc vn vc dn dc) (o:Below w w w'):Cv w' F x hA kA vA dA hn hc kn kc vn vc dn dc:=
 ⟨h.h.below o,h.k.below o,h.v.below o,h.d.below o⟩
theorem Cv.chg {S F:Nat->Prop} {w w':World} {x:Nd} {hA kA vA dA:Option Addr} {hn hc kn kc vn vc dn dc:Nat} (h:Cv w F x hA kA vA dA hn hc kn kc vn vc dn dc) (a:ag S w w') (Q:∀b,F b->¬S b):Cv w' F x hA kA vA dA hn hc kn kc vn vc dn dc:=
 ⟨h.h.chg a Q,h.k.chg a Q,h.v.chg a Q,h.d.chg a Q⟩
theorem Cv.weak {F G:Nat->Prop} {w:World} {x:Nd} {hA kA vA dA:Option Addr} {hn hc kn kc vn vc dn dc:Nat} (h:Cv w F x hA kA vA dA hn hc kn kc vn vc dn dc) (a:∀b,F b->G b):Cv w G x hA kA vA dA hn hc kn kc vn vc dn dc:=
 ⟨h.h.weak a,h.k.weak a,h.v.weak a,h.d.weak a⟩
theorem DT {t:TypeId} {a b c d e f:Value} (h:ak w q t #[a,b,c,d,e,f]):w.cell? q=some a/\w.cell? ⟨q,1,none⟩=some b/\w.cell? ⟨q,2,none⟩=some c/\w.cell? ⟨q,3,none⟩=some d/\w.cell? ⟨q,4,none⟩=some e/\w.cell? ⟨q,5,none⟩=some f:=
 ⟨h.cell 0,h.cell 1,h.cell 2,h.cell 3,h.cell 4,h.cell 5⟩
def MH (w:World) (x:Nd) (e:Ending) (w':World):Prop:=
 ∃hA hn hc kA kn kc vA vn vc dA dn dc,e= .returned (.tuple #[.agg #[(x.lev:Int),.slice hA hn hc,(x.right:Int),.slice kA kn kc,.slice vA vn vc,.slice dA dn dc],true])/\Cv w' (From w) x hA kA vA dA hn hc kn kc vn vc dn dc/\Below w w w'
theorem wu (u0 a y B J s:Value):ag (jX b) w ((((((w.setCell b u0).setCell ⟨b,1,none⟩ a).setCell ⟨b,2,none⟩ y).setCell ⟨b,3,none⟩ B).setCell ⟨b,4,none⟩ J).setCell ⟨b,5,none⟩ s):=
 (((((ag.set1 w b 0 u0).setCell (p:=⟨b,1,none⟩) (fun _=>rfl) a).setCell (p:=⟨b,2,none⟩) (fun _=>rfl) y).setCell (p:=⟨b,3,none⟩) (fun _=>rfl) B).setCell (p:=⟨b,4,none⟩) (fun _=>rfl) J).setCell (p:=⟨b,5,none⟩) (fun _=>rfl) s
theorem XL {nodes:Int} (id:Int) {s:aX} (h:gL w F p nodes sl root) (a:1<=id) (h2:id<=sl.length) (hn:sl.length<=65536) (W:sl[id.toNat-1]? =some s) (M:Small s.2):
  Calls prog 49 #[p,id] w (MH w s.2):=by
 have R:=aa h;have Q:=aa W;have X:=aa M;have P:=aa hn;have U:Below w w (w.alloc (.cells #[.int .i64 0,(),.int .i64 0,(),(),()] 132)):=gV;have O:=aa U;clear h W M hn U;go_enter func49,ntmps49;go_wp2_with (first|(go_at_call 87;go_loud (refine(LF id s (R.below O.out) a h2 P Q X.1).mono ?_);rintro e w1 ⟨i,j,c1,rfl,Y,l⟩;have G:=aa Y;have r:=aa (O.out.trans (l.mono (by simp)));have S:=aa ((ak.new w 132 #[.int .i64 0,(),.int .i64 0,(),(),()]).below l);have T:Hid (Below w w (w1.alloc (.cells #[(s.2.lev:Int),.slice i j c1,(s.2.right:Int)] 127))):=aa (r.alloc r.size _);clear l Y)|(go_at_call 88;go_loud (refine(LG id (R.below T.out) a h2 P Q X).mono ?_);rintro e w2 ⟨m,z,t,n,A,u,q,B,x,rfl,_,Z,r3,r4,d⟩;have H:=aa Z;have I:=aa r3;have J:=aa r4;have k:=aa d;have c:Below w2 w2 (w2.alloc (.cells #[.slice m z t,.slice n A u,.slice q B x] 130)):=gV;have E:=aa c;have K:=aa (((S.out.alloc (.cells #[(s.2.lev:Int),.slice i j c1,(s.2.right:Int)] 127)).below d).below c);obtain⟨z0,z1,z2,z3,z4,z5⟩:=DT K.out;have zf:=K.out.frozen;have y0:=aj c (aj (b:=w1.heap.size) (o:=0) (v:= (s.2.lev:Int)) d (by simp));have y1:=aj c (aj (b:=w1.heap.size) (o:=1) (v:= .slice i j c1) d (by simp));have y2:=aj c (aj (b:=w1.heap.size) (o:=2) (v:= (s.2.right:Int)) d (by simp));have N:=S.out.lt;have ab:=K.out.lt;clear d c Z r3 r4))
 refine bodyPost_ret (v:= .tuple #[.agg #[(s.2.lev:Int),.slice i j c1,(s.2.right:Int),.slice m z t,.slice n A u,.slice q B x],true]) (by simp [results,results49,go_sem, *]) rfl ?_;obtain⟨C,y⟩:=gF (w2.alloc (.cells #[.slice m z t,.slice n A u,.slice q B x] 130));rw [<-y];have c:Below w2 w2 C:=by rw [y];exact E
 have f:=wu (b:=w.heap.size) (w:=C) (s.2.lev:Int) (.slice i j c1) (s.2.right:Int) (.slice m z t) (.slice n A u) (.slice q B x);have no:∀b,From (w+1) b->¬jX w b:=fun b g e=>by simp only [From,jX] at g e;omega
 have D:∀b,From (w+1) b->From w b:=fun b g=>by simp only [From] at g|-;omega
 have s1:w.heap.size+1<=w1:=N;have s2:w1.heap.size+1<=w2:=by have:=k.out.size;simpa using this
 have L:∀b,From (w1.alloc (.cells #[(s.2.lev:Int),.slice i j c1,(s.2.right:Int)] 127)).heap.size b->From (w+1) b:=fun b g=>by
  have e:(w1.alloc (.cells #[(s.2.lev:Int),.slice i j c1,(s.2.right:Int)] 127)).heap.size=w1.heap.size+1:=by simp
  simp only [From] at g|-;omega
 have q1:Bt C (From (w+1)) i j c1 s.2.high:=(((G.weak (fun b g=>by have g:=g.1;simpa [From] using g)).below gV).below k).below c;have q2:=((H.weak L).below c).chg f no;have q3:=((I.weak L).below c).chg f no;have q4:=((J.weak L).below c).chg f no;have V:Below w.heap.size w C:=(T.out.trans (k.mono (by simp;omega))).trans (c.mono (by omega));exact⟨i,j,c1,m,z,t,n,A,u,q,B,x,rfl,⟨(q1.chg f no).weak D,q2.weak D,q3.weak D,q4.weak D⟩,V.trans (f.below_of V.size (fun b g e=>by simp only [jX] at e;omega))⟩
section
theorem GR:Keyed prog 3:=int_keyed underlying3
theorem VP (w:World):(zeroValue 3).run prog w= .ok (.int .i64 0) w:=by kernel_rfl
theorem ZG {a:Int} (h: -9223372036854775808<=a) (b:a<=9223372036854775807):(Lit.int .i64 a).wf=true:=by simp [Lit.wf,IntKind.min,IntKind.max,IntKind.signed,IntKind.bits];omega
theorem VQ {H:Type} {a b:Int} (h:(DataW.lit (.int .i64 a):DataW H)= .lit (.int .i64 b)):a=b:=by
 injection h with h
 injection h
def iK (w:World) (b n:Nat) (f:Int->Int):Prop:=
 ∃D:DataW Unit,w.ownsMap prog 3 (plainElem prog 3) b n D/\IsMap D/\∀k:Int,D.atKey (.int .i64 k) (.lit (.int .i64 0))= .lit (.int .i64 (f k))
section
variable {w w':World} {b n:Nat} {f:Int->Int}
theorem iK.made (w:World):iK (w.alloc (.map #[] 0)) w 0 (fun _=>0):=
 ⟨.map [],World.ownsMap_made _ _ _ _,isMap_empty,fun _=>rfl⟩
theorem iK.lt (h:iK w b n f):b<w:=by obtain⟨D,h,_⟩:=h;exact h.lt
theorem iK.chg {S:Nat->Prop} (h:iK w b n f) (hc:ag S w w') (l:¬S b):iK w' b n f:=by
 have c:=h.lt;obtain⟨D,⟨e,a,i,F,d,g⟩,k,j⟩:=h;exact⟨D,⟨e,a,(hc.block b c l).trans i,F,d,g⟩,k,j⟩
theorem iK.below (h:iK w b n f) (o:Below w w w'):iK w' b n f:=h.chg (S:=Nil) (ag.of_below o) (fun a=>a)
theorem iK.look (h:iK w b n f) {k:Int} (g: -9223372036854775808<=k) (i:k<=9223372036854775807):(Instr.lookup 125 (.map (some b)) k false).run prog w= .ok (.int .i64 (f k)) w:=by
 obtain⟨D,a,_,j⟩:=h;obtain⟨c,e,d,_⟩:=a.lookup_int GR underlying125 underlying3 (VP w) (keyOf_int_mk underlying3 (ZG g i));rw [j k] at d;have:f k=c:=VQ d;rw [this];exact e
theorem jA {ops:Array Oper} {rest:List Oper} {o:Oper} {a:Act} {Q:Exit->Act->World->Prop}
  (B:o.guard=none) (m x v:Operand) (i:o.op=Op.mapUpdate 125 m x v) (C:a.eval m= .map (some b)) (d:iK w b n f) (hn:n<maxLen) (k u:Int) (E:a.eval x= k) (hv:a.eval v= u)
  (q: -9223372036854775808<=k) (r:k<=9223372036854775807) (s: -9223372036854775808<=u) (t:u<=9223372036854775807)
  (z:∀w',iK w' b (n+1) (fun j=>if j=k then u else f j)->ag (jX b) w w'->wpList prog ops Q rest (a.put o.dst undef) w'):
  wpList prog ops Q (o::rest) a w:=by
 obtain⟨D,y,p,A⟩:=d;refine wpList_mapUpdate_own w B m x v 125 i 3 3 GR underlying125 _ b n D C y hn k u (.int .i64 k) E hv (keyOf_int_mk underlying3 (ZG q r)) (.lit (.int .i64 u)) [] (plainElem_int underlying3 (ZG s t)) ?_;intro w' l g;refine z w' ⟨_,l,p.put _ _,fun j=> ?_⟩ ((ag.refl _ _).grown g (fun c hc _=>by injection hc with hc;exact hc.symm))
 by_cases h:j=k
 ·subst h;show _=DataW.lit (Lit.int .i64 (if j=j then u else f j))
  rw [if_pos rfl,atKey_put_same p (by simp [WideAt.IsKeyLit])]
 ·show _=DataW.lit (Lit.int .i64 (if j=k then u else f j));rw [if_neg h,atKey_put_other (fun e=>h (by injection e)),A j]
end
end
abbrev Lk:=Int×List UInt8×Nd
def lb (us:List Value) (j:Nat):List Value:=(us.drop (j*8)).take 8
theorem Cv.lt {w:World} {F:Nat->Prop} {x:Nd} {hA kA vA dA:Option Addr} {hn hc kn kc vn vc dn dc:Nat} (h:Cv w F x hA kA vA dA hn hc kn kc vn vc dn dc):Cv w (fun b=>F b/\b<w) x hA kA vA dA hn hc kn kc vn vc dn dc:=
 ⟨h.h.lt,h.k.lt,h.v.lt,h.d.lt⟩
theorem MN {nodes:Int} (id:Int) (x:Nd) (h:gL w F p nodes sl root) (a:1<=id) (hn:sl.length<=65536) (b:∃s,sl[id.toNat-1]? =some s/\s.2=x/\Small s.2):
  Calls prog 49 #[p,id] w (MH w x):=by
 obtain⟨s,b,rfl,c⟩:=b;exact XL id h a (by have:=(nE.1 b).1;omega) hn b c
theorem wN {f:Int->Int} {k:Int} (h:iK w b n f) (c: -9223372036854775808<=k) (d:k<=9223372036854775807) (a:f k=0):(Instr.lookup 125 (.map (some b)) k false).run prog w= .ok (.int .i64 0) w:=by
 have:=h.look c d;rw [a] at this;exact this
structure XP (sl:List aX) (nd lf:Int) (inn:Nat) (lev d M:Nat) (X:Nat->Nd):Prop where
 at_:∀j,j<M->∃s,sl[d+j]? =some s/\s.2=X j/\Small s.2
 fine:∀j,j<M->Fine nd lf inn (X j)
 lev:∀j,j<M->(X j).lev=(lev:Int)
 right:∀j,j<M->(X j).right=if j+1<M then(d:Int)+(j:Int)+1+1 else 0
 low:∀j,j<M->Yv (jb (fun i=>(X i).high) j) (X j)
def Yl (m d:Nat) (b:Nat->Nd) (a:List UInt8) (x:Nd):Prop:=∀(c:Nat) (kid:Int),x.kids[c]? =some kid->∃j,j<m/\kid=(d:Int)+(j:Int)+1/\(c=0->a=jb (fun t=>(b t).high) j)/\(c≠0->x.keys[c-1]? =some (jb (fun t=>(b t).high) j))
def YZ (c b e:Nat) (a d:Nat->Nd):Prop:=∀i,i<c->Yl b e d (jb (fun t=>(a t).high) i) (a i)
structure sD (sl:List aX) (root nd lf:Int) (inn L:Nat) (N d:Nat->Nat) (X:Nat->Nat->Nd):Prop where
 root:root=(d L:Int)+1
 top:N L=1
 deep:L<=31
 pos:∀k,1<=N k
 base:d 0=0
 step:∀k,d (k+1)=d k+N k
 lv:∀k,k<=L->XP sl nd lf inn k (d k) (N k) (X k)
 kids:∀k,k<L->YZ (N (k+1)) (N k) (d k) (X (k+1)) (X k)
 kid0:∀k,k<L->(X (k+1) 0).kids[0]? =some ((d k:Int)+1)
 aN3:∀k i,k<=L->i<N k->(X k i).kids.length<=1000
 even:∀s∈sl,0<=s.1/\s.1<=4611686018427387904/\s.1%2=0
theorem sD.mono (h:sD sl root nd lf inn L N d X) (b:j<=k):d j<=d k:=by
 induction k with
 |zero=>
  have:j=0:=by omega
  subst this;exact jO
 |succ k c=>
  rcases Nat.lt_or_ge k j with a|a
  ·have:j=k+1:=by omega
   subst this;exact jO
  ·exact ma (c a) (by rw [h.step];omega)
theorem sD.fit (h:sD sl root nd lf inn L N d X) (a:k<=L):d k+N k<=sl.length:=by
 have c:=h.pos k;obtain⟨s,b,_⟩:=(h.lv k a).at_ (N k-1) (by omega);have:=(nE.1 b).1;omega
section
theorem SB.next2 {S D D':Nat->Prop} {w w':World} {v:Value} {bs:List UInt8} (h:SB w D v bs) (hc:ag S w w') (d:∀b,b<w.heap.size->D b->¬S b) (c:∀b,b<w.heap.size->D b->D' b):SB w' D' v bs:=
 (h.lt.chg hc (fun b a=>d b a.2 a.1)).weak (fun b a=>c b a.2 a.1)
structure Er (w:World) (base:Nat) (out:Value) (us:List Value) (l:List aR):Prop where
 own:w.ownsRow base 69 2 out l.length us
 at_:∀(i:Nat) (e:aR),l[i]? =some e->∃u v,us[2*i]? =some u/\us[2*i+1]? =some v/\SB w (fun b=>base<=b/\out.ownBlock≠some b) u e.1/\SB w (fun b=>base<=b/\out.ownBlock≠some b) v e.2
section
variable {S:Nat->Prop} {w w':World} {base:Nat} {out:Value} {us:List Value} {l:List aR}
theorem Er.nil (w:World) (base:Nat):Er w base () [] []:=⟨World.ownsRow_nil _ _ _ _,fun i e h=>by simp at h⟩
theorem Er.chg (h:Er w base out us l) (hc:ag S w w') (f:∀b,base<=b->¬S b):Er w' base out us l:=
 ⟨aB h.own hc (fun b j=>f b (ah h.own b j).1),fun i e k=>let⟨u,v,a,b,c,d⟩:=h.at_ i e k;⟨u,v,a,b,c.chg hc (fun x g=>f x g.1),d.chg hc (fun x g=>f x g.1)⟩⟩
theorem Er.below (h:Er w base out us l) (o:Below w w w'):Er w' base out us l:=
 ⟨own_below h.own o,fun i e f=>let⟨u,v,a,b,c,d⟩:=h.at_ i e f;⟨u,v,a,b,c.below o,d.below o⟩⟩
theorem Er.push {v2 u v:Value} {e:aR} (h:Er w base out us l) (o:w'.ownsRow base 69 2 v2 (l.length+1) (us++ [u,v])) (n:w.grownBy w' out.ownBlock) (g:v2.ownBlock=out.ownBlock\/v2.ownBlock=some w)
  (p:SB w (fun b=>base<=b/\out.ownBlock≠some b) u e.1) (hv:SB w (fun b=>base<=b/\out.ownBlock≠some b) v e.2):Er w' base v2 (us++ [u,v]) (l++ [e]):=by
 have hl:us.length=l.length*2:=h.own.1
 have key:∀b,b<w.heap.size->(base<=b/\out.ownBlock≠some b)->(base<=b/\v2.ownBlock≠some b):=fun b k c=>⟨c.1,fun e=>by
  rcases g with h|h
  ·exact c.2 (h▸e)
  ·rw [h] at e;injection e with e;omega⟩
 have d:∀{x:Value} {bs:List UInt8},SB w (fun b=>base<=b/\out.ownBlock≠some b) x bs->SB w' (fun b=>base<=b/\v2.ownBlock≠some b) x bs:=fun c=>c.next2 (ag.of_grown n) (fun b _ k e=>k.2 e) key;refine⟨by rw [List.length_append];exact o,fun i m hi=> ?_⟩
 rcases Nat.lt_or_ge i l.length with f|f
 ·rw [qK f] at hi;obtain⟨x,y,a,b,q,r⟩:=h.at_ i m hi
  exact⟨x,y,by rw [qK (by omega)];exact a,by rw [qK (by omega)];exact b,d q,d r⟩
 ·rw [q9 f] at hi;have j:i=l.length:=by have:=(nE.1 hi).1;simp at this;omega
  subst j;simp at hi;subst hi
  refine⟨u,v,?_,?_,d p,d hv⟩
  ·rw [q9 (by omega),show 2*l.length-us.length=0 by omega];rfl
  ·rw [q9 (by omega),show 2*l.length+1-us.length=1 by omega];rfl
theorem Er.ents {A:Option Addr} {n c:Nat} (h:Er w base (.slice A n c) us l) (hn:n=l.length):dh w (From base) A n l:=by
 subst hn;exact⟨aa rfl,us,Rd.of_own h.own,fun i e f=>let⟨u,v,a,b,g,j⟩:=h.at_ i e f;⟨u,v,a,b,g.weak (fun _ d=>d.1),j.weak (fun _ d=>d.1)⟩⟩
end
theorem Sq {F:Nat->Prop} {p:Nat} {nodes root:Int} {sl:List aX} (id:Int) {w:World} (h:gL w F p nodes sl root) (J:id<1\/(sl.length:Int)<id):
  Calls prog 49 #[p,id] w fun e w'=>(∃d g c1 i q l j r m k s n,e= .returned (.tuple #[.agg #[.int .i64 0,.slice d g c1,.int .i64 0,.slice i q l,.slice j r m,.slice k s n],false]))/\Below w w w':=by
 have E:=aa h;have I:Below w w (w.alloc (.cells #[.int .i64 0,(),.int .i64 0,(),(),()] 132)):=gV;have D:=aa I;clear h I;go_enter func49,ntmps49;go_wp2_with (first|(go_at_call 87;go_loud (refine(Fv id (E.below D.out) J).mono ?_);rintro e w1 ⟨d,g,c1,rfl,M,f⟩;have t:=aa (D.out.trans (f.mono (by simp)));have G:=aa ((ak.new w 132 #[.int .i64 0,(),.int .i64 0,(),(),()]).below f);have H:Hid (Below w w (w1.alloc (.cells #[.int .i64 0,.slice d g c1,.int .i64 0] 127))):=aa (t.alloc t.size _);clear f M)|(go_at_call 88;go_loud (refine(Fw id (E.below H.out) J).mono ?_);rintro e w2 ⟨i,q,l,j,r,m,k,s,n,rfl,_,N,O,P,c⟩;have u:=aa c;have a:Below w2 w2 (w2.alloc (.cells #[.slice i q l,.slice j r m,.slice k s n] 130)):=gV;have y:=aa a;have z:=aa (((G.out.alloc (.cells #[.int .i64 0,.slice d g c1,.int .i64 0] 127)).below c).below a);obtain⟨W,X,Y,Z,z4,z5⟩:=DT z.out;have zf:=z.out.frozen;have T:=aj a (aj (b:=w1.heap.size) (o:=0) (v:= .int .i64 0) c (by simp));have U:=aj a (aj (b:=w1.heap.size) (o:=1) (v:= .slice d g c1) c (by simp));have V:=aj a (aj (b:=w1.heap.size) (o:=2) (v:= .int .i64 0) c (by simp));have B:=G.out.lt;have L:=z.out.lt;clear c a N O P))
 refine bodyPost_ret (v:= .tuple #[.agg #[.int .i64 0,.slice d g c1,.int .i64 0,.slice i q l,.slice j r m,.slice k s n],false]) (by simp [results,results49,go_sem, *]) rfl ?_;obtain⟨C,x⟩:=gF (w2.alloc (.cells #[.slice i q l,.slice j r m,.slice k s n] 130));rw [<-x];have a:Below w2 w2 C:=by rw [x];exact y
 have A:=wu (b:=w.heap.size) (w:=C) (.int .i64 0) (.slice d g c1) (.int .i64 0) (.slice i q l) (.slice j r m) (.slice k s n);have S:w1.heap.size+1<=w2:=by have:=u.out.size;simpa using this
 have R:w.heap.size+1<=w1:=B;have K:Below w.heap.size w C:=(H.out.trans (u.mono (by simp;omega))).trans (a.mono (by omega));exact⟨⟨_,_,_,_,_,_,_,_,_,_,_,_,rfl⟩,K.trans (A.below_of K.size (fun b Q e=>by simp only [jX] at e;omega))⟩
noncomputable def ZE:Code:=aQ (f22.body.bind (fQ 3))
theorem Sr {base q:Nat} {l0:List aR} {x:Nd} {out:Value} {us:List Value} {hA kA vA dA:Option Addr} {hn hc n kc vc dn dc:Nat} {w:World} {u0 u1 u2 u4 u5 u6 u8 u9 L E O W Z U u16 f C I u20 u21 u22 u23 u24 u25 u26 u27 u28 u29 u30 u31 u32 u33 u34 u35 u36 u37 u38 N u40 R u42 X u44 u45 u46 dG u48 u49 H u51 A u53 F u55 S dZ u58 u59 u60 fw fJ u63 u64 gm u69 u70 T u72 u73 iN u75 iV jY jZ j6 kg kG kP kQ kR ko kU ng u mJ c pu rX u93:Value} (Q:Exit->Act->World->Prop)
  (HK:Hid (ak w q 132 #[(x.lev:Int),.slice hA hn hc,(x.right:Int),.slice kA n kc,.slice vA n vc,.slice dA dn dc])) (HV:Hid (Cv w (fun b=>base<=b/\b<w/\out.ownBlock≠some b) x hA kA vA dA hn hc n kc n vc dn dc)) (HE:Hid (Er w base out us l0)) (K:base<=q) (a6:out.ownBlock≠some q) (hbase:base<=w) (cb:l0.length<=1000000000) (cd:n<=100000)
  (au:∀(xH:Value) (v9 a8 a9 ba be bh bj bk bm bo bp bx bz bE bU b0 b1 b2 b3 b4 b5 b6 b7 sU b8 sV b9 xF:Value) (jJ:List Value) (w':World),Er w' base xH jJ (l0++x.keys.zip x.vals)->Below base w w'->Q (.exit 3) ⟨(u0::u1::u2::xH::u4::u5::u6:: .pointer (some ⟨q,0,none⟩)::u8::v9::a8::a9::O::W::Z::U::u16::f::C::I::u20::u21::u22::u23::u24::u25::u26::u27::u28::u29::u30::u31::u32::u33::u34::u35::u36::u37::u38::N::u40::R::u42::X::u44::u45::u46::dG::u48::u49::H::u51::A::u53::F::u55::S::dZ::u58::u59::u60::fw::fJ::u63::u64::gm:: .slice kA n kc:: .int .i64 n::ba::be::bh::bj::bk::bm::bo::bp::bx::bz::bE::bU::b0::b1::b2::b3::b4::b5::b6::b7::sU::b8::sV::b9::xF::u93:: []).toArray,[]⟩ w'):
  Code.wp prog ZE Q ⟨(u0::u1::u2::out::u4::u5::u6:: .pointer (some ⟨q,0,none⟩)::u8::u9::L::E::O::W::Z::U::u16::f::C::I::u20::u21::u22::u23::u24::u25::u26::u27::u28::u29::u30::u31::u32::u33::u34::u35::u36::u37::u38::N::u40::R::u42::X::u44::u45::u46::dG::u48::u49::H::u51::A::u53::F::u55::S::dZ::u58::u59::u60::fw::fJ::u63::u64::gm:: .slice kA n kc:: .int .i64 n:: .int .i64 0::u69::u70::T::u72::u73::iN::u75::iV::jY::jZ::j6::kg::kG::kP::kQ::kR::ko::kU::ng::u::mJ::c::pu::rX::u93:: []).toArray,[]⟩ w:=by
 have dz:=aa au;obtain⟨i0,a4,iC,iD,iE⟩:=info_parts kW;clear au;conv=>arg 2;whnf
 go_loopg [3,68] n (fun g' ov iv wr=>∃(i:Nat) (jJ:List Value),g'=n-i/\i<=n/\iv= (i:Int)/\Er wr base ov jJ (l0++(x.keys.zip x.vals).take i)/\ak wr q 132 #[(x.lev:Int),.slice hA hn hc,(x.right:Int),.slice kA n kc,.slice vA n vc,.slice dA dn dc]/\Cv wr (fun b=>base<=b/\b<w/\ov.ownBlock≠some b) x hA kA vA dA hn hc n kc n vc dn dc/\ov.ownBlock≠some q/\Below base w wr)
 case atStart=>exact⟨0,us,by omega,by omega,rfl,by simpa using HE.out,HK,HV,a6,mh⟩
 case round=>
  obtain⟨i,jJ,hg,hi,rfl,he,hk,hv,ao,a⟩:=hrel;have HG:=aa hg;have gJ:=aa he;have Y7:=aa hk;have Oh:=aa hv;have ab:=aa ao;have HB:=aa a
  rename World=>wr
  clear hg he hk hv ao a HE HK HV
  by_cases am:i<n
  ·have an:(i:Int)<(n:Int):=by omega
   obtain⟨b,o,B,G,D,key,rfl,a1,ad,c1,p1,p2,p3,p4⟩:=Oh.out.k.at_ (k:=i) am;obtain⟨b',o',P,nv,V,val,rfl,a2,ae,c2,r1,r2,r3,r4⟩:=Oh.out.v.at_ (k:=i) am;have al:SB wr (fun b=>base<=b/\u3.ownBlock≠some b) (.slice B G D) key:=⟨B,G,D,rfl,p1,p2,p3,p4.weak (fun b a=>⟨a.1,a.2.2⟩)⟩;have aq:SB wr (fun b=>base<=b/\u3.ownBlock≠some b) (.slice P nv V) val:=⟨P,nv,V,rfl,r1,r2,r3,r4.weak (fun b a=>⟨a.1,a.2.2⟩)⟩;have Qs:=aa al;have aE:=aa aq;have hz:(x.keys.zip x.vals)[i]? =some (key,val):=List.getElem?_zip_eq_some.2 ⟨ad,ae⟩;have HZ:Hid ((x.keys.zip x.vals).take (i+1)=(x.keys.zip x.vals).take i++ [(key,val)]):=aa (by rw [List.take_add_one,hz];rfl)
   have a7:(l0++(x.keys.zip x.vals).take i).length<=1000100000:=by
    rw [mq,List.length_take];omega
   obtain⟨li,t⟩:=gF (l0++(x.keys.zip x.vals).take i);rw [<-t] at a7;have ZF:Hid (Er wr base u3 jJ li):=aa (by rw [t];exact gJ);have aA:=aa t;have a5:=Y7.out.lt;have a3:=HB.out.size;have ar:base<=wr:=ma hbase a3;clear ad ae p1 p2 p3 p4 r1 r2 r3 r4 al aq hz t gJ a1 a2;obtain⟨wx,y⟩:=gF (wr.alloc (.cells #[.slice B G D,.slice none 0 0] 69));have lU:Hid (Below wr wr wx):=aa (by rw [y];exact gV);have r:Hid (ak wx wr 69 #[.slice B G D,()]):=aa (by rw [y];exact ak.new _ _ _);go_upto_region 19 with fail;rw [<-y];clear y c1;have U9:=aa (Y7.below lU);have x4:wx.cell? ⟨q,4,none⟩=some (.slice (some ⟨b',o',none⟩) n vc):=U9.out.cell 4;have y1:wx.cell? ⟨wr,1,none⟩=some (.slice none 0 0):=r.out.cell 1;have yf:=r.out.frozen;have a0:=aj lU c2;go_upto_region 21 with fail
   obtain⟨M,z⟩:=gF (wx.setCell ⟨wr.heap.size,1,none⟩ (.slice P nv V));rw [<-z];have s:Below wr wr M:=by rw [z];exact lU.setCell (p:=⟨wr,1,none⟩) jO _
   have rQ:=aa s;have ac:Hid (ak M wr 69 #[.slice B G D,.slice P nv V]):=aa (by rw [z];exact r.set_ 1 _);have aw:=aa (ZF.below s);have ca:=s.size;clear z s x4 y1 yf c2 a0 r lU U9;have x0:M.cell? wr=some (.slice B G D):=ac.out.cell 0;have x1:M.cell? ⟨wr,1,none⟩=some (.slice P nv V):=ac.out.cell 1;go_wp2_with (at_builtin;go_loud (refine af _ rfl (.tmp 88) (.tmp 90) _ rfl base 69 i0 _ 2 48 underlying58 a4 iC iD iE rfl (by omega) u3 li.length jJ rfl (own_below aw.own gV) (From M) (some ⟨M,0,none⟩) 1 1 [.slice B G D,.slice P nv V] rfl (Rd.two M _ _ _) (by simp [Value.oneCell']) (by simp only [maxLen];omega) (by omega) (by simp;omega) ?_);intro v6 w6 l eX dF;have lX:=aa l;have mE:=aa eX;have AA:=aa dF;clear l eX dF)
   go_roundg (n-(i+1))
   case measure=>have:=HG.out;omega
   case rel=>
    obtain⟨wa,fM⟩:=gF (M.alloc (.cells #[.slice B G D,.slice P nv V] 69));have eX:=mE.out;have Y:=AA.out;rw [<-fM] at eX Y;have J:Below wr wr wa:=rQ.out.trans (by rw [fM];exact mh.alloc (by omega) _);have j:ag (fun b=>u3.ownBlock=some b) wa w6:=ag.of_grown eX;have YE:∀g,u3.ownBlock=some g->base<=g:=fun g hg=>(ah ZF.own g hg).1;have m:=(ZF.out.below J).push (e:=(key,val)) lX eX Y (Qs.below J) (aE.below J)
    have ap:∀b,b<wr.heap.size->u3.ownBlock≠some b->v6.ownBlock≠some b:=fun b a hn e=>by
     rcases Y with h|h
     ·exact hn (h▸e)
     ·rw [h] at e;injection e with e;have:=J.size;omega
    rw [aA.out,List.append_assoc,<-HZ.out] at m
    refine⟨i+1,_,rfl,by omega,by go_num,m,(Y7.below J).chg j (fun e=>ab e),((Oh.below J).chg j (fun b a e=>a.2.2 e)).weak (fun b a=>⟨a.1,a.2.1,ap b (by have:=a.2.1;omega) a.2.2⟩),ap q a5 ab,HB.out.trans ((J.mono ar).trans (j.below_of (Nat.le_trans ar J.size) (fun b a e=>by have:=YE b e;omega)))⟩
  ·have an:¬(i:Int)<(n:Int):=by omega
   obtain rfl:i=n:=by omega
   have HZ:Hid ((x.keys.zip x.vals).take i=x.keys.zip x.vals):=aa (List.take_of_length_le (by rw [List.length_zip];have:=Oh.out.k.len;omega));have d:=gJ.out;rw [HZ.out] at d;have Vj:=aa d;clear d;go_wp2;exact dz _ _ _ _ _ _ _ _ _ _ _ _ _ _ _ _ _ _ _ _ _ _ _ _ _ _ _ _ _ _ _ Vj HB
end
section
def jd (L:Nat) (N d:Nat->Nat) (s:Nat):Nat:=if s<L then d (L-s)+1 else if s<L+N 0 then s-L+1 else 0
def kC (x:Nd):List aR:=x.keys.zip x.vals
section
variable {sl:List aX} {root nd lf:Int} {inn L:Nat} {N d:Nat->Nat} {X:Nat->Nat->Nd}
theorem U0 (h:sD sl root nd lf inn L N d X) {s t:Nat} (i:s<t) (l:t<=L+N 0):jd L N d s≠jd L N d t:=by
 unfold jd;have g:d 1=N 0:=by rw [h.step,h.base];omega
 by_cases e:s<L
 ·rw [if_pos e]
  by_cases f:t<L
  ·rw [if_pos f];have a:=h.mono (j:=L-t+1) (k:=L-s) (by omega);have b:=h.step (L-t);have c:=h.pos (L-t)
   omega
  ·rw [if_neg f];have a:=h.mono (j:=1) (k:=L-s) (by omega)
   split<;>omega
 ·rw [if_neg e,if_neg (show¬t<L by omega),if_pos (show s<L+N 0 by omega)];split<;>omega
end
theorem Ir {w:World} {b n:Nat} {f:Int->Int} {k:Int} (h:iK w b n (fun j=>if j=k then 1 else f j)) (a: -9223372036854775808<=k) (c:k<=9223372036854775807):(Instr.lookup 125 (.map (some b)) k false).run prog w= .ok (.int .i64 1) w:=by
 have:(Instr.lookup 125 (.map (some b)) k false).run prog w= .ok (.int .i64 (if k=k then(1:Int) else f k)) w:=h.look a c;rw [if_pos rfl] at this;exact this
theorem VO {F:Nat->Prop} {p:Nat} {nodes:Int} (root:Int) (sl:List aX) {nd lf:Int} {inn L:Nat} {N d:Nat->Nat} (X:Nat->Nat->Nd) {w:World} (hx:gL w F p nodes sl root) (hn:sl.length<=65536) (a:∀b,F b->b<w)
  (W:sD sl root nd lf inn L N d X) (al:lf<=100000) (a3:∀j,j<=N 0->((List.range j).flatMap fun i=>kC (X 0 i)).length<=1000000000):
  Calls prog 22 #[p] w fun e w'=>∃A n c,e= .returned (.slice A n c)/\dh w' (From w) A n ((List.range (N 0)).flatMap fun i=>kC (X 0 i))/\Below w w w':=by
 have HX:=aa hx;have B:=aa W;have HF:=aa a;have Aj:=aa hn;have fq:=aa a3;have a8:=aa al;have zK:=aa W.root;have cg:=W.deep;have ch:=W.fit (Nat.zero_le L);have ck:= @run_makeMap prog;have ac:Hid (Below w w (w.alloc (.map #[] 0))):=aa gV;have aw:=aa (iK.made w);clear hx a W a3 al;go_enter func22,ntmps22;go_wp2;go_step3
 go_wp2;go_step3
 go_wp2_with (go_at_call 48;refine(Fj (HX.below ac)).mono ?_;rintro e w' ⟨rfl,rfl⟩;rw [zK.out])
 go_loopg [3,5,6] (L+N 0+1) (fun g' ov lv iv wr=>∃(s:Nat) (us:List Value) (f:Int->Int),g'=L+N 0+1-s/\s<=L+N 0/\lv= .bool (decide (L<s))/\iv= .int .i64 ((jd L N d s:Nat):Int)/\Er wr (w+1) ov us ((List.range (s-L)).flatMap fun i=>kC (X 0 i))/\iK wr w s f/\Hid (∀y,f y≠0->∃t,t<s/\y=(jd L N d t:Int))/\Below w w wr)
 case atStart=>
  have hr:((d L:Int)+1)=((jd L N d 0:Nat):Int):=by
   unfold jd
   by_cases h:0<L
   ·rw [if_pos h];simp
   ·have Y:L=0:=by omega
    have hp:=B.out.pos 0;rw [if_neg h,if_pos (by omega),Y,B.out.base];simp
  refine⟨0,[],fun _=>0,by omega,by omega,by simp,congrArg (Value.int .i64) hr,?_,aw,aa (fun y h=>absurd rfl h),ac⟩
  rw [Nat.zero_sub];exact Er.nil _ _
 case round=>
  obtain⟨s,us,f,hg,hs,rfl,rfl,he,an,ad,o⟩:=hrel;have HG:=aa hg;have HE:=aa he;have HM:=aa an;have HB:=aa o;have aq:=ad
  rename World=>wr
  have bE:w.heap.size+1<=wr:=an.lt;obtain⟨m,K⟩:=gF (jd L N d s);rw [<-K];have Jv:=aa K
  have JO:Hid (f (m:Int)=0):=aa (by
   by_cases Y:f (m:Int)=0
   ·exact Y
   ·obtain⟨t,W,e⟩:=ad.out _ Y;have:=U0 B W hs;exact absurd (by rw [<-K];omega) this)
  clear hg he an o ad aw ac K;have J:s<L->m=d (L-s)+1:=fun h=>by rw [Jv.out];unfold jd;rw [if_pos h]
  have MJ:¬s<L->s<L+N 0->m=s-L+1:=fun h h2=>by rw [Jv.out];unfold jd;rw [if_neg h,if_pos h2]
  have ML:¬s<L->¬s<L+N 0->m=0:=fun h h2=>by rw [Jv.out];unfold jd;rw [if_neg h,if_neg h2]
  by_cases ap:s<L
  ·obtain⟨k,hk⟩:=gF (L-s);have bp:m=d k+1:=by rw [J ap,hk]
   have ae:k<=L:=by omega
   have cj:1<=k:=by omega
   have ci:=B.out.fit ae;have cp:=B.out.pos k;obtain⟨x,M⟩:=gF (X k 0);have am:1<=(m:Int):=by omega
   have ab:Hid (∃s',sl[((m:Int)).toNat-1]? =some s'/\s'.2=x/\Small s'.2):=aa (by
    rw [show((m:Int)).toNat-1=d k+0 by omega,M];exact(B.lv k ae).at_ 0 (by omega))
   have my:Hid (x.lev=(k:Int)):=aa (by rw [M];exact(B.lv k ae).lev 0 (by omega))
   have au:Hid (x.kids[0]? =some ((d (k-1):Int)+1)):=aa (by
    have:=B.out.kid0 (k-1) (by omega);rw [show k-1+1=k by omega] at this;rw [M];exact this)
   have xw:Hid ((d (k-1):Int)+1=((jd L N d (s+1):Nat):Int)):=aa (by
    unfold jd
    by_cases h:s+1<L
    ·rw [if_pos h,show L-(s+1)=k-1 by omega];simp
    ·have hp:=B.out.pos 0;rw [if_neg h,if_pos (by omega),show k-1=0 by omega,B.out.base,show s+1-L=0 by omega];simp)
   have a7:=aa hk;have z:m<=65537:=by have:=Aj.out;omega
   clear J MJ ML hk M bp;have al:¬L<s:=by omega
   go_upto_region 10 with(first|(go_at_call 49;go_loud (refine(MN (m:Int) x (HX.below HB) am Aj ab).mono ?_);rintro e w1 ⟨hA,g,hc,kA,kn,kc,vA,vn,vc,dA,dn,dc,rfl,S,r⟩;have I:=r.size;have u:Below wr wr (w1.alloc (.cells #[(x.lev:Int),.slice hA g hc,(x.right:Int),.slice kA kn kc,.slice vA vn vc,.slice dA dn dc] 132)):=r.alloc I _;have l:=aa u;have Tt:Hid (Cv (w1.alloc (.cells #[(x.lev:Int),.slice hA g hc,(x.right:Int),.slice kA kn kc,.slice vA vn vc,.slice dA dn dc] 132)) (From wr) x hA kA vA dA g hc kn kc vn vc dn dc):=aa (S.below gV);have l7:Hid (ak (w1.alloc (.cells #[(x.lev:Int),.slice hA g hc,(x.right:Int),.slice kA kn kc,.slice vA vn vc,.slice dA dn dc] 132)) w1 132 #[(x.lev:Int),.slice hA g hc,(x.right:Int),.slice kA kn kc,.slice vA vn vc,.slice dA dn dc]):=aa (ak.new _ _ _);have Q:(Instr.lookup 125 (.map (some w)) (.int .i64 (m:Int)) false).run prog (w1.alloc (.cells #[(x.lev:Int),.slice hA g hc,(x.right:Int),.slice kA kn kc,.slice vA vn vc,.slice dA dn dc] 132))= .ok (.int .i64 0) (w1.alloc (.cells #[(x.lev:Int),.slice hA g hc,(x.right:Int),.slice kA kn kc,.slice vA vn vc,.slice dA dn dc] 132)):=wN (HM.below u) (by omega) (by omega) JO;clear S r u)|(at_mapUpdate;go_loud (refine jA rfl _ _ _ rfl rfl (HM.below l) (by unfold maxLen;omega) (m:Int) 1 rfl rfl (by omega) (by omega) (by omega) (by omega) ?_);intro w2 z C;have tQ:=aa z;have D:=aa C;have bm:(Instr.lookup 125 (.map (some w)) (.int .i64 (m:Int)) false).run prog w2= .ok (.int .i64 1) w2:=Ir z (by omega) (by omega);clear z C Q))
   obtain⟨q,H⟩:=gF w1.heap.size;rw [<-H];have ba:wr.heap.size<=w2:=ma l.size D.size;have sI:Hid (Below w w w2):=aa (HB.out.trans ((l.mono (by omega)).trans (D.below_of (Nat.le_trans (by omega) l.size) (fun b o h=>by have h:b=w.heap.size:=h;omega))));have U:=aa ((HE.below l).chg D (fun b o h=>by have h:b=w.heap.size:=h;omega))
   have XN:Hid (∀y,(fun j=>if j=(m:Int) then 1 else f j) y≠0->∃t,t<s+1/\y=(jd L N d t:Int)):=aa (fun y hy=>by
    by_cases T:y=(m:Int)
    ·exact⟨s,by omega,by rw [T,Jv.out]⟩
    ·obtain⟨t,W,e⟩:=aq.out y (fun Y=>hy (by show(if y=(m:Int) then(1:Int) else f y)=0;rw [if_neg T];exact Y));exact⟨t,by omega,e⟩)
   have V:Hid (ak w2 q 132 #[(x.lev:Int),.slice hA g hc,(x.right:Int),.slice kA kn kc,.slice vA vn vc,.slice dA dn dc]):=aa (by rw [H];exact l7.chg D (fun h=>by have h:w1.heap.size=w.heap.size:=h;omega));have E:Hid (Cv w2 (From wr.heap.size) x hA kA vA dA g hc kn kc vn vc dn dc):=aa (Tt.chg D (fun b o h=>by have h:b=w.heap.size:=h;have o:wr.heap.size<=b:=o;omega));have a5:wr<=q:=by omega
   clear H l Tt l7 D I;have bk:0<dn:=by rw [E.out.d.len];exact(nE.1 au).1
   obtain⟨b2,o2,kid,be,_,aE,d1⟩:=E.out.d.at_ (k:=0) bk;have bj:kid=(d (k-1):Int)+1:=by have h:=au.out;rw [aE] at h;injection h
   subst bj be;rw [Nat.add_zero] at d1;have rJ:Hid (ak w2 q 132 #[.int .i64 (k:Int),.slice hA g hc,(x.right:Int),.slice kA kn kc,.slice vA vn vc,.slice (some ⟨b2,o2,none⟩) dn dc]):=aa (by have:=V.out;rw [my.out] at this;exact this);obtain⟨z0,z1,z2,z3,z4,z5⟩:=DT rJ;have cl:¬(k:Int)<=0:=by omega
   have cn:((dn:Int)==0)=false:=by simp;omega
   have co:(0:Int)<(dn:Int):=by omega
   clear aE;go_wp2_with fail
   go_roundg (L+N 0+1-(s+1))
   case measure=>have:=HG.out;omega
   case rel=>
    refine⟨s+1,us,_,rfl,by omega,?_,congrArg (Value.int .i64) xw,?_,tQ,XN,sI⟩
    ·have:=a7.out;simp;omega
    ·have h1:s-L=0:=by omega
     have h2:s+1-L=0:=by omega
     have:=U.out;rw [h1] at this
     rw [h2];exact this
  ·by_cases a6:s<L+N 0
   ·obtain⟨i,hi⟩:=gF (s-L);have LB:m=i+1:=by rw [MJ ap a6,hi]
    have G:i<N 0:=by omega
    obtain⟨x,M⟩:=gF (X 0 i);have am:1<=(m:Int):=by omega
    have z:m<=65537:=by have:=Aj.out;omega
    have ab:Hid (∃s',sl[((m:Int)).toNat-1]? =some s'/\s'.2=x/\Small s'.2):=aa (by
     rw [show((m:Int)).toNat-1=d 0+i by rw [B.out.base];omega,M];exact(B.lv 0 (Nat.zero_le _)).at_ i G)
    have my:Hid (x.lev=0):=aa (by rw [M];exact(B.lv 0 (Nat.zero_le _)).lev i G)
    have xw:Hid (x.right=((jd L N d (s+1):Nat):Int)):=aa (by
     rw [M,(B.out.lv 0 (Nat.zero_le _)).right i G,B.out.base];unfold jd
     by_cases h:i+1<N 0
     ·rw [if_pos h,if_neg (by omega),if_pos (by omega)];omega
     ·rw [if_neg h,if_neg (by omega),if_neg (by omega)];rfl)
    have a9:Hid (x.vals.length=x.keys.length):=aa (by rw [M];exact(((B.lv 0 (Nat.zero_le _)).fine i G).leaf ((B.lv 0 (Nat.zero_le _)).lev i G)).1)
    have Qs:Hid (x.keys.length<=100000):=aa (by
     have h1:=(((B.lv 0 (Nat.zero_le _)).fine i G).leaf ((B.lv 0 (Nat.zero_le _)).lev i G)).2.1;rw [M];have:=a8.out;omega)
    have UA:=aa M;have ar:=aa hi;clear J MJ ML hi M LB;go_upto_region 10 with(first|(go_at_call 49;go_loud (refine(MN (m:Int) x (HX.below HB) am Aj ab).mono ?_);rintro e w1 ⟨hA,g,hc,kA,kn,kc,vA,vn,vc,dA,dn,dc,rfl,S,r⟩;have I:=r.size;have u:Below wr wr (w1.alloc (.cells #[(x.lev:Int),.slice hA g hc,(x.right:Int),.slice kA kn kc,.slice vA vn vc,.slice dA dn dc] 132)):=r.alloc I _;have l:=aa u;have Tt:Hid (Cv (w1.alloc (.cells #[(x.lev:Int),.slice hA g hc,(x.right:Int),.slice kA kn kc,.slice vA vn vc,.slice dA dn dc] 132)) (From wr) x hA kA vA dA g hc kn kc vn vc dn dc):=aa (S.below gV);have l7:Hid (ak (w1.alloc (.cells #[(x.lev:Int),.slice hA g hc,(x.right:Int),.slice kA kn kc,.slice vA vn vc,.slice dA dn dc] 132)) w1 132 #[(x.lev:Int),.slice hA g hc,(x.right:Int),.slice kA kn kc,.slice vA vn vc,.slice dA dn dc]):=aa (ak.new _ _ _);have Q:(Instr.lookup 125 (.map (some w)) (.int .i64 (m:Int)) false).run prog (w1.alloc (.cells #[(x.lev:Int),.slice hA g hc,(x.right:Int),.slice kA kn kc,.slice vA vn vc,.slice dA dn dc] 132))= .ok (.int .i64 0) (w1.alloc (.cells #[(x.lev:Int),.slice hA g hc,(x.right:Int),.slice kA kn kc,.slice vA vn vc,.slice dA dn dc] 132)):=wN (HM.below u) (by omega) (by omega) JO;clear S r u)|(at_mapUpdate;go_loud (refine jA rfl _ _ _ rfl rfl (HM.below l) (by unfold maxLen;omega) (m:Int) 1 rfl rfl (by omega) (by omega) (by omega) (by omega) ?_);intro w2 z C;have tQ:=aa z;have D:=aa C;have bm:(Instr.lookup 125 (.map (some w)) (.int .i64 (m:Int)) false).run prog w2= .ok (.int .i64 1) w2:=Ir z (by omega) (by omega);clear z C Q))
    obtain⟨q,H⟩:=gF w1.heap.size;rw [<-H];have ba:wr.heap.size<=w2:=ma l.size D.size;have sI:Hid (Below w w w2):=aa (HB.out.trans ((l.mono (by omega)).trans (D.below_of (Nat.le_trans (by omega) l.size) (fun b o h=>by have h:b=w.heap.size:=h;omega))));have U:=aa ((HE.below l).chg D (fun b o h=>by have h:b=w.heap.size:=h;omega))
    have XN:Hid (∀y,(fun j=>if j=(m:Int) then 1 else f j) y≠0->∃t,t<s+1/\y=(jd L N d t:Int)):=aa (fun y hy=>by
     by_cases T:y=(m:Int)
     ·exact⟨s,by omega,by rw [T,Jv.out]⟩
     ·obtain⟨t,W,e⟩:=aq.out y (fun Y=>hy (by show(if y=(m:Int) then(1:Int) else f y)=0;rw [if_neg T];exact Y));exact⟨t,by omega,e⟩)
    have V:Hid (ak w2 q 132 #[(x.lev:Int),.slice hA g hc,(x.right:Int),.slice kA kn kc,.slice vA vn vc,.slice dA dn dc]):=aa (by rw [H];exact l7.chg D (fun h=>by have h:w1.heap.size=w.heap.size:=h;omega));have E:Hid (Cv w2 (From wr.heap.size) x hA kA vA dA g hc kn kc vn vc dn dc):=aa (Tt.chg D (fun b o h=>by have h:b=w.heap.size:=h;have o:wr.heap.size<=b:=o;omega));have a5:wr<=q:=by omega
    clear H l Tt l7 D I;have bx:vn=kn:=by rw [E.out.v.len,E.out.k.len,a9.out]
    have a0:kn<=100000:=by rw [E.out.k.len];exact Qs
    subst bx;have rJ:Hid (ak w2 q 132 #[.int .i64 0,.slice hA g hc,.int .i64 ((jd L N d (s+1):Nat):Int),.slice kA vn kc,.slice vA vn vc,.slice dA dn dc]):=aa (by have:=V.out;rw [my.out,xw.out] at this;exact this);obtain⟨z0,z1,z2,z3,z4,z5⟩:=DT rJ;obtain⟨nx,ao⟩:=gF (jd L N d (s+1));rw [<-ao] at z2;have TE:=aa ao;have Z:(((List.range (s-L)).flatMap fun i=>kC (X 0 i))).length<=1000000000:=fq.out (s-L) (by omega);have aA:=aa Z;have R:∀b,wr.heap.size<=b->u3.ownBlock≠some b:=fun b o e=>by have:=(ah HE.own b e).2;omega
    have Oh:Hid (Cv w2 (fun b=>w.heap.size+1<=b/\b<w2/\u3.ownBlock≠some b) x hA kA vA dA g hc vn kc vn vc dn dc):=aa (E.lt.weak (fun b o=>⟨Nat.le_trans bE o.1,o.2,R b o.1⟩));have a4:u3.ownBlock≠some q:=R q a5;have U9:Hid (ak w2 q 132 #[(x.lev:Int),.slice hA g hc,(x.right:Int),.slice kA vn kc,.slice vA vn vc,.slice dA dn dc]):=V;clear ao Z R
    by_cases O7:L<s
    ·have hd:decide (L<s)=true:=decide_eq_true O7;go_wp2_with fail;refine Sr _ U9 Oh U (by omega) a4 (by omega) aA a0 ?_;intro xH v9 bF bG bI bL bN bP bQ bT bU bX b0 b1 b3 b4 b5 b6 b7 b8 b9 ca cb cd sU ce sV cf xF jJ w5 P O;have Z0:=aa P;have lF:ag (fun b=>w+1<=b) w2 w5:=ag.of_below_ O (fun b _ h=>h);have yO:=aa (tQ.chg lF (fun h=>by have h:w.heap.size+1<=w:=h;omega));have eF:Hid (Below w w w5):=aa (sI.out.trans (lF.below_of sI.size (fun b o h=>by have h:w+1<=b:=h;omega)));clear P O lF;go_wp2_with fail
     go_roundg (L+N 0+1-(s+1))
     case measure=>have:=HG.out;omega
     case rel=>
      have e1:(List.range (s+1-L)).flatMap (fun i=>kC (X 0 i))=((List.range (s-L)).flatMap fun i=>kC (X 0 i))++x.keys.zip x.vals:=by
       have h1:s+1-L=(s-L)+1:=by omega
       rw [h1,List.range_succ,List.flatMap_append,List.flatMap_singleton,<-ar.out,<-UA.out];rfl
      refine⟨s+1,jJ,_,rfl,by omega,?_,congrArg (fun t:Nat=>Value.int .i64 (t:Int)) TE,?_,yO,XN,eF⟩
      ·have:decide (L<s+1)=true:=decide_eq_true (by omega)
       rw [this]
      ·rw [e1];exact Z0
    ·have hd:decide (L<s)=false:=decide_eq_false O7;go_wp2_with fail;refine Sr _ U9 Oh U (by omega) a4 (by omega) aA a0 ?_;intro xH v9 bF bG bI bL bN bP bQ bT bU bX b0 b1 b3 b4 b5 b6 b7 b8 b9 ca cb cd sU ce sV cf xF jJ w5 P O;have Z0:=aa P;have lF:ag (fun b=>w+1<=b) w2 w5:=ag.of_below_ O (fun b _ h=>h);have yO:=aa (tQ.chg lF (fun h=>by have h:w.heap.size+1<=w:=h;omega));have eF:Hid (Below w w w5):=aa (sI.out.trans (lF.below_of sI.size (fun b o h=>by have h:w+1<=b:=h;omega)));clear P O lF;go_wp2_with fail
     go_roundg (L+N 0+1-(s+1))
     case measure=>have:=HG.out;omega
     case rel=>
      have e1:(List.range (s+1-L)).flatMap (fun i=>kC (X 0 i))=((List.range (s-L)).flatMap fun i=>kC (X 0 i))++x.keys.zip x.vals:=by
       have h1:s+1-L=(s-L)+1:=by omega
       rw [h1,List.range_succ,List.flatMap_append,List.flatMap_singleton,<-ar.out,<-UA.out];rfl
      refine⟨s+1,jJ,_,rfl,by omega,?_,congrArg (fun t:Nat=>Value.int .i64 (t:Int)) TE,?_,yO,XN,eF⟩
      ·have:decide (L<s+1)=true:=decide_eq_true (by omega)
       rw [this]
      ·rw [e1];exact Z0
   ·have bo:=ML ap a6;have cq:s=L+N 0:=by omega
    subst bo;clear J MJ ML;go_wp2_with (first|(go_at_call 49;go_loud (refine(Sq _ (HX.below HB) (.inl (by decide))).mono ?_);rintro e w1 ⟨⟨A1,n1,c1,A2,n2,c2,A3,n3,c3,A4,n4,c4,rfl⟩,r⟩;have I:=r.size;have u:Below wr wr (w1.alloc (.cells #[.int .i64 0,.slice A1 n1 c1,.int .i64 0,.slice A2 n2 c2,.slice A3 n3 c3,.slice A4 n4 c4] 132)):=r.alloc I _;have l:=aa u;have Q:(Instr.lookup 125 (.map (some w)) (.int .i64 0) false).run prog (w1.alloc (.cells #[.int .i64 0,.slice A1 n1 c1,.int .i64 0,.slice A2 n2 c2,.slice A3 n3 c3,.slice A4 n4 c4] 132))= .ok (.int .i64 0) (w1.alloc (.cells #[.int .i64 0,.slice A1 n1 c1,.int .i64 0,.slice A2 n2 c2,.slice A3 n3 c3,.slice A4 n4 c4] 132)):=wN (HM.below u) (by omega) (by omega) JO;clear r u)|(at_mapUpdate;go_loud (refine jA rfl _ _ _ rfl rfl (HM.below l) (by unfold maxLen;omega) 0 1 rfl rfl (by omega) (by omega) (by omega) (by omega) ?_);intro w2 z C;have D:=aa C;clear z C Q));simp only [Exit.noGoto];obtain⟨A,c,rfl,a1,a2⟩:=ax HE.own;go_ret;have bh:Below w w w2:=HB.out.trans ((l.mono (by omega)).trans (D.below_of (Nat.le_trans (by omega) l.size) (fun b o h=>by have h:b=w.heap.size:=h;omega)));have he:=((HE.below l).chg D (fun b o h=>by have h:b=w.heap.size:=h;omega)).ents rfl;rw [show s-L=N 0 by omega] at he|-;exact⟨A,_,c,rfl,he.weak (fun b o=>by simp only [From] at o|-;omega),bh⟩
end
end Go.Proofs.YtepgcjbhabnciaaGreat
