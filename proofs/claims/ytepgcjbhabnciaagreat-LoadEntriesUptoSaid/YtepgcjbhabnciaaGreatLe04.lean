/- Part 4. -/
import Derived.Test.YtepgcjbhabnciaaGreatLe01
import Derived.Maps.OwnOps
import Derived.Maps.Views
import Derived.WalkArith
namespace Go.Proofs.YtepgcjbhabnciaaGreat
set_option maxRecDepth 100000
set_option maxHeartbeats 8000000
open Go.Proofs.Tryz
open Go.RowKit Go.Maps
section
theorem DJ:Keyed prog 3:=int_keyed underlying3
theorem QY (w:World):(zeroValue 3).run prog w= .ok (.int .i64 0) w:=by kernel_rfl
theorem UW {a:Int} (h: -9223372036854775808<=a) (b:a<=9223372036854775807):(Lit.int .i64 a).wf=true:=by simp [Lit.wf,IntKind.min,IntKind.max,IntKind.signed,IntKind.bits];omega
theorem QZ {H:Type} {a b:Int} (h:(DataW.lit (.int .i64 a):DataW H)= .lit (.int .i64 b)):a=b:=by
 injection h with h
 injection h
def il (w:World) (b n:Nat) (f:Int->Int):Prop:=
 ∃D:DataW Unit,w.ownsMap prog 3 (plainElem prog 3) b n D/\IsMap D/\∀k:Int,D.atKey (.int .i64 k) (.lit (.int .i64 0))= .lit (.int .i64 (f k))
section
variable {w w':World} {b n:Nat} {f:Int->Int}
theorem il.made (w:World):il (w.alloc (.map #[] 0)) w.heap.size 0 (fun _=>0):=
 ⟨.map [],World.ownsMap_made _ _ _ _,isMap_empty,fun _=>rfl⟩
theorem il.lt (h:il w b n f):b<w.heap.size:=by obtain⟨D,h,_⟩:=h;exact h.lt
theorem il.chg {S:Nat->Prop} (h:il w b n f) (y:ag S w w') (l:¬S b):il w' b n f:=by
 have c:=h.lt;obtain⟨D,⟨e,a,i,F,d,g⟩,k,j⟩:=h;exact⟨D,⟨e,a,(y.block b c l).trans i,F,d,g⟩,k,j⟩
theorem il.below (h:il w b n f) (a:Below w.heap.size w w'):il w' b n f:=h.chg (S:=Nil) (ag.of_below a) (fun c=>c)
theorem il.look (h:il w b n f) {k:Int} (g: -9223372036854775808<=k) (i:k<=9223372036854775807):(Instr.lookup 125 (.map (some b)) (.int .i64 k) false).run prog w= .ok (.int .i64 (f k)) w:=by
 obtain⟨D,a,_,j⟩:=h;obtain⟨c,e,d,_⟩:=a.lookup_int DJ underlying125 underlying3 (QY w) (keyOf_int_mk underlying3 (UW g i));rw [j k] at d;have:f k=c:=QZ d;rw [this];exact e
theorem iE {ops:Array Oper} {rest:List Oper} {o:Oper} {a:Act} {Q:Exit->Act->World->Prop}
  (C:o.guard=none) (m x v:Operand) (l:o.op=Op.mapUpdate 125 m x v) (E:a.eval m= .map (some b)) (d:il w b n f) (F:n<maxLen) (k u:Int) (G:a.eval x= .int .i64 k) (hv:a.eval v= .int .i64 u)
  (r: -9223372036854775808<=k) (s:k<=9223372036854775807) (t: -9223372036854775808<=u) (y:u<=9223372036854775807)
  (A:∀w',il w' b (n+1) (fun j=>if j=k then u else f j)->ag (mZ b) w w'->wpList prog ops Q rest (a.put o.dst undef) w'):
  wpList prog ops Q (o::rest) a w:=by
 obtain⟨D,z,q,B⟩:=d;refine wpList_mapUpdate_own w C m x v 125 l 3 3 DJ underlying125 _ b n D E z F (.int .i64 k) (.int .i64 u) (.int .i64 k) G hv (keyOf_int_mk underlying3 (UW r s)) (.lit (.int .i64 u)) [] (plainElem_int underlying3 (UW t y)) ?_;intro w' p h;refine A w' ⟨_,p,q.put _ _,fun j=> ?_⟩ ((ag.refl _ _).grown h (fun c g _=>by injection g with g;exact g.symm))
 by_cases i:j=k
 ·subst i;show _=DataW.lit (Lit.int .i64 (if j=j then u else f j))
  rw [if_pos rfl,atKey_put_same q (by simp [WideAt.IsKeyLit])]
 ·show _=DataW.lit (Lit.int .i64 (if j=k then u else f j));rw [if_neg i,atKey_put_other (fun e=>i (by injection e)),B j]
end
end
end Go.Proofs.YtepgcjbhabnciaaGreat
