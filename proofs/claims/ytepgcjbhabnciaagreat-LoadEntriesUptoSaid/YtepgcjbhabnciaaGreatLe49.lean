/- Part 49. -/
import Derived.Lib.SmallJoins
import Derived.Deep.Fields
import Derived.WideShapes
import Derived.Test.YtepgcjbhabnciaaGreatRows
import Derived.Test.YtepgcjbhabnciaaGreatLe15
import Derived.Deep.Slices
import Derived.ChangeSlices
namespace Go.Proofs.YtepgcjbhabnciaaGreat
set_option maxRecDepth 100000
set_option maxHeartbeats 8000000
open Go.Proofs.Tryz
open Go.Joins Go.ChangeShapes Go.WideShapes Go.RowKit Go.Deep
open Go.ChangeShapes Go.WideShapes Go.Deep Go.RowKit
section
section
variable {H:Type} {enc:TypeId×Value->H} {P:Program} {w:World} {base:Nat} {spare:Nat->Bool} {held:Bool}
end
end
section
theorem Oe {H:Type} (d:DataW H):1<=Rows.uptoBulk d:=by
 cases d with
 |lit l=>cases l<;>simp [Rows.uptoBulk]
 |_=>simp [Rows.uptoBulk]
theorem ze {H:Type} {d:DataW H} {l:List (DataW H)} (h:d∈l):Rows.uptoBulk d<=Rows.uptoBulkAll l:=by
 induction l with
 |nil=>cases h
 |cons x r a=>
  simp only [Rows.uptoBulkAll]
  cases List.mem_cons.1 h with
  |inl e=>subst e;omega
  |inr e=>have:=a e;omega
theorem Dz {H:Type} (l:List (DataW H)):l.length<=Rows.uptoBulkAll l:=by
 induction l with
 |nil=>simp [Rows.uptoBulkAll]
 |cons x r a=>have:=Oe x;simp only [Rows.uptoBulkAll,List.length_cons];omega
theorem wh {H:Type} (a spare:List (DataW H)):Rows.uptoBulkAll a+1<=Rows.uptoBulk (.slice a spare):=by
 simp only [Rows.uptoBulk];omega
def iD (w:World):Value->List UInt8
 | .slice (some a) n _=>(List.range n).map fun j=>match w.cell? (a.add j) with|some (.int _ z)=>UInt8.ofNat z.toNat|_=>0
 |_=> []
section
variable {H:Type} {enc:TypeId×Value->H} {w:World} {base:Nat} {spare:Nat->Bool} {held:Bool}
theorem IG {a:Addr} {v:Value} (h:w.cell? (a.add 0)=some v):a=⟨a.block,a.off,none⟩:=by
 obtain⟨b,d,s⟩:=a;have c:s=none:=by simpa [Addr.add] using World.cell?_spot h
 subst c;rfl
theorem FR {e:Nat} {v:Value} {y:DataW H×List MemPlace} (h:DataW.trod enc prog w base spare held e 24 [v]=some y):SB w (fun _=>True) v (iD w v)/\(iD w v).length+1<=Rows.uptoBulk y.1:=by
 rcases open_ints underlying24 underlying5 (by kernel_rfl) h with⟨d,rfl⟩|⟨a,len,cap,zs,d,_,hl,n,o,rfl,b,k⟩
 ·have hv:v= .slice none 0 0:=by simpa using d
  subst hv
  exact⟨SB.nil _ _,by simp [iD,Rows.uptoBulk]⟩
 ·have hv:v= .slice (some a) len cap:=by simpa using d
  subst hv;have q:len<=zs.length:=by rw [o];split<;>omega
  have c:(iD w (.slice (some a) len cap)).length=len:=by simp [iD]
  refine⟨⟨some a,len,cap,rfl,hl,n,c.symm,by rw [cO,c,Nat.mul_one],fun x=> ?_⟩,?_⟩
  ·have m:=IG (b 0 (by omega));refine⟨a.block,a.off,by rw [<-m],trivial,fun j u f=> ?_⟩;have i:j<len:=by have:=(List.getElem?_eq_some_iff.1 f).1;rw [cO,c] at this;exact this
   have g:=b j (by omega);have l:=k (zs.getD j 0) (by rw [List.getD_eq_getElem?_getD,List.getElem?_eq_getElem (by omega)];exact List.getElem_mem (by omega));have p:0<=zs.getD j 0/\zs.getD j 0<=255:=by simpa [Lit.wf,IntKind.min,IntKind.max,IntKind.signed,IntKind.bits] using l
   simp only [aF,iD,List.map_map,List.getElem?_map,List.getElem?_range i,Option.map_some,Function.comp,g] at f;injection f with f
   subst f;rw [m,iT] at g;rw [g];unfold bv;congr 2
   rw [UInt8.toNat_ofNat']
   omega
  ·rw [c];have r:=wh (lits (H:=H) IntKind.u8 (zs.take len)) (lits IntKind.u8 (zs.drop len));have s:=Dz (lits (H:=H) IntKind.u8 (zs.take len));have t:(lits (H:=H) IntKind.u8 (zs.take len)).length=len:=by simp [lits];omega
   show len+1<=Rows.uptoBulk (.slice (lits IntKind.u8 (zs.take len)) (lits IntKind.u8 (zs.drop len)));omega
end
end
end Go.Proofs.YtepgcjbhabnciaaGreat
