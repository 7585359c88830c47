/- Part 2. -/
import Derived.Test.YtbjgeidjmhialaaGreatDoorLa01
import Derived.BigQuiet
import Derived.LoopTactic
import Derived.Lib.MinMax
import Derived.Deep.RegionHeld3
import Derived.Deep.LoopGhost
import Derived.Maps.AppendAt
import Derived.RegionTactic
import Derived.Lib.SliceRun
import Derived.Laws.BytesArg
import Derived.Shelf.Spec.TrailingZeros
import Derived.Laws.Bits64b
namespace Go.Proofs.YtbjgeidjmhialaaGreatDoor
set_option maxRecDepth 100000
set_option maxHeartbeats 8000000
section
open Go.Proofs.Tryz
open Go.RowKit
open Go.Lib (compareBytes)
theorem bH {k:IntKind} {a b:Int} (h:a=b):Ending.returned (.int k a)= .returned (.int k b):=by rw [h]
theorem Fz (A:Option Addr) (n c:Nat) (k:List UInt8) (hn:n=k.length) (w:World):
  Calls prog 93 #[.slice A n c] w fun e w'=>e= .returned (.int .i64 (lC k))∧w=w':=by
 have HN:=aa hn;clear hn
 by_cases h0:n=0
 ·have hb:((n:Int)==0)=true:=by simpa using h0
  have HZ:=aa h0;clear h0;go_enter func93,ntmps93
  go_wp2;go_ret
  exact⟨bH (by have:=HN.out;have:=HZ.out;unfold lC;rw [if_neg (by omega)]),rfl⟩
 ·have hb:((n:Int)==0)=false:=by simpa using h0
  have hp:1≤n:=by omega
  by_cases h1:n≤64
  ·go_enter func93,ntmps93
   go_wp2;go_ret
   exact⟨bH (by have:=HN.out;unfold lC;rw [if_pos (by omega)]),rfl⟩
  ·go_enter func93,ntmps93
   go_wp2;go_ret
   exact⟨bH (by have:=HN.out;unfold lC;rw [if_neg (by omega)]),rfl⟩
theorem IW (A:Option Addr) (n c:Nat) (k:List UInt8) (hn:n=k.length) (w:World):
  Calls prog 94 #[.slice A n c] w fun e w'=>e= .returned (.int .i64 (tC k))∧w=w':=by
 have HN:=aa hn;clear hn
 by_cases h1:n≤256
 ·go_enter func94,ntmps94
  go_wp2;go_ret
  exact⟨bH (by have:=HN.out;unfold tC;rw [if_pos (by omega)]),rfl⟩
 ·go_enter func94,ntmps94
  go_wp2;go_ret
  exact⟨bH (by have:=HN.out;unfold tC;rw [if_neg (by omega)]),rfl⟩
theorem vO (A:Option Addr) (n c:Nat) (k:List UInt8) (hn:n=k.length) (w:World):
  Calls prog 82 #[.slice A n c] w fun e w'=>e= .returned (.int .i64 (lC k))∧w=w':=by
 have HN:=aa hn;clear hn
 by_cases h0:n<1
 ·go_enter func82,ntmps82
  go_wp2;go_ret
  exact⟨bH (by have:=HN.out;unfold lC;rw [if_neg (by omega)]),rfl⟩
 ·by_cases h1:n≤64
  ·go_enter func82,ntmps82
   go_wp2;go_ret
   exact⟨bH (by have:=HN.out;unfold lC;rw [if_pos (by omega)]),rfl⟩
  ·go_enter func82,ntmps82
   go_wp2;go_ret
   exact⟨bH (by have:=HN.out;unfold lC;rw [if_neg (by omega)]),rfl⟩
theorem Ev (A:Option Addr) (n c:Nat) (k:List UInt8) (hn:n=k.length) (w:World):
  Calls prog 83 #[.slice A n c] w fun e w'=>e= .returned (.int .i64 (tC k))∧w=w':=by
 have HN:=aa hn;clear hn
 by_cases h1:n≤256
 ·go_enter func83,ntmps83
  go_wp2;go_ret
  exact⟨bH (by have:=HN.out;unfold tC;rw [if_pos (by omega)]),rfl⟩
 ·go_enter func83,ntmps83
  go_wp2;go_ret
  exact⟨bH (by have:=HN.out;unfold tC;rw [if_neg (by omega)]),rfl⟩
theorem gD (A B:Option Addr) (n m c d:Nat) (F G:Nat→Prop) (xs ys:List UInt8) (w:World) (h:Rd w F 1 A n (aK xs)) (hn:n=xs.length) (k:Rd w G 1 B m (aK ys)) (hm:m=ys.length) (hn2:n≤1152921504606846976):
  Calls prog 84 #[.slice A n c,.slice B m d] w fun e w'=>e= .returned (.int .i64 (comm xs ys))∧∃q,w'=w.drewN q:=by
 have HN:=aa hn;have HM:=aa hm;have HA:=aa h;have HB:=aa k;clear hn hm h k;go_enter func84,ntmps84
 go_wp2
 go_loopg [5] n (fun g i wr=>∃k:Nat,g=n-k∧k≤n∧k≤m∧i= .int .i64 k∧(∀j,j<k→xs[j]? =ys[j]?)∧∃q,wr=w.drewN q)
 case atStart=>exact⟨0,by omega,by omega,by omega,rfl,by omega,0,rfl⟩
 case round=>
  obtain⟨i,hg,hi1,hi2,rfl,hs,q,rfl⟩:=hrel;have HS:=aa hs;have HG:=aa hg;clear hs hg
  by_cases h1:i<n
  ·by_cases h2:i<m
   ·obtain⟨b1,o1,u1,rfl,_,hx,hcx⟩:=HA.out.at_ h1;obtain⟨b2,o2,u2,rfl,_,hy,hcy⟩:=HB.out.at_ h2;obtain⟨x,hx2,rfl⟩:=gH hx;obtain⟨y,hy2,rfl⟩:=gH hy;have HX:=aa hx2;have HY:=aa hy2;clear hx hy hx2 hy2;simp only [bv] at hcx hcy
    by_cases e:x=y
    ·subst e;go_wp2_with fail
     go_quiet (fail);go_wp2
     go_roundg (n-(i+1))
     case measure=>have:=HG.out;omega
     case rel=>
      exact⟨i+1,rfl,by omega,by omega,by go_num,fun j hj=>by
       rcases Nat.lt_or_ge j i with h|h
       ·exact HS j h
       ·obtain rfl:j=i:=by omega
        rw [HX.out,HY.out],_,rfl⟩
    ·have hne:((x.toNat:Int)==(y.toNat:Int))=false:=by
      rw [beq_eq_false_iff_ne];intro h;exact e (UInt8.toNat.inj (by omega))
     have HE:=aa (jF xs ys i HS (by have:=HN.out;omega) (by have:=HM.out;omega) (.inr (.inr (by rw [HX.out,HY.out];simpa using e))));clear e;go_wp2_with fail
     go_quiet (fail);go_wp2;go_ret
     exact⟨bH (by rw [HE.out]),_,World.drewN_drewN ..⟩
   ·have hd:decide ((i:Int)<(m:Int))=false:=by simp;omega
    have HE:=aa (jF xs ys i HS (by have:=HN.out;omega) (by have:=HM.out;omega) (.inr (.inl (by have:=HM.out;omega))));go_wp2_with fail
    go_quiet (fail);go_wp2;go_ret
    exact⟨bH (by rw [HE.out]),_,World.drewN_drewN ..⟩
  ·have hd:decide ((i:Int)<(n:Int))=false:=by simp;omega
   have HE:=aa (jF xs ys i HS (by have:=HN.out;omega) (by have:=HM.out;omega) (.inl (by have:=HN.out;omega)));go_wp2_with fail
   go_quiet (fail);go_wp2;go_ret
   exact⟨bH (by rw [HE.out]),_,World.drewN_drewN ..⟩
theorem kU (A B:Option Addr) (n m c d:Nat) (F G:Nat→Prop) (xs ys:List UInt8) (w:World) (h:Rd w F 1 A n (aK xs)) (hn:n=xs.length) (k:Rd w G 1 B m (aK ys)) (hm:m=ys.length) (hn2:n≤1152921504606846976):
  Calls prog 62 #[.slice A n c,.slice B m d] w fun e w'=>e= .returned (.int .i64 (compareBytes xs ys))∧∃q,w'=w.drewN q:=by
 have hl:=jG xs ys;have hcc:=yP xs ys;have HO:=aa (kV xs ys);obtain⟨q,hq⟩:∃q,q=comm xs ys:=⟨_,rfl⟩;unfold yQ at hcc;rw [←hq] at hcc hl HO;have HC:=aa hcc;have HQ:=aa hq;have HN:=aa hn;have HM:=aa hm;have HA:=aa h;have HB:=aa k;have hc1:q≤n:=by omega
 have hc2:q≤m:=by omega
 clear hn hm h k hcc hq hl
 by_cases h1:q=n
 ·have e1:((q:Int)==(n:Int))=true:=by rw [beq_iff_eq];omega
  have H1:=aa h1;clear h1
  by_cases h2:q=m
  ·have e2:((q:Int)==(m:Int))=true:=by rw [beq_iff_eq];omega
   have HR:Hid (compareBytes xs ys=0):=aa (by have:=HN.out;have:=HM.out;have:=H1.out;rw [HC.out,if_pos (by omega)]);clear h2;go_enter func62,ntmps62
   go_wp2_with (go_at_call 84;refine(gD _ _ _ _ _ _ F G xs ys _ HA HN HB HM hn2).mono ?_;rintro e w' ⟨rfl,r,rfl⟩;rw [←HQ.out])
   go_ret
   exact⟨bH (by rw [HR.out]),_,rfl⟩
  ·have e2:((q:Int)==(m:Int))=false:=by rw [beq_eq_false_iff_ne];omega
   have HR:Hid (compareBytes xs ys= -1):=aa (by have:=HN.out;have:=HM.out;have:=H1.out;rw [HC.out,if_neg (by omega),if_pos (by omega)]);go_enter func62,ntmps62
   go_wp2_with (go_at_call 84;refine(gD _ _ _ _ _ _ F G xs ys _ HA HN HB HM hn2).mono ?_;rintro e w' ⟨rfl,r,rfl⟩;rw [←HQ.out])
   go_ret
   exact⟨bH (by rw [HR.out]),_,rfl⟩
 ·have e1:((q:Int)==(n:Int))=false:=by rw [beq_eq_false_iff_ne];omega
  by_cases h2:q=m
  ·have e2:((q:Int)==(m:Int))=true:=by rw [beq_iff_eq];omega
   have HR:Hid (compareBytes xs ys=1):=aa (by have:=HN.out;have:=HM.out;rw [HC.out,if_neg (by omega),if_neg (by omega),if_pos (by omega)]);clear h2;go_enter func62,ntmps62
   go_wp2_with (go_at_call 84;refine(gD _ _ _ _ _ _ F G xs ys _ HA HN HB HM hn2).mono ?_;rintro e w' ⟨rfl,r,rfl⟩;rw [←HQ.out])
   go_ret
   exact⟨bH (by rw [HR.out]),_,rfl⟩
  ·have e2:((q:Int)==(m:Int))=false:=by rw [beq_eq_false_iff_ne];omega
   have l1:q<n:=by omega
   have l2:q<m:=by omega
   obtain⟨b1,o1,u1,rfl,_,hx,hcx⟩:=HA.out.at_ l1;obtain⟨b2,o2,u2,rfl,_,hy,hcy⟩:=HB.out.at_ l2;obtain⟨x,hx2,rfl⟩:=gH hx;obtain⟨y,hy2,rfl⟩:=gH hy
   have HR:Hid (compareBytes xs ys=if x<y then-1 else 1):=aa (by
    have:=HN.out;have:=HM.out;rw [HC.out,if_neg (by omega),if_neg (by omega),if_neg (by omega)];simp only [List.getD,hx2,hy2,Option.getD_some])
   simp only [bv] at hcx hcy;clear hx hy hx2 hy2
   by_cases hlt:x<y
   ·have hlt2:(x.toNat:Int)<(y.toNat:Int):=by have:=UInt8.lt_iff_toNat_lt.1 hlt;omega
    have HL:=aa hlt;clear hlt;go_enter func62,ntmps62
    go_wp2_with (go_at_call 84;refine(gD _ _ _ _ _ _ F G xs ys _ HA HN HB HM hn2).mono ?_;rintro e w' ⟨rfl,r,rfl⟩;rw [←HQ.out])
    go_quiet (fail);go_wp2;go_ret
    exact⟨bH (by rw [HR.out,if_pos HL.out]),_,World.drewN_drewN ..⟩
   ·have hlt2:¬(x.toNat:Int)<(y.toNat:Int):=fun h=>hlt (UInt8.lt_iff_toNat_lt.2 (by omega));have HL:=aa hlt;clear hlt;go_enter func62,ntmps62
    go_wp2_with (go_at_call 84;refine(gD _ _ _ _ _ _ F G xs ys _ HA HN HB HM hn2).mono ?_;rintro e w' ⟨rfl,r,rfl⟩;rw [←HQ.out])
    go_quiet (fail);go_wp2;go_ret
    exact⟨bH (by rw [HR.out,if_neg HL.out]),_,World.drewN_drewN ..⟩
end
section
open Go.RowKit
section
variable {P:Program} (w:World)
theorem pN (base:Nat) (t ty e:TypeId) (i:TypeInfo) (size:Nat) (ht:P.underlying t=some (.slice e)) (hi:P.info? e=some i)
  (v:Value) (n:Nat) (xs:List Value) (hown:w.ownsRow base e size v n xs) (c:Nat):(Builtin.append_ #[t,t] ty #[v,.slice none 0 c]).run P w= .ok v w:=by
 rcases hown.2 with⟨rfl,rfl⟩|⟨g,cap,cur,rfl,_,_,hnc,_⟩
 ·simp [Builtin.append_,run_underlying ht,sizeOf,typeInfo,hi,Builtin.lenOf,Builtin.firstCells]
 ·simp [Builtin.append_,run_underlying ht,sizeOf,typeInfo,hi,Builtin.lenOf,Builtin.firstCells,hnc,storeCells]
theorem lT (base:Nat) (t ty e:TypeId) (i:TypeInfo) (z:Value) (size bytes:Nat) (ht:P.underlying t=some (.slice e)) (hi:P.info? e=some i) (hz:i.zero=some z)
  (hsize:i.size=size) (hby:i.bytes=bytes) (hzs:z.cells.size=size) (hsz:0<size)
  (v:Value) (n:Nat) (xs:List Value) (hown:w.ownsRow base e size v n xs)
  (F:Nat→Prop) (A:Option Addr) (m c:Nat) (news:List Value) (hr:Rd w F size A m news) (h1:∀u∈news,u.oneCell'=true)
  (h63:n+m≤maxLen) (hbytes:(n+m)*bytes≤140737488355328) (hbase:base≤w.heap.size):
  ∃v' w',(Builtin.append_ #[t,t] ty #[v,.slice A m c]).run P w= .ok v' w'∧w'.ownsRow base e size v' (n+m) (xs++news)∧w.grownBy w' v.ownBlock∧
   (v'.ownBlock=v.ownBlock∨v'.ownBlock=some w.heap.size):=by
 rcases A with _|ad
 ·have hm:m=0:=by
   rcases Nat.eq_zero_or_pos m with h0|h0
   ·exact h0
   ·obtain⟨_,_,h,_⟩:=hr.2 h0
    cases h
  subst hm;have hn:news= []:=List.eq_nil_of_length_eq_zero (by simpa using hr.1);subst hn
  exact⟨v,w,pN w base t ty e i size ht hi v n xs hown c,by simpa using hown,World.grownBy.refl w _,.inl rfl⟩
 ·have hcells:∀j u,news[j]? =some u→w.cell? (ad.add j)=some u:=by
   intro j u hu
   rcases Nat.eq_zero_or_pos m with h0|h0
   ·subst h0;have hn:news= []:=List.eq_nil_of_length_eq_zero (by simpa using hr.1);subst hn
    simp at hu
   ·obtain⟨b,o,h,_,hc⟩:=hr.2 h0;injection h with h
    subst h;rw [iP];exact hc j u hu
  obtain⟨v',w',hrun,h2,h3,_,h5⟩:=run_append_own_at (P:=P) w base t ty e i z size bytes ht hi hz hsize hby hzs hsz v n xs hown ad m c news hr.1 hcells h1 h63 hbytes hbase;exact⟨v',w',hrun,h2,h3,h5⟩
theorem nE {o:Oper} {a:Act} {K:Act→World→Prop} {Q:Exit→Act→World→Prop} (s x:Operand) (t:TypeId)
  (ho:o.op= .call {callee:= .builtin .append,args:= #[s,x],argTypes:= #[t,t]})
  (base:Nat) (e:TypeId) (i:TypeInfo) (z:Value) (size bytes:Nat) (ht:P.underlying t=some (.slice e)) (hi:P.info? e=some i) (hz:i.zero=some z)
  (hsize:i.size=size) (hby:i.bytes=bytes) (hzs:z.cells.size=size) (hsz:0<size)
  (v:Value) (n:Nat) (xs:List Value) (hs:a.eval s=v) (hown:w.ownsRow base e size v n xs)
  (F:Nat→Prop) (A:Option Addr) (m c:Nat) (news:List Value) (hx:a.eval x= .slice A m c) (hr:Rd w F size A m news) (h1:∀u∈news,u.oneCell'=true)
  (h63:n+m≤maxLen) (hbytes:(n+m)*bytes≤140737488355328) (hbase:base≤w.heap.size)
  (h:∀v' w',w'.ownsRow base e size v' (n+m) (xs++news)→w.grownBy w' v.ownBlock→(v'.ownBlock=v.ownBlock∨v'.ownBlock=some w.heap.size)→K (a.put o.dst v') w'):o.wp P a w K Q:=by
 obtain⟨v',w',hrun,h2,h3,h4⟩:=lT (P:=P) w base t o.type e i z size bytes ht hi hz hsize hby hzs hsz v n xs hown F A m c news hr h1 h63 hbytes hbase;unfold Oper.wp execOp;simp only [ho,resolve,invoke,builtin,Sem.run_bind,Sem.run_pure,Result.andThen_ok,List.map_toArray,List.map_cons,List.map_nil,hs,hx,hrun];exact h v' w' h2 h3 h4
theorem af {ops:Array Oper} {rest:List Oper} {o:Oper} {a:Act} {Q:Exit→Act→World→Prop} (hgd:o.guard=none) (s x:Operand) (t:TypeId)
  (ho:o.op= .call {callee:= .builtin .append,args:= #[s,x],argTypes:= #[t,t]})
  (base:Nat) (e:TypeId) (i:TypeInfo) (z:Value) (size bytes:Nat) (ht:P.underlying t=some (.slice e)) (hi:P.info? e=some i) (hz:i.zero=some z)
  (hsize:i.size=size) (hby:i.bytes=bytes) (hzs:z.cells.size=size) (hsz:0<size)
  (v:Value) (n:Nat) (xs:List Value) (hs:a.eval s=v) (hown:w.ownsRow base e size v n xs)
  (F:Nat→Prop) (A:Option Addr) (m c:Nat) (news:List Value) (hx:a.eval x= .slice A m c) (hr:Rd w F size A m news) (h1:∀u∈news,u.oneCell'=true)
  (h63:n+m≤maxLen) (hbytes:(n+m)*bytes≤140737488355328) (hbase:base≤w.heap.size)
  (h:∀v' w',w'.ownsRow base e size v' (n+m) (xs++news)→w.grownBy w' v.ownBlock→(v'.ownBlock=v.ownBlock∨v'.ownBlock=some w.heap.size)→wpList P ops Q rest (a.put o.dst v') w'):wpList P ops Q (o::rest) a w:=
 wpList_plain hgd fun _ hK=>nE w s x t ho base e i z size bytes ht hi hz hsize hby hzs hsz v n xs hs hown F A m c news hx hr h1 h63 hbytes hbase fun v' w' h2 h3 h4=>hK _ _ (h v' w' h2 h3 h4)
theorem aV {ops:Array Oper} {o:Oper} {a:Act} {K:Act→World→Prop} {Q:Exit→Act→World→Prop} {E:Prop} (hgd:o.guard=none) (s x:Operand) (t:TypeId)
  (ho:o.op= .call {callee:= .builtin .append,args:= #[s,x],argTypes:= #[t,t]})
  (base:Nat) (e:TypeId) (i:TypeInfo) (z:Value) (size bytes:Nat) (ht:P.underlying t=some (.slice e)) (hi:P.info? e=some i) (hz:i.zero=some z)
  (hsize:i.size=size) (hby:i.bytes=bytes) (hzs:z.cells.size=size) (hsz:0<size)
  (v:Value) (n:Nat) (xs:List Value) (hs:a.eval s=v) (hown:w.ownsRow base e size v n xs)
  (F:Nat→Prop) (A:Option Addr) (m c:Nat) (news:List Value) (hx:a.eval x= .slice A m c) (hr:Rd w F size A m news) (h1:∀u∈news,u.oneCell'=true)
  (h63:n+m≤maxLen) (hbytes:(n+m)*bytes≤140737488355328) (hbase:base≤w.heap.size)
  (h:∀v' w',w'.ownsRow base e size v' (n+m) (xs++news)→w.grownBy w' v.ownBlock→(v'.ownBlock=v.ownBlock∨v'.ownBlock=some w.heap.size)→K (a.put o.dst v') w'):
  if Region.wanted o (yielded ops a.tmps)=true then Oper.wp P o a w K Q else E:=by
 have hw:Region.wanted o (yielded ops a.tmps)=true:=by simp [Region.wanted,hgd]
 rw [if_pos hw];exact nE w s x t ho base e i z size bytes ht hi hz hsize hby hzs hsz v n xs hs hown F A m c news hx hr h1 h63 hbytes hbase h
end
theorem lU (w:World) (e:TypeId) (size:Nat):(w.alloc (.cells #[] e)).ownsRow w.heap.size e size (.slice (some ⟨w.heap.size,0,none⟩) 0 0) 0 []:=
 ⟨by simp,.inr ⟨w.heap.size,0,#[],rfl,Nat.le_refl _,heap_alloc_new w _,Nat.le_refl _,by simp [maxLen],by simp,by simp⟩⟩
theorem ay {w:World} {base:Nat} {e:TypeId} {size n:Nat} {v:Value} {xs:List Value} (h:w.ownsRow base e size v n xs):∃A c,v= .slice A n c∧n≤c∧c≤maxLen:=by
 rcases h.2 with⟨rfl,rfl⟩|⟨g,cap,cur,rfl,_,_,h1,h2,_⟩
 ·exact⟨none,0,rfl,Nat.le_refl _,by simp [maxLen]⟩
 ·exact⟨_,cap,rfl,h1,h2⟩
theorem lV {w:World} {base base':Nat} {e:TypeId} {size n:Nat} {v:Value} {xs:List Value} (h:w.ownsRow base e size v n xs) (hb:base'≤base):w.ownsRow base' e size v n xs:=by
 refine⟨h.1,?_⟩
 rcases h.2 with h2|⟨g,cap,cur,hv,hg,r⟩
 ·exact .inl h2
 ·exact .inr ⟨g,cap,cur,hv,Nat.le_trans hb hg,r⟩
theorem J6 {w:World} {base:Nat} {e:TypeId} {n:Nat} {v:Value} {bs:List UInt8} (h:w.ownsRow base e 1 v n (aK bs)):SB w (From base) v bs:=by
 obtain⟨A,c,rfl,h1,h2⟩:=ay h;exact⟨A,n,c,rfl,h1,h2,by have:=h.1;simpa [aK] using this.symm,Rd.of_own h⟩
theorem aF {S:Nat→Prop} {w w':World} {base:Nat} {e:TypeId} {size n:Nat} {v:Value} {xs:List Value} (h:w.ownsRow base e size v n xs) (hc:ag S w w') (hs:∀g,v.ownBlock=some g→¬S g):w'.ownsRow base e size v n xs:=by
 refine⟨h.1,?_⟩
 rcases h.2 with h2|⟨g,cap,cur,rfl,hg,hh,r⟩
 ·exact .inl h2
 ·refine .inr ⟨g,cap,cur,rfl,hg,?_,r⟩
  have hlt:g<w.heap.size:=by
   rcases Nat.lt_or_ge g w.heap.size with h1|h1
   ·exact h1
   ·rw [Array.getElem?_eq_none h1] at hh;cases hh
  rw [hc.block g hlt (hs g (by simp [Value.ownBlock]))];exact hh
theorem own_below {w w':World} {base:Nat} {e:TypeId} {size n:Nat} {v:Value} {xs:List Value} (h:w.ownsRow base e size v n xs) (hb:Below w.heap.size w w'):w'.ownsRow base e size v n xs:=
 aF h (ag.of_below (S:=Nil) hb) (fun _ _ hf=>hf)
theorem ah {w:World} {base:Nat} {e:TypeId} {size n:Nat} {v:Value} {xs:List Value} (h:w.ownsRow base e size v n xs):∀g,v.ownBlock=some g→base≤g∧g<w.heap.size:=h.lt
end
section
open Go.Proofs.Tryz
open Go.RowKit
open Go.Lib (compareBytes)
theorem dK:(prog.info? 5).map (fun i=>(i.zero,i.size,i.bytes))=some (some (.int .u8 0),1,1):=by kernel_rfl
theorem pF:(prog.info? 3).map (fun i=>(i.zero,i.size,i.bytes))=some (some (.int .i64 0),1,8):=by kernel_rfl
def Fv (w:World) (bs:List UInt8) (e:Ending) (w':World):Prop:=
 ∃A n c,e= .returned (.slice A n c)∧n≤c∧c≤maxLen∧Hid (n=bs.length)∧Rd w' (fF (From w.heap.size) w') 1 A n (aK bs)∧Below w.heap.size w w'
theorem dm (A:Option Addr) (n c:Nat) (F:Nat→Prop) (bs:List UInt8) (w:World) (h:Rd w F 1 A n (aK bs)) (hn:n=bs.length) (hn2:n≤1152921504606):
  Calls prog 23 #[.slice A n c] w (Fv w bs):=by
 obtain⟨i0,hi0,hz0,hz1,hz2⟩:=info_parts dK;have hq:=fun(w:World) (a:Option Addr) (n c:Nat)=>Lib.run_eql_slice_nil (P:=prog) w 24 5 a n c 0 0 underlying24
 cases A with
 |none=>
  have h0:n=0:=by
   rcases Nat.eq_zero_or_pos n with h0|h0
   ·exact h0
   ·obtain⟨_,_,e,_⟩:=h.2 h0;cases e
  subst h0;have hb:bs= []:=List.eq_nil_of_length_eq_zero hn.symm;subst hb;clear hn h;go_enter func23,ntmps23
  go_wp2;go_ret
  exact⟨none,0,0,rfl,Nat.le_refl _,by simp [maxLen],rfl,Rd.none_ _ _ _ _,Below.refl _ _⟩
 |some a=>
  have HN:=aa hn;clear hn;go_enter func23,ntmps23
  go_wp2_with (at_builtin;refine af _ rfl (.tmp 5) (.tmp 6) _ rfl w.heap.size 5 i0 _ 1 1 underlying24 hi0 hz0 hz1 hz2 rfl (by omega) (.slice (some ⟨w.heap.size,0,none⟩) 0 0) 0 [] rfl (lU w _ 1) F (some a) n c (aK bs) rfl (h.alloc _) (cO bs) (by simp only [maxLen];omega) (by omega) (by simp) ?_;intro v1 w1 hown1 hg1 iX)
  go_ret
  simp only [Nat.zero_add,List.nil_append] at hown1;obtain⟨A',c',hv,h1,h2⟩:=ay hown1;rw [hv] at hown1;refine⟨A',n,c',by rw [hv];rfl,h1,h2,HN,Rd.soft_of_own hown1,((Below.refl _ _).alloc (Nat.le_refl _) _).grown hg1 (by simp) (fun k hk=> ?_)⟩;simp [Value.ownBlock] at hk;omega
theorem nG (A:Option Addr) (n c:Nat) (F:Nat→Prop) (xs:List Value) (w:World) (h:Rd w F 1 A n xs) (h1:∀u∈xs,u.oneCell'=true) (hn2:n≤1152921504606):
  Calls prog 22 #[.slice A n c] w fun e w'=>∃A' c',e= .returned (.slice A' n c')∧n≤c'∧c'≤maxLen∧Rd w' (fF (From w.heap.size) w') 1 A' n xs∧Below w.heap.size w w':=by
 obtain⟨i0,hi0,hz0,hz1,hz2⟩:=info_parts pF;have hq:=fun(w:World) (a:Option Addr) (n c:Nat)=>Lib.run_eql_slice_nil (P:=prog) w 25 3 a n c 0 0 underlying25
 cases A with
 |none=>
  have h0:n=0:=by
   rcases Nat.eq_zero_or_pos n with h0|h0
   ·exact h0
   ·obtain⟨_,_,e,_⟩:=h.2 h0;cases e
  subst h0;have hb:xs= []:=h.empty;subst hb;clear h;go_enter func22,ntmps22
  go_wp2;go_ret
  exact⟨none,0,rfl,Nat.le_refl _,by simp [maxLen],Rd.none_ _ _ _ _,Below.refl _ _⟩
 |some a=>
  go_enter func22,ntmps22
  go_wp2_with (at_builtin;refine af _ rfl (.tmp 5) (.tmp 6) _ rfl w.heap.size 3 i0 _ 1 8 underlying25 hi0 hz0 hz1 hz2 rfl (by omega) (.slice (some ⟨w.heap.size,0,none⟩) 0 0) 0 [] rfl (lU w _ 1) F (some a) n c xs rfl (h.alloc _) h1 (by simp only [maxLen];omega) (by omega) (by simp) ?_;intro v1 w1 hown1 hg1 iX)
  go_ret
  simp only [Nat.zero_add,List.nil_append] at hown1;obtain⟨A',c',hv,h1,h2⟩:=ay hown1;rw [hv] at hown1;refine⟨A',c',by rw [hv];rfl,h1,h2,Rd.soft_of_own hown1,((Below.refl _ _).alloc (Nat.le_refl _) _).grown hg1 (by simp) (fun k hk=> ?_)⟩;simp [Value.ownBlock] at hk;omega
theorem uK (A B:Option Addr) (n m c d:Nat) (F G:Nat→Prop) (xs ys:List UInt8) (w:World) (h:Rd w F 1 A n (aK xs)) (hn:n=xs.length) (k:Rd w G 1 B m (aK ys)) (hm:m=ys.length) (hn2:n≤1152921504606846976):
  Calls prog 145 #[.slice A n c,.slice B m d] w fun e w'=>e= .returned (.int .i64 (comm xs ys))∧∃q,w'=w.drewN q:=by
 have HN:=aa hn;have HM:=aa hm;have HA:=aa h;have HB:=aa k;obtain⟨l,hl⟩:∃l:Nat,l=min n m:=⟨_,rfl⟩;have HL:Hid ((min (n:Int) (m:Int))=(l:Int)):=aa (by omega);have hl1:l≤n:=by omega
 have hl2:l≤m:=by omega
 have hl3:n≤l∨m≤l:=by omega
 clear hn hm h k hl;go_enter func145,ntmps145
 go_wp2;rw [HL.out]
 go_loopg [13] l (fun g i wr=>∃k:Nat,g=l-k∧k≤l∧i= .int .i64 k∧(∀j,j<k→xs[j]? =ys[j]?)∧∃q,wr=w.drewN q)
 case atStart=>exact⟨0,by omega,by omega,rfl,by omega,0,rfl⟩
 case round=>
  obtain⟨i,hg,hi1,rfl,hs,q,rfl⟩:=hrel;have HS:=aa hs;have HG:=aa hg;clear hs hg
  by_cases hi:i<l
  ·have h1:i<n:=by omega
   have h2:i<m:=by omega
   obtain⟨b1,o1,u1,rfl,_,hx,hcx⟩:=HA.out.at_ h1;obtain⟨b2,o2,u2,rfl,_,hy,hcy⟩:=HB.out.at_ h2;obtain⟨x,hx2,rfl⟩:=gH hx;obtain⟨y,hy2,rfl⟩:=gH hy;have HX:=aa hx2;have HY:=aa hy2;clear hx hy hx2 hy2;simp only [bv] at hcx hcy
   by_cases e:x=y
   ·subst e;go_wp2_with fail
    go_quiet (fail);go_wp2
    go_roundg (l-(i+1))
    case measure=>have:=HG.out;omega
    case rel=>
     exact⟨i+1,rfl,by omega,by go_num,fun j hj=>by
      rcases Nat.lt_or_ge j i with h|h
      ·exact HS j h
      ·obtain rfl:j=i:=by omega
       rw [HX.out,HY.out],_,rfl⟩
   ·have hne:((x.toNat:Int)==(y.toNat:Int))=false:=by
     rw [beq_eq_false_iff_ne];intro h;exact e (UInt8.toNat.inj (by omega))
    have hne2:((x.toNat:Int) !=(y.toNat:Int))=true:=by
     rw [bne_iff_ne];intro h;exact e (UInt8.toNat.inj (by omega))
    have HE:=aa (jF xs ys i HS (by have:=HN.out;omega) (by have:=HM.out;omega) (.inr (.inr (by rw [HX.out,HY.out];simpa using e))));clear e;go_wp2_with fail
    go_quiet (fail);go_wp2;go_ret
    exact⟨bH (by rw [HE.out]),_,World.drewN_drewN ..⟩
  ·have HE:=aa (jF xs ys i HS (by have:=HN.out;omega) (by have:=HM.out;omega) (by have:=HN.out;have:=HM.out;omega));have HI:Hid (i=l):=aa (by omega);go_wp2;go_ret
   exact⟨bH (by rw [←HI.out,HE.out]),_,rfl⟩
def KR (w:World) (bs:List UInt8) (x:Int) (e:Ending) (w':World):Prop:=
 ∃A n c,e= .returned (.tuple #[.slice A n c,.int .i64 x])∧n≤c∧c≤maxLen∧Hid (n=bs.length)∧Rd w' (fF (From w.heap.size) w') 1 A n (aK bs)∧Below w.heap.size w w'
theorem yx (A B:Option Addr) (n m c d:Nat) (F G:Nat→Prop) (xs ys:List UInt8) (w:World) (h:Rd w F 1 A n (aK xs)) (hn:n=xs.length) (k:Rd w G 1 B m (aK ys)) (hm:m=ys.length) (hmd:m≤d) (hn2:n≤1152921504606) (hm2:m≤1152921504606) (_hd2:d≤maxLen):
  Calls prog 122 #[.slice A n c,.slice B m d] w (KR w (nu xs ys).1 (nu xs ys).2):=by
 have HN:=aa hn;have HM:=aa hm;have HA:=aa h;have HB:=aa k;have hr:=nH xs ys;have hl:=jG xs ys;have HR:=aa (nu.eq_1 xs ys);have hlt:=gI xs ys;obtain⟨l,hll⟩:∃l,l=comm xs ys:=⟨_,rfl⟩;rw [←hll] at hl hlt HR;have HL:=aa hll;have l1:l≤n:=by omega
 have l2:l≤m:=by omega
 clear hn hm h k hl hll
 by_cases hc:compareBytes xs ys<0
 ·have l3:l<m:=by have:=(hlt.1 hc).1;have:=HM.out;omega
  have HC:=aa hc;clear hlt hr;go_enter func122,ntmps122
  go_wp2_with (first|(go_at_call 70;refine(bi _ _ _ _ _ _ F G xs ys _ HA HN HB HM).mono ?_;rintro e w' ⟨rfl,rfl⟩)|(go_at_call 145;refine(uK _ _ _ _ _ _ F G xs ys _ HA HN HB HM (by omega)).mono ?_;rintro e w' ⟨rfl,r,rfl⟩;rw [←HL.out]))
  refine(dm _ _ _ G (ys.take (l+1)) _ ((HB.drewN r).take1 (by omega)) (take_len (by have:=HM.out;omega)) (by omega)).mono ?_;rintro e w' ⟨A',n',c',rfl,h1,h2,h3,h4,h5⟩;go_wp2;go_ret2
  rw [HR.out,if_pos HC.out]
  exact⟨A',n',c',rfl,h1,h2,h3,h4,(below_drewN (Below.refl _ _) r).trans h5⟩
 ·have HC:=aa hc;clear hlt hr;go_enter func122,ntmps122
  go_wp2_with (first|(go_at_call 70;refine(bi _ _ _ _ _ _ F G xs ys _ HA HN HB HM).mono ?_;rintro e w' ⟨rfl,rfl⟩))
  go_ret2
  rw [HR.out,if_neg (by have:=HC.out;omega)];exact⟨none,0,0,rfl,Nat.le_refl _,by simp [maxLen],rfl,Rd.none_ _ _ _ _,Below.refl _ _⟩
end
section
open Go.Lib (compareBytes)
theorem yM:∀(a b:List UInt8),compareBytes b a= -compareBytes a b
 | [],[]=>by simp [compareBytes]
 | [],_::_=>by simp [compareBytes]
 |_::_,[]=>by simp [compareBytes]
 |x::xs,y::ys=>by
  have ih:=yM xs ys;unfold compareBytes
  by_cases h1:x<y
  ·rw [if_pos h1,if_neg (UInt8.lt_asymm h1),if_pos h1];rfl
  ·by_cases h2:y<x
   ·rw [if_pos h2,if_neg h1,if_pos h2]
   ·rw [if_neg h1,if_neg h2,if_neg h2,if_neg h1];exact ih
theorem FM:∀(a:List UInt8),compareBytes a a=0
 | []=>by simp [compareBytes]
 |x::xs=>by
  unfold compareBytes;rw [if_neg (UInt8.lt_irrefl x),if_neg (UInt8.lt_irrefl x)];exact FM xs
theorem Qv:∀(a b:List UInt8),compareBytes a b=0→a=b
 | [],[],_=>rfl
 | [],_::_,h=>by simp [compareBytes] at h
 |_::_,[],h=>by simp [compareBytes] at h
 |x::xs,y::ys,h=>by
  unfold compareBytes at h
  by_cases h1:x<y
  ·rw [if_pos h1] at h;simp at h
  ·by_cases h2:y<x
   ·rw [if_neg h1,if_pos h2] at h;simp at h
   ·rw [if_neg h1,if_neg h2] at h;have e:x=y:=UInt8.le_antisymm (UInt8.not_lt.1 h2) (UInt8.not_lt.1 h1);rw [e,Qv xs ys h]
theorem vN:∀(a b c:List UInt8),compareBytes a b<0→compareBytes b c<0→compareBytes a c<0
 |_,[],[],h1,h2=>by simp [compareBytes] at h2
 | [],_,[],h1,h2=>by
  rename_i b
  cases b<;>simp [compareBytes] at h2
 |_::_,[],_,h1,_=>by simp [compareBytes] at h1
 |_,_::_,[],_,h2=>by simp [compareBytes] at h2
 | [],_,_::_,_,_=>by simp [compareBytes]
 |x::xs,y::ys,z::zs,h1,h2=>by
  have ih:=vN xs ys zs;unfold compareBytes at h1 h2⊢
  by_cases a1:x<y
  ·by_cases b1:y<z
   ·rw [if_pos (UInt8.lt_trans a1 b1)];simp
   ·by_cases b2:z<y
    ·rw [if_neg b1,if_pos b2] at h2;simp at h2
    ·have e:y=z:=UInt8.le_antisymm (UInt8.not_lt.1 b2) (UInt8.not_lt.1 b1);subst e
     rw [if_pos a1];simp
  ·by_cases a2:y<x
   ·rw [if_neg a1,if_pos a2] at h1;simp at h1
   ·have e:x=y:=UInt8.le_antisymm (UInt8.not_lt.1 a2) (UInt8.not_lt.1 a1);subst e;rw [if_neg a1,if_neg a1] at h1
    by_cases b1:x<z
    ·rw [if_pos b1];simp
    ·by_cases b2:z<x
     ·rw [if_neg b1,if_pos b2] at h2;simp at h2
     ·rw [if_neg b1,if_neg b2] at h2⊢;exact ih h1 h2
def qA (a b:List UInt8):Prop:=compareBytes a b<0
def sw (a b:List UInt8):Prop:=compareBytes a b≤0
section
variable {a b c:List UInt8}
theorem qA.trans (h:qA a b) (k:qA b c):qA a c:=vN a b c h k
theorem qA.le (h:qA a b):sw a b:=Int.le_of_lt h
theorem sw.cases (h:sw a b):a=b∨qA a b:=by
 unfold sw at h;unfold qA
 by_cases e:compareBytes a b=0
 ·exact .inl (Qv a b e)
 ·exact .inr (by omega)
theorem sw.refl (a:List UInt8):sw a a:=by unfold sw;rw [FM];omega
theorem sw.trans_lt (h:sw a b) (k:qA b c):qA a c:=by
 rcases h.cases with e|h
 ·subst e;exact k
 ·exact h.trans k
theorem sw.ge (h:sw a b):0≤compareBytes b a:=by have h:compareBytes a b≤0:=h;rw [yM];omega
theorem qA.gt (h:qA a b):0<compareBytes b a:=by have h:compareBytes a b<0:=h;rw [yM];omega
theorem sw.take:∀(n:Nat) (b:List UInt8),sw (b.take n) b
 |0,[]=>sw.refl _
 |0,_::_=>by simp [sw,compareBytes]
 |n+1,[]=>sw.refl _
 |n+1,x::xs=>by
  have:=sw.take n xs;unfold sw at this⊢;rw [List.take_succ_cons];unfold compareBytes;rw [if_neg (UInt8.lt_irrefl x),if_neg (UInt8.lt_irrefl x)];exact this
theorem O6 (h:qA a b) (hb:b.length≤64):qA a (nu a b).1∧sw (nu a b).1 b∧1≤(nu a b).1.length∧(nu a b).1.length≤64:=by
 have h':compareBytes a b<0:=h;have e:nu a b=(b.take (comm a b+1),0):=by unfold nu;rw [if_pos h']
 have hlt:=(gI a b).1 h';rw [e]
 refine⟨(wR (by omega)).2 ⟨h',by omega⟩,sw.take _ _,?_,?_⟩
 ·simp only [List.length_take];omega
 ·simp only [List.length_take];omega
end
end
section
open Go.Proofs.Tryz
open Go.RowKit
open Go.Lib (compareBytes)
theorem SB.mk {w:World} {F:Nat→Prop} {A:Option Addr} {n c:Nat} {bs:List UInt8} (h1:n≤c) (h2:c≤maxLen) (h3:n=bs.length) (h4:Rd w F 1 A n (aK bs)):SB w F (.slice A n c) bs:=⟨A,n,c,rfl,h1,h2,h3,h4⟩
theorem SB.parts {w:World} {F:Nat→Prop} {A:Option Addr} {n c:Nat} {bs:List UInt8} (h:SB w F (.slice A n c) bs):n≤c∧c≤maxLen∧n=bs.length∧Rd w F 1 A n (aK bs):=by
 obtain⟨A',n',c',e,h1,h2,h3,h4⟩:=h;injection e with e1 e2 e3;subst e1;subst e2;subst e3
 exact⟨h1,h2,h3,h4⟩
def YW (w:World) (bs:List UInt8) (e:Ending) (w':World):Prop:=
 ∃A n c,e= .returned (.slice A n c)∧SB w' (From w.heap.size) (.slice A n c) bs∧Below w.heap.size w w'
def wN (bs:List UInt8):ByteArray:=⟨bs.toArray⟩
theorem dR (w:World) (F:Nat→Prop) (A:Option Addr) (n c:Nat) (bs:List UInt8) (h:Rd w F 1 A n (aK bs)) (hn:n=bs.length):
  (convert 24 9 (.slice A n c)).run prog w= .ok (.string (wN bs)) w:=by
 cases A with
 |none=>
  have h0:n=0:=by
   rcases Nat.eq_zero_or_pos n with h0|h0
   ·exact h0
   ·obtain⟨_,_,e,_⟩:=h.2 h0;cases e
  subst h0;have hb:bs= []:=List.eq_nil_of_length_eq_zero hn.symm;subst hb
  exact run_convert_bytes_nil w 24 5 underlying24 underlying5 0 c _ underlying9
 |some a=>
  rcases Nat.eq_zero_or_pos n with h0|h0
  ·subst h0;have hb:bs= []:=List.eq_nil_of_length_eq_zero hn.symm;subst hb;rw [run_convert_bytes_string w 24 9 5 (some a) 0 c underlying24 underlying5 underlying9];have hl:(loadCells a 0).run prog w= .ok (([]:List Int).map (Value.int .u8)).toArray w:=run_loadCells_list (P:=prog) w a [] (fun j v hj=>by simp at hj)
   exact(run_bytesToString w a 0 c [] hl).trans (by rw [foldl_push_bytes];simp only [wN,ByteArray.empty,ByteArray.emptyWithCapacity];congr 2)
  ·obtain⟨b,o,e,_,hc⟩:=h.2 h0;injection e with e
   subst e
   have hk:=run_convert_bytes_arg (P:=prog) w 24 5 underlying24 underlying5 b o n c (bs.map fun x=>(x.toNat:Int)) (by simp [hn]) (fun i hi=>by
    have hl:i<bs.length:=by omega
    rw [hc i (bv bs[i]) (by simp [aK,List.getElem?_eq_getElem hl])];simp [bv,List.getD,List.getElem?_eq_getElem hl]) _ underlying9
   rw [hk];congr 2
   simp [strOfNums,wN,Function.comp_def]
theorem vH (a:List UInt8):(wN a).toList=a:=by rw [ByteArray.toList_eq];simp [wN]
theorem Du {a b:List UInt8}:((wN a).toList==(wN b).toList)=decide (a=b):=by
 rw [vH,vH];by_cases h:a=b<;>simp [h]
theorem Ji (F G:Nat→Prop) (A B:Option Addr) (n c m d:Nat) (xs ys:List UInt8) (w:World) (h:Rd w F 1 A n (aK xs)) (hn:n=xs.length) (k:Rd w G 1 B m (aK ys)) (hm:m=ys.length):
  Calls prog 78 #[.slice A n c,.slice B m d] w fun e w'=>e= .returned (.bool (decide (xs=ys)))∧w=w':=by
 have q1:=dR w F A n c xs h hn;have q2:=dR w G B m d ys k hm;have q3:=Du (a:=xs) (b:=ys);clear h k hn hm;go_enter func78,ntmps78
 go_wp2;go_ret
 exact⟨rfl,rfl⟩
end
section
open Go
theorem dx (a b:Nat) (ha:a<4294967296) (hb:b<4294967296):bits .xor .u32 (a:Int) (b:Int)=((a^^^b:Nat):Int):=by
 have hx:a^^^b<2^32:=Nat.xor_lt_two_pow (by omega) (by omega);have h1:(BitVec.ofInt 32 (a:Int)).toNat=a:=by rw [BitVec.ofInt_natCast,BitVec.toNat_ofNat];exact Nat.mod_eq_of_lt (by omega)
 have h2:(BitVec.ofInt 32 (b:Int)).toNat=b:=by rw [BitVec.ofInt_natCast,BitVec.toNat_ofNat];exact Nat.mod_eq_of_lt (by omega)
 show IntKind.u32.wrap ((BitVec.ofInt 32 (a:Int)^^^BitVec.ofInt 32 (b:Int)).toNat:Int)=_;rw [BitVec.toNat_xor,h1,h2,IntKind.wrap_u32];omega
def jZ (s:Nat):Nat:=if s%2=1 then(s/2)^^^3988292384 else s/2
def nI:Nat→Nat→Nat
 |0,s=>s
 |k+1,s=>jZ (nI k s)
def Gw (s:Nat) (l:List UInt8):Nat:=l.foldl (fun s c=>nI 8 (s^^^c.toNat)) s
def bz (l:List UInt8):Nat:=4294967295^^^Gw 4294967295 l
def four (s:Nat):List UInt8:= [UInt8.ofNat s,UInt8.ofNat (s/256),UInt8.ofNat (s/65536),UInt8.ofNat (s/16777216)]
theorem KV {s:Nat} (h:s<4294967296):jZ s<4294967296:=by
 unfold jZ
 split
 ·exact Nat.xor_lt_two_pow (n:=32) (by omega) (by omega)
 ·omega
theorem pV {s:Nat} (h:s<4294967296):∀k,nI k s<4294967296
 |0=>h
 |k+1=>KV (pV h k)
theorem yz {s:Nat} (h:s<4294967296) (c:UInt8):s^^^c.toNat<4294967296:=Nat.xor_lt_two_pow (n:=32) (by omega) (by have:=c.toNat_lt;omega)
theorem uM:∀(l:List UInt8) {s:Nat},s<4294967296→Gw s l<4294967296
 | [],s,h=>h
 |c::r,s,h=>uM r (s:=nI 8 (s^^^c.toNat)) (pV (yz h c) 8)
theorem KW (s:Nat) (l:List UInt8) (c:UInt8):Gw s (l++ [c])=nI 8 (Gw s l^^^c.toNat):=by simp [Gw,List.foldl_append]
theorem AC {s i:Nat} {l:List UInt8} {c:UInt8} (h:l[i]? =some c):Gw s (l.take (i+1))=nI 8 (Gw s (l.take i)^^^c.toNat):=by
 rw [List.take_add_one,h];exact KW _ _ _
theorem AF (l:List UInt8):bz l<4294967296:=Nat.xor_lt_two_pow (n:=32) (by omega) (uM l (by omega))
theorem Dw {x:Nat} (h:x<4294967296):4294967295^^^x=4294967295-x:=by
 have h1:(BitVec.allOnes 32^^^BitVec.ofNat 32 x).toNat=(~~~BitVec.ofNat 32 x).toNat:=by rw [BitVec.allOnes_xor]
 rw [BitVec.toNat_xor,BitVec.toNat_not,BitVec.toNat_allOnes,BitVec.toNat_ofNat,Nat.mod_eq_of_lt (by omega)] at h1;exact h1
end
end Go.Proofs.YtbjgeidjmhialaaGreatDoor
