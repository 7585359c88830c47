/- Part 2. -/
import Derived.Test.YtepgcjbhabnciaaGreatLe01
import Derived.Deep.QuietTactic
import Derived.Laws.MakeOwn
import Derived.Laws.Entries
import Derived.LaidEqlPtr
import Derived.ChangeSame
import Derived.Maps.AppendAt
import Derived.RegionTactic
import Derived.BigQuiet
import Derived.LoopTactic
import Derived.Lib.MinMax
import Derived.Deep.RegionHeld3
import Derived.Deep.LoopGhost
import Derived.Lib.SliceRun
namespace Go.Proofs.YtepgcjbhabnciaaGreat
set_option maxRecDepth 100000
set_option maxHeartbeats 8000000
open Go.RowKit Go.Proofs.Tryz
open Go.RowKit Go.WideShapes Go.ChangeShapes
open Go.Lib (compareBytes)
section
theorem eU {P:Program} {f:FuncId} {args:Array Value} {w:World} {n:Nat} {v:Value}
  (h:Calls P f args (w.drewN n) fun e w'=>e= .returned v/\w.drewN n=w'):Calls P f args (w.drewN n) fun e a=>e= .returned v/\∃m,a=w.drewN m:=
 h.mono fun _ _ ⟨b,c⟩=>⟨b,n,c.symm⟩
theorem kz {P:Program} (t e:TypeId) (i:TypeInfo) (z:Value) (k:P.underlying t=some (.slice e)) (hi:P.info? e=some i) (Y:i.zero=some z)
  (f d:IntKind) (n c:Nat) (Q:n<=c) (a:i.bytes*c<=281474976710656) (g:c<=9223372036854775807) (w:World):
  (Instr.makeSlice t (.int f (n:Int)) (.int d (c:Int))).run P w= .ok (.slice (some ⟨w.heap.size,0,none⟩) n c) (w.alloc (.cells (madeCells z.cells (c*i.size)) e)):=by
 have j:(i.bytes:Int)*(c:Int)<=281474976710656:=by
  have h:((i.bytes*c:Nat):Int)<=281474976710656:=by omega
  rwa [Int.natCast_mul] at h
 have b:=run_make (P:=P) w t e i z k hi Y f d n c (by omega) (by omega) j (by omega);simp only [Int.toNat_natCast] at b;exact b
section
variable {H:Type} {enc:TypeId×Value->H} {P:Program}
end
end
section
section
variable {P:Program} (w:World)
theorem p8 (base:Nat) (t f e:TypeId) (i:TypeInfo) (size:Nat) (d:P.underlying t=some (.slice e)) (hi:P.info? e=some i)
  (v:Value) (n:Nat) (xs:List Value) (a:w.ownsRow base e size v n xs) (c:Nat):(Builtin.append_ #[t,t] f #[v,.slice none 0 c]).run P w= .ok v w:=by
 rcases a.2 with⟨rfl,rfl⟩|⟨g,cap,cur,rfl,_,_,b,_⟩
 ·simp [Builtin.append_,run_underlying d,sizeOf,typeInfo,hi,Builtin.lenOf,Builtin.firstCells]
 ·simp [Builtin.append_,run_underlying d,sizeOf,typeInfo,hi,Builtin.lenOf,Builtin.firstCells,b,storeCells]
theorem ni (base:Nat) (t C e:TypeId) (i:TypeInfo) (z:Value) (size bytes:Nat) (E:P.underlying t=some (.slice e)) (hi:P.info? e=some i) (Y:i.zero=some z)
  (l:i.size=size) (p:i.bytes=bytes) (d:z.cells.size=size) (q:0<size)
  (v:Value) (n:Nat) (xs:List Value) (a:w.ownsRow base e size v n xs)
  (F:Nat->Prop) (A:Option Addr) (m c:Nat) (f:List Value) (x:Rd w F size A m f) (I:∀u∈f,u.oneCell'=true)
  (h63:n+m<=maxLen) (g:(n+m)*bytes<=140737488355328) (G:base<=w.heap.size):
  ∃s w',(Builtin.append_ #[t,t] C #[v,.slice A m c]).run P w= .ok s w'/\w'.ownsRow base e size s (n+m) (xs++f)/\w.grownBy w' v.ownBlock/\
   (s.ownBlock=v.ownBlock\/s.ownBlock=some w.heap.size):=by
 rcases A with _|D
 ·have N:m=0:=by
   rcases Nat.eq_zero_or_pos m with r|r
   ·exact r
   ·obtain⟨_,_,h,_⟩:=x.2 r
    cases h
  subst N;have B:f= []:=List.eq_nil_of_length_eq_zero (by simpa using x.1);subst B
  exact⟨v,w,p8 w base t C e i size E hi v n xs a c,by simpa using a,World.grownBy.refl w _,.inl rfl⟩
 ·have k:∀j u,f[j]? =some u->w.cell? (D.add j)=some u:=by
   intro j u H
   rcases Nat.eq_zero_or_pos m with r|r
   ·subst r;have B:f= []:=List.eq_nil_of_length_eq_zero (by simpa using x.1);subst B
    simp at H
   ·obtain⟨b,o,h,_,M⟩:=x.2 r;injection h with h
    subst h;rw [iT];exact M j u H
  obtain⟨s,w',y,J,K,_,L⟩:=run_append_own_at (P:=P) w base t C e i z size bytes E hi Y l p d q v n xs a D m c f x.1 k I h63 g G;exact⟨s,w',y,J,K,L⟩
theorem oF {o:Oper} {a:Act} {K:Act->World->Prop} {Q:Exit->Act->World->Prop} (s x:Operand) (t:TypeId)
  (E:o.op= .call {callee:= .builtin .append,args:= #[s,x],argTypes:= #[t,t]})
  (base:Nat) (e:TypeId) (i:TypeInfo) (z:Value) (size bytes:Nat) (I:P.underlying t=some (.slice e)) (hi:P.info? e=some i) (Y:i.zero=some z)
  (l:i.size=size) (p:i.bytes=bytes) (d:z.cells.size=size) (q:0<size)
  (v:Value) (n:Nat) (xs:List Value) (T:a.eval s=v) (k:w.ownsRow base e size v n xs)
  (F:Nat->Prop) (A:Option Addr) (m c:Nat) (f:List Value) (J:a.eval x= .slice A m c) (H:Rd w F size A m f) (y:∀u∈f,u.oneCell'=true)
  (b:n+m<=maxLen) (g:(n+m)*bytes<=140737488355328) (G:base<=w.heap.size)
  (h:∀j w',w'.ownsRow base e size j (n+m) (xs++f)->w.grownBy w' v.ownBlock->(j.ownBlock=v.ownBlock\/j.ownBlock=some w.heap.size)->K (a.put o.dst j) w'):o.wp P a w K Q:=by
 obtain⟨j,w',r,B,C,D⟩:=ni (P:=P) w base t o.type e i z size bytes I hi Y l p d q v n xs k F A m c f H y b g G;unfold Oper.wp execOp;simp only [E,resolve,invoke,builtin,Sem.run_bind,Sem.run_pure,Result.andThen_ok,List.map_toArray,List.map_cons,List.map_nil,T,J,r];exact h j w' B C D
theorem af {ops:Array Oper} {rest:List Oper} {o:Oper} {a:Act} {Q:Exit->Act->World->Prop} (j:o.guard=none) (s x:Operand) (t:TypeId)
  (H:o.op= .call {callee:= .builtin .append,args:= #[s,x],argTypes:= #[t,t]})
  (base:Nat) (e:TypeId) (i:TypeInfo) (z:Value) (size bytes:Nat) (J:P.underlying t=some (.slice e)) (hi:P.info? e=some i) (Y:i.zero=some z)
  (l:i.size=size) (p:i.bytes=bytes) (d:z.cells.size=size) (q:0<size)
  (v:Value) (n:Nat) (xs:List Value) (T:a.eval s=v) (r:w.ownsRow base e size v n xs)
  (F:Nat->Prop) (A:Option Addr) (m c:Nat) (f:List Value) (K:a.eval x= .slice A m c) (I:Rd w F size A m f) (y:∀u∈f,u.oneCell'=true)
  (b:n+m<=maxLen) (g:(n+m)*bytes<=140737488355328) (G:base<=w.heap.size)
  (h:∀k w',w'.ownsRow base e size k (n+m) (xs++f)->w.grownBy w' v.ownBlock->(k.ownBlock=v.ownBlock\/k.ownBlock=some w.heap.size)->wpList P ops Q rest (a.put o.dst k) w'):wpList P ops Q (o::rest) a w:=
 wpList_plain j fun _ E=>oF w s x t H base e i z size bytes J hi Y l p d q v n xs T r F A m c f K I y b g G fun k w' B C D=>E _ _ (h k w' B C D)
theorem aI {ops:Array Oper} {o:Oper} {a:Act} {K:Act->World->Prop} {Q:Exit->Act->World->Prop} {E:Prop} (j:o.guard=none) (s x:Operand) (t:TypeId)
  (B:o.op= .call {callee:= .builtin .append,args:= #[s,x],argTypes:= #[t,t]})
  (base:Nat) (e:TypeId) (i:TypeInfo) (z:Value) (size bytes:Nat) (D:P.underlying t=some (.slice e)) (hi:P.info? e=some i) (Y:i.zero=some z)
  (l:i.size=size) (p:i.bytes=bytes) (d:z.cells.size=size) (q:0<size)
  (v:Value) (n:Nat) (xs:List Value) (T:a.eval s=v) (k:w.ownsRow base e size v n xs)
  (F:Nat->Prop) (A:Option Addr) (m c:Nat) (f:List Value) (I:a.eval x= .slice A m c) (C:Rd w F size A m f) (y:∀u∈f,u.oneCell'=true)
  (b:n+m<=maxLen) (g:(n+m)*bytes<=140737488355328) (G:base<=w.heap.size)
  (h:∀r w',w'.ownsRow base e size r (n+m) (xs++f)->w.grownBy w' v.ownBlock->(r.ownBlock=v.ownBlock\/r.ownBlock=some w.heap.size)->K (a.put o.dst r) w'):
  if Region.wanted o (yielded ops a.tmps)=true then Oper.wp P o a w K Q else E:=by
 have H:Region.wanted o (yielded ops a.tmps)=true:=by simp [Region.wanted,j]
 rw [if_pos H];exact oF w s x t B base e i z size bytes D hi Y l p d q v n xs T k F A m c f I C y b g G h
end
theorem gp (w:World) (e:TypeId) (size:Nat):(w.alloc (.cells #[] e)).ownsRow w.heap.size e size (.slice (some ⟨w.heap.size,0,none⟩) 0 0) 0 []:=
 ⟨by simp,.inr ⟨w.heap.size,0,#[],rfl,Nat.le_refl _,heap_alloc_new w _,Nat.le_refl _,by simp [maxLen],by simp,by simp⟩⟩
theorem au {w:World} {base:Nat} {e:TypeId} {size n:Nat} {v:Value} {xs:List Value} (h:w.ownsRow base e size v n xs):∃A c,v= .slice A n c/\n<=c/\c<=maxLen:=by
 rcases h.2 with⟨rfl,rfl⟩|⟨g,cap,cur,rfl,_,_,a,b,_⟩
 ·exact⟨none,0,rfl,Nat.le_refl _,by simp [maxLen]⟩
 ·exact⟨_,cap,rfl,a,b⟩
theorem nu {w:World} {base a:Nat} {e:TypeId} {size n:Nat} {v:Value} {xs:List Value} (h:w.ownsRow base e size v n xs) (c:a<=base):w.ownsRow a e size v n xs:=by
 refine⟨h.1,?_⟩
 rcases h.2 with b|⟨g,cap,cur,hv,d,r⟩
 ·exact .inl b
 ·exact .inr ⟨g,cap,cur,hv,Nat.le_trans c d,r⟩
theorem L8 {w:World} {base:Nat} {e:TypeId} {n:Nat} {v:Value} {bs:List UInt8} (h:w.ownsRow base e 1 v n (aF bs)):SB w (From base) v bs:=by
 obtain⟨A,c,rfl,a,b⟩:=au h;exact⟨A,n,c,rfl,a,b,by have:=h.1;simpa [aF] using this.symm,Rd.of_own h⟩
theorem aD {S:Nat->Prop} {w w':World} {base:Nat} {e:TypeId} {size n:Nat} {v:Value} {xs:List Value} (h:w.ownsRow base e size v n xs) (y:ag S w w') (i:∀g,v.ownBlock=some g->¬S g):w'.ownsRow base e size v n xs:=by
 refine⟨h.1,?_⟩
 rcases h.2 with d|⟨g,cap,cur,rfl,f,b,r⟩
 ·exact .inl d
 ·refine .inr ⟨g,cap,cur,rfl,f,?_,r⟩
  have c:g<w.heap.size:=by
   rcases Nat.lt_or_ge g w.heap.size with a|a
   ·exact a
   ·rw [Array.getElem?_eq_none a] at b;cases b
  rw [y.block g c (i g (by simp [Value.ownBlock]))];exact b
theorem own_below {w w':World} {base:Nat} {e:TypeId} {size n:Nat} {v:Value} {xs:List Value} (h:w.ownsRow base e size v n xs) (a:Below w.heap.size w w'):w'.ownsRow base e size v n xs:=
 aD h (ag.of_below (S:=Nil) a) (fun _ _ b=>b)
theorem ah {w:World} {base:Nat} {e:TypeId} {size n:Nat} {v:Value} {xs:List Value} (h:w.ownsRow base e size v n xs):∀g,v.ownBlock=some g->base<=g/\g<w.heap.size:=h.lt
end
theorem bU {k:IntKind} {a b:Int} (h:a=b):Ending.returned (.int k a)= .returned (.int k b):=by rw [h]
theorem Iu (A:Option Addr) (n c:Nat) (k:List UInt8) (b:n=k.length) (w:World):
  Calls prog 97 #[.slice A n c] w fun e w'=>e= .returned (.int .i64 (mD k))/\w=w':=by
 have d:=aa b;clear b
 by_cases a:n=0
 ·have g:((n:Int)==0)=true:=by simpa using a
  have f:=aa a;clear a;go_enter func97,ntmps97
  go_wp2;go_ret
  exact⟨bU (by have:=d.out;have:=f.out;unfold mD;rw [if_neg (by omega)]),rfl⟩
 ·have g:((n:Int)==0)=false:=by simpa using a
  have i:1<=n:=by omega
  by_cases h:n<=64
  ·go_enter func97,ntmps97
   go_wp2;go_ret
   exact⟨bU (by have:=d.out;unfold mD;rw [if_pos (by omega)]),rfl⟩
  ·go_enter func97,ntmps97
   go_wp2;go_ret
   exact⟨bU (by have:=d.out;unfold mD;rw [if_neg (by omega)]),rfl⟩
theorem Km (A:Option Addr) (n c:Nat) (k:List UInt8) (b:n=k.length) (w:World):
  Calls prog 98 #[.slice A n c] w fun e w'=>e= .returned (.int .i64 (ul k))/\w=w':=by
 have a:=aa b;clear b
 by_cases d:n<=256
 ·go_enter func98,ntmps98
  go_wp2;go_ret
  exact⟨bU (by have:=a.out;unfold ul;rw [if_pos (by omega)]),rfl⟩
 ·go_enter func98,ntmps98
  go_wp2;go_ret
  exact⟨bU (by have:=a.out;unfold ul;rw [if_neg (by omega)]),rfl⟩
theorem wL (A:Option Addr) (n c:Nat) (k:List UInt8) (b:n=k.length) (w:World):
  Calls prog 118 #[.slice A n c] w fun e w'=>e= .returned (.int .i64 (mD k))/\w=w':=by
 have a:=aa b;clear b
 by_cases d:n<1
 ·go_enter func118,ntmps118
  go_wp2;go_ret
  exact⟨bU (by have:=a.out;unfold mD;rw [if_neg (by omega)]),rfl⟩
 ·by_cases f:n<=64
  ·go_enter func118,ntmps118
   go_wp2;go_ret
   exact⟨bU (by have:=a.out;unfold mD;rw [if_pos (by omega)]),rfl⟩
  ·go_enter func118,ntmps118
   go_wp2;go_ret
   exact⟨bU (by have:=a.out;unfold mD;rw [if_neg (by omega)]),rfl⟩
theorem Ga (A:Option Addr) (n c:Nat) (k:List UInt8) (b:n=k.length) (w:World):
  Calls prog 119 #[.slice A n c] w fun e w'=>e= .returned (.int .i64 (ul k))/\w=w':=by
 have a:=aa b;clear b
 by_cases d:n<=256
 ·go_enter func119,ntmps119
  go_wp2;go_ret
  exact⟨bU (by have:=a.out;unfold ul;rw [if_pos (by omega)]),rfl⟩
 ·go_enter func119,ntmps119
  go_wp2;go_ret
  exact⟨bU (by have:=a.out;unfold ul;rw [if_neg (by omega)]),rfl⟩
theorem fJ (A B:Option Addr) (n m c d:Nat) (F G:Nat->Prop) (xs b:List UInt8) (w:World) (h:Rd w F 1 A n (aF xs)) (t:n=xs.length) (k:Rd w G 1 B m (aF b)) (p:m=b.length) (R:n<=1152921504606846976):
  Calls prog 112 #[.slice A n c,.slice B m d] w fun e w'=>e= .returned (.int .i64 (comm xs b))/\∃q,w'=w.drewN q:=by
 have r:=aa t;have o:=aa p;have J:=aa h;have K:=aa k;clear t p h k;go_enter func112,ntmps112
 go_wp2
 go_loopg [5] n (fun g i wr=>∃k:Nat,g=n-k/\k<=n/\k<=m/\i= .int .i64 k/\(∀j,j<k->xs[j]? =b[j]?)/\∃q,wr=w.drewN q)
 case atStart=>exact⟨0,by omega,by omega,by omega,rfl,by omega,0,rfl⟩
 case round=>
  obtain⟨i,D,P,Q,rfl,E,q,rfl⟩:=hrel;have s:=aa E;have L:=aa D;clear E D
  by_cases M:i<n
  ·by_cases N:i<m
   ·obtain⟨T,W,u1,rfl,_,H,u⟩:=J.out.at_ M;obtain⟨U,X,u2,rfl,_,I,v⟩:=K.out.at_ N;obtain⟨x,f,rfl⟩:=dX H;obtain⟨y,l,rfl⟩:=dX I;have z:=aa f;have C:=aa l;clear H I f l;simp only [bv] at u v
    by_cases e:x=y
    ·subst e;go_wp2_with fail
     go_quiet (fail);go_wp2
     go_roundg (n-(i+1))
     case measure=>have:=L.out;omega
     case rel=>
      exact⟨i+1,rfl,by omega,by omega,by go_num,fun j V=>by
       rcases Nat.lt_or_ge j i with h|h
       ·exact s j h
       ·obtain rfl:j=i:=by omega
        rw [z.out,C.out],_,rfl⟩
    ·have S:((x.toNat:Int)==(y.toNat:Int))=false:=by
      rw [beq_eq_false_iff_ne];intro h;exact e (UInt8.toNat.inj (by omega))
     have a:=aa (iI xs b i s (by have:=r.out;omega) (by have:=o.out;omega) (.inr (.inr (by rw [z.out,C.out];simpa using e))));clear e;go_wp2_with fail
     go_quiet (fail);go_wp2;go_ret
     exact⟨bU (by rw [a.out]),_,World.drewN_drewN ..⟩
   ·have O:decide ((i:Int)<(m:Int))=false:=by simp;omega
    have a:=aa (iI xs b i s (by have:=r.out;omega) (by have:=o.out;omega) (.inr (.inl (by have:=o.out;omega))));go_wp2_with fail
    go_quiet (fail);go_wp2;go_ret
    exact⟨bU (by rw [a.out]),_,World.drewN_drewN ..⟩
  ·have O:decide ((i:Int)<(n:Int))=false:=by simp;omega
   have a:=aa (iI xs b i s (by have:=r.out;omega) (by have:=o.out;omega) (.inl (by have:=r.out;omega)));go_wp2_with fail
   go_quiet (fail);go_wp2;go_ret
   exact⟨bU (by rw [a.out]),_,World.drewN_drewN ..⟩
theorem eX (A B:Option Addr) (n m c d:Nat) (F G:Nat->Prop) (xs b:List UInt8) (w:World) (h:Rd w F 1 A n (aF xs)) (t:n=xs.length) (k:Rd w G 1 B m (aF b)) (p:m=b.length) (f:n<=1152921504606846976):
  Calls prog 68 #[.slice A n c,.slice B m d] w fun e w'=>e= .returned (.int .i64 (compareBytes xs b))/\∃q,w'=w.drewN q:=by
 have hl:=jf xs b;have j:=Au xs b;have Q:=aa (l5 xs b);obtain⟨q,L⟩:∃q,q=comm xs b:=⟨_,rfl⟩;unfold Aw at j;rw [<-L] at j hl Q;have D:=aa j;have u:=aa L;have i:=aa t;have g:=aa p;have o:=aa h;have s:=aa k;have S:q<=n:=by omega
 have T:q<=m:=by omega
 clear t p h k j L hl
 by_cases N:q=n
 ·have R:((q:Int)==(n:Int))=true:=by rw [beq_iff_eq];omega
  have M:=aa N;clear N
  by_cases I:q=m
  ·have H:((q:Int)==(m:Int))=true:=by rw [beq_iff_eq];omega
   have l:Hid (compareBytes xs b=0):=aa (by have:=i.out;have:=g.out;have:=M.out;rw [D.out,if_pos (by omega)]);clear I;go_enter func68,ntmps68
   go_wp2_with (go_at_call 112;refine(fJ _ _ _ _ _ _ F G xs b _ o i s g f).mono ?_;rintro e w' ⟨rfl,r,rfl⟩;rw [<-u.out])
   go_ret
   exact⟨bU (by rw [l.out]),_,rfl⟩
  ·have H:((q:Int)==(m:Int))=false:=by rw [beq_eq_false_iff_ne];omega
   have l:Hid (compareBytes xs b= -1):=aa (by have:=i.out;have:=g.out;have:=M.out;rw [D.out,if_neg (by omega),if_pos (by omega)]);go_enter func68,ntmps68
   go_wp2_with (go_at_call 112;refine(fJ _ _ _ _ _ _ F G xs b _ o i s g f).mono ?_;rintro e w' ⟨rfl,r,rfl⟩;rw [<-u.out])
   go_ret
   exact⟨bU (by rw [l.out]),_,rfl⟩
 ·have R:((q:Int)==(n:Int))=false:=by rw [beq_eq_false_iff_ne];omega
  by_cases I:q=m
  ·have H:((q:Int)==(m:Int))=true:=by rw [beq_iff_eq];omega
   have l:Hid (compareBytes xs b=1):=aa (by have:=i.out;have:=g.out;rw [D.out,if_neg (by omega),if_neg (by omega),if_pos (by omega)]);clear I;go_enter func68,ntmps68
   go_wp2_with (go_at_call 112;refine(fJ _ _ _ _ _ _ F G xs b _ o i s g f).mono ?_;rintro e w' ⟨rfl,r,rfl⟩;rw [<-u.out])
   go_ret
   exact⟨bU (by rw [l.out]),_,rfl⟩
  ·have H:((q:Int)==(m:Int))=false:=by rw [beq_eq_false_iff_ne];omega
   have U:q<n:=by omega
   have V:q<m:=by omega
   obtain⟨W,Y,u1,rfl,_,O,J⟩:=o.out.at_ U;obtain⟨X,Z,u2,rfl,_,P,K⟩:=s.out.at_ V;obtain⟨x,z,rfl⟩:=dX O;obtain⟨y,C,rfl⟩:=dX P
   have l:Hid (compareBytes xs b=if x<y then-1 else 1):=aa (by
    have:=i.out;have:=g.out;rw [D.out,if_neg (by omega),if_neg (by omega),if_neg (by omega)];simp only [List.getD,z,C,Option.getD_some])
   simp only [bv] at J K;clear O P z C
   by_cases a:x<y
   ·have v:(x.toNat:Int)<(y.toNat:Int):=by have:=UInt8.lt_iff_toNat_lt.1 a;omega
    have E:=aa a;clear a;go_enter func68,ntmps68
    go_wp2_with (go_at_call 112;refine(fJ _ _ _ _ _ _ F G xs b _ o i s g f).mono ?_;rintro e w' ⟨rfl,r,rfl⟩;rw [<-u.out])
    go_quiet (fail);go_wp2;go_ret
    exact⟨bU (by rw [l.out,if_pos E.out]),_,World.drewN_drewN ..⟩
   ·have v:¬(x.toNat:Int)<(y.toNat:Int):=fun h=>a (UInt8.lt_iff_toNat_lt.2 (by omega));have E:=aa a;clear a;go_enter func68,ntmps68
    go_wp2_with (go_at_call 112;refine(fJ _ _ _ _ _ _ F G xs b _ o i s g f).mono ?_;rintro e w' ⟨rfl,r,rfl⟩;rw [<-u.out])
    go_quiet (fail);go_wp2;go_ret
    exact⟨bU (by rw [l.out,if_neg E.out]),_,World.drewN_drewN ..⟩
theorem bu:(prog.info? 5).map (fun i=>(i.zero,i.size,i.bytes))=some (some (.int .u8 0),1,1):=by kernel_rfl
theorem pZ:(prog.info? 3).map (fun i=>(i.zero,i.size,i.bytes))=some (some (.int .i64 0),1,8):=by kernel_rfl
def Il (w:World) (bs:List UInt8) (e:Ending) (w':World):Prop:=
 ∃A n c,e= .returned (.slice A n c)/\n<=c/\c<=maxLen/\Hid (n=bs.length)/\Rd w' (fG (From w.heap.size) w') 1 A n (aF bs)/\Below w.heap.size w w'
theorem dH (A:Option Addr) (n c:Nat) (F:Nat->Prop) (bs:List UInt8) (w:World) (h:Rd w F 1 A n (aF bs)) (p:n=bs.length) (K:n<=1152921504606):
  Calls prog 24 #[.slice A n c] w (Il w bs):=by
 obtain⟨v,g,i,j,l⟩:=info_parts bu;have x:=fun(w:World) (a:Option Addr) (n c:Nat)=>Lib.run_eql_slice_nil (P:=prog) w 24 5 a n c 0 0 underlying24
 cases A with
 |none=>
  have d:n=0:=by
   rcases Nat.eq_zero_or_pos n with d|d
   ·exact d
   ·obtain⟨_,_,e,_⟩:=h.2 d;cases e
  subst d;have t:bs= []:=List.eq_nil_of_length_eq_zero p.symm;subst t;clear p h;go_enter func24,ntmps24
  go_wp2;go_ret
  exact⟨none,0,0,rfl,Nat.le_refl _,by simp [maxLen],rfl,Rd.none_ _ _ _ _,Below.refl _ _⟩
 |some a=>
  have o:=aa p;clear p;go_enter func24,ntmps24
  go_wp2_with (at_builtin;refine af _ rfl (.tmp 5) (.tmp 6) _ rfl w.heap.size 5 v _ 1 1 underlying24 g i j l rfl (by omega) (.slice (some ⟨w.heap.size,0,none⟩) 0 0) 0 [] rfl (gp w _ 1) F (some a) n c (aF bs) rfl (h.alloc _) (bC bs) (by simp only [maxLen];omega) (by omega) (by simp) ?_;intro z w1 b f y)
  go_ret
  simp only [Nat.zero_add,List.nil_append] at b;obtain⟨m,q,hv,r,s⟩:=au b;rw [hv] at b;refine⟨m,n,q,by rw [hv];rfl,r,s,o,Rd.soft_of_own b,((Below.refl _ _).alloc (Nat.le_refl _) _).grown f (by simp) (fun k u=> ?_)⟩;simp [Value.ownBlock] at u;omega
theorem oK (A:Option Addr) (n c:Nat) (F:Nat->Prop) (xs:List Value) (w:World) (h:Rd w F 1 A n xs) (i:∀u∈xs,u.oneCell'=true) (K:n<=1152921504606):
  Calls prog 23 #[.slice A n c] w fun e w'=>∃g d,e= .returned (.slice g n d)/\n<=d/\d<=maxLen/\Rd w' (fG (From w.heap.size) w') 1 g n xs/\Below w.heap.size w w':=by
 obtain⟨t,l,m,o,p⟩:=info_parts pZ;have v:=fun(w:World) (a:Option Addr) (n c:Nat)=>Lib.run_eql_slice_nil (P:=prog) w 25 3 a n c 0 0 underlying25
 cases A with
 |none=>
  have f:n=0:=by
   rcases Nat.eq_zero_or_pos n with f|f
   ·exact f
   ·obtain⟨_,_,e,_⟩:=h.2 f;cases e
  subst f;have r:xs= []:=h.empty;subst r;clear h;go_enter func23,ntmps23
  go_wp2;go_ret
  exact⟨none,0,rfl,Nat.le_refl _,by simp [maxLen],Rd.none_ _ _ _ _,Below.refl _ _⟩
 |some a=>
  go_enter func23,ntmps23
  go_wp2_with (at_builtin;refine af _ rfl (.tmp 5) (.tmp 6) _ rfl w.heap.size 3 t _ 1 8 underlying25 l m o p rfl (by omega) (.slice (some ⟨w.heap.size,0,none⟩) 0 0) 0 [] rfl (gp w _ 1) F (some a) n c xs rfl (h.alloc _) i (by simp only [maxLen];omega) (by omega) (by simp) ?_;intro y w1 b j x)
  go_ret
  simp only [Nat.zero_add,List.nil_append] at b;obtain⟨g,d,hv,i,q⟩:=au b;rw [hv] at b;refine⟨g,d,by rw [hv];rfl,i,q,Rd.soft_of_own b,((Below.refl _ _).alloc (Nat.le_refl _) _).grown j (by simp) (fun k s=> ?_)⟩;simp [Value.ownBlock] at s;omega
theorem uU (A B:Option Addr) (n m c d:Nat) (F G:Nat->Prop) (xs b:List UInt8) (w:World) (h:Rd w F 1 A n (aF xs)) (t:n=xs.length) (k:Rd w G 1 B m (aF b)) (p:m=b.length) (W:n<=1152921504606846976):
  Calls prog 177 #[.slice A n c,.slice B m d] w fun e w'=>e= .returned (.int .i64 (comm xs b))/\∃q,w'=w.drewN q:=by
 have s:=aa t;have r:=aa p;have L:=aa h;have M:=aa k;obtain⟨l,hl⟩:∃l:Nat,l=min n m:=⟨_,rfl⟩;have P:Hid ((min (n:Int) (m:Int))=(l:Int)):=aa (by omega);have T:l<=n:=by omega
 have U:l<=m:=by omega
 have V:n<=l\/m<=l:=by omega
 clear t p h k hl;go_enter func177,ntmps177
 go_wp2;rw [P.out]
 go_loopg [13] l (fun g i wr=>∃k:Nat,g=l-k/\k<=l/\i= .int .i64 k/\(∀j,j<k->xs[j]? =b[j]?)/\∃q,wr=w.drewN q)
 case atStart=>exact⟨0,by omega,by omega,rfl,by omega,0,rfl⟩
 case round=>
  obtain⟨i,E,S,rfl,I,q,rfl⟩:=hrel;have u:=aa I;have N:=aa E;clear I E
  by_cases hi:i<l
  ·have Q:i<n:=by omega
   have R:i<m:=by omega
   obtain⟨Y,o1,u1,rfl,_,J,v⟩:=L.out.at_ Q;obtain⟨Z,o2,u2,rfl,_,K,z⟩:=M.out.at_ R;obtain⟨x,a,rfl⟩:=dX J;obtain⟨y,f,rfl⟩:=dX K;have C:=aa a;have D:=aa f;clear J K a f;simp only [bv] at v z
   by_cases e:x=y
   ·subst e;go_wp2_with fail
    go_quiet (fail);go_wp2
    go_roundg (l-(i+1))
    case measure=>have:=N.out;omega
    case rel=>
     exact⟨i+1,rfl,by omega,by go_num,fun j hj=>by
      rcases Nat.lt_or_ge j i with h|h
      ·exact u j h
      ·obtain rfl:j=i:=by omega
       rw [C.out,D.out],_,rfl⟩
   ·have X:((x.toNat:Int)==(y.toNat:Int))=false:=by
     rw [beq_eq_false_iff_ne];intro h;exact e (UInt8.toNat.inj (by omega))
    have H:((x.toNat:Int) !=(y.toNat:Int))=true:=by
     rw [bne_iff_ne];intro h;exact e (UInt8.toNat.inj (by omega))
    have o:=aa (iI xs b i u (by have:=s.out;omega) (by have:=r.out;omega) (.inr (.inr (by rw [C.out,D.out];simpa using e))));clear e;go_wp2_with fail
    go_quiet (fail);go_wp2;go_ret
    exact⟨bU (by rw [o.out]),_,World.drewN_drewN ..⟩
  ·have o:=aa (iI xs b i u (by have:=s.out;omega) (by have:=r.out;omega) (by have:=s.out;have:=r.out;omega));have O:Hid (i=l):=aa (by omega);go_wp2;go_ret
   exact⟨bU (by rw [<-O.out,o.out]),_,rfl⟩
def MJ (w:World) (bs:List UInt8) (x:Int) (e:Ending) (w':World):Prop:=
 ∃A n c,e= .returned (.tuple #[.slice A n c,.int .i64 x])/\n<=c/\c<=maxLen/\Hid (n=bs.length)/\Rd w' (fG (From w.heap.size) w') 1 A n (aF bs)/\Below w.heap.size w w'
theorem zX (A B:Option Addr) (n m c d:Nat) (F G:Nat->Prop) (xs b:List UInt8) (w:World) (h:Rd w F 1 A n (aF xs)) (t:n=xs.length) (k:Rd w G 1 B m (aF b)) (p:m=b.length) (hmd:m<=d) (K:n<=1152921504606) (g:m<=1152921504606) (_hd2:d<=maxLen):
  Calls prog 144 #[.slice A n c,.slice B m d] w (MJ w (oz xs b).1 (oz xs b).2):=by
 have s:=aa t;have i:=aa p;have o:=aa h;have j:=aa k;have x:=oL xs b;have hl:=jf xs b;have u:=aa (oz.eq_1 xs b);have a:=gP xs b;obtain⟨l,f⟩:∃l,l=comm xs b:=⟨_,rfl⟩;rw [<-f] at hl a u;have z:=aa f;have M:l<=n:=by omega
 have N:l<=m:=by omega
 clear t p h k hl f
 by_cases v:compareBytes xs b<0
 ·have O:l<m:=by have:=(a.1 v).1;have:=i.out;omega
  have q:=aa v;clear a x;go_enter func144,ntmps144
  go_wp2_with (first|(go_at_call 56;refine(dE _ _ _ _ _ _ F G xs b _ o s j i).mono ?_;rintro e w' ⟨rfl,rfl⟩)|(go_at_call 177;refine(uU _ _ _ _ _ _ F G xs b _ o s j i (by omega)).mono ?_;rintro e w' ⟨rfl,r,rfl⟩;rw [<-z.out]))
  refine(dH _ _ _ G (b.take (l+1)) _ ((j.drewN r).take1 (by omega)) (take_len (by have:=i.out;omega)) (by omega)).mono ?_;rintro e w' ⟨y,L,C,rfl,D,E,H,I,J⟩;go_wp2;go_ret2
  rw [u.out,if_pos q.out]
  exact⟨y,L,C,rfl,D,E,H,I,(below_drewN (Below.refl _ _) r).trans J⟩
 ·have q:=aa v;clear a x;go_enter func144,ntmps144
  go_wp2_with (first|(go_at_call 56;refine(dE _ _ _ _ _ _ F G xs b _ o s j i).mono ?_;rintro e w' ⟨rfl,rfl⟩))
  go_ret2
  rw [u.out,if_neg (by have:=q.out;omega)];exact⟨none,0,0,rfl,Nat.le_refl _,by simp [maxLen],rfl,Rd.none_ _ _ _ _,Below.refl _ _⟩
def fB (k:Nat):Code->Option Code
 | .block n c=>if Nat.beq n k then some c else fB k c
 | .seq a b=>match fB k a with
  |some c=>some c
  |none=>fB k b
 | .loop c=>fB k c
 | .scope c=>fB k c
 | .cond _ a b=>match fB k a with
  |some c=>some c
  |none=>fB k b
 |_=>none
def MQ (k:Nat):Code->Bool
 | .region i _ _=>Nat.beq i k
 |_=>false
def gQ (k:Nat):Code->Option Code
 | .seq a b=>if MQ k a then some (.seq a b) else match gQ k a with
  |some c=>some c
  |none=>gQ k b
 | .block _ c=>gQ k c
 | .loop c=>gQ k c
 | .scope c=>gQ k c
 | .cond _ a b=>match gQ k a with
  |some c=>some c
  |none=>gQ k b
 |_=>none
def aJ (k:Nat):Code->Option Code
 | .region i a b=>if Nat.beq i k then some (.region i a b) else none
 | .seq a b=>match aJ k a with
  |some c=>some c
  |none=>aJ k b
 | .block _ c=>aJ k c
 | .loop c=>aJ k c
 | .scope c=>aJ k c
 | .cond _ a b=>match aJ k a with
  |some c=>some c
  |none=>aJ k b
 |_=>none
def aV (f:Option Code):Code:=f.getD .skip
end Go.Proofs.YtepgcjbhabnciaaGreat
