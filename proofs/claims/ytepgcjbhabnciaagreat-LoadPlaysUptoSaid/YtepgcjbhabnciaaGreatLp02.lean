/- Part 2. -/
import Derived.Test.YtepgcjbhabnciaaGreatLp01
import Derived.Maps.AppendAt
import Derived.RegionTactic
import Derived.Lib.SliceRun
import Derived.Laws.BytesArg
import Derived.Shelf.Spec.TrailingZeros
import Derived.Laws.Bits64b
namespace Go.Proofs.YtepgcjbhabnciaaGreat
set_option maxRecDepth 100000
set_option maxHeartbeats 8000000
open Go.RowKit Go.Proofs.Tryz Go
open Go.Lib (compareBytes)
variable {n m c s i x q:Nat} {bs xs ys l a b:List UInt8} {A B:Option Addr} {F G:Nat->Prop} {w:World}
section
section
variable {P:Program} (w:World)
theorem tu (base:Nat) (t f e:TypeId) (i:TypeInfo) (size:Nat) (d:P.underlying t=some (.slice e)) (hi:P.info? e=some i)
  (v:Value) (n:Nat) (xs:List Value) (a:w.ownsRow base e size v n xs) (c:Nat):(Builtin.append_ #[t,t] f #[v,.slice none 0 c]).run P w= .ok v w:=by
 rcases a.2 with⟨rfl,rfl⟩|⟨g,cap,cur,rfl,_,_,b,_⟩
 ·simp [Builtin.append_,run_underlying d,sizeOf,typeInfo,hi,Builtin.lenOf,Builtin.firstCells]
 ·simp [Builtin.append_,run_underlying d,sizeOf,typeInfo,hi,Builtin.lenOf,Builtin.firstCells,b,storeCells]
theorem xZ (base:Nat) (t y e:TypeId) (i:TypeInfo) (z:Value) (size bytes:Nat) (C:P.underlying t=some (.slice e)) (hi:P.info? e=some i) (d:i.zero=some z)
  (hsize:i.size=size) (p:i.bytes=bytes) (k:z.cells.size=size) (S:0<size)
  (v:Value) (n:Nat) (xs:List Value) (a:w.ownsRow base e size v n xs)
  (F:Nat->Prop) (A:Option Addr) (m c:Nat) (H:List Value) (s:Rd w F size A m H) (E:∀u∈H,u.oneCell'=true)
  (l:n+m<=maxLen) (f:(n+m)*bytes<=140737488355328) (L:base<=w):
  ∃r w',(Builtin.append_ #[t,t] y #[v,.slice A m c]).run P w= .ok r w'/\w'.ownsRow base e size r (n+m) (xs++H)/\w.grownBy w' v.ownBlock/\
   (r.ownBlock=v.ownBlock\/r.ownBlock=some w):=by
 rcases A with _|B
 ·have K:m=0:=by
   rcases Nat.eq_zero_or_pos m with q|q
   ·exact q
   ·obtain⟨_,_,h,_⟩:=s.2 q
    cases h
  subst K;have hn:H= []:=List.eq_nil_of_length_eq_zero (by simpa using s.1);subst hn
  exact⟨v,w,tu w base t y e i size C hi v n xs a c,by simpa using a,World.grownBy.refl w _,.inl rfl⟩
 ·have g:∀j u,H[j]? =some u->w.cell? (B.add j)=some u:=by
   intro j u D
   rcases Nat.eq_zero_or_pos m with q|q
   ·subst q;have hn:H= []:=List.eq_nil_of_length_eq_zero (by simpa using s.1);subst hn
    simp at D
   ·obtain⟨b,o,h,_,hc⟩:=s.2 q;injection h with h;subst h;rw [jr];exact hc j u D
  obtain⟨r,w',x,G,I,_,J⟩:=run_append_own_at (P:=P) w base t y e i z size bytes C hi d hsize p k S v n xs a B m c H s.1 g E l f L;exact⟨r,w',x,G,I,J⟩
theorem qO {o:Oper} {a:Act} {K:Act->World->Prop} {Q:Exit->Act->World->Prop} (s x:Operand) (t:TypeId)
  (D:o.op= .call {callee:= .builtin .append,args:= #[s,x],argTypes:= #[t,t]})
  (base:Nat) (e:TypeId) (i:TypeInfo) (z:Value) (size bytes:Nat) (G:P.underlying t=some (.slice e)) (hi:P.info? e=some i) (d:i.zero=some z)
  (b:i.size=size) (p:i.bytes=bytes) (k:z.cells.size=size) (S:0<size)
  (v:Value) (n:Nat) (xs:List Value) (hs:a.eval s=v) (j:w.ownsRow base e size v n xs)
  (F:Nat->Prop) (A:Option Addr) (m c:Nat) (H:List Value) (I:a.eval x= .slice A m c) (E:Rd w F size A m H) (r:∀u∈H,u.oneCell'=true)
  (l:n+m<=maxLen) (f:(n+m)*bytes<=140737488355328) (L:base<=w)
  (h:∀g w',w'.ownsRow base e size g (n+m) (xs++H)->w.grownBy w' v.ownBlock->(g.ownBlock=v.ownBlock\/g.ownBlock=some w.heap.size)->K (a.put o.dst g) w'):o.wp P a w K Q:=by
 obtain⟨g,w',q,y,B,C⟩:=xZ (P:=P) w base t o.type e i z size bytes G hi d b p k S v n xs j F A m c H E r l f L;unfold Oper.wp execOp;simp only [D,resolve,invoke,builtin,Sem.run_bind,Sem.run_pure,Result.andThen_ok,List.map_toArray,List.map_cons,List.map_nil,hs,I,q];exact h g w' y B C
theorem af {ops:Array Oper} {rest:List Oper} {o:Oper} {a:Act} {Q:Exit->Act->World->Prop} (T:o.guard=none) (s x:Operand) (t:TypeId)
  (D:o.op= .call {callee:= .builtin .append,args:= #[s,x],argTypes:= #[t,t]})
  (base:Nat) (e:TypeId) (i:TypeInfo) (z:Value) (size bytes:Nat) (G:P.underlying t=some (.slice e)) (hi:P.info? e=some i) (d:i.zero=some z)
  (b:i.size=size) (p:i.bytes=bytes) (k:z.cells.size=size) (S:0<size)
  (v:Value) (n:Nat) (xs:List Value) (hs:a.eval s=v) (j:w.ownsRow base e size v n xs)
  (F:Nat->Prop) (A:Option Addr) (m c:Nat) (H:List Value) (I:a.eval x= .slice A m c) (E:Rd w F size A m H) (q:∀u∈H,u.oneCell'=true)
  (l:n+m<=maxLen) (f:(n+m)*bytes<=140737488355328) (L:base<=w)
  (h:∀g w',w'.ownsRow base e size g (n+m) (xs++H)->w.grownBy w' v.ownBlock->(g.ownBlock=v.ownBlock\/g.ownBlock=some w.heap.size)->wpList P ops Q rest (a.put o.dst g) w'):wpList P ops Q (o::rest) a w:=
 wpList_plain T fun _ C=>qO w s x t D base e i z size bytes G hi d b p k S v n xs hs j F A m c H I E q l f L fun g w' r y B=>C _ _ (h g w' r y B)
theorem aG {ops:Array Oper} {o:Oper} {a:Act} {K:Act->World->Prop} {Q:Exit->Act->World->Prop} {E:Prop} (T:o.guard=none) (s x:Operand) (t:TypeId)
  (r:o.op= .call {callee:= .builtin .append,args:= #[s,x],argTypes:= #[t,t]})
  (base:Nat) (e:TypeId) (i:TypeInfo) (z:Value) (size bytes:Nat) (B:P.underlying t=some (.slice e)) (hi:P.info? e=some i) (d:i.zero=some z)
  (b:i.size=size) (p:i.bytes=bytes) (k:z.cells.size=size) (S:0<size)
  (v:Value) (n:Nat) (xs:List Value) (hs:a.eval s=v) (g:w.ownsRow base e size v n xs)
  (F:Nat->Prop) (A:Option Addr) (m c:Nat) (H:List Value) (D:a.eval x= .slice A m c) (y:Rd w F size A m H) (q:∀u∈H,u.oneCell'=true)
  (l:n+m<=maxLen) (f:(n+m)*bytes<=140737488355328) (L:base<=w)
  (h:∀j w',w'.ownsRow base e size j (n+m) (xs++H)->w.grownBy w' v.ownBlock->(j.ownBlock=v.ownBlock\/j.ownBlock=some w.heap.size)->K (a.put o.dst j) w'):
  if Region.wanted o (yielded ops a.tmps)=true then Oper.wp P o a w K Q else E:=by
 have C:Region.wanted o (yielded ops a.tmps)=true:=by simp [Region.wanted,T]
 rw [if_pos C];exact qO w s x t r base e i z size bytes B hi d b p k S v n xs hs g F A m c H D y q l f L h
end
theorem gq (w:World) (e:TypeId) (size:Nat):(w.alloc (.cells #[] e)).ownsRow w e size (.slice (some ⟨w,0,none⟩) 0 0) 0 []:=
 ⟨by simp,.inr ⟨w,0,#[],rfl,jO,heap_alloc_new w _,jO,by simp [maxLen],by simp,by simp⟩⟩
theorem ax {w:World} {base:Nat} {e:TypeId} {size n:Nat} {v:Value} {xs:List Value} (h:w.ownsRow base e size v n xs):∃A c,v= .slice A n c/\n<=c/\c<=maxLen:=by
 rcases h.2 with⟨rfl,rfl⟩|⟨g,cap,cur,rfl,_,_,a,b,_⟩
 ·exact⟨none,0,rfl,jO,by simp [maxLen]⟩
 ·exact⟨_,cap,rfl,a,b⟩
theorem kX {w:World} {base a:Nat} {e:TypeId} {size n:Nat} {v:Value} {xs:List Value} (h:w.ownsRow base e size v n xs) (c:a<=base):w.ownsRow a e size v n xs:=by
 refine⟨h.1,?_⟩
 rcases h.2 with b|⟨g,cap,cur,hv,d,r⟩
 ·exact .inl b
 ·exact .inr ⟨g,cap,cur,hv,ma c d,r⟩
theorem Qf {w:World} {base:Nat} {e:TypeId} {n:Nat} {v:Value} {bs:List UInt8} (h:w.ownsRow base e 1 v n (aI bs)):SB w (From base) v bs:=by
 obtain⟨A,c,rfl,a,b⟩:=ax h;exact⟨A,n,c,rfl,a,b,by have:=h.1;simpa [aI] using this.symm,Rd.of_own h⟩
theorem aB {S:Nat->Prop} {w w':World} {base:Nat} {e:TypeId} {size n:Nat} {v:Value} {xs:List Value} (h:w.ownsRow base e size v n xs) (hc:ag S w w') (i:∀g,v.ownBlock=some g->¬S g):w'.ownsRow base e size v n xs:=by
 refine⟨h.1,?_⟩
 rcases h.2 with d|⟨g,cap,cur,rfl,f,b,r⟩
 ·exact .inl d
 ·refine .inr ⟨g,cap,cur,rfl,f,?_,r⟩
  have c:g<w:=by
   rcases Nat.lt_or_ge g w with a|a
   ·exact a
   ·rw [Array.getElem?_eq_none a] at b;cases b
  rw [hc.block g c (i g (by simp [Value.ownBlock]))];exact b
theorem own_below {w w':World} {base:Nat} {e:TypeId} {size n:Nat} {v:Value} {xs:List Value} (h:w.ownsRow base e size v n xs) (o:Below w w w'):w'.ownsRow base e size v n xs:=
 aB h (ag.of_below (S:=Nil) o) (fun _ _ a=>a)
theorem ah {w:World} {base:Nat} {e:TypeId} {size n:Nat} {v:Value} {xs:List Value} (h:w.ownsRow base e size v n xs):∀g,v.ownBlock=some g->base<=g/\g<w:=h.lt
end
theorem bD:(prog.info? 5).map (fun i=>(i.zero,i.size,i.bytes))=some (some (.int .u8 0),1,1):=by kernel_rfl
theorem jL:(prog.info? 3).map (fun i=>(i.zero,i.size,i.bytes))=some (some (.int .i64 0),1,8):=by kernel_rfl
def Dt (w:World) (bs:List UInt8) (e:Ending) (w':World):Prop:=
 ∃A n c,e= .returned (.slice A n c)/\n<=c/\c<=maxLen/\Hid (n=bs.length)/\Rd w' (fG (From w) w') 1 A n (aI bs)/\Below w w w'
theorem eG (c:Nat) (h:Rd w F 1 A n (aI bs)) (hn:n=bs.length) (K:n<=1152921504606):
  Calls prog 24 #[.slice A n c] w (Dt w bs):=by
 obtain⟨u,g,i,j,l⟩:=info_parts bD;have v:=fun(w:World) (a:Option Addr) (n c:Nat)=>Lib.run_eql_slice_nil (P:=prog) w 24 5 a n c 0 0 underlying24
 cases A with
 |none=>
  have d:n=0:=by
   rcases Nat.eq_zero_or_pos n with d|d
   ·exact d
   ·obtain⟨_,_,e,_⟩:=h.2 d;cases e
  subst d;have s:bs= []:=List.eq_nil_of_length_eq_zero hn.symm;subst s;clear hn h;go_enter func24,ntmps24;go_wp2;go_ret
  exact⟨none,0,0,rfl,jO,by simp [maxLen],rfl,Rd.none_ _ _ _ _,mh⟩
 |some a=>
  have o:=aa hn;clear hn;go_enter func24,ntmps24;go_wp2_with (at_builtin;refine af _ rfl (.tmp 5) (.tmp 6) _ rfl w 5 u _ 1 1 underlying24 g i j l rfl (by omega) (.slice (some ⟨w,0,none⟩) 0 0) 0 [] rfl (gq w _ 1) F (some a) n c (aI bs) rfl (h.alloc _) (bJ bs) (by simp only [maxLen];omega) (by omega) (by simp) ?_;intro v1 w1 b f x)
  go_ret
  simp only [Nat.zero_add,List.nil_append] at b;obtain⟨m,p,hv,q,r⟩:=ax b;rw [hv] at b;refine⟨m,n,p,by rw [hv];rfl,q,r,o,Rd.soft_of_own b,gV.grown f (by simp) (fun k t=> ?_)⟩;simp [Value.ownBlock] at t;omega
theorem qT (c:Nat) {xs:List Value} (h:Rd w F 1 A n xs) (i:∀u∈xs,u.oneCell'=true) (K:n<=1152921504606):
  Calls prog 23 #[.slice A n c] w fun e w'=>∃g d,e= .returned (.slice g n d)/\n<=d/\d<=maxLen/\Rd w' (fG (From w) w') 1 g n xs/\Below w w w':=by
 obtain⟨t,l,m,o,p⟩:=info_parts jL;have v:=fun(w:World) (a:Option Addr) (n c:Nat)=>Lib.run_eql_slice_nil (P:=prog) w 25 3 a n c 0 0 underlying25
 cases A with
 |none=>
  have f:n=0:=by
   rcases Nat.eq_zero_or_pos n with f|f
   ·exact f
   ·obtain⟨_,_,e,_⟩:=h.2 f;cases e
  subst f;have r:xs= []:=h.empty;subst r;clear h;go_enter func23,ntmps23;go_wp2;go_ret
  exact⟨none,0,rfl,jO,by simp [maxLen],Rd.none_ _ _ _ _,mh⟩
 |some a=>
  go_enter func23,ntmps23
  go_wp2_with (at_builtin;refine af _ rfl (.tmp 5) (.tmp 6) _ rfl w 3 t _ 1 8 underlying25 l m o p rfl (by omega) (.slice (some ⟨w,0,none⟩) 0 0) 0 [] rfl (gq w _ 1) F (some a) n c xs rfl (h.alloc _) i (by simp only [maxLen];omega) (by omega) (by simp) ?_;intro v1 w1 b j x)
  go_ret
  simp only [Nat.zero_add,List.nil_append] at b;obtain⟨g,d,hv,i,q⟩:=ax b;rw [hv] at b;refine⟨g,d,by rw [hv];rfl,i,q,Rd.soft_of_own b,gV.grown j (by simp) (fun k s=> ?_)⟩;simp [Value.ownBlock] at s;omega
theorem yz (c:Nat) (h:Rd w F 1 A n (aI bs)) (hn:n=bs.length) (K:n<=1152921504606):
  Calls prog 154 #[.slice A n c] w (Dt w bs):=by
 obtain⟨q,d,e,f,g⟩:=info_parts bD;have j:=aa hn;clear hn;go_enter func154,ntmps154;go_wp2_with (at_builtin;refine af _ rfl (.tmp 3) (.tmp 4) _ rfl w 5 q _ 1 1 underlying24 d e f g rfl (by omega) (.slice (some ⟨w,0,none⟩) 0 0) 0 [] rfl (gq w _ 1) F A n c (aI bs) rfl (h.alloc _) (bJ bs) (by simp only [maxLen];omega) (by omega) (by simp) ?_;intro v1 w1 a b r)
 go_ret
 simp only [Nat.zero_add,List.nil_append] at a;obtain⟨i,l,hv,m,o⟩:=ax a;rw [hv] at a;refine⟨i,n,l,by rw [hv];rfl,m,o,j,Rd.soft_of_own a,gV.grown b (by simp) (fun k p=> ?_)⟩;simp [Value.ownBlock] at p;omega
theorem yA (c d:Nat) (h:Rd w F 1 A n (aI xs)) (hn:n=xs.length) (k:Rd w G 1 B m (aI ys)) (b:m=ys.length) (U:n<=1152921504606846976):
  Calls prog 177 #[.slice A n c,.slice B m d] w fun e w'=>e= .returned (.int .i64 (comm xs ys))/\∃q,w'=w.drewN q:=by
 have r:=aa hn;have p:=aa b;have J:=aa h;have K:=aa k;obtain⟨l,hl⟩:∃l:Nat,l=min n m:=⟨_,rfl⟩;have N:Hid ((min (n:Int) (m:Int))=(l:Int)):=aa (by omega);have R:l<=n:=by omega
 have S:l<=m:=by omega
 have T:n<=l\/m<=l:=by omega
 clear hn b h k hl;go_enter func177,ntmps177;go_wp2;rw [N.out]
 go_loopg [13] l (fun g i wr=>∃k:Nat,g=l-k/\k<=l/\i= (k:Int)/\(∀j,j<k->xs[j]? =ys[j]?)/\∃q,wr=w.drewN q)
 case atStart=>exact⟨0,by omega,by omega,rfl,by omega,0,rfl⟩
 case round=>
  obtain⟨i,C,Q,rfl,E,q,rfl⟩:=hrel;have s:=aa E;have L:=aa C;clear E C
  by_cases hi:i<l
  ·have O:i<n:=by omega
   have P:i<m:=by omega
   obtain⟨W,Z,u1,rfl,_,H,t⟩:=J.out.at_ O;obtain⟨X,o2,u2,rfl,_,I,u⟩:=K.out.at_ P;obtain⟨x,a,rfl⟩:=eO H;obtain⟨y,f,rfl⟩:=eO I;have v:=aa a;have z:=aa f;clear H I a f;simp only [bv] at t u
   by_cases e:x=y
   ·subst e;go_wp2_with fail;go_quiet (fail);go_wp2
    go_roundg (l-(i+1))
    case measure=>have:=L.out;omega
    case rel=>
     exact⟨i+1,rfl,by omega,by go_num,fun j Y=>by
      rcases Nat.lt_or_ge j i with h|h
      ·exact s j h
      ·obtain rfl:j=i:=by omega
       rw [v.out,z.out],_,rfl⟩
   ·have V:((x.toNat:Int)==(y.toNat:Int))=false:=by
     rw [mi];intro h;exact e (UInt8.toNat.inj (by omega))
    have D:((x.toNat:Int) !=(y.toNat:Int))=true:=by
     rw [bne_iff_ne];intro h;exact e (UInt8.toNat.inj (by omega))
    have o:=aa (jF xs ys i s (by have:=r.out;omega) (by have:=p.out;omega) (.inr (.inr (by rw [v.out,z.out];simpa using e))));clear e;go_wp2_with fail;go_quiet (fail);go_wp2;go_ret
    exact⟨bR (by rw [o.out]),_,World.drewN_drewN ..⟩
  ·have o:=aa (jF xs ys i s (by have:=r.out;omega) (by have:=p.out;omega) (by have:=r.out;have:=p.out;omega));have M:Hid (i=l):=aa (by omega);go_wp2;go_ret;exact⟨bR (by rw [<-M.out,o.out]),_,rfl⟩
def FW (w:World) (bs:List UInt8) (x:Int) (e:Ending) (w':World):Prop:=
 ∃A n c,e= .returned (.tuple #[.slice A n c,x])/\n<=c/\c<=maxLen/\Hid (n=bs.length)/\Rd w' (fG (From w) w') 1 A n (aI bs)/\Below w w w'
theorem Du (c d:Nat) (h:Rd w F 1 A n (aI xs)) (hn:n=xs.length) (k:Rd w G 1 B m (aI ys)) (b:m=ys.length) (y:m<=d) (K:n<=1152921504606) (o:m<=1152921504606) (_hd2:d<=maxLen):
  Calls prog 144 #[.slice A n c,.slice B m d] w (FW w (l8 xs ys).1 (l8 xs ys).2):=by
 have q:=aa hn;have g:=aa b;have j:=aa h;have i:=aa k;have t:=l9 xs ys;have hl:=jG xs ys;have s:=aa (l8.eq_1 xs ys);have a:=gT xs ys;obtain⟨l,f⟩:=gF (comm xs ys);rw [<-f] at hl a s;have v:=aa f;have J:l<=n:=by omega
 have L:l<=m:=by omega
 clear hn b h k hl f
 by_cases hc:compareBytes xs ys<0
 ·have M:l<m:=by have:=(a.1 hc).1;have:=g.out;omega
  have p:=aa hc;clear a t;go_enter func144,ntmps144;go_wp2_with (first|(go_at_call 56;refine(eu _ _ j q i g).mono ?_;rintro e w' ⟨rfl,rfl⟩)|(go_at_call 177;refine(yA _ _ j q i g (by omega)).mono ?_;rintro e w' ⟨rfl,r,rfl⟩;rw [<-v.out]))
  refine(eG _ (bs:=ys.take (l+1)) ((i.drewN r).take1 (by omega)) (take_len (by have:=g.out;omega)) (by omega)).mono ?_;rintro e w' ⟨u,I,x,rfl,z,C,D,E,H⟩;go_wp2;go_ret2;rw [s.out,if_pos p.out]
  exact⟨u,I,x,rfl,z,C,D,E,(below_drewN mh r).trans H⟩
 ·have p:=aa hc;clear a t;go_enter func144,ntmps144;go_wp2_with (first|(go_at_call 56;refine(eu _ _ j q i g).mono ?_;rintro e w' ⟨rfl,rfl⟩))
  go_ret2
  rw [s.out,if_neg (by have:=p.out;omega)];exact⟨none,0,0,rfl,jO,by simp [maxLen],rfl,Rd.none_ _ _ _ _,mh⟩
theorem Dv (c d:Nat) (h:Rd w F 1 A n (aI xs)) (hn:n=xs.length) (k:Rd w G 1 B m (aI ys)) (b:m=ys.length) (y:m<=d) (K:n<=1152921504606) (o:m<=1152921504606) (_C:d<=maxLen):
  Calls prog 153 #[.slice A n c,.slice B m d] w (FW w (l8 xs ys).1 (l8 xs ys).2):=by
 obtain⟨X,E,H,I,J⟩:=info_parts bD;have M:=aa hn;have l:=aa b;have L:=aa h;have t:=aa k;have hl:=jG xs ys;have N:=aa (l8.eq_1 xs ys);have x:Hid (∀n,n<=ys.length->(compareBytes xs (ys.take n)<0↔(compareBytes xs ys<0/\comm xs ys<n))):=aa (fun n hn=>qU hn);have O:=aa (gT xs ys);unfold maxLen at _C;clear hn b h k;go_enter func153,ntmps153;go_wp2
 go_loopg [6] (m+1) (fun g i wr=>∃k:Nat,g=m+1-k/\k<=m+1/\i= (k:Int)/\Hid (∀j,j<k->0<=compareBytes xs (ys.take j))/\∃q,wr=w.drewN q)
 case atStart=>exact⟨0,by omega,by omega,rfl,fun j R=>absurd R (by omega),0,rfl⟩
 case round=>
  obtain⟨i,Q,V,rfl,v,q,rfl⟩:=hrel;have T:=aa Q;clear Q;have Z:=aa (l9 xs (ys.take i))
  by_cases hi:i<=m
  ·by_cases hc:compareBytes xs (ys.take i)<0
   ·have u:=aa hc;go_wp2_with (first|(go_at_call 68;refine(dC _ _ (L.drewN q) M ((t.drewN q).take1 hi) (take_len (by have:=l.out;omega)) (by omega)).mono ?_;rintro e w' ⟨rfl,r,rfl⟩)|(at_builtin;refine af _ rfl (.tmp 19) (.tmp 22) _ rfl w 5 X _ 1 1 underlying24 E H I J rfl (by omega) (.slice (some ⟨w,0,none⟩) 0 0) 0 [] rfl (gq _ _ 1) G B i d (aI (ys.take i)) rfl (((t.drewN _).take1 hi).alloc _) (bJ _) (by simp only [maxLen];omega) (by omega) (by simp) ?_;intro v1 w1 a D jP));have f:=(x.out i (by have:=l.out;omega)).1 u
    have s:i=comm xs ys+1:=by
     rcases Nat.lt_or_ge (comm xs ys+1) i with h|h
     ·have z:=(x.out (comm xs ys+1) (by have:=l.out;omega)).2 ⟨f.1,by omega⟩;have h3:=v.out _ h
      omega
     ·omega
    go_ret2
    rw [N.out,if_pos f.1,<-s];simp only [Nat.zero_add,List.nil_append] at a;obtain⟨S,U,hv,P,z⟩:=ax a;rw [hv] at a;refine⟨S,i,U,by rw [hv];rfl,P,z,aa (take_len (by have:=l.out;omega)),Rd.soft_of_own a,((below_drewN mh _).alloc jO _).grown D (by simp) (fun k W=> ?_)⟩;have e:(w.drewN (q+r)).heap.size=w.heap.size:=rfl
    simp [Value.ownBlock] at W;omega
   ·have u:=aa hc;go_wp2_with (first|(go_at_call 68;refine(dC _ _ (L.drewN q) M ((t.drewN q).take1 hi) (take_len (by have:=l.out;omega)) (by omega)).mono ?_;rintro e w' ⟨rfl,r,rfl⟩))
    go_roundg (m+1-(i+1))
    case measure=>have:=T.out;omega
    case rel=>exact⟨i+1,rfl,by omega,by go_num,aa (fun j R=>by
      rcases Nat.lt_or_ge j i with h|h
      ·exact v j h
      ·obtain rfl:j=i:=by omega
       have:=u.out;omega),_,rfl⟩
  ·have p:¬compareBytes xs ys<0:=fun h=>by
    have P:=(x.out (comm xs ys+1) (by have:=l.out;have:=O.out.1 h;omega)).2 ⟨h,by omega⟩;have z:=v.out (comm xs ys+1) (by have:=l.out;have:=O.out.1 h;omega);omega
   have Y:=aa p;clear p;go_wp2;go_ret2;rw [N.out,if_neg (by have:=Y.out;omega)];exact⟨none,0,0,rfl,jO,by simp [maxLen],rfl,Rd.none_ _ _ _ _,below_drewN mh _⟩
section
theorem DZ:∀(a:List UInt8),compareBytes a a=0
 | []=>by simp [compareBytes]
 |x::xs=>by
  unfold compareBytes;rw [if_neg (UInt8.lt_irrefl x),if_neg (UInt8.lt_irrefl x)];exact DZ xs
theorem Yd:∀(a b:List UInt8),compareBytes a b=0->a=b
 | [],[],_=>rfl
 | [],_::_,h=>by simp [compareBytes] at h
 |_::_,[],h=>by simp [compareBytes] at h
 |x::xs,y::ys,h=>by
  unfold compareBytes at h
  by_cases c:x<y
  ·rw [if_pos c] at h;simp at h
  ·by_cases d:y<x
   ·rw [if_neg c,if_pos d] at h;simp at h
   ·rw [if_neg c,if_neg d] at h;have e:x=y:=UInt8.le_antisymm (UInt8.not_lt.1 d) (UInt8.not_lt.1 c);rw [e,Yd xs ys h]
theorem zl:∀(a b c:List UInt8),compareBytes a b<0->compareBytes b c<0->compareBytes a c<0
 |_,[],[],f,d=>by simp [compareBytes] at d
 | [],_,[],f,d=>by
  rename_i b
  cases b<;>simp [compareBytes] at d
 |_::_,[],_,f,_=>by simp [compareBytes] at f
 |_,_::_,[],_,d=>by simp [compareBytes] at d
 | [],_,_::_,_,_=>by simp [compareBytes]
 |x::xs,y::ys,z::zs,f,d=>by
  have k:=zl xs ys zs;unfold compareBytes at f d|-
  by_cases h:x<y
  ·by_cases g:y<z
   ·rw [if_pos (UInt8.lt_trans h g)];simp
   ·by_cases i:z<y
    ·rw [if_neg g,if_pos i] at d;simp at d
    ·have e:y=z:=UInt8.le_antisymm (UInt8.not_lt.1 i) (UInt8.not_lt.1 g);subst e
     rw [if_pos h];simp
  ·by_cases j:y<x
   ·rw [if_neg h,if_pos j] at f;simp at f
   ·have e:x=y:=UInt8.le_antisymm (UInt8.not_lt.1 j) (UInt8.not_lt.1 h);subst e;rw [if_neg h,if_neg h] at f
    by_cases g:x<z
    ·rw [if_pos g];simp
    ·by_cases i:z<x
     ·rw [if_neg g,if_pos i] at d;simp at d
     ·rw [if_neg g,if_neg i] at d|-;exact k f d
def sj (a b:List UInt8):Prop:=compareBytes a b<0
def sW (a b:List UInt8):Prop:=compareBytes a b<=0
section
variable {a b c:List UInt8}
theorem sj.trans (h:sj a b) (k:sj b c):sj a c:=zl a b c h k
theorem sj.le (h:sj a b):sW a b:=Int.le_of_lt h
theorem sW.cases (h:sW a b):a=b\/sj a b:=by
 unfold sW at h;unfold sj
 by_cases e:compareBytes a b=0
 ·exact .inl (Yd a b e)
 ·exact .inr (by omega)
theorem sW.refl (a:List UInt8):sW a a:=by unfold sW;rw [DZ];omega
theorem sW.trans_lt (h:sW a b) (k:sj b c):sj a c:=by
 rcases h.cases with e|h
 ·subst e;exact k
 ·exact h.trans k
theorem sW.take:∀(n:Nat) (b:List UInt8),sW (b.take n) b
 |0,[]=>sW.refl _
 |0,_::_=>by simp [sW,compareBytes]
 |n+1,[]=>sW.refl _
 |n+1,x::xs=>by
  have:=sW.take n xs;unfold sW at this|-;rw [List.take_succ_cons];unfold compareBytes;rw [if_neg (UInt8.lt_irrefl x),if_neg (UInt8.lt_irrefl x)];exact this
theorem VE (h:sj a b) (f:b.length<=64):sj a (l8 a b).1/\sW (l8 a b).1 b/\1<=(l8 a b).1.length/\(l8 a b).1.length<=64:=by
 have c:compareBytes a b<0:=h;have e:l8 a b=(b.take (comm a b+1),0):=by unfold l8;rw [if_pos c]
 have d:=(gT a b).1 c;rw [e]
 refine⟨(qU (by omega)).2 ⟨c,by omega⟩,sW.take _ _,?_,?_⟩
 ·simp only [List.length_take];omega
 ·simp only [List.length_take];omega
end
end
theorem SB.mk (a:n<=c) (b:c<=maxLen) (d:n=bs.length) (e:Rd w F 1 A n (aI bs)):SB w F (.slice A n c) bs:=⟨A,n,c,rfl,a,b,d,e⟩
theorem SB.parts (h:SB w F (.slice A n c) bs):n<=c/\c<=maxLen/\n=bs.length/\Rd w F 1 A n (aI bs):=by
 obtain⟨k,m,l,e,f,g,i,j⟩:=h;injection e with a b d;subst a;subst b;subst d;exact⟨f,g,i,j⟩
def zB (w:World) (bs:List UInt8) (e:Ending) (w':World):Prop:=
 ∃A n c,e= .returned (.slice A n c)/\SB w' (From w) (.slice A n c) bs/\Below w w w'
def ou (bs:List UInt8):ByteArray:=⟨bs.toArray⟩
theorem bC (c:Nat) (h:Rd w F 1 A n (aI bs)) (hn:n=bs.length):
  (convert 24 9 (.slice A n c)).run prog w= .ok (.string (ou bs)) w:=by
 cases A with
 |none=>
  have d:n=0:=by
   rcases Nat.eq_zero_or_pos n with d|d
   ·exact d
   ·obtain⟨_,_,e,_⟩:=h.2 d;cases e
  subst d;have f:bs= []:=List.eq_nil_of_length_eq_zero hn.symm;subst f
  exact run_convert_bytes_nil w 24 5 underlying24 underlying5 0 c _ underlying9
 |some a=>
  rcases Nat.eq_zero_or_pos n with d|d
  ·subst d;have f:bs= []:=List.eq_nil_of_length_eq_zero hn.symm;subst f;rw [run_convert_bytes_string w 24 9 5 (some a) 0 c underlying24 underlying5 underlying9];have hl:(loadCells a 0).run prog w= .ok (([]:List Int).map (Value.int .u8)).toArray w:=run_loadCells_list (P:=prog) w a [] (fun j v g=>by simp at g)
   exact(run_bytesToString w a 0 c [] hl).trans (by rw [foldl_push_bytes];simp only [ou,ByteArray.empty,ByteArray.emptyWithCapacity];congr 2)
  ·obtain⟨b,o,e,_,hc⟩:=h.2 d;injection e with e;subst e
   have k:=run_convert_bytes_arg (P:=prog) w 24 5 underlying24 underlying5 b o n c (bs.map fun x=>(x.toNat:Int)) (by simp [hn]) (fun i hi=>by
    have hl:i<bs.length:=by omega
    rw [hc i (bv bs[i]) (by simp [aI,mP hl])];simp [bv,List.getD,mP hl]) _ underlying9
   rw [k];congr 2;simp [strOfNums,ou,Function.comp_def]
theorem ze (a:List UInt8):(ou a).toList=a:=by rw [ByteArray.toList_eq];simp [ou]
theorem vJ:((ou a).toList==(ou b).toList)=decide (a=b):=by
 rw [ze,ze];by_cases h:a=b<;>simp [h]
theorem Pq (c:Nat) (d:Nat) (h:Rd w F 1 A n (aI xs)) (hn:n=xs.length) (k:Rd w G 1 B m (aI ys)) (hm:m=ys.length):
  Calls prog 163 #[.slice A n c,.slice B m d] w fun e w'=>e= .returned (.bool (decide (xs=ys)))/\w=w':=by
 have f:=bC c h hn;have g:=bC d k hm;have i:=vJ (a:=xs) (b:=ys);clear h k hn hm;go_enter func163,ntmps163;go_wp2;go_ret
 exact⟨rfl,rfl⟩
theorem eH (a b:Nat) (e:a<4294967296) (f:b<4294967296):bits .xor .u32 (a:Int) (b:Int)=((a^^^b:Nat):Int):=by
 have g:a^^^b<2^32:=Nat.xor_lt_two_pow (by omega) (by omega);have c:(BitVec.ofInt 32 (a:Int)).toNat=a:=by rw [BitVec.ofInt_natCast,BitVec.toNat_ofNat];exact Nat.mod_eq_of_lt (by omega)
 have d:(BitVec.ofInt 32 (b:Int)).toNat=b:=by rw [BitVec.ofInt_natCast,BitVec.toNat_ofNat];exact Nat.mod_eq_of_lt (by omega)
 show IntKind.u32.wrap ((BitVec.ofInt 32 (a:Int)^^^BitVec.ofInt 32 (b:Int)).toNat:Int)=_;rw [BitVec.toNat_xor,c,d,IntKind.wrap_u32];omega
def mV (s:Nat):Nat:=if s%2=1 then(s/2)^^^3988292384 else s/2
def qV:Nat->Nat->Nat
 |0,s=>s
 |k+1,s=>mV (qV k s)
def Nl (s:Nat) (l:List UInt8):Nat:=l.foldl (fun s c=>qV 8 (s^^^c.toNat)) s
def bg (l:List UInt8):Nat:=4294967295^^^Nl 4294967295 l
def four (s:Nat):List UInt8:= [UInt8.ofNat s,UInt8.ofNat (s/256),UInt8.ofNat (s/65536),UInt8.ofNat (s/16777216)]
theorem QL (h:s<4294967296):mV s<4294967296:=by
 unfold mV
 split
 ·exact Nat.xor_lt_two_pow (n:=32) (by omega) (by omega)
 ·omega
theorem tN {s:Nat} (h:s<4294967296):∀k,qV k s<4294967296
 |0=>h
 |k+1=>QL (tN h k)
theorem Dy (h:s<4294967296) (c:UInt8):s^^^c.toNat<4294967296:=Nat.xor_lt_two_pow (n:=32) (by omega) (by have:=c.toNat_lt;omega)
theorem yC:∀(l:List UInt8) {_s:Nat},_s<4294967296->Nl _s l<4294967296
 | [],_s,h=>h
 |c::r,_s,h=>yC r (_s:=qV 8 (_s^^^c.toNat)) (tN (Dy h c) 8)
theorem QM (s:Nat) (l:List UInt8) (c:UInt8):Nl s (l++ [c])=qV 8 (Nl s l^^^c.toNat):=by simp [Nl,List.foldl_append]
theorem FZ {c:UInt8} (h:l[i]? =some c):Nl s (l.take (i+1))=qV 8 (Nl s (l.take i)^^^c.toNat):=by
 rw [List.take_add_one,h];exact QM _ _ _
theorem F3 (l:List UInt8):bg l<4294967296:=Nat.xor_lt_two_pow (n:=32) (by omega) (yC l (by omega))
theorem Jm (h:x<4294967296):4294967295^^^x=4294967295-x:=by
 have a:(BitVec.allOnes 32^^^BitVec.ofNat 32 x).toNat=(~~~BitVec.ofNat 32 x).toNat:=by rw [BitVec.allOnes_xor]
 rw [BitVec.toNat_xor,BitVec.toNat_not,BitVec.toNat_allOnes,BitVec.toNat_ofNat,Nat.mod_eq_of_lt (by omega)] at a;exact a
theorem Nk (s:Nat) (w:World) (h:s<4294967296):Calls prog 217 #[.int .u32 s] w fun e w'=>e= .returned (.int .u32 (mV s))/\w=w':=by
 have hn:s/2<4294967296:=by omega
 have d:bits .and .u32 3988292384 4294967295=3988292384:=by decide
 have f:bits .and .u32 3988292384 0=0:=by decide
 have g:=eH (s/2) 3988292384 hn (by omega);have c:=eH (s/2) 0 hn (by omega)
 have b:bits .and .u32 (s:Int) 1=((s%2:Nat):Int):=by
  have:=bits_and_u32_nat s 1 h (by omega);rw [Nat.and_one_is_mod] at this;exact this
 rcases Nat.mod_two_eq_zero_or_one s with a|a
 ·rw [a] at b;have hc:mV s=s/2:=by unfold mV;rw [a];simp
  rw [Nat.xor_zero] at c;go_enter func217,ntmps217;go_wp2;go_ret
  refine⟨?_,rfl⟩
  simp_all
 ·rw [a] at b;have hc:mV s=(s/2)^^^3988292384:=by unfold mV;rw [a];simp
  go_enter func217,ntmps217
  go_wp2;go_ret
  refine⟨?_,rfl⟩
  simp_all
theorem UN (s:Nat) (z:Int) (c:Nat) (W:s<4294967296) (X:z=(s:Int)) (h:Rd w F 1 A n (aI l)) (hn:n=l.length) (K:n<=1152921504606):
  Calls prog 206 #[.int .u32 z,.slice A n c] w fun e w'=>e= .returned (.int .u32 (Nl s l))/\w=w':=by
 have L:=aa h;have O:=aa hn;clear h hn;subst X;go_enter func206,ntmps206;go_wp2
 go_loopg [9,0] n (fun T Y Z wz=>∃i:Nat,T=n-i/\i<=n/\Y= (i:Int)/\Z= .int .u32 (Nl s (l.take i))/\w=wz)
 case atStart=>exact⟨0,by omega,by omega,rfl,rfl,rfl⟩
 case round=>
  obtain⟨i,E,hi,rfl,rfl,rfl⟩:=hrel;have M:=aa E;clear E;obtain⟨t,j⟩:=gF (Nl s (l.take i));have B:=aa j;have d:t<4294967296:=by rw [j];exact yC _ W
  rw [<-j];clear j
  by_cases v:i<n
  ·have G:(i:Int)<(n:Int):=by omega
   obtain⟨b,o,u,rfl,_,I,hc⟩:=L.out.at_ v;obtain⟨x,f,rfl⟩:=eO I;have Q:=aa f;simp only [bv] at hc;have S:=eH t x.toNat d (by have:=x.toNat_lt;omega);have hm:(x.toNat:Int)%4294967296=(x.toNat:Int):=by have:=x.toNat_lt;omega
   have H:t^^^x.toNat<4294967296:=Dy d x;obtain⟨r,a⟩:=gF (t^^^x.toNat);have P:=aa a;rw [<-a] at S H;clear I f a;go_wp2
   go_loopg [17,0] 8 (fun U kv tv wy=>∃k:Nat,U=8-k/\k<=8/\kv= (k:Int)/\tv= .int .u32 (qV k r)/\w=wy)
   case atStart=>exact⟨0,by omega,by omega,rfl,rfl,rfl⟩
   case round=>
    obtain⟨k,C,hk,rfl,rfl,rfl⟩:=hrel;have N:=aa C;clear C;obtain⟨q,g⟩:=gF (qV k r);have y:=aa g;have J:q<4294967296:=by rw [g];exact tN H k
    rw [<-g];clear g
    by_cases V:k<8
    ·have R:(k:Int)<8:=by omega
     go_wp2_with (go_at_call 217;refine(Nk q w J).mono ?_;rintro e w2 ⟨rfl,rfl⟩)
     go_roundg (8-(k+1))
     case measure=>have:=N.out;omega
     case rel=>exact⟨k+1,rfl,by omega,by go_num,by rw [y.out];rfl,rfl⟩
    ·have p:k=8:=by omega
     subst p;go_wp2
     go_roundg (n-(i+1))
     case measure=>have:=M.out;omega
     case rel=>exact⟨i+1,rfl,by omega,by go_num,by rw [y.out,P.out,B.out,FZ Q.out],rfl⟩
  ·have m:i=n:=by omega
   subst m;have D:=B.out;rw [List.take_of_length_le (by have:=O.out;omega)] at D;subst D;go_wp2;go_ret;exact⟨rfl,rfl⟩
theorem UO (A:Option Addr) (c:Nat) (h:Rd w F 1 A n (aI l)) (hn:n=l.length) (K:n<=1152921504606):
  Calls prog 191 #[.slice A n c] w fun e w'=>e= .returned (.int .u32 (bg l))/\w=w':=by
 have d:=aa (UN 4294967295 4294967295 c (by omega) (by omega) h hn K);obtain⟨t,a⟩:=gF (Nl 4294967295 l);have hl:t<4294967296:=by rw [a];exact yC l (by omega)
 have i:Hid (bits .xor .u32 IntKind.u32.max (t:Int)=((bg l:Nat):Int)):=aa (by
  have f:=eH 4294967295 t (by omega) hl;rw [a] at f|-;exact f)
 rw [<-a] at d;obtain⟨R,b⟩:∃R:Ending->World->Prop,R=fun e w'=>e= .returned (.int .u32 (bg l))/\w=w':=⟨_,rfl⟩;have g:=aa b;rw [<-b];clear h hn a hl b;go_enter func191,ntmps191;go_wp2_with (go_at_call 206;refine d.mono ?_;rintro e w2 ⟨rfl,rfl⟩)
 rw [g.out,i.out];exact⟨rfl,rfl⟩
theorem Kw (s:Nat) (w:World) (h:s<4294967296):Calls prog 185 #[.int .u32 s] w fun e w'=>e= .returned (.int .u32 (mV s))/\w=w':=by
 have d:=eH (s/2) 3988292384 (by omega) (by omega);refine letter fun R c=> ?_
 by_cases a:s%2=1
 ·have b:(s:Int)%2=1:=by omega
  have hc:Hid (mV s=(s/2)^^^3988292384):=aa (by unfold mV;rw [if_pos a]);clear a;go_enter func185,ntmps185;go_wp2;rw [c.out,hc.out]
  first|exact⟨rfl,rfl⟩|exact⟨by rw [<-d];rfl,rfl⟩|(simp_all)
 ·have b:¬((s:Int)%2=1):=by omega
  have hc:Hid (mV s=s/2):=aa (by unfold mV;rw [if_neg a]);clear a;go_enter func185,ntmps185;go_wp2;rw [c.out,hc.out]
  exact⟨rfl,rfl⟩
theorem OG (c:Nat) (h:Rd w F 1 A n (aI l)) (hn:n=l.length) (K:n<=1152921504606):
  Calls prog 150 #[.int .u32 0,.slice A n c] w fun e w'=>e= .returned (.int .u32 (bg l))/\w=w':=by
 have N:=aa h;have Q:=aa hn;have S:Hid (∀x:Nat,x<4294967296->(4294967295:Int)-(x:Int)=((4294967295^^^x:Nat):Int)):=aa (fun x p=>by rw [Jm p];omega);clear h hn;refine letter fun R s=> ?_;go_enter func150,ntmps150;go_wp2
 go_loopg [5,0] n (fun W Z sv wz=>∃i:Nat,W=n-i/\i<=n/\Z= (i:Int)/\sv= .int .u32 (Nl 4294967295 (l.take i))/\w=wz)
 case atStart=>exact⟨0,by omega,by omega,rfl,rfl,rfl⟩
 case round=>
  obtain⟨i,H,hi,rfl,rfl,rfl⟩:=hrel;have O:=aa H;clear H;obtain⟨t,m⟩:=gF (Nl 4294967295 (l.take i));have G:=aa m;have f:t<4294967296:=by rw [m];exact yC _ (by omega)
  rw [<-m];clear m
  by_cases D:i<n
  ·have I:(i:Int)<(n:Int):=by omega
   obtain⟨b,o,u,rfl,_,p,hc⟩:=N.out.at_ D;obtain⟨x,g,rfl⟩:=eO p;have T:=aa g;simp only [bv] at hc;have V:=eH t x.toNat f (by have:=x.toNat_lt;omega);have hm:(x.toNat:Int)%4294967296=(x.toNat:Int):=by have:=x.toNat_lt;omega
   have J:t^^^x.toNat<4294967296:=Dy f x;obtain⟨r,d⟩:=gF (t^^^x.toNat);have v:=aa d;rw [<-d] at V J;clear p g d;go_wp2
   go_loopg [6,0] 8 (fun X kv tv wy=>∃k:Nat,X=8-k/\k<=8/\kv= (k:Int)/\tv= .int .u32 (qV k r)/\w=wy)
   case atStart=>exact⟨0,by omega,by omega,rfl,rfl,rfl⟩
   case round=>
    obtain⟨k,E,hk,rfl,rfl,rfl⟩:=hrel;have P:=aa E;clear E;obtain⟨q,a⟩:=gF (qV k r);have j:=aa a;have L:q<4294967296:=by rw [a];exact tN J k
    rw [<-a];clear a
    by_cases Y:k<8
    ·have U:(k:Int)<8:=by omega
     go_wp2_with (go_at_call 185;refine(Kw q w L).mono ?_;rintro e w2 ⟨rfl,rfl⟩)
     go_roundg (8-(k+1))
     case measure=>have:=P.out;omega
     case rel=>exact⟨k+1,rfl,by omega,by go_num,by rw [j.out];rfl,rfl⟩
    ·have C:k=8:=by omega
     subst C;go_wp2
     go_roundg (n-(i+1))
     case measure=>have:=O.out;omega
     case rel=>exact⟨i+1,rfl,by omega,by go_num,by rw [j.out,v.out,G.out,FZ T.out],rfl⟩
  ·have B:i=n:=by omega
   subst B;have y:=G.out;rw [List.take_of_length_le (by have:=Q.out;omega)] at y;have M:Hid (bg l=4294967295^^^t):=aa (by rw [y];rfl);have z:=S.out t f;obtain⟨q,a⟩:=gF (4294967295^^^t);have j:=aa a;rw [<-a] at z;clear y a;go_wp2;rw [s.out,M.out,<-j.out];exact⟨by first|rfl|(rw [z];rfl)|(rw [<-z];rfl),rfl⟩
theorem We (_F:Nat->Prop) (_l:List UInt8) (a:Hid (Calls prog 150 #[.int .u32 0,.slice A n c] w fun e w'=>e= .returned (.int .u32 q)/\w=w')):
  Calls prog 108 #[.slice A n c] w fun e w'=>e= .returned (.int .u32 q)/\w=w':=by
 go_enter func108,ntmps108
 go_wp2_with (go_at_call 150;refine a.mono ?_;rintro e w2 ⟨rfl,rfl⟩)
 go_ret
 exact⟨rfl,rfl⟩
theorem Td (c:Nat) (h:Rd w F 1 A n (aI l)) (hn:n=l.length) (K:n<=1152921504606):
  Calls prog 108 #[.slice A n c] w fun e w'=>e= .returned (.int .u32 (bg l))/\w=w':=
 We F l (aa (OG c h hn K))
end Go.Proofs.YtepgcjbhabnciaaGreat
