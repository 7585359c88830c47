/- Part 38. -/
import Derived.Test.YtepgcjbhabnciaaGreatLe32
import Derived.Test.YtepgcjbhabnciaaGreatLe37
namespace Go.Proofs.YtepgcjbhabnciaaGreat
set_option maxRecDepth 100000
set_option maxHeartbeats 8000000
open Go.Proofs.Tryz Go.RowKit
open Go.Lib (compareBytes)
variable {l x J L H u6 B r u9 M E I Z N U Y O f s V P m u30 k u32 u33 F u38 u40 X u42 G u44 u45 u46 u49 d u1 v C D u25 j W u q h b R u48 z u5 u7 bN u24 u26 u27 u28 u29 u35 u36 u37 dK ek eO eQ u55 fE fF u58 u59 u60 gJ gY u63 u64 gZ u66 iq u68 u69 u70:Value} {inn nd lf fl bl:Int} {p fill g:Nat} {w w':World}
theorem nV (A B:Option Addr) (n m c d:Nat) (x:aK) (b:n=x.1.length) (a:m=x.2.length) (w:World):
  Calls prog 55 #[.agg #[.slice A n c,.slice B m d]] w fun e w'=>e= .returned (.int .i64 (ic x))/\Below w.heap.size w w':=by
 have h:=aa b;have g:=aa a;have f:=aa (wO x);clear b a;go_enter func55,ntmps55
 go_wp2;go_quiet (first|(go_at_call 97;exact eU (Iu _ _ _ x.1 h _))|(go_at_call 98;exact eU (Km _ _ _ x.2 g _)))
 go_wp2;go_ret
 refine⟨bU (by rw [f.out]),below_drewN ((Below.refl _ _).alloc (Nat.le_refl _) _) _⟩
theorem jA (A B:Option Addr) (n m c d:Nat) (x:aK) (i:n=x.1.length) (h:m=x.2.length) (w:World):
  Calls prog 70 #[.agg #[.slice A n c,.slice B m d]] w fun e w'=>e= .returned (.int .i64 (ic x))/\Below w.heap.size w w':=by
 have g:=aa i;have j:=aa h;clear i h
 rcases wM x.1 with a|a
 ·have f:=aa (Oo a);have b:=aa a;clear a;go_enter func70,ntmps70
  go_wp2_with (first|(go_at_call 118;refine(wL _ _ _ x.1 g _).mono ?_;rintro e w' ⟨rfl,rfl⟩;rw [b.out])|(go_at_call 119;refine(Ga _ _ _ x.2 j _).mono ?_;rintro e w' ⟨rfl,rfl⟩))
  go_ret
  exact⟨bU (by rw [f.out]),(Below.refl _ _).alloc (Nat.le_refl _) _⟩
 ·have f:=aa (On (e:=x) (by omega));have b:=aa a;clear a;go_enter func70,ntmps70
  go_wp2_with (first|(go_at_call 118;refine(wL _ _ _ x.1 g _).mono ?_;rintro e w' ⟨rfl,rfl⟩;rw [b.out]))
  go_ret
  exact⟨bU (by rw [f.out,b.out]),(Below.refl _ _).alloc (Nat.le_refl _) _⟩
theorem DD (A:Option Addr) (n c:Nat) (F:Nat->Prop) (l:List aK) (w:World) (h:bz w F A n l) (K:n<=1152921504606) (E:∀(i:Nat) (e:aK),l[i]? =some e->e.1.length<=1152921504606):
  Calls prog 113 #[.slice A n c] w fun e w'=>e= .returned (.tuple #[.int .i64 (dS l).1,.int .i64 (dS l).2])/\Below w.heap.size w w':=by
 have X:=aa h;have M:=aa h.len;have Y:=aa E;clear h E;go_enter func113,ntmps113
 go_wp2
 go_loopg [4] n (fun g i wr=>∃(k:Nat),g=n-k/\k<=n/\i= .int .i64 k/\Hid (∀j,j<k->eP l j=0)/\Below w.heap.size w wr)
 case atStart=>exact⟨0,by omega,by omega,rfl,fun j L=>absurd L (by omega),Below.refl _ _⟩
 case round=>
  obtain⟨k,hg,hk,rfl,G,a⟩:=hrel;have W:=aa hg;clear hg
  by_cases T:k<n
  ·obtain⟨b,o,Ak,nk,ck,Av,nv,cv,key,val,rfl,_,he,c1,Z,h1,h2,t,h4,h5,h6,J,h8⟩:=X.out.at_ T;have O:=ak a c1;have d2:=ak a Z;have I:=aa he;have V:=aa h4;have H8:=aa h8;clear c1 Z he h4 h8
   rcases o9 (key,val) with s|s
   ·have p:=aa s;clear s
    by_cases S:k=0
    ·subst S;simp only [Nat.zero_mul,Nat.add_zero] at O d2;have f:=aa (tJ I p);go_wp2_with (first|(go_at_call 70;refine(jA _ _ _ _ _ _ (key,val) t.out J.out _).mono ?_;rintro e w1 ⟨rfl,d⟩;rw [p.out];have r:Below w.heap.size w w1:=a.trans (d.mono a.size)))
     go_quiet (fail);go_wp2
     go_roundg (n-1)
     case measure=>have:=W.out;omega
     case rel=>exact⟨1,rfl,by omega,rfl,aa (fun j L=>(show j=0 by omega)▸f.out),below_drewN r _⟩
    ·have D:k-1<n:=by omega
     obtain⟨b',o',Bk,mk,dk,Bv,mv,dv,m,ab,u,_,C,y,N,ac,ad,q,B,ae,al,am,R⟩:=X.out.at_ D;obtain⟨rfl,rfl⟩:b'=b/\o'=o:=by injection u with u;injection u with u hB;exact⟨u.symm,hB.symm⟩
     have z:=ak a y;have H:=aa C;have v:=aa B;have kp:0<k:=by omega
     have an:(0:Int)<(k:Int):=by omega
     clear y N C B R u
     by_cases hc:0<=compareBytes m key
     ·have f:=aa (DT I H p kp hc);have x:=aa (sorted_at (l:=l) (i:=k) (by have:=M.out;omega) G (by rw [f.out];decide));have P:=IntWalk.i64_in ((k:Int)-1) (by omega);have e2:0<=(k:Int)-1:=by omega
      have Q:((k:Int)-1).toNat=k-1:=by omega
      have e4:(k:Int)-1<(n:Int):=by omega
      have U:=aa (Y (k-1) _ H);go_wp2_with (first|(go_at_call 70;refine(jA _ _ _ _ _ _ (key,val) t.out J.out _).mono ?_;rintro e w1 ⟨rfl,d⟩;rw [p.out];have r:Below w.heap.size w w1:=a.trans (d.mono a.size);have q1:=ak d O;have q2:=ak d z))
      go_quiet ((go_at_call 68;exact Calls.quiet_of (eX _ _ _ _ _ _ F F m key _ (((v.below a).below d).drewN _) q.out (((V.below a).below d).drewN _) t.out (by have:=U.out;have:=q.out;omega))));clear P Q;go_wp2;go_ret2
      rw [x.out,f.out]
      exact⟨rfl,below_drewN r _⟩
     ·have f:=aa (wP I H p (by show compareBytes m key<0;omega));have P:=IntWalk.i64_in ((k:Int)-1) (by omega);have e2:0<=(k:Int)-1:=by omega
      have Q:((k:Int)-1).toNat=k-1:=by omega
      have e4:(k:Int)-1<(n:Int):=by omega
      have U:=aa (Y (k-1) _ H);go_wp2_with (first|(go_at_call 70;refine(jA _ _ _ _ _ _ (key,val) t.out J.out _).mono ?_;rintro e w1 ⟨rfl,d⟩;rw [p.out];have r:Below w.heap.size w w1:=a.trans (d.mono a.size);have q1:=ak d O;have q2:=ak d z))
      go_quiet ((go_at_call 68;exact Calls.quiet_of (eX _ _ _ _ _ _ F F m key _ (((v.below a).below d).drewN _) q.out (((V.below a).below d).drewN _) t.out (by have:=U.out;have:=q.out;omega))));clear P Q;go_wp2
      go_roundg (n-(k+1))
      case measure=>have:=W.out;omega
      case rel=>exact⟨k+1,rfl,by omega,by go_num,aa (fun j L=>by
       rcases Nat.lt_or_ge j k with h|h
       ·exact G j h
       ·obtain rfl:j=k:=by omega
        exact f),below_drewN r _⟩
   ·have p:=aa s;have f:=aa (Ko I (by rw [s];decide));have x:=aa (sorted_at (l:=l) (i:=k) (by have:=M.out;omega) G (by rw [f.out,s];decide));clear s;go_wp2_with (first|(go_at_call 70;refine(jA _ _ _ _ _ _ (key,val) t.out J.out _).mono ?_;rintro e w1 ⟨rfl,d⟩;rw [p.out];have r:Below w.heap.size w w1:=a.trans (d.mono a.size)))
    go_ret2
    rw [x.out,f.out,p.out]
    exact⟨rfl,r⟩
  ·have x:=aa (zu (l:=l) (fun j L=>G j (by have:=M.out;omega)));go_wp2;go_ret2
   rw [x.out];exact⟨rfl,a⟩
section
section
variable {S F G:Nat->Prop} {w w':World} {A:Option Addr} {n c g hi:Nat} {P:Value->Prop}
end
end
theorem rT (z:Nat) (v0 Y v2 F:Value) (e a:Int) (w:World) (h:aj w z 140 #[v0,Y,v2,F,.int .i64 e,.int .i64 a]):
  Calls prog 31 #[.pointer (some ⟨z,0,none⟩)] w fun c w'=>c= .returned (.tuple #[.int .i64 e,.int .i64 a])/\∃k,w'=w.drewN k:=by
 refine letter fun R b=> ?_;have d:w.cell? ⟨z,4,none⟩=some (.int .i64 e):=h.cell 4;have f:w.cell? ⟨z,5,none⟩=some (.int .i64 a):=h.cell 5;clear h;go_enter func31,ntmps31
 go_upto_region 1 with fail
 go_quiet (fail);go_wp2;rw [b.out];exact⟨rfl,nq,rfl⟩
theorem oN (p:Nat) (w:World):Calls prog 26 #[.iface 29 (.pointer (some ⟨p,0,none⟩))] w fun e w'=>∃z,e= .returned (.pointer (some ⟨z,0,none⟩))/\w.heap.size<z/\
  aj w' w.heap.size 188 #[.int .i64 0,.int .i64 0,.int .i64 0,.iface 29 (.pointer (some ⟨p,0,none⟩)),.int .i64 9223372036854775807,.int .u8 0,.bool false]/\
  aj w' z 140 #[.pointer (some ⟨w.heap.size,0,none⟩),.func (.func 52) #[.pointer (some ⟨z,0,none⟩)] #[],.slice none 0 0,.slice none 0 0,.int .i64 0,.int .i64 0]/\Below w.heap.size w w':=by
 obtain⟨R,f⟩:∃R:Ending->World->Prop,R=fun e w'=>∃z,e= .returned (.pointer (some ⟨z,0,none⟩))/\w.heap.size<z/\
  aj w' w.heap.size 188 #[.int .i64 0,.int .i64 0,.int .i64 0,.iface 29 (.pointer (some ⟨p,0,none⟩)),.int .i64 9223372036854775807,.int .u8 0,.bool false]/\
  aj w' z 140 #[.pointer (some ⟨w.heap.size,0,none⟩),.func (.func 52) #[.pointer (some ⟨z,0,none⟩)] #[],.slice none 0 0,.slice none 0 0,.int .i64 0,.int .i64 0]/\Below w.heap.size w w':=⟨_,rfl⟩
 have l:=aa f;rw [<-f];clear f;go_enter func26,ntmps26
 go_upto_region 4 with(go_at_call 51;go_loud (refine(JY p w).mono ?_);rintro e w1 ⟨rfl,j,k⟩;have h:=aa j;have i:=aa k;clear j k)
 obtain⟨z,c⟩:∃z,z=w1.heap.size:=⟨_,rfl⟩;obtain⟨w2,a⟩:∃W,W=w1.alloc (.cells #[.pointer (some ⟨w.heap.size,0,none⟩),.nilFunc,.slice none 0 0,.slice none 0 0,.int .i64 0,.int .i64 0] 140):=⟨_,rfl⟩;have b:Hid (Below w1.heap.size w1 w2):=aa (by rw [a];exact(Below.refl _ _).alloc (Nat.le_refl _) _);have g:Hid (aj w2 z 140 #[.pointer (some ⟨w.heap.size,0,none⟩),.nilFunc,.slice none 0 0,.slice none 0 0,.int .i64 0,.int .i64 0]):=aa (by rw [a,c];exact aj.new _ _ _);have d:Hid (w.heap.size<z):=aa (by rw [c];exact h.lt);have m:Hid (z=w1.heap.size):=aa c;have n:w2.cell? ⟨z,1,none⟩=some .nilFunc:=g.out.cell 1;have o:=g.out.frozen 1;rw [<-a,<-c];clear a c;go_wp2;rw [l.out];refine⟨z,rfl,d,(h.below b).far (p:=⟨z,1,none⟩) (Nat.ne_of_lt d) _,g.set_ 1 _,?_⟩;exact(i.out.trans (b.mono i.size)).setCell (p:=⟨z,1,none⟩) (Nat.le_of_lt d) _
theorem DR {l:List aK} (c:fill<=64) (a:∀e∈l,e.1.length<=1152921504606/\e.2.length<=1152921504606) (i:Nat):Small (IM fill l i):=
 pI a _ _ (by omega) _ _ _ (wS (fun e b=>(a e b).1) i)
theorem Aq {low:List Nd} {inn:Nat} (g:inn<=64) (d:∀s∈low,Small s) (lev first:Int) (i:Nat):Small (l6 inn lev low first i):=by
 have hl:(di inn low i).length<=inn:=by unfold di;rw [List.length_take];exact Nat.min_le_left _ _
 have a:∀e∈di inn low i,e∈low:=fun e c=>List.mem_of_mem_drop (List.mem_of_mem_take c)
 refine⟨?_,?_,by simp [l6],?_,fun t f=> ?_,by simp [l6]⟩
 ·show((di inn low i).getLastD Nd.zero).high.length<=_
  rcases List.eq_nil_or_concat (di inn low i) with e|⟨L,b,e⟩
  ·rw [e];simp [Nd.zero]
  ·have:b∈di inn low i:=by rw [e];simp
   rw [e]
   simpa using (d b (a b this)).1
 ·show((di inn low i).dropLast.map Nd.high).length<=_;rw [List.length_map,List.length_dropLast];omega
 ·show((List.range (di inn low i).length).map _).length<=_;rw [List.length_map,List.length_range];omega
 ·obtain⟨e,c,rfl⟩:=List.mem_map.1 f;exact(d e (a e (List.dropLast_subset _ c))).1
def Cf (w:World) (g:Nat) (nd lf inn fl bl:Int):Prop:=w.cell? ⟨g,0,none⟩=some (.int .i64 nd)/\w.cell? ⟨g,1,none⟩=some (.int .i64 lf)/\w.cell? ⟨g,2,none⟩=some (.int .i64 inn)/\w.cell? ⟨g,3,none⟩=some (.int .i64 fl)/\w.cell? ⟨g,4,none⟩=some (.int .i64 bl)
theorem CR (h:aj w g 23 #[.int .i64 nd,.int .i64 lf,.int .i64 inn,.int .i64 fl,.int .i64 bl]):Cf w g nd lf inn fl bl:=⟨by rw [h.cell];rfl,by rw [h.cell];rfl,by rw [h.cell];rfl,by rw [h.cell];rfl,by rw [h.cell];rfl⟩
theorem MH (nd lf bl:Int) (inn fill:Nat) (A:Option Addr) (n c:Nat) (h:Nat->Prop) (l:List aK) (w:World) (s:dx nd lf inn fill bl) (i:bz w h A n l) (Q:n<=c) (P:c<=maxLen) (T:n<=1152921504606)
  (g:∀e∈l,e.1.length<=1152921504606/\e.2.length<=1152921504606) (a:(bT nd lf inn fill bl n).2=0):
  Calls prog 54 #[.agg #[.int .i64 nd,.int .i64 lf,.int .i64 inn,.int .i64 fill,.int .i64 bl],.slice A n c] w (uw w nd (bD fill inn l)):=by
 obtain⟨c1,d,j,k,m,o,p,q,r,b⟩:=s
 rcases Nat.eq_zero_or_pos n with f|f
 ·subst f;have:l= []:=List.eq_nil_of_length_eq_zero i.len.symm;subst this;rw [uS]
  exact MI nd lf bl inn fill A c w c1 d
 ·rw [iA ⟨c1,d,j,k,m,o,p,q,r,b⟩ (by omega)] at a;exact Jn nd lf bl inn fill A n c h l w c1 d (by omega) (by omega) (by omega) (by omega) i Q P T f g a
section
section
variable {F:Nat->Prop} {w:World} {g k n:Nat}
end
end
section
def dW (nd lf inn fl bl:Int) (l:List aK):Int×Int:=
 if¬dx nd lf inn fl bl then(1,0) else if(dS l).2≠0 then((dS l).2,(dS l).1) else((bT nd lf inn fl bl l.length).2,0)
section
variable (nd lf inn fl bl:Int) (A:Option Addr) (n c:Nat) (F:Nat->Prop) (l:List aK) (w:World)
end
theorem Q9 {nd:Int} {inn:Nat} (w:1<=inn) (hi:inn<=64):∀(f:Nat) (lev:Int) (sl:List bR) (a:List Nd),(lv nd inn f (a.length:Int) (sl.length:Int)).2=0->(∀s∈sl,Small s.2/\s.1=2)->(∀s∈a,Small s)->
  (∀s∈(xQ inn f lev sl a).1,Small s.2/\s.1=2)/\((xQ inn f lev sl a).1.length:Int)<=nd:=by
 intro f
 induction f with
 |zero=>intro lev sl a h;simp [lv] at h
 |succ f m=>
  intro lev sl a h k hl
  have j:¬nd-(sl.length:Int)<(a.length:Int):=by
   intro l;rw [ko l] at h;simp at h
  have e:∀s∈sl++(List.range a.length).map (mg a ((sl.length:Int)+1)),Small s.2/\s.1=2:=by
   intro s c
   rcases List.mem_append.1 c with c|c
   ·exact k s c
   ·obtain⟨i,g,rfl⟩:=List.mem_map.1 c;have:=hl _ (Om (d:=Nd.zero) (show i<a.length by simpa using g));exact⟨⟨this.1,this.2.1,this.2.2.1,this.2.2.2.1,this.2.2.2.2.1,this.2.2.2.2.2⟩,rfl⟩
  by_cases b:a.length=1
  ·rw [xQ,if_pos b]
   exact⟨e,by simp;omega⟩
  ·rw [xQ,if_neg b];rw [qw j (by omega),<-gU a.length inn w] at h
   refine m (lev+1) _ _ ?_ e ?_
   ·simp only [List.length_append,List.length_map,List.length_range,Int.natCast_add]
    exact h
   ·intro s c;obtain⟨i,_,rfl⟩:=List.mem_map.1 c;exact Aq hi hl _ _ i
theorem II {nd lf bl:Int} {inn fill:Nat} {l:List aK} (g:dx nd lf inn fill bl) (d:∀e∈l,e.1.length<=1152921504606/\e.2.length<=1152921504606) (b:(bT nd lf inn fill bl l.length).2=0):
  (bD fill inn l).1.length<=65536/\(∀s∈(bD fill inn l).1,Small s.2)/\∀s∈(bD fill inn l).1,0<=s.1/\s.1<=4611686018427387904/\s.1%2=0:=by
 rw [iA g (by omega)] at b;obtain⟨c1,j,k,m,n,o,p,q,r,h⟩:=g;rw [Kl (nd:=nd) (by omega) (by omega) b];unfold Ar
 by_cases hl:l= []
 ·rw [if_pos hl]
  refine⟨by simp,fun s a=> ?_,fun s a=> ?_⟩
  ·have:s=(0,Nd.zero):=by simpa using a
   subst this
   exact⟨by simp [Nd.zero],by simp [Nd.zero],by simp [Nd.zero],by simp [Nd.zero],by simp [Nd.zero],by simp [Nd.zero]⟩
  ·have:s=(0,Nd.zero):=by simpa using a
   subst this
   decide
 ·rw [if_neg hl];have c:(fD fill l).length=pn l.length fill:=by simp [fD]
  obtain⟨f,t⟩:=Q9 (nd:=nd) (inn:=inn) (by omega) (by omega) 32 0 [] (fD fill l) (by rw [c,gU _ _ (by omega)];exact b) (by simp) (fun s a=>by obtain⟨i,_,rfl⟩:=List.mem_map.1 a;exact DR (by omega) d i);exact⟨by omega,fun s a=>(f s a).1,fun s a=>by have:=(f s a).2;omega⟩
theorem Jt {nd lf inn fl bl:Int} {l:List aK} (h:(dW nd lf inn fl bl l).1=0):dx nd lf inn fl bl/\(bT nd lf inn fl bl l.length).2=0:=by
 unfold dW at h
 by_cases a:dx nd lf inn fl bl
 ·rw [if_neg (by simpa using a)] at h
  by_cases b:(dS l).2=0
  ·rw [if_neg (by simpa using b)] at h;exact⟨a,h⟩
  ·rw [if_pos (by simpa using b)] at h;exact absurd h b
 ·rw [if_pos (by simpa using a)] at h;cases h
end
theorem vV (F D:Nat->Prop) (z q p base:Nat) (b:Nat) (v0 Y c v3 M B:Value) (A:Option Addr) (n cc:Nat) (us:List Value) (o:Option (List aK)) (r:bg) (w:World)
  (h:aj w z 140 #[v0,.func (.func b) #[.pointer (some ⟨z,0,none⟩)] #[],.slice none 0 0,v3,M,B])
  (s:∀args w',(callFunc b args).run prog w'= .ok (.enter b args) w')
  (i:Calls prog b #[.pointer (some ⟨z,0,none⟩)] w (nG F z q p base D Y c A n cc us o r w)):
  Calls prog 29 #[.pointer (some ⟨z,0,none⟩)] w (nG F z q p base D Y c A n cc us o r w):=by
 have f:=aa i;refine letter fun R g=> ?_;have C:w.cell? ⟨z,1,none⟩=some (.func (.func b) #[.pointer (some ⟨z,0,none⟩)] #[]):=h.cell 1;have E:w.cell? ⟨z,2,none⟩=some (.slice none 0 0):=h.cell 2;clear h i
 cases o with
 |none=>
  go_enter func29,ntmps29
  go_wp2_with ((refine f.mono ?_);intro e l a;have d:=aa a;obtain⟨rfl,_,_⟩:=a.no rfl;clear a)
  rw [g.out]
  exact d
 |some j=>
  go_enter func29,ntmps29
  go_wp2_with ((refine f.mono ?_);intro e l a;have d:=aa a;obtain⟨t,v,u,m,y,x,kF,k,rfl,-,-,-,-,-,-⟩:=a.yes j rfl;clear a)
  rw [g.out];exact d
section
def Bd (w:World) (T:TypeId) (F In:Nat->Prop) (p:Nat) (nd lf inn fl bl:Int) (l:List aK):Prop:=
 ∃A n c us,F p/\(∀b,F b->b<w.heap.size)/\T≠69/\aj w p T #[.int .i64 nd,.int .i64 lf,.int .i64 inn,.int .i64 fl,.int .i64 bl,.slice A n c]/\w.ownsRow 0 69 2 (.slice A n c) n us/\(∀g,(Value.slice A n c).ownBlock=some g->F g)/\Hid (n=l.length)/\
  ∀(i:Nat) (e:aK),l[i]? =some e->∃u v,us[2*i]? =some u/\us[2*i+1]? =some v/\SB w (fun b=>(F b\/In b)/\(Value.slice A n c).ownBlock≠some b/\b≠p) u e.1/\SB w (fun b=>(F b\/In b)/\(Value.slice A n c).ownBlock≠some b/\b≠p) v e.2
section
variable {S F In:Nat->Prop} {w w':World} {T:TypeId} {p:Nat} {nd lf inn fl bl:Int} {l:List aK}
theorem Bd.chg (h:Bd w T F In p nd lf inn fl bl l) (y:ag S w w') (K:∀b,F b->¬S b) (hi:∀b,In b->¬S b):Bd w' T F In p nd lf inn fl bl l:=by
 obtain⟨A,n,c,us,f,k,m,o,q,j,r,s⟩:=h;refine⟨A,n,c,us,f,fun b d=>Nat.lt_of_lt_of_le (k b d) y.size,m,o.chg y (K _ f),aD q y (fun g x=>K g (j g x)),j,r,fun i e t=> ?_⟩;obtain⟨u,v,a,b,z,B⟩:=s i e t;exact⟨u,v,a,b,z.chg y (fun b d=>d.1.elim (K b) (hi b)),B.chg y (fun b d=>d.1.elim (K b) (hi b))⟩
theorem Bd.below (h:Bd w T F In p nd lf inn fl bl l) (a:Below w.heap.size w w'):Bd w' T F In p nd lf inn fl bl l:=h.chg (S:=Nil) (ag.of_below a) (fun _ _ h=>h) (fun _ _ h=>h)
theorem Bd.empty (h:Bd w T F In p nd lf inn fl bl l):Bd (w.setCell ⟨p,5,none⟩ (.slice none 0 0)) T F In p nd lf inn fl bl []:=by
 obtain⟨A,n,c,us,a,d,f,j,q,r,s,t⟩:=h;exact⟨none,0,0,[],a,fun b k=>by simpa [World.setCell] using d b k,f,j.set_ 5 _,World.ownsRow_nil _ _ _ _,fun g o=>by simp [Value.ownBlock] at o,rfl,fun i e m=>by simp at m⟩
theorem Bd.push {wa w2:World} {A:Option Addr} {n c:Nat} {us:List Value} {v2 u v:Value} {e:aK} (z:F p) (H:∀b,F b->b<w.heap.size) (I:T≠69) (J:aj w p T #[.int .i64 nd,.int .i64 lf,.int .i64 inn,.int .i64 fl,.int .i64 bl,.slice A n c]) (K:w.ownsRow 0 69 2 (.slice A n c) n us) (L:∀g,(Value.slice A n c).ownBlock=some g->F g) (B:Hid (n=l.length))
  (P:∀(i:Nat) (e:aK),l[i]? =some e->∃u v,us[2*i]? =some u/\us[2*i+1]? =some v/\SB w (fun b=>(F b\/In b)/\(Value.slice A n c).ownBlock≠some b/\b≠p) u e.1/\SB w (fun b=>(F b\/In b)/\(Value.slice A n c).ownBlock≠some b/\b≠p) v e.2)
  (d:Below w.heap.size w wa) (D:w2.ownsRow 0 69 2 v2 (n+1) (us++ [u,v])) (M:wa.grownBy w2 (Value.slice A n c).ownBlock) (m:v2.ownBlock=(Value.slice A n c).ownBlock\/v2.ownBlock=some wa.heap.size)
  (X:SB wa (fun b=>(F b\/In b\/w.heap.size<=b)/\(Value.slice A n c).ownBlock≠some b/\b≠p) u e.1) (hv:SB wa (fun b=>(F b\/In b\/w.heap.size<=b)/\(Value.slice A n c).ownBlock≠some b/\b≠p) v e.2) (_Q:∀b,In b->b<w.heap.size):
  Bd (w2.setCell ⟨p,5,none⟩ v2) T (Grown F w (w2.setCell ⟨p,5,none⟩ v2)) In p nd lf inn fl bl (l++ [e])/\ag F w (w2.setCell ⟨p,5,none⟩ v2):=by
 have s:(Value.slice A n c).ownBlock≠some p:=iy K J (fun e=>I e.symm);have o:ag (fun b=>(Value.slice A n c).ownBlock=some b) wa w2:=ag.of_grown M;have ab:=d.size;have Z:=M.size;have W:=H p z;have E:v2.ownBlock≠some p:=fun e=>m.elim (fun j=>s (j▸e)) (fun j=>by rw [j] at e;injection e with e;omega);have q:ag F w (w2.setCell ⟨p,5,none⟩ v2):=((ag.of_below (S:=F) d).trans o (fun b _ h=>L b h)).setCell (p:=⟨p,5,none⟩) (fun _=>z) v2;have t:(w2.setCell ⟨p,5,none⟩ v2).heap.size=w2.heap.size:=by simp [World.setCell]
 have r:∀b,b<wa.heap.size->v2.ownBlock=some b->(Value.slice A n c).ownBlock=some b:=fun b R e=>m.elim (fun j=>j▸e) (fun j=>by rw [j] at e;injection e with e;omega)
 have k:∀(x:Value) (bs:List UInt8),SB wa (fun b=>(F b\/In b\/w.heap.size<=b)/\(Value.slice A n c).ownBlock≠some b/\b≠p) x bs->SB (w2.setCell ⟨p,5,none⟩ v2) (fun b=>(Grown F w (w2.setCell ⟨p,5,none⟩ v2) b\/In b)/\v2.ownBlock≠some b/\b≠p) x bs:=by
  intro x bs hx;have G:=((hx.lt.chg o (fun b d e=>d.1.2.1 e)).chg (ag.set1 w2 p 5 v2) (fun b d e=>d.1.2.2 e));refine G.weak (fun b d=>⟨?_,fun e=>d.1.2.1 (r b d.2 e),d.1.2.2⟩)
  rcases d.1.1 with h|h|h
  ·exact .inl (.inl h)
  ·exact .inr h
  ·exact .inl (.inr ⟨h,by rw [t];have:=d.2;omega⟩)
 have Y:us.length=n*2:=K.1;refine⟨?_,q⟩;obtain⟨N,O,rfl,_,_⟩:=au D
 refine⟨N,n+1,O,us++ [u,v],.inl z,fun b d=>d.elim (fun h=>Nat.lt_of_lt_of_le (H b h) q.size) (fun h=>h.2),I,?_,?_,?_,aa (by have:=B.out;simp [this]),?_⟩
 ·exact((J.below d).chg o s).set_ 5 _
 ·exact aD D (ag.set1 w2 p 5 _) (fun g f e=>E (by rw [f,show g=p from e]))
 ·intro g f
  rcases m with j|j
  ·exact .inl (L g (j▸f))
  ·rw [j] at f;injection f with f
   have:=(ah D g (by rw [j,f])).2
   exact .inr ⟨by omega,by rw [t];exact this⟩
 ·intro i j hi
  rcases Nat.lt_or_ge i l.length with hl|hl
  ·rw [List.getElem?_append_left hl] at hi;obtain⟨x,y,a,b,G,s2⟩:=P i j hi;have U:i<n:=by have:=B.out;omega
   refine⟨x,y,by rw [List.getElem?_append_left (by omega)];exact a,by rw [List.getElem?_append_left (by omega)];exact b,k x _ ((G.below d).weak (fun b d=>⟨d.1.imp id .inl,d.2⟩)),k y _ ((s2.below d).weak (fun b d=>⟨d.1.imp id .inl,d.2⟩))⟩
  ·rw [List.getElem?_append_right hl] at hi;have C:i=l.length:=by have:=(List.getElem?_eq_some_iff.1 hi).1;simp at this;omega
   subst C;simp at hi;subst hi;have V:=B.out
   refine⟨u,v,?_,?_,k u _ X,k v _ hv⟩
   ·rw [List.getElem?_append_right (by omega),show 2*l.length-us.length=0 by omega];rfl
   ·rw [List.getElem?_append_right (by omega),show 2*l.length+1-us.length=1 by omega];rfl
end
def jd (nd lf inn fl bl:Int) (l:List aK) (e:aK):Int:=
 if ic e≠0 then ic e else if 0<l.length/\0<=compareBytes (l.getD (l.length-1) ([],[])).1 e.1 then 51 else(bT nd lf inn fl bl ((l.length+1:Nat):Int)).2
def uH (nd lf inn fl bl:Int) (l:List aK) (e:aK):List aK:=if jd nd lf inn fl bl l e=0 then l++ [e] else l
theorem gz {nd lf inn fl bl:Int} {l:List aK}:(dW nd lf inn fl bl l).1=0↔dx nd lf inn fl bl/\bH l/\(bT nd lf inn fl bl l.length).2=0:=by
 unfold dW
 by_cases b:dx nd lf inn fl bl
 ·rw [if_neg (by simpa using b)]
  by_cases a:(dS l).2=0
  ·rw [if_neg (by simpa using a)];exact⟨fun h=>⟨b,(uM l).1 a,h⟩,fun h=>h.2.2⟩
  ·rw [if_pos (by simpa using a)];exact⟨fun h=>absurd h a,fun h=>absurd ((uM l).2 h.2.1) a⟩
 ·rw [if_pos (by simpa using b)];exact⟨fun h=>(by cases h),fun h=>absurd h.1 b⟩
theorem EP {nd lf inn fl bl:Int} (g:dx nd lf inn fl bl):(dW nd lf inn fl bl []).1=0:=by
 rw [gz];refine⟨g,fun j a=>by simp at a,?_⟩;rw [iA g (by simp)];have b:=g.1;rw [show(([]:List aK).length:Int)=0 by rfl,show parts 0 fl=1 by unfold parts;simp,EQ (by omega) rfl]
theorem Cq {l:List aK} {e:aK} (h:bH l) (f:ic e=0) (i:¬(0<l.length/\0<=compareBytes (l.getD (l.length-1) ([],[])).1 e.1)):bH (l++ [e]):=by
 intro j g
 rcases Nat.lt_or_ge j l.length with hl|hl
 ·have:=h j hl;unfold eP at this|-;have a:(l++ [e]).getD j ([],[])=l.getD j ([],[]):=by rw [List.getD_eq_getElem?_getD,List.getD_eq_getElem?_getD,List.getElem?_append_left hl]
  have b:(l++ [e]).getD (j-1) ([],[])=l.getD (j-1) ([],[]):=by rw [List.getD_eq_getElem?_getD,List.getD_eq_getElem?_getD,List.getElem?_append_left (by omega)]
  rw [a,b];exact this
 ·have c:j=l.length:=by simp at g;omega
  subst c;unfold eP;have a:(l++ [e]).getD l.length ([],[])=e:=by rw [List.getD_eq_getElem?_getD,List.getElem?_append_right (Nat.le_refl _)];simp
  rw [a,if_neg (by simpa using f)]
  by_cases d:0<l.length
  ·have b:(l++ [e]).getD (l.length-1) ([],[])=l.getD (l.length-1) ([],[]):=by rw [List.getD_eq_getElem?_getD,List.getD_eq_getElem?_getD,List.getElem?_append_left (by omega)]
   rw [b,if_neg (fun h=>i ⟨d,h.2⟩)]
  ·rw [if_neg (fun h=>d h.1)]
theorem Ib {nd lf inn fl bl:Int} {l:List aK} {e:aK} (h:(dW nd lf inn fl bl l).1=0):(dW nd lf inn fl bl (uH nd lf inn fl bl l e)).1=0:=by
 unfold uH
 by_cases a:jd nd lf inn fl bl l e=0
 ·rw [if_pos a];obtain⟨d,f,g⟩:=gz.1 h;unfold jd at a
  by_cases b:ic e=0
  ·rw [if_neg (by simpa using b)] at a
   by_cases c:0<l.length/\0<=compareBytes (l.getD (l.length-1) ([],[])).1 e.1
   ·rw [if_pos c] at a;cases a
   ·rw [if_neg c] at a
    exact gz.2 ⟨d,Cq f b c,by rw [List.length_append,List.length_singleton];exact a⟩
  ·rw [if_pos (by simpa using b)] at a;exact absurd a b
 ·rw [if_neg a];exact h
end
def Bc (p:Nat) (nd lf inn fl bl:Int) (x:Value) (w:World):Prop:=w.cell? ⟨p,0,none⟩=some (.int .i64 nd)/\w.cell? ⟨p,1,none⟩=some (.int .i64 lf)/\w.cell? ⟨p,2,none⟩=some (.int .i64 inn)/\w.cell? ⟨p,3,none⟩=some (.int .i64 fl)/\w.cell? ⟨p,4,none⟩=some (.int .i64 bl)/\w.cell? ⟨p,5,none⟩=some x
theorem LW {T:TypeId} (h:aj w p T #[.int .i64 nd,.int .i64 lf,.int .i64 inn,.int .i64 fl,.int .i64 bl,x]):Bc p nd lf inn fl bl x w:=⟨by rw [h.cell];rfl,by rw [h.cell];rfl,by rw [h.cell];rfl,by rw [h.cell];rfl,by rw [h.cell];rfl,by rw [h.cell];rfl⟩
theorem Bc.below (h:Bc p nd lf inn fl bl x w) (a:Below w.heap.size w w'):Bc p nd lf inn fl bl x w':=⟨ak a h.1,ak a h.2.1,ak a h.2.2.1,ak a h.2.2.2.1,ak a h.2.2.2.2.1,ak a h.2.2.2.2.2⟩
noncomputable def Ue:Code:=aV (f33.body.bind (aJ 6))
theorem nodes (p:Nat) (nd lf inn fl bl:Int) (A:Option Addr) (n c:Nat) (w:World) {T:Value} {S:List Value} (Q:Exit->Act->World->Prop) (mQ:Hid (∀c t (a:Act) w,Q (.panic c) ⟨t,a.defers⟩ w->Q (.panic c) a w))
  (g:dx nd lf inn fl bl) (hn:n<=1152921504606) (hb:Bc p nd lf inn fl bl (.slice A n c) w)
  (ax:∀(v6 ac ad ae al am an ao ap aq ar aw aA aE a0:Value) (w':World),Below w.heap.size w w'->Q .normal ⟨(.pointer (some ⟨p,0,none⟩)::u1::J::L::H::v::v6:: .int .i64 (bT nd lf inn fl bl ((n+1:Nat):Int)).2::r::u9::M::E::I::Z::N::U::Y::O::f::C::s::V::P::m::D::u25::T::j::W::u::u30::k::u32::u33::F::q::h::b::ac::ad::ae::al::am::an::ao::ap::aq::ar::aw::aA::aE::a0::S).toArray,[]⟩ w'):
  Code.wp prog Ue Q ⟨(.pointer (some ⟨p,0,none⟩)::u1::J::L::H::v::u6::B::r::u9::M::E::I::Z::N::U::Y::O::f::C::s::V::P::m::D::u25::T::j::W::u::u30::k::u32::u33::F::q::h::b::u38::R::u40::X::u42::G::u44::u45::u46::l::u48::u49::z::d::S).toArray,[]⟩ w:=by
 have dP:=aa ax;have HC:=aa g;have hw:=IntWalk.i64_in ((n:Int)+1) (by omega);obtain⟨NE,LY⟩:∃x,x=bT nd lf inn fl bl ((n+1:Nat):Int):=⟨_,rfl⟩;rw [<-LY] at dP;have gm:=aa LY;have o:Bc p nd lf inn fl bl (.slice A n c) w.drew:=hb;clear ax g LY hb;conv=>arg 2;whnf
 refine aU (Bc p nd lf inn fl bl (.slice A n c)) (by kernel_rfl) ?_;refine vT 0 o ?_;refine vT 1 o ?_;refine vT 2 o ?_;refine vT 4 o ?_;refine vT 5 o ?_;refine vT 6 o ?_;refine vT 3 o ?_;refine vT 7 o ?_;refine vT 8 o ?_;refine vT 9 o ?_;refine aO (i:=10) (by kernel_rfl) rfl (fun K hK=> ?_);go_simp
 refine(LZ nd lf inn fl bl ((n:Int)+1) _ HC (by omega) (by omega)).mono ?_;rintro e w5 ⟨rfl,ab⟩;rw [show((n:Int)+1)=((n+1:Nat):Int) by omega,<-gm.out];unfold L5;have y:=o.below ab;refine hK.out _ _ y ?_;clear hK K;try simp only [aL,aN,aZ,aC]
 refine vT 11 y ?_;refine vT 12 y ?_;refine vT 13 y ?_;refine vT 14 y ?_;refine vT 15 y ?_;refine bG (by kernel_rfl) ?_ _;exact dP _ _ _ _ _ _ _ _ _ _ _ _ _ _ _ _ ((Below.refl _ _).drew.trans ab)
noncomputable def Uf:Code:=aV (f33.body.bind (aJ 9))
theorem Hw (p q:Nat) (T:TypeId) (A:Option Addr) (n c:Nat) (us:List Value) (z W:Option Addr) (C y R j:Nat) (D:Nat->Prop) (e:aK) (v0 v1 v2 v3 v4:Value) (w:World) {S g:Value} (Q:Exit->Act->World->Prop) (mQ:Hid (∀c t (a:Act) w,Q (.panic c) ⟨t,a.defers⟩ w->Q (.panic c) a w))
  (HB:Hid (aj w p T #[v0,v1,v2,v3,v4,.slice A n c])) (HO:Hid (w.ownsRow 0 69 2 (.slice A n c) n us)) (hT:(Value.slice A n c).ownBlock≠some p) (hn:n<=1152921504606)
  (c1:w.cell? ⟨q,0,none⟩=some (.slice z C y)) (c2:w.cell? ⟨q,1,none⟩=some (.slice W R j)) (ao:(Value.slice A n c).ownBlock≠some q)
  (HK:Hid (Bt w D z C y e.1)) (HV:Hid (Bt w D W R j e.2)) (l1:e.1.length<=1152921504606) (l2:e.2.length<=1152921504606)
  (ax:∀(aw aA aE a0 a1 a2 a3 a4 a5 a6 a7 a8 a9 ba bb be:Value) (u v x:Value) (wa w2:World),Below w.heap.size w wa->w2.ownsRow 0 69 2 x (n+1) (us++ [u,v])->wa.grownBy w2 (Value.slice A n c).ownBlock->(x.ownBlock=(Value.slice A n c).ownBlock\/x.ownBlock=some wa.heap.size)->SB wa (From w.heap.size) u e.1->SB wa (From w.heap.size) v e.2->Q .normal ⟨(.pointer (some ⟨p,0,none⟩)::S::J:: .pointer (some ⟨q,0,none⟩)::H::u5::u6::u7::r::u9::M::E::I::Z::N::U::Y::O::f::bN::s::V::P::m::u24::g::u26::u27::u28::u29::u30::k::u32::u33::F::u35::u36::u37::u38::dK::u40::X::u42::G::u44::u45::u46::l::L::u49::ek::d::eO::B::eQ::aw::aA::aE::a0::a1::a2::a3::a4::a5::a6::a7::a8::a9::ba::bb::be:: []).toArray,[]⟩ (w2.setCell ⟨p,5,none⟩ x)):
  Code.wp prog Uf Q ⟨(.pointer (some ⟨p,0,none⟩)::S::J:: .pointer (some ⟨q,0,none⟩)::H::u5::u6::u7::r::u9::M::E::I::Z::N::U::Y::O::f::bN::s::V::P::m::u24::g::u26::u27::u28::u29::u30::k::u32::u33::F::u35::u36::u37::u38::dK::u40::X::u42::G::u44::u45::u46::l::L::u49::ek::d::eO::B::eQ::u55::fE::fF::u58::u59::u60::gJ::gY::u63::u64::gZ::u66::iq::u68::u69::u70:: []).toArray,[]⟩ w:=by
 obtain⟨i0,aq,kH,kI,kJ⟩:=info_parts lK;have dP:=aa ax;have bh:=HB.out.lt;have lk:C<=1152921504606:=by have:=HK.out.len;omega
 have lv:R<=1152921504606:=by have:=HV.out.len;omega
 have S0:w.drew.cell? ⟨p,5,none⟩=some (.slice A n c)/\w.drew.cell? ⟨q,0,none⟩=some (.slice z C y)/\w.drew.cell? ⟨q,1,none⟩=some (.slice W R j):=⟨(HB.cell 5).trans rfl,c1,c2⟩;clear ax l1 l2;conv=>arg 2;whnf
 refine aS (fun w'=>w'.cell? ⟨p,5,none⟩=some (.slice A n c)/\w'.cell? ⟨q,0,none⟩=some (.slice z C y)/\w'.cell? ⟨q,1,none⟩=some (.slice W R j)) 16 (by kernel_rfl) ?_;refine uF 0 (fun _=>S0) ?_;refine uF 1 (fun _=>S0) ?_;refine uF 2 (fun _=>S0) ?_;refine uF 3 (fun _=>S0) ?_;refine uF 5 (fun _=>S0) ?_;refine uF 8 (fun _=>S0) ?_;refine uT 4 S0 ?_;refine uT 6 S0 ?_;refine uT 9 S0 ?_;refine aH (i:=7) (by kernel_rfl) rfl (fun K hK=> ?_);go_simp
 refine(dH z C y D e.1 _ HK.2.2.2.drew HK.len lk).mono ?_;rintro e' w1 ⟨A1,n1,d1,rfl,p1,p2,p3,p4,ae⟩;have PK:=aa (show SB w1 (From w.heap.size) (.slice A1 n1 d1) e.1 from⟨_,_,_,rfl,p1,p2,p3,p4.weak (fun b hb=>hb.1)⟩);have al:Hid (Below w.heap.size w w1):=aa ((Below.refl _ _).drew.trans ae);have S1:w1.cell? ⟨p,5,none⟩=some (.slice A n c)/\w1.cell? ⟨q,0,none⟩=some (.slice z C y)/\w1.cell? ⟨q,1,none⟩=some (.slice W R j):=⟨ak ae S0.1,ak ae S0.2.1,ak ae S0.2.2⟩;clear p1 p2 p3 p4 ae;refine hK.out _ _ (fun _=>S1) ?_;clear hK K;try simp only [aL,aN,aZ,aC]
 refine aH (i:=10) (by kernel_rfl) rfl (fun K hK=> ?_);go_simp
 refine(dH W R j D e.2 _ ((HV.below al).2.2.2) HV.len lv).mono ?_;rintro e' w2 ⟨A2,n2,d2,rfl,p1,p2,p3,p4,ab⟩;have ap:=al.out.size;have uG:=aa (show SB w2 (From w.heap.size) (.slice A2 n2 d2) e.2 from⟨_,_,_,rfl,p1,p2,p3,p4.weak (fun b hb=>Nat.le_trans ap hb.1)⟩);have an:Hid (Below w.heap.size w w2):=aa (al.out.trans (ab.mono ap));have l9:=aa (PK.below ab);have S2:w2.cell? ⟨p,5,none⟩=some (.slice A n c)/\w2.cell? ⟨q,0,none⟩=some (.slice z C y)/\w2.cell? ⟨q,1,none⟩=some (.slice W R j):=⟨ak ab S1.1,ak ab S1.2.1,ak ab S1.2.2⟩;clear p1 p2 p3 p4 ab;refine hK.out _ _ (fun _=>S2) ?_;clear hK K;try simp only [aL,aN,aZ,aC]
 refine uF 11 (fun _=>S2) ?_;refine aH (i:=12) (by kernel_rfl) rfl (fun K hK=> ?_);go_simp
 have ac:Below w2.heap.size w2 (w2.alloc (.cells #[.slice A1 n1 d1,.slice A2 n2 d2] 69)):=(Below.refl _ _).alloc (Nat.le_refl _) _;have am:Hid (Below w.heap.size w (w2.alloc (.cells #[.slice A1 n1 d1,.slice A2 n2 d2] 69))):=aa (an.out.trans (ac.mono an.size));have HU:=aa (l9.below ac);have HW:=aa (uG.below ac);have S3:(w2.alloc (.cells #[.slice A1 n1 d1,.slice A2 n2 d2] 69)).cell? ⟨p,5,none⟩=some (.slice A n c)/\(w2.alloc (.cells #[.slice A1 n1 d1,.slice A2 n2 d2] 69)).cell? ⟨q,0,none⟩=some (.slice z C y)/\(w2.alloc (.cells #[.slice A1 n1 d1,.slice A2 n2 d2] 69)).cell? ⟨q,1,none⟩=some (.slice W R j):=⟨ak ac S2.1,ak ac S2.2.1,ak ac S2.2.2⟩;refine hK.out _ _ (fun _=>S3) ?_;clear hK K;try simp only [aL,aN,aZ,aC]
 refine aH (i:=13) (by kernel_rfl) rfl (fun K hK=> ?_);refine aI _ rfl (.tmp 59) (.tmp 67) _ rfl 0 69 i0 _ 2 48 underlying58 aq kH kI kJ rfl (by omega) (.slice A n c) n us rfl (own_below HO am) (From w2.heap.size) (some ⟨w2.heap.size,0,none⟩) 1 1 [.slice A1 n1 d1,.slice A2 n2 d2] rfl (Rd.two w2 _ _ _) (by intro u hu;simp at hu;rcases hu with hu|hu<;>subst hu<;>rfl) (by simp only [maxLen];omega) (by omega) (by omega) ?_;intro x w4 dz ad ib;obtain⟨K4,EJ,ar,_,_⟩:=au dz;subst ar;have iV:=aa dz;have I9:=aa ad;have yL:=aa ib;have Hr:w4.cell? ⟨p,5,none⟩=some (.slice A n c):=(ag.of_grown ad).cell hT S3.1;have XQ:∀o,w4.frozen? ⟨p,o,none⟩=false:=((HB.below am).chg (ag.of_grown ad) hT).frozen;have S4:w4.cell? ⟨p,5,none⟩=some (.slice A n c)/\w4.cell? ⟨q,0,none⟩=some (.slice z C y)/\w4.cell? ⟨q,1,none⟩=some (.slice W R j):=⟨Hr,(ag.of_grown ad).cell ao S3.2.1,(ag.of_grown ad).cell ao S3.2.2⟩;clear dz ad ib;refine hK.out _ _ (fun _=>S4) ?_;clear hK K;try simp only [aL,aN,aZ,aC]
 refine uF 14 (fun _=>S4) ?_;refine uF 15 (fun _=>S4) ?_;refine aH (i:=16) (by kernel_rfl) rfl (fun K hK=> ?_);go_simp
 refine hK.out _ _ (fun h=>absurd h (by decide)) ?_;clear hK K;try simp only [aL,aN,aZ,aC]
 refine bS (by kernel_rfl) ?_ _;exact dP _ _ _ _ _ _ _ _ _ _ _ _ _ _ _ _ _ _ _ _ w4 am iV I9 yL HU HW
end Go.Proofs.YtepgcjbhabnciaaGreat
