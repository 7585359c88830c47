/- Part 40. -/
import Derived.Test.YtepgcjbhabnciaaGreatLe38
namespace Go.Proofs.YtepgcjbhabnciaaGreat
set_option maxRecDepth 100000
set_option maxHeartbeats 8000000
open Go.Proofs.Tryz Go.RowKit
open Go.Lib (compareBytes)
variable {nd lf inn fl bl x:Int} {w w' c:World} {F In G:Nat->Prop} {T:TypeId} {p:Nat} {l:List aK} {e:aK}
theorem Bd.grow (h:Bd w T F In p nd lf inn fl bl l) (d:Below w.heap.size w w'):Bd w' T (Grown F w w') In p nd lf inn fl bl l:=by
 obtain⟨A,n,c,us,j,k,m,o,q,r,s,t⟩:=h.below d;refine⟨A,n,c,us,.inl j,fun b f=>f.elim (k b) (fun h=>h.2),m,o,q,fun g y=> .inl (r g y),s,fun i e x=> ?_⟩;obtain⟨u,v,a,b,z,B⟩:=t i e x;exact⟨u,v,a,b,z.weak (fun b d=>⟨d.1.imp .inl id,d.2⟩),B.weak (fun b d=>⟨d.1.imp .inl id,d.2⟩)⟩
def ng (w:World) (T:TypeId) (F In:Nat->Prop) (p:Nat) (nd lf inn fl bl:Int) (l:List aK) (e:aK) (a:Ending) (w':World):Prop:=
 a= .returned (.int .i64 (jd nd lf inn fl bl l e))/\Bd w' T (Grown F w w') In p nd lf inn fl bl (uH nd lf inn fl bl l e)/\ag F w w'
theorem ng.stay (h:Bd w T F In p nd lf inn fl bl l) (a:Below w.heap.size w w') (b:jd nd lf inn fl bl l e=x) (c:x≠0):ng w T F In p nd lf inn fl bl l e (.returned (.int .i64 x)) w':=
 ⟨by rw [b],by unfold uH;rw [if_neg (by rw [b];exact c)];exact h.grow a,ag.of_below a⟩
theorem Bd.sub (h:Bd w T F In p nd lf inn fl bl l) (k:∀b,F b->G b) (t:∀b,G b->b<w.heap.size):Bd w T G In p nd lf inn fl bl l:=by
 obtain⟨A,n,c,us,f,C,j,m,o,q,r,s⟩:=h;refine⟨A,n,c,us,k _ f,t,j,m,o,fun g y=>k g (q g y),r,fun i e x=> ?_⟩;obtain⟨u,v,a,b,z,B⟩:=s i e x;exact⟨u,v,a,b,z.weak (fun b d=>⟨d.1.imp (k b) id,d.2⟩),B.weak (fun b d=>⟨d.1.imp (k b) id,d.2⟩)⟩
theorem ng.put (f:Below w.heap.size w c) (h:Bd w' T (Grown F c w') In p nd lf inn fl bl (l++ [e])) (g:ag F c w') (i:jd nd lf inn fl bl l e=0) (k:∀b,F b->b<w.heap.size):ng w T F In p nd lf inn fl bl l e (.returned (.int .i64 0)) w':=by
 have d:=f.size;have j:=g.size;exact⟨by rw [i],by unfold uH;rw [if_pos i];exact h.sub (fun b a=>a.elim .inl (fun h=> .inr ⟨Nat.le_trans d h.1,h.2⟩)) (fun b a=>a.elim (fun h=>Nat.lt_of_lt_of_le (k b h) (Nat.le_trans d j)) (fun h=>h.2)),(ag.of_below (S:=F) f).trans g (fun _ _ h=>h)⟩
theorem PL (F In D:Nat->Prop) (p:Nat) (nd lf inn fl bl:Int) (l:List aK) (e:aK) (z W:Option Addr) (C y R j:Nat) (w:World) (hB:Bd w 136 F In p nd lf inn fl bl l) (hc:dx nd lf inn fl bl) (ac:∀b,In b->b<w.heap.size) (h1:Bt w D z C y e.1) (h2:Bt w D W R j e.2) (l1:e.1.length<=1152921504606) (l2:e.2.length<=1152921504606) (hl:l.length<=1152921504) (ad:∀x∈l,x.1.length<=1152921504606):
  Calls prog 33 #[.pointer (some ⟨p,0,none⟩),.agg #[.slice z C y,.slice W R j]] w (ng w 136 F In p nd lf inn fl bl l e):=by
 have HB:=aa hB;obtain⟨A,n,c,us,b1,b2,b3,X,b5,b6,b7,b8⟩:=hB;have B2:=aa b2;have B4:=aa X;have s:=aa b5;have B6:=aa b6;have L:=b7;have B8:=aa b8;have HC:=aa hc;have E:=aa h1;have V:=aa h2;have HI:=aa ac;have am:=aa ad;have hn:n<=1152921504:=by have:=b7.out;omega
 have ae:(Value.slice A n c).ownBlock≠some p:=iy b5 X (by decide);have al:(Value.slice A n c).ownBlock≠some w.heap.size:=fun e=>by have:=(ah b5 _ e).2;omega
 have bY:p<w.heap.size:=X.lt;have p5:w.cell? ⟨p,5,none⟩=some (.slice A n c):=(X.cell 5).trans rfl;have bX:=X.frozen;clear hc b2 X b5 b6 b7 b8 ac h1 h2 ad
 rcases o9 e with Q|Q
 ·have M:=aa Q;have Ce:aj (w.alloc (.cells #[.slice z C y,.slice W R j] 69)) w.heap.size 69 #[.slice z C y,.slice W R j]:=aj.new _ _ _;have nU:=aa Ce;clear Q Ce
  rcases Nat.eq_zero_or_pos n with h0|h0
  ·have an:¬(0:Int)<(n:Int):=by omega
   have HK:Hid (¬(0<l.length/\0<=compareBytes (l.getD (l.length-1) ([],[])).1 e.1)):=aa (by have:=L.out;omega);go_enter func33,ntmps33
   go_wp2_with (first|(go_at_call 55;refine(nV z W C R y j e E.len V.len _).mono ?_;rintro e1 w1 ⟨rfl,k⟩;rw [M.out];have a:Hid (Below w.heap.size w w1):=aa (((Below.refl _ _).alloc (Nat.le_refl _) _).trans (k.mono (by simp)));have K:=aa (nU.below k);have J:=ak a p5;have x0:w1.cell? ⟨w.heap.size,0,none⟩=some (.slice z C y):=(K.out.cell 0).trans rfl;clear k))
   go_quiet (fail);rename_i nq;go_wp2;have I:Hid (Below w.heap.size w (w1.drewN nq)):=aa (below_drewN a nq);obtain⟨H,m⟩:∃x,x=w1.drewN nq:=⟨_,rfl⟩;rw [<-m] at I;have dR:Hid (aj H p 136 #[.int .i64 nd,.int .i64 lf,.int .i64 inn,.int .i64 fl,.int .i64 bl,.slice A n c]):=aa (B4.out.below I);have y0:H.cell? ⟨w.heap.size,0,none⟩=some (.slice z C y):=by rw [m];exact(K.cell 0).trans rfl
   have y1:H.cell? ⟨w.heap.size,1,none⟩=some (.slice W R j):=by rw [m];exact(K.cell 1).trans rfl
   first|rw [<-m]|skip
   clear x0 J m;obtain⟨G,P⟩:∃x,x=(bT nd lf inn fl bl ((n+1:Nat):Int)).2:=⟨_,rfl⟩;have Ph:Hid (jd nd lf inn fl bl l e=G):=aa (by unfold jd;rw [if_neg (by rw [M.out];decide),if_neg HK,P,L.out]);have gm:=aa P;clear P;refine nodes p nd lf inn fl bl A n c H _ (aa (fun _ _ _ _ h=>h)) HC (by omega) (LW dR) ?_;intro v6 ap aq ar aw ax aA aE a0 a1 a2 a3 a4 a5 a6 r o;rw [<-gm.out];have O:=aa o;have z0:=ak o y0;have z1:=ak o y1;have d:Hid (Below w.heap.size w r):=aa (I.out.trans (o.mono I.size));clear o y0 y1
   by_cases B:G=0
   ·have U:(G==0)=true:=by rw [beq_iff_eq];exact B
    have HZ:=aa B;clear B;go_wp2;refine Hw p w.heap.size 136 A n c us z W C y R j D e _ _ _ _ _ r _ (aa (fun _ _ _ _ h=>h)) (aa (dR.below O)) (aa (own_below s.out d)) ae (by omega) z0 z1 al (E.below d|>aa) (V.below d|>aa) l1 l2 ?_;intro a7 a8 a9 ba bb be bh bj bk bm bo bp bx bB bE bK u' v' x wa w4 mh Hy t ib su sv;have q:=Bd.push (F:=F) (In:=In) (T:=136) (l:=l) (e:=e) b1 (fun b f=>Nat.lt_of_lt_of_le (B2.out b f) d.size) b3 (B4.out.below d) (own_below s.out d) B6.out L (fun i x hx=>let⟨u,v,Y,Z,s1,s2⟩:=B8.out i x hx;⟨u,v,Y,Z,s1.below d,s2.below d⟩) mh Hy t ib (su.weak (fun b f=>⟨.inr (.inr f),fun e=>by have:=(ah (own_below s.out d) b e).2;have f:r.heap.size<=b:=f;omega,by have f:r.heap.size<=b:=f;have:=d.out.size;omega⟩)) (sv.weak (fun b f=>⟨.inr (.inr f),fun e=>by have:=(ah (own_below s.out d) b e).2;have f:r.heap.size<=b:=f;omega,by have f:r.heap.size<=b:=f;have:=d.out.size;omega⟩)) (fun b f=>Nat.lt_of_lt_of_le (HI b f) d.size);have HP:=aa q;clear q Hy t ib
    go_wp2;go_ret;exact ng.put d HP.1 HP.2 (by rw [Ph.out];exact HZ) B2.out
   ·have U:(G==0)=false:=by rw [beq_eq_false_iff_ne];exact B
    go_wp2;go_ret
    exact ng.stay HB d Ph B
  ·have an:(0:Int)<(n:Int):=by omega
   have bQ:(n:Int)<=1152921504:=by omega
   obtain⟨g,gc,hv,_,_⟩:=s.out.form h0;injection hv with hv _ ao
   subst hv;subst ao;have S:l.length-1<l.length:=by have:=L.out;omega
   obtain⟨u,v,u1,_,s1,_⟩:=B8.out (n-1) l[l.length-1] (by have e:=L.out;rw [e];exact List.getElem?_eq_getElem S);obtain⟨La,ln,lc,rfl,Y,Z,q3,q4⟩:=s1;have HL:Hid (l.getD (l.length-1) ([],[])=l[l.length-1]):=aa (by rw [List.getD_eq_getElem?_getD,List.getElem?_eq_getElem S];rfl);have Pi:Hid (Bt w (fun b=>(F b\/In b)/\(Value.slice (some ⟨g,0,none⟩) n c).ownBlock≠some b/\b≠p) La ln lc l[l.length-1].1):=aa ⟨Y,Z,q3,q4⟩;have bZ:l[l.length-1].1.length<=1152921504606:=am.out _ (List.getElem_mem S)
   have cl:w.cell? ⟨g,(n-1)*2,none⟩=some (.slice La ln lc):=by
    have h1:=s.out.1;rw [s.out.cellAt ((n-1)*2) (by omega),Nat.mul_comm];exact u1
   have bL:=IntWalk.i64_in ((n:Int)-1) (by omega);have bM:(0:Int)<=(n:Int)-1:=by omega
   have bN:((n:Int)-1)<n:=by omega
   have bO:((n:Int)-1).toNat=n-1:=by omega
   have bP:(1:Int)<=(n:Int):=by omega
   clear u1 Y Z q3 q4
   by_cases N:0<=compareBytes l[l.length-1].1 e.1
   ·have HA:Hid (jd nd lf inn fl bl l e=51):=aa (by unfold jd;rw [if_neg (by rw [M.out];decide),if_pos ⟨by have:=L.out;omega,by rw [HL.out];exact N⟩]);go_enter func33,ntmps33
    go_wp2_with (first|(go_at_call 55;refine(nV z W C R y j e E.len V.len _).mono ?_;rintro e1 w1 ⟨rfl,k⟩;rw [M.out];have a:Hid (Below w.heap.size w w1):=aa (((Below.refl _ _).alloc (Nat.le_refl _) _).trans (k.mono (by simp)));have K:=aa (nU.below k);have J:=ak a p5;have x0:w1.cell? ⟨w.heap.size,0,none⟩=some (.slice z C y):=(K.out.cell 0).trans rfl;have ab:=ak a cl;clear k))
    go_quiet ((go_at_call 56;exact eU (dE _ _ _ _ _ _ _ _ l[l.length-1].1 e.1 _ ((Pi.below a).2.2.2.drewN _) Pi.len ((E.below a).2.2.2.drewN _) E.len)));go_wp2;go_ret
    exact ng.stay HB (below_drewN a _) HA (by decide)
   ·have HK:Hid (¬(0<l.length/\0<=compareBytes (l.getD (l.length-1) ([],[])).1 e.1)):=aa (fun h=>N (by rw [HL.out] at h;exact h.2));go_enter func33,ntmps33
    go_wp2_with (first|(go_at_call 55;refine(nV z W C R y j e E.len V.len _).mono ?_;rintro e1 w1 ⟨rfl,k⟩;rw [M.out];have a:Hid (Below w.heap.size w w1):=aa (((Below.refl _ _).alloc (Nat.le_refl _) _).trans (k.mono (by simp)));have K:=aa (nU.below k);have J:=ak a p5;have x0:w1.cell? ⟨w.heap.size,0,none⟩=some (.slice z C y):=(K.out.cell 0).trans rfl;have ab:=ak a cl;clear k))
    go_quiet ((go_at_call 56;exact eU (dE _ _ _ _ _ _ _ _ l[l.length-1].1 e.1 _ ((Pi.below a).2.2.2.drewN _) Pi.len ((E.below a).2.2.2.drewN _) E.len)));rename_i nq;clear bL bM bN bO bP cl ab;go_wp2;have I:Hid (Below w.heap.size w (w1.drewN nq)):=aa (below_drewN a nq);obtain⟨H,m⟩:∃x,x=w1.drewN nq:=⟨_,rfl⟩;rw [<-m] at I;have dR:Hid (aj H p 136 #[.int .i64 nd,.int .i64 lf,.int .i64 inn,.int .i64 fl,.int .i64 bl,.slice (some ⟨g,0,none⟩) n c]):=aa (B4.out.below I);have y0:H.cell? ⟨w.heap.size,0,none⟩=some (.slice z C y):=by rw [m];exact(K.cell 0).trans rfl
    have y1:H.cell? ⟨w.heap.size,1,none⟩=some (.slice W R j):=by rw [m];exact(K.cell 1).trans rfl
    first|rw [<-m]|skip
    clear x0 J m;obtain⟨G,P⟩:∃x,x=(bT nd lf inn fl bl ((n+1:Nat):Int)).2:=⟨_,rfl⟩;have Ph:Hid (jd nd lf inn fl bl l e=G):=aa (by unfold jd;rw [if_neg (by rw [M.out];decide),if_neg HK,P,L.out]);have gm:=aa P;clear P;refine nodes p nd lf inn fl bl (some ⟨g,0,none⟩) n c H _ (aa (fun _ _ _ _ h=>h)) HC (by omega) (LW dR) ?_;intro v6 ap aq ar aw ax aA aE a0 a1 a2 a3 a4 a5 a6 r o;rw [<-gm.out];have O:=aa o;have z0:=ak o y0;have z1:=ak o y1;have d:Hid (Below w.heap.size w r):=aa (I.out.trans (o.mono I.size));clear o y0 y1
    by_cases B:G=0
    ·have U:(G==0)=true:=by rw [beq_iff_eq];exact B
     have HZ:=aa B;clear B;go_wp2;refine Hw p w.heap.size 136 (some ⟨g,0,none⟩) n c us z W C y R j D e _ _ _ _ _ r _ (aa (fun _ _ _ _ h=>h)) (aa (dR.below O)) (aa (own_below s.out d)) ae (by omega) z0 z1 al (E.below d|>aa) (V.below d|>aa) l1 l2 ?_;intro a7 a8 a9 ba bb be bh bj bk bm bo bp bx bB bE bK u' v' x wa w4 mh Hy t ib su sv;have q:=Bd.push (F:=F) (In:=In) (T:=136) (l:=l) (e:=e) b1 (fun b f=>Nat.lt_of_lt_of_le (B2.out b f) d.size) b3 (B4.out.below d) (own_below s.out d) B6.out L (fun i x hx=>let⟨u,v,Y,Z,s1,s2⟩:=B8.out i x hx;⟨u,v,Y,Z,s1.below d,s2.below d⟩) mh Hy t ib (su.weak (fun b f=>⟨.inr (.inr f),fun e=>by have:=(ah (own_below s.out d) b e).2;have f:r.heap.size<=b:=f;omega,by have f:r.heap.size<=b:=f;have:=d.out.size;omega⟩)) (sv.weak (fun b f=>⟨.inr (.inr f),fun e=>by have:=(ah (own_below s.out d) b e).2;have f:r.heap.size<=b:=f;omega,by have f:r.heap.size<=b:=f;have:=d.out.size;omega⟩)) (fun b f=>Nat.lt_of_lt_of_le (HI b f) d.size);have HP:=aa q;clear q Hy t ib
     go_wp2;go_ret;exact ng.put d HP.1 HP.2 (by rw [Ph.out];exact HZ) B2.out
    ·have U:(G==0)=false:=by rw [beq_eq_false_iff_ne];exact B
     go_wp2;go_ret
     exact ng.stay HB d Ph B
 ·have M:=aa Q;have HA:Hid (jd nd lf inn fl bl l e=3):=aa (by unfold jd;rw [if_pos (by rw [Q];decide)];exact Q);clear Q;go_enter func33,ntmps33
  go_wp2_with (first|(go_at_call 55;refine(nV z W C R y j e E.len V.len _).mono ?_;rintro e1 w1 ⟨rfl,k⟩;rw [M.out];have a:Hid (Below w.heap.size w w1):=aa (((Below.refl _ _).alloc (Nat.le_refl _) _).trans (k.mono (by simp)));clear k))
  go_ret
  exact ng.stay HB a HA (by decide)
theorem Bd.ents (h:Bd w T F In p nd lf inn fl bl l):∃A n c,aj w p T #[.int .i64 nd,.int .i64 lf,.int .i64 inn,.int .i64 fl,.int .i64 bl,.slice A n c]/\bz w (fun b=>F b\/In b) A n l/\n<=c/\c<=maxLen:=by
 obtain⟨A,n,c,us,z,B,C,j,f,k,m,o⟩:=h;obtain⟨_,_,e,s,t⟩:=au f;injection e with _ _ e
 subst e;exact⟨A,n,_,j,⟨m,us,o7 f (fun g r=> .inl (k g r)),fun i e q=>let⟨u,v,a,b,x,y⟩:=o i e q;⟨u,v,a,b,x.weak (fun b d=>d.1),y.weak (fun b d=>d.1)⟩⟩,s,t⟩
def YN (w:World) (T:TypeId) (nd lf inn fl bl:Int) (In:Nat->Prop) (e:Ending) (w':World):Prop:=
 ∃p,e= .returned (.tuple #[.pointer (some ⟨p,0,none⟩),.int .i64 0])/\Bd w' T (fun b=>w.heap.size<=b/\b<w'.heap.size) In p nd lf inn fl bl []/\Below w.heap.size w w'
theorem Uw (a:F p) (c:∀b,F b->b<w.heap.size) (d:T≠69) (f:aj w p T #[.int .i64 nd,.int .i64 lf,.int .i64 inn,.int .i64 fl,.int .i64 bl,.slice none 0 0]):Bd w T F In p nd lf inn fl bl []:=
 ⟨none,0,0,[],a,c,d,f,World.ownsRow_nil _ _ _ _,fun g j=>by simp [Value.ownBlock] at j,rfl,fun i e h=>by simp at h⟩
theorem Ip (nd lf inn fl bl:Int) (In:Nat->Prop) (w:World) (g:dx nd lf inn fl bl):Calls prog 25 #[.agg #[.int .i64 nd,.int .i64 lf,.int .i64 inn,.int .i64 fl,.int .i64 bl]] w (YN w 136 nd lf inn fl bl In):=by
 have d:=aa (Af g);clear g;go_enter func25,ntmps25
 go_wp2_with (go_at_call 50;refine(uY nd lf inn fl bl _).mono ?_;rintro e w1 ⟨rfl,c⟩;rw [d.out];have a:Hid (Below w.heap.size w w1):=aa (((Below.refl _ _).alloc (Nat.le_refl _) _).trans (c.mono (by simp)));have h:=aa ((aj.new w 23 #[.int .i64 nd,.int .i64 lf,.int .i64 inn,.int .i64 fl,.int .i64 bl]).below c);obtain⟨i,j,k,l,m⟩:=CR h;clear c)
 go_ret2
 exact⟨_,rfl,Uw ⟨a.size,by simp⟩ (fun b f=>f.2) (by decide) (aj.new _ _ _),a.alloc a.size _⟩
def YO (w:World) (T:TypeId) (F In:Nat->Prop) (p:Nat) (nd lf inn fl bl:Int) (t:List bR×Int) (b:Ending) (w':World):Prop:=
 ∃a,b= .returned (.pointer (some ⟨a,0,none⟩))/\gM w' (From w.heap.size) a nd t.1 t.2/\Bd w' T F In p nd lf inn fl bl []/\ag F w w'
theorem Js (nd lf inn fl bl:Int) (A:Option Addr) (n c:Nat) (d:Nat->Prop) (l:List aK) (w:World) (hok:(dW nd lf inn fl bl l).1=0) (g:bz w d A n l) (Q:n<=c) (P:c<=maxLen) (T:n<=1152921504606)
  (b:∀e∈l,e.1.length<=1152921504606/\e.2.length<=1152921504606):
  Calls prog 54 #[.agg #[.int .i64 nd,.int .i64 lf,.int .i64 inn,.int .i64 fl,.int .i64 bl],.slice A n c] w (uw w nd (bD fl.toNat inn.toNat l)):=by
 obtain⟨a,h⟩:=Jt hok;obtain⟨i,rfl⟩:∃i:Nat,inn=i:=⟨inn.toNat,by unfold dx at a;omega⟩;obtain⟨f,rfl⟩:∃f:Nat,fl=f:=⟨fl.toNat,by unfold dx at a;omega⟩;exact MH nd lf bl i f A n c d l w a g Q P T b (by rw [g.len];exact h)
noncomputable def YP:Code:=aV (f32.body.bind (aJ 1))
theorem Ju (F:Nat->Prop) (p:Nat) (nd lf inn fl bl:Int) (l:List aK) (A:Option Addr) (n c:Nat) (w:World) {u1 J L H v d B r u9 M E I:Value} {S:List Value} (Q:Exit->Act->World->Prop) (mQ:Hid (∀c t (a:Act) w,Q (.panic c) ⟨t,a.defers⟩ w->Q (.panic c) a w))
  (z:Hid ((dW nd lf inn fl bl l).1=0)) (s:Hid (bz w F A n l)) (hnc:n<=c) (P:c<=maxLen) (T:n<=1152921504606) (u:Hid (∀e∈l,e.1.length<=1152921504606/\e.2.length<=1152921504606)) (q:Bc p nd lf inn fl bl (.slice A n c) w)
  (m:∀(C D G N O R g h j:Value) (a:Nat) (w':World),Below w.heap.size w w'->gM w' (From w.heap.size) a nd (bD fl.toNat inn.toNat l).1 (bD fl.toNat inn.toNat l).2->Q .normal ⟨(.pointer (some ⟨p,0,none⟩)::u1::J:: .pointer (some ⟨a,0,none⟩)::C::D::G::N::O::R::g::h::j::S).toArray,[]⟩ w'):
  Code.wp prog YP Q ⟨(.pointer (some ⟨p,0,none⟩)::u1::J::L::H::v::d::B::r::u9::M::E::I::S).toArray,[]⟩ w:=by
 have x:=aa m;have b:Bc p nd lf inn fl bl (.slice A n c) w.drew:=q;clear m q;conv=>arg 2;whnf
 refine aU (Bc p nd lf inn fl bl (.slice A n c)) (by kernel_rfl) ?_;refine vT 0 b ?_;refine vT 1 b ?_;refine vT 2 b ?_;refine vT 4 b ?_;refine vT 5 b ?_;refine vT 6 b ?_;refine vT 3 b ?_;refine vT 7 b ?_;refine aO (i:=8) (by kernel_rfl) rfl (fun K o=> ?_);go_simp
 refine(Js nd lf inn fl bl A n c F l _ z (s.below (Below.refl _ _).drew) hnc P T u).mono ?_;rintro e U ⟨a,rfl,y,f⟩;have k:=b.below f;refine o.out _ _ k ?_;clear o K;try simp only [aL,aN,aZ,aC]
 refine vT 9 k ?_;refine bG (by kernel_rfl) ?_ _;exact x _ _ _ _ _ _ _ _ _ a _ ((Below.refl _ _).drew.trans f) y
theorem MR (F In:Nat->Prop) (p:Nat) (nd lf inn fl bl:Int) (l:List aK) (w:World) (m:Bd w 136 F In p nd lf inn fl bl l) (hok:(dW nd lf inn fl bl l).1=0) (hl:l.length<=1152921504606) (j:∀e∈l,e.1.length<=1152921504606/\e.2.length<=1152921504606):
  Calls prog 32 #[.pointer (some ⟨p,0,none⟩)] w (YO w 136 F In p nd lf inn fl bl (bD fl.toNat inn.toNat l)):=by
 have v:=aa m;obtain⟨A,n,c,d,q,s,r⟩:=m.ents;have o:=aa d;have x:=aa q;have y:=aa j;have E:=aa hok;have B:n<=1152921504606:=by have:=q.len;omega
 have C:F p:=by obtain⟨_,_,_,_,h,_⟩:=m;exact h
 clear m d q j hok;go_enter func32,ntmps32
 go_wp2;refine Ju _ p nd lf inn fl bl l A n c w _ (aa (fun _ _ _ _ h=>h)) E x s r B y (LW o) ?_
 intro L M N O P Q G H I a w1 f k;have g:=aa f;have z:=aa k;have u:=aa (o.below f);have J:w1.cell? ⟨p,5,none⟩=some (.slice A n c):=(u.out.cell 5).trans rfl;have K:=u.out.frozen;have D:p<w.heap.size:=o.out.lt;clear f k;go_wp2;go_ret
 have i:=ag.set1 w1 p 5 (.slice none 0 0);exact⟨a,rfl,z.chg i (fun b t e=>by have t:w.heap.size<=b:=t;have e:b=p:=e;omega),(v.below g).empty,(ag.of_below (S:=F) g).trans i (fun b _ e=>(show b=p from e)▸C)⟩
end Go.Proofs.YtepgcjbhabnciaaGreat
