/- Part 35. -/
import Derived.Test.YtepgcjbhabnciaaGreatLp34
namespace Go.Proofs.YtepgcjbhabnciaaGreat
set_option maxRecDepth 100000
set_option maxHeartbeats 8000000
open Go.Proofs.Tryz Go.RowKit
open Go.Lib (compareBytes)
variable {u1 y B J s u u7 L E O W Z U f C:Value} {p G z r cv n c:Nat} {nd lf inn fl bl x:Int} {F In D q:Nat->Prop} {w w' d:World} {j k A:Option Addr} {T:TypeId} {l:List aR} {e:aR} {Y:List Value} {Q:Exit->Act->World->Prop}
theorem Bd.grow (h:Bd w T F In p nd lf inn fl bl l) (o:Below w w w'):Bd w' T (Grown F w w') In p nd lf inn fl bl l:=by
 obtain⟨A,n,c,us,f,j,k,m,q,r,s,t⟩:=h.below o;refine⟨A,n,c,us,.inl f,fun b d=>d.elim (j b) (fun h=>h.2),k,m,q,fun g y=> .inl (r g y),s,fun i e x=> ?_⟩;obtain⟨u,v,a,b,z,B⟩:=t i e x;exact⟨u,v,a,b,z.weak (fun b o=>⟨o.1.imp .inl id,o.2⟩),B.weak (fun b o=>⟨o.1.imp .inl id,o.2⟩)⟩
def jl (w:World) (T:TypeId) (F In:Nat->Prop) (p:Nat) (nd lf inn fl bl:Int) (l:List aR) (e:aR) (a:Ending) (w':World):Prop:=
 a= .returned (.int .i64 (iH nd lf inn fl bl l e))/\Bd w' T (Grown F w w') In p nd lf inn fl bl (vG nd lf inn fl bl l e)/\ag F w w'
theorem jl.stay (h:Bd w T F In p nd lf inn fl bl l) (o:Below w w w') (a:iH nd lf inn fl bl l e=x) (b:x≠0):jl w T F In p nd lf inn fl bl l e (.returned x) w':=
 ⟨by rw [a],by unfold vG;rw [if_neg (by rw [a];exact b)];exact h.grow o,ag.of_below o⟩
theorem Bd.sub {G:Nat->Prop} (h:Bd w T F In p nd lf inn fl bl l) (K:∀b,F b->G b) (s:∀b,G b->b<w):Bd w T G In p nd lf inn fl bl l:=by
 obtain⟨A,n,c,us,f,B,j,k,m,o,q,r⟩:=h;refine⟨A,n,c,us,K _ f,s,j,k,m,fun g x=>K g (o g x),q,fun i e t=> ?_⟩;obtain⟨u,v,a,b,y,z⟩:=r i e t;exact⟨u,v,a,b,y.weak (fun b d=>⟨d.1.imp (K b) id,d.2⟩),z.weak (fun b d=>⟨d.1.imp (K b) id,d.2⟩)⟩
theorem jl.put (g:Below w w d) (h:Bd w' T (Grown F d w') In p nd lf inn fl bl (l++ [e])) (hc:ag F d w') (i:iH nd lf inn fl bl l e=0) (a:∀b,F b->b<w):jl w T F In p nd lf inn fl bl l e (.returned (.int .i64 0)) w':=by
 have f:=g.size;have j:=hc.size;exact⟨by rw [i],by unfold vG;rw [if_pos i];exact h.sub (fun b c=>c.elim .inl (fun h=> .inr ⟨ma f h.1,h.2⟩)) (fun b c=>c.elim (fun h=>mU (a b h) (ma f j)) (fun h=>h.2)),(ag.of_below (S:=F) g).trans hc (fun _ _ h=>h)⟩
theorem Uw (hB:Bd w 136 F In p nd lf inn fl bl l) (hc:bq nd lf inn fl bl) (ac:∀b,In b->b<w) (h1:Bt w D j z G e.1) (h2:Bt w D k r cv e.2) (l1:e.1.length<=1152921504606) (l2:e.2.length<=1152921504606) (hl:l.length<=1152921504) (ad:∀x∈l,x.1.length<=1152921504606):
  Calls prog 33 #[p,.agg #[.slice j z G,.slice k r cv]] w (jl w 136 F In p nd lf inn fl bl l e):=by
 have HB:=aa hB;obtain⟨A,n,c,us,b1,b2,b3,W,b5,b6,b7,b8⟩:=hB;have B2:=aa b2;have B4:=aa W;have t:=aa b5;have B6:=aa b6;have M:=b7;have B8:=aa b8;have HC:=aa hc;have E:=aa h1;have V:=aa h2;have HI:=aa ac;have am:=aa ad;have hn:n<=1152921504:=by have:=b7.out;omega
 have ae:(Value.slice A n c).ownBlock≠some p:=fT b5 W (by decide);have al:(Value.slice A n c).ownBlock≠some w:=fun e=>by have:=(ah b5 _ e).2;omega
 have bU:p<w:=W.lt;have p5:w.cell? ⟨p,5,none⟩=some (.slice A n c):=(W.cell 5).trans rfl;have bT:=W.frozen;clear hc b2 W b5 b6 b7 b8 ac h1 h2 ad
 rcases nY e with Q|Q
 ·have N:=aa Q;have Ff:ak (w.alloc (.cells #[.slice j z G,.slice k r cv] 69)) w 69 #[.slice j z G,.slice k r cv]:=ak.new _ _ _;have lU:=aa Ff;clear Q Ff
  rcases Nat.eq_zero_or_pos n with h0|h0
  ·have an:¬(0:Int)<(n:Int):=by omega
   have HK:Hid (¬(0<l.length/\0<=compareBytes (l.getD (l.length-1) ([],[])).1 e.1)):=aa (by have:=M.out;omega);go_enter func33,ntmps33;go_wp2_with (first|(go_at_call 55;refine(qj j k z r G cv e E.len V.len _).mono ?_;rintro e1 w1 ⟨rfl,m⟩;rw [N.out];have a:Hid (Below w w w1):=aa (gV.trans (m.mono (by simp)));have K:=aa (lU.below m);have L:=aj a p5;have x0:w1.cell? w=some (.slice j z G):=(K.out.cell 0).trans rfl;clear m))
   go_quiet (fail);rename_i nq;go_wp2;have J:Hid (Below w w (w1.drewN nq)):=aa (below_drewN a nq);obtain⟨I,o⟩:=gF (w1.drewN nq);rw [<-o] at J;have dE:Hid (ak I p 136 #[nd,lf,inn,fl,bl,.slice A n c]):=aa (B4.out.below J);have y0:I.cell? w=some (.slice j z G):=by rw [o];exact(K.cell 0).trans rfl
   have y1:I.cell? ⟨w,1,none⟩=some (.slice k r cv):=by rw [o];exact(K.cell 1).trans rfl
   first|rw [<-o]|skip
   clear x0 L o;obtain⟨H,U⟩:=gF ((aT nd lf inn fl bl ((n+1:Nat):Int)).2);have De:Hid (iH nd lf inn fl bl l e=H):=aa (by unfold iH;rw [if_neg (by rw [N.out];decide),if_neg HK,U,M.out]);have iq:=aa U;clear U;refine nodes p nd lf inn fl bl A n c I _ (aa (fun _ _ _ _ h=>h)) HC (by omega) (BM dE) ?_;intro v6 ap aq ar au aw aA aE a0 a1 a2 a3 a4 a5 a6 C q;rw [<-iq.out];have P:=aa q;have z0:=aj q y0;have z1:=aj q y1;have d:Hid (Below w w C):=aa (J.out.trans (q.mono J.size));clear q y0 y1
   by_cases B:H=0
   ·have S:(H==0)=true:=by rw [beq_iff_eq];exact B
    have HZ:=aa B;clear B;go_wp2;refine LC 136 (aa (fun _ _ _ _ h=>h)) (aa (dE.below P)) (aa (own_below t.out d)) ae (by omega) z0 z1 al (E.below d|>aa) (V.below d|>aa) l1 l2 ?_;intro a7 a8 a9 ba be bh bj bk bm bo bp bx bz bE bF bG u' v' x wa w4 fM Z y gp su sv;have s:=Bd.push (F:=F) (In:=In) (T:=136) (l:=l) (e:=e) b1 (fun b f=>mU (B2.out b f) d.size) b3 (B4.out.below d) (own_below t.out d) B6.out M (fun i x hx=>let⟨u,v,X,Y,s1,s2⟩:=B8.out i x hx;⟨u,v,X,Y,s1.below d,s2.below d⟩) fM Z y gp (su.weak (fun b f=>⟨.inr (.inr f),fun e=>by have:=(ah (own_below t.out d) b e).2;have f:C<=b:=f;omega,by have f:C<=b:=f;have:=d.out.size;omega⟩)) (sv.weak (fun b f=>⟨.inr (.inr f),fun e=>by have:=(ah (own_below t.out d) b e).2;have f:C<=b:=f;omega,by have f:C<=b:=f;have:=d.out.size;omega⟩)) (fun b f=>mU (HI b f) d.size);have HP:=aa s;clear s Z y gp
    go_wp2;go_ret;exact jl.put d HP.1 HP.2 (by rw [De.out];exact HZ) B2.out
   ·have S:(H==0)=false:=by rw [mi];exact B
    go_wp2;go_ret
    exact jl.stay HB d De B
  ·have an:(0:Int)<(n:Int):=by omega
   have bQ:(n:Int)<=1152921504:=by omega
   obtain⟨g,gc,hv,_,_⟩:=t.out.form h0;injection hv with hv _ ao;subst hv;subst ao;have R:l.length-1<l.length:=by have:=M.out;omega
   obtain⟨u,v,u1,_,s1,_⟩:=B8.out (n-1) l[l.length-1] (by have e:=M.out;rw [e];exact mP R);obtain⟨La,ln,lc,rfl,X,Y,q3,q4⟩:=s1;have HL:Hid (l.getD (l.length-1) ([],[])=l[l.length-1]):=aa (by rw [List.getD_eq_getElem?_getD,mP R];rfl);have Fg:Hid (Bt w (fun b=>(F b\/In b)/\(Value.slice (some ⟨g,0,none⟩) n c).ownBlock≠some b/\b≠p) La ln lc l[l.length-1].1):=aa ⟨X,Y,q3,q4⟩;have bX:l[l.length-1].1.length<=1152921504606:=am.out _ (List.getElem_mem R)
   have cl:w.cell? ⟨g,(n-1)*2,none⟩=some (.slice La ln lc):=by
    have h1:=t.out.1;rw [t.out.cellAt ((n-1)*2) (by omega),Nat.mul_comm];exact u1
   have bI:=IntWalk.i64_in ((n:Int)-1) (by omega);have YL:(0:Int)<=(n:Int)-1:=by omega
   have bL:((n:Int)-1)<n:=by omega
   have bN:((n:Int)-1).toNat=n-1:=by omega
   have bP:(1:Int)<=(n:Int):=by omega
   clear u1 X Y q3 q4
   by_cases O:0<=compareBytes l[l.length-1].1 e.1
   ·have HA:Hid (iH nd lf inn fl bl l e=51):=aa (by unfold iH;rw [if_neg (by rw [N.out];decide),if_pos ⟨by have:=M.out;omega,by rw [HL.out];exact O⟩]);go_enter func33,ntmps33;go_wp2_with (first|(go_at_call 55;refine(qj j k z r G cv e E.len V.len _).mono ?_;rintro e1 w1 ⟨rfl,m⟩;rw [N.out];have a:Hid (Below w w w1):=aa (gV.trans (m.mono (by simp)));have K:=aa (lU.below m);have L:=aj a p5;have x0:w1.cell? w=some (.slice j z G):=(K.out.cell 0).trans rfl;have ab:=aj a cl;clear m))
    go_quiet ((go_at_call 56;exact dX (eu _ _ (xs:=l[l.length-1].1) ((Fg.below a).2.2.2.drewN _) Fg.len ((E.below a).2.2.2.drewN _) E.len)));go_wp2;go_ret
    exact jl.stay HB (below_drewN a _) HA (by decide)
   ·have HK:Hid (¬(0<l.length/\0<=compareBytes (l.getD (l.length-1) ([],[])).1 e.1)):=aa (fun h=>O (by rw [HL.out] at h;exact h.2));go_enter func33,ntmps33;go_wp2_with (first|(go_at_call 55;refine(qj j k z r G cv e E.len V.len _).mono ?_;rintro e1 w1 ⟨rfl,m⟩;rw [N.out];have a:Hid (Below w w w1):=aa (gV.trans (m.mono (by simp)));have K:=aa (lU.below m);have L:=aj a p5;have x0:w1.cell? w=some (.slice j z G):=(K.out.cell 0).trans rfl;have ab:=aj a cl;clear m))
    go_quiet ((go_at_call 56;exact dX (eu _ _ (xs:=l[l.length-1].1) ((Fg.below a).2.2.2.drewN _) Fg.len ((E.below a).2.2.2.drewN _) E.len)));rename_i nq;clear bI YL bL bN bP cl ab;go_wp2;have J:Hid (Below w w (w1.drewN nq)):=aa (below_drewN a nq);obtain⟨I,o⟩:=gF (w1.drewN nq);rw [<-o] at J;have dE:Hid (ak I p 136 #[nd,lf,inn,fl,bl,.slice (some ⟨g,0,none⟩) n c]):=aa (B4.out.below J);have y0:I.cell? w=some (.slice j z G):=by rw [o];exact(K.cell 0).trans rfl
    have y1:I.cell? ⟨w,1,none⟩=some (.slice k r cv):=by rw [o];exact(K.cell 1).trans rfl
    first|rw [<-o]|skip
    clear x0 L o;obtain⟨H,U⟩:=gF ((aT nd lf inn fl bl ((n+1:Nat):Int)).2);have De:Hid (iH nd lf inn fl bl l e=H):=aa (by unfold iH;rw [if_neg (by rw [N.out];decide),if_neg HK,U,M.out]);have iq:=aa U;clear U;refine nodes p nd lf inn fl bl (some ⟨g,0,none⟩) n c I _ (aa (fun _ _ _ _ h=>h)) HC (by omega) (BM dE) ?_;intro v6 ap aq ar au aw aA aE a0 a1 a2 a3 a4 a5 a6 C q;rw [<-iq.out];have P:=aa q;have z0:=aj q y0;have z1:=aj q y1;have d:Hid (Below w w C):=aa (J.out.trans (q.mono J.size));clear q y0 y1
    by_cases B:H=0
    ·have S:(H==0)=true:=by rw [beq_iff_eq];exact B
     have HZ:=aa B;clear B;go_wp2;refine LC 136 (A:=some ⟨g,0,none⟩) (aa (fun _ _ _ _ h=>h)) (aa (dE.below P)) (aa (own_below t.out d)) ae (by omega) z0 z1 al (E.below d|>aa) (V.below d|>aa) l1 l2 ?_;intro a7 a8 a9 ba be bh bj bk bm bo bp bx bz bE bF bG u' v' x wa w4 fM Z y gp su sv;have s:=Bd.push (F:=F) (In:=In) (T:=136) (l:=l) (e:=e) b1 (fun b f=>mU (B2.out b f) d.size) b3 (B4.out.below d) (own_below t.out d) B6.out M (fun i x hx=>let⟨u,v,X,Y,s1,s2⟩:=B8.out i x hx;⟨u,v,X,Y,s1.below d,s2.below d⟩) fM Z y gp (su.weak (fun b f=>⟨.inr (.inr f),fun e=>by have:=(ah (own_below t.out d) b e).2;have f:C<=b:=f;omega,by have f:C<=b:=f;have:=d.out.size;omega⟩)) (sv.weak (fun b f=>⟨.inr (.inr f),fun e=>by have:=(ah (own_below t.out d) b e).2;have f:C<=b:=f;omega,by have f:C<=b:=f;have:=d.out.size;omega⟩)) (fun b f=>mU (HI b f) d.size);have HP:=aa s;clear s Z y gp
     go_wp2;go_ret;exact jl.put d HP.1 HP.2 (by rw [De.out];exact HZ) B2.out
    ·have S:(H==0)=false:=by rw [mi];exact B
     go_wp2;go_ret
     exact jl.stay HB d De B
 ·have N:=aa Q;have HA:Hid (iH nd lf inn fl bl l e=3):=aa (by unfold iH;rw [if_pos (by rw [Q];decide)];exact Q);clear Q;go_enter func33,ntmps33;go_wp2_with (first|(go_at_call 55;refine(qj j k z r G cv e E.len V.len _).mono ?_;rintro e1 w1 ⟨rfl,m⟩;rw [N.out];have a:Hid (Below w w w1):=aa (gV.trans (m.mono (by simp)));clear m))
  go_ret
  exact jl.stay HB a HA (by decide)
theorem Rv (hB:Bd w 89 F In p nd lf inn fl bl l) (hc:bq nd lf inn fl bl) (E:∀b,In b->b<w/\¬F b) (h1:Bt w In j z G e.1) (h2:Bt w In k r cv e.2) (_l1:e.1.length<=1152921504606) (_l2:e.2.length<=1152921504606) (hl:l.length<=1152921504) (ac:∀x∈l,x.1.length<=1152921504606):
  Calls prog 37 #[p,.agg #[.slice j z G,.slice k r cv]] w (jl w 89 F In p nd lf inn fl bl l e):=by
 have HB:=aa hB;obtain⟨A,n,c,us,b1,b2,b3,X,b5,b6,b7,b8⟩:=hB;have B2:=aa b2;have B4:=aa X;have M:=aa b5;have B6:=aa b6;have J:=b7;have B8:=aa b8;have HC:=aa hc;have B:=aa h1;have W:=aa h2;have HI:Hid (∀b,In b->b<w):=aa (fun b f=>(E b f).1);have HN:Hid (∀b,In b->(Value.slice A n c).ownBlock≠some b/\b≠p):=aa (fun b f=>⟨fun e=>(E b f).2 (b6 b e),fun e=>(E b f).2 (e▸b1)⟩);have al:=aa ac;have hn:n<=1152921504:=by have:=b7.out;omega
 have ad:(Value.slice A n c).ownBlock≠some p:=fT b5 X (by decide);have ae:(Value.slice A n c).ownBlock≠some w:=fun e=>by have:=(ah b5 _ e).2;omega
 have bG:p<w:=X.lt;have p5:w.cell? ⟨p,5,none⟩=some (.slice A n c):=(X.cell 5).trans rfl;have bF:=X.frozen;clear hc b2 X b5 b6 b7 b8 E h1 h2 ac
 rcases nY e with Q|Q
 ·have K:=aa Q;have Ff:ak (w.alloc (.cells #[.slice j z G,.slice k r cv] 69)) w 69 #[.slice j z G,.slice k r cv]:=ak.new _ _ _;have lU:=aa Ff;clear Q Ff
  rcases Nat.eq_zero_or_pos n with h0|h0
  ·have am:¬(0:Int)<(n:Int):=by omega
   have HK:Hid (¬(0<l.length/\0<=compareBytes (l.getD (l.length-1) ([],[])).1 e.1)):=aa (by have:=J.out;omega);go_enter func37,ntmps37;go_wp2_with (first|(go_at_call 70;refine(fZ j k z r G cv e B.len W.len _).mono ?_;rintro e1 w1 ⟨rfl,d⟩;rw [K.out];have a:Hid (Below w w w1):=aa (gV.trans (d.mono (by simp)));have H:=aa (lU.below d);have I:=aj a p5;have x0:w1.cell? w=some (.slice j z G):=(H.out.cell 0).trans rfl;clear d))
   go_quiet (fail);rename_i nq;go_wp2;have D:Hid (Below w w (w1.drewN nq)):=aa (below_drewN a nq);obtain⟨O,o⟩:=gF (w1.drewN nq);rw [<-o] at D;have dE:Hid (ak O p 89 #[nd,lf,inn,fl,bl,.slice A n c]):=aa (B4.out.below D);have y0:O.cell? w=some (.slice j z G):=by rw [o];exact(H.cell 0).trans rfl
   have y1:O.cell? ⟨w,1,none⟩=some (.slice k r cv):=by rw [o];exact(H.cell 1).trans rfl
   first|rw [<-o]|skip
   clear x0 I o;obtain⟨C,U⟩:=gF ((aT nd lf inn fl bl ((n+1:Nat):Int)).2);have De:Hid (iH nd lf inn fl bl l e=C):=aa (by unfold iH;rw [if_neg (by rw [K.out];decide),if_neg HK,U,J.out]);have iq:=aa U;clear U;refine Qa (aa (fun _ _ _ _ h=>h)) HC (by omega) (BM dE) ?_;intro ao ap aq ar au aw aA aE a0 a1 a2 a3 a4 a5 w3 q;rw [<-iq.out];have N:=aa q;have z0:=aj q y0;have z1:=aj q y1;have m:Hid (Below w w w3):=aa (D.out.trans (q.mono D.size));clear q y0 y1
   by_cases y:C=0
   ·have S:(C==0)=true:=by rw [beq_iff_eq];exact y
    have HZ:=aa y;clear y;go_wp2;refine Fe 89 (aa (fun _ _ _ _ h=>h)) (aa (dE.below N)) (aa (own_below M.out m)) ad (by omega) z0 z1 ae ?_;intro a6 a7 a8 a9 ba be bh bj bk bm x wa w4 P BN t gp;have s:=Bd.push (F:=F) (In:=In) (T:=89) (l:=l) (e:=e) b1 (fun b f=>mU (B2.out b f) m.size) b3 (B4.out.below m) (own_below M.out m) B6.out J (fun i x hx=>let⟨u,v,Y,Z,s1,s2⟩:=B8.out i x hx;⟨u,v,Y,Z,s1.below m,s2.below m⟩) P BN t gp (((B.below m).below P).weak (fun b f=>⟨.inr (.inl f),HN b f⟩)).sb (((W.below m).below P).weak (fun b f=>⟨.inr (.inl f),HN b f⟩)).sb (fun b f=>mU (HI b f) m.size);have HP:=aa s;clear s BN t gp
    go_wp2;go_ret;have hN:=HZ.out;subst hN;exact jl.put m HP.1 HP.2 (De.out.trans HZ) B2.out
   ·have S:(C==0)=false:=by rw [mi];exact y
    go_wp2;go_ret
    exact jl.stay HB m De y
  ·have am:(0:Int)<(n:Int):=by omega
   have bE:(n:Int)<=1152921504:=by omega
   obtain⟨g,gc,hv,_,_⟩:=M.out.form h0;injection hv with hv _ an;subst hv;subst an;have R:l.length-1<l.length:=by have:=J.out;omega
   obtain⟨u,v,u1,_,s1,_⟩:=B8.out (n-1) l[l.length-1] (by have e:=J.out;rw [e];exact mP R);obtain⟨La,ln,lc,rfl,Y,Z,q3,q4⟩:=s1;have HL:Hid (l.getD (l.length-1) ([],[])=l[l.length-1]):=aa (by rw [List.getD_eq_getElem?_getD,mP R];rfl);have V:Hid (Bt w (fun b=>(F b\/In b)/\(Value.slice (some ⟨g,0,none⟩) n c).ownBlock≠some b/\b≠p) La ln lc l[l.length-1].1):=aa ⟨Y,Z,q3,q4⟩;have bI:l[l.length-1].1.length<=1152921504606:=al.out _ (List.getElem_mem R)
   have cl:w.cell? ⟨g,(n-1)*2,none⟩=some (.slice La ln lc):=by
    have h1:=M.out.1;rw [M.out.cellAt ((n-1)*2) (by omega),Nat.mul_comm];exact u1
   have bo:=IntWalk.i64_in ((n:Int)-1) (by omega);have YL:(0:Int)<=(n:Int)-1:=by omega
   have bp:((n:Int)-1)<n:=by omega
   have bx:((n:Int)-1).toNat=n-1:=by omega
   have bz:(1:Int)<=(n:Int):=by omega
   clear u1 Y Z q3 q4
   by_cases L:0<=compareBytes l[l.length-1].1 e.1
   ·have HA:Hid (iH nd lf inn fl bl l e=51):=aa (by unfold iH;rw [if_neg (by rw [K.out];decide),if_pos ⟨by have:=J.out;omega,by rw [HL.out];exact L⟩]);go_enter func37,ntmps37;go_wp2_with (first|(go_at_call 70;refine(fZ j k z r G cv e B.len W.len _).mono ?_;rintro e1 w1 ⟨rfl,d⟩;rw [K.out];have a:Hid (Below w w w1):=aa (gV.trans (d.mono (by simp)));have H:=aa (lU.below d);have I:=aj a p5;have x0:w1.cell? w=some (.slice j z G):=(H.out.cell 0).trans rfl;have ab:=aj a cl;clear d))
    go_quiet ((go_at_call 68;exact Calls.quiet_of (dC _ _ (xs:=l[l.length-1].1) ((V.below a).2.2.2.drewN _) V.len ((B.below a).2.2.2.drewN _) B.len (by have:=V.out.len;omega))));go_wp2;go_ret
    exact jl.stay HB (below_drewN a _) HA (by decide)
   ·have HK:Hid (¬(0<l.length/\0<=compareBytes (l.getD (l.length-1) ([],[])).1 e.1)):=aa (fun h=>L (by rw [HL.out] at h;exact h.2));go_enter func37,ntmps37;go_wp2_with (first|(go_at_call 70;refine(fZ j k z r G cv e B.len W.len _).mono ?_;rintro e1 w1 ⟨rfl,d⟩;rw [K.out];have a:Hid (Below w w w1):=aa (gV.trans (d.mono (by simp)));have H:=aa (lU.below d);have I:=aj a p5;have x0:w1.cell? w=some (.slice j z G):=(H.out.cell 0).trans rfl;have ab:=aj a cl;clear d))
    go_quiet ((go_at_call 68;exact Calls.quiet_of (dC _ _ (xs:=l[l.length-1].1) ((V.below a).2.2.2.drewN _) V.len ((B.below a).2.2.2.drewN _) B.len (by have:=V.out.len;omega))));rename_i nq;clear bo YL bp bx bz cl ab;go_wp2;have D:Hid (Below w w (w1.drewN nq)):=aa (below_drewN a nq);obtain⟨O,o⟩:=gF (w1.drewN nq);rw [<-o] at D;have dE:Hid (ak O p 89 #[nd,lf,inn,fl,bl,.slice (some ⟨g,0,none⟩) n c]):=aa (B4.out.below D);have y0:O.cell? w=some (.slice j z G):=by rw [o];exact(H.cell 0).trans rfl
    have y1:O.cell? ⟨w,1,none⟩=some (.slice k r cv):=by rw [o];exact(H.cell 1).trans rfl
    first|rw [<-o]|skip
    clear x0 I o;obtain⟨C,U⟩:=gF ((aT nd lf inn fl bl ((n+1:Nat):Int)).2);have De:Hid (iH nd lf inn fl bl l e=C):=aa (by unfold iH;rw [if_neg (by rw [K.out];decide),if_neg HK,U,J.out]);have iq:=aa U;clear U;refine Qa (A:=some ⟨g,0,none⟩) (aa (fun _ _ _ _ h=>h)) HC (by omega) (BM dE) ?_;intro ao ap aq ar au aw aA aE a0 a1 a2 a3 a4 a5 w3 q;rw [<-iq.out];have N:=aa q;have z0:=aj q y0;have z1:=aj q y1;have m:Hid (Below w w w3):=aa (D.out.trans (q.mono D.size));clear q y0 y1
    by_cases y:C=0
    ·have S:(C==0)=true:=by rw [beq_iff_eq];exact y
     have HZ:=aa y;clear y;go_wp2;refine Fe 89 (A:=some ⟨g,0,none⟩) (aa (fun _ _ _ _ h=>h)) (aa (dE.below N)) (aa (own_below M.out m)) ad (by omega) z0 z1 ae ?_;intro a6 a7 a8 a9 ba be bh bj bk bm x wa w4 P BN t gp;have s:=Bd.push (F:=F) (In:=In) (T:=89) (l:=l) (e:=e) b1 (fun b f=>mU (B2.out b f) m.size) b3 (B4.out.below m) (own_below M.out m) B6.out J (fun i x hx=>let⟨u,v,Y,Z,s1,s2⟩:=B8.out i x hx;⟨u,v,Y,Z,s1.below m,s2.below m⟩) P BN t gp (((B.below m).below P).weak (fun b f=>⟨.inr (.inl f),HN b f⟩)).sb (((W.below m).below P).weak (fun b f=>⟨.inr (.inl f),HN b f⟩)).sb (fun b f=>mU (HI b f) m.size);have HP:=aa s;clear s BN t gp
     go_wp2;go_ret;have hN:=HZ.out;subst hN;exact jl.put m HP.1 HP.2 (De.out.trans HZ) B2.out
    ·have S:(C==0)=false:=by rw [mi];exact y
     go_wp2;go_ret
     exact jl.stay HB m De y
 ·have K:=aa Q;have HA:Hid (iH nd lf inn fl bl l e=3):=aa (by unfold iH;rw [if_pos (by rw [Q];decide)];exact Q);clear Q;go_enter func37,ntmps37;go_wp2_with (first|(go_at_call 70;refine(fZ j k z r G cv e B.len W.len _).mono ?_;rintro e1 w1 ⟨rfl,d⟩;rw [K.out];have a:Hid (Below w w w1):=aa (gV.trans (d.mono (by simp)));clear d))
  go_ret
  exact jl.stay HB a HA (by decide)
theorem Bd.ents (h:Bd w T F In p nd lf inn fl bl l):∃A n c,ak w p T #[nd,lf,inn,fl,bl,.slice A n c]/\dh w (fun b=>F b\/In b) A n l/\n<=c/\c<=maxLen:=by
 obtain⟨A,n,c,us,z,B,C,j,f,k,m,o⟩:=h;obtain⟨_,_,e,s,t⟩:=ax f;injection e with _ _ e;subst e;exact⟨A,n,_,j,⟨m,us,fB f (fun g r=> .inl (k g r)),fun i e q=>let⟨u,v,a,b,x,y⟩:=o i e q;⟨u,v,a,b,x.weak (fun b d=>d.1),y.weak (fun b d=>d.1)⟩⟩,s,t⟩
def AP (w:World) (T:TypeId) (nd lf inn fl bl:Int) (In:Nat->Prop) (e:Ending) (w':World):Prop:=
 ∃p,e= .returned (.tuple #[.pointer (some ⟨p,0,none⟩),.int .i64 0])/\Bd w' T (fun b=>w.heap.size<=b/\b<w'.heap.size) In p nd lf inn fl bl []/\Below w.heap.size w w'
theorem QO (a:F p) (c:∀b,F b->b<w) (d:T≠69) (f:ak w p T #[nd,lf,inn,fl,bl,()]):Bd w T F In p nd lf inn fl bl []:=
 ⟨none,0,0,[],a,c,d,f,World.ownsRow_nil _ _ _ _,fun g j=>by simp [Value.ownBlock] at j,rfl,fun i e h=>by simp at h⟩
theorem UR (In:Nat->Prop) (w:World) (hc:bq nd lf inn fl bl):Calls prog 25 #[.agg #[nd,lf,inn,fl,bl]] w (AP w 136 nd lf inn fl bl In):=by
 have d:=aa (jH hc);clear hc;go_enter func25,ntmps25;go_wp2_with (go_at_call 50;refine(rO nd lf inn fl bl _).mono ?_;rintro e w1 ⟨rfl,c⟩;rw [d.out];have a:Hid (Below w w w1):=aa (gV.trans (c.mono (by simp)));have g:=aa ((ak.new w 23 #[nd,.int .i64 lf,.int .i64 inn,.int .i64 fl,.int .i64 bl]).below c);obtain⟨h,i,j,k,l⟩:=gB g;clear c)
 go_ret2
 exact⟨_,rfl,QO ⟨a.size,by simp⟩ (fun b f=>f.2) (by decide) (ak.new _ _ _),a.alloc a.size _⟩
theorem QP (nd lf inn fl bl:Int) (w:World) (hc:¬bq nd lf inn fl bl):Calls prog 25 #[.agg #[nd,lf,inn,fl,bl]] w fun e w'=>e= .returned (.tuple #[.pointer none,.int .i64 1])/\Below w w w':=by
 have c:=aa (pO hc);clear hc;go_enter func25,ntmps25;go_wp2_with (go_at_call 50;refine(rO nd lf inn fl bl _).mono ?_;rintro e w1 ⟨rfl,a⟩;rw [c.out];have b:Hid (Below w w w1):=aa (gV.trans (a.mono (by simp)));clear a)
 go_ret2
 exact⟨rfl,b⟩
def AZ (w:World) (T:TypeId) (F In:Nat->Prop) (p:Nat) (nd lf inn fl bl:Int) (t:List aX×Int) (b:Ending) (w':World):Prop:=
 ∃a,b= .returned (.pointer (some ⟨a,0,none⟩))/\gL w' (From w.heap.size) a nd t.1 t.2/\Bd w' T F In p nd lf inn fl bl []/\ag F w w'
def A9 (w:World) (T:TypeId) (F In:Nat->Prop) (p:Nat) (nd lf inn fl bl:Int) (t:List aX×Int) (b:Ending) (w':World):Prop:=
 ∃a,b= .returned (.pointer (some ⟨a,0,none⟩))/\pG w' (From w.heap.size) a nd t.1 t.2/\Bd w' T F In p nd lf inn fl bl []/\ag F w w'
theorem Np (nd lf inn fl bl:Int) (c:Nat) (hok:(bV nd lf inn fl bl l).1=0) (z:dh w q A n l) (j:n<=c) (t:c<=maxLen) (hn:n<=1152921504606)
  (a:∀e∈l,e.1.length<=1152921504606/\e.2.length<=1152921504606):
  Calls prog 54 #[.agg #[nd,lf,inn,fl,bl],.slice A n c] w (xR w nd (aY fl.toNat inn.toNat l)):=by
 obtain⟨hc,b⟩:=BX hok;obtain⟨i,rfl⟩:∃i:Nat,inn=i:=⟨inn.toNat,by unfold bq at hc;omega⟩;obtain⟨f,rfl⟩:∃f:Nat,fl=f:=⟨fl.toNat,by unfold bq at hc;omega⟩;exact QG c hc z j t hn a (by rw [z.len];exact b)
noncomputable def Bg:Code:=aQ (f32.body.bind (aF 1))
theorem Nq {k r:Value} (kF:Hid (∀c t (a:Act) w,Q (.panic c) ⟨t,a.defers⟩ w->Q (.panic c) a w))
  (C:Hid ((bV nd lf inn fl bl l).1=0)) (v:Hid (dh w F A n l)) (j:n<=c) (hcm:c<=maxLen) (hn:n<=1152921504606) (x:Hid (∀e∈l,e.1.length<=1152921504606/\e.2.length<=1152921504606)) (q:Bc p nd lf inn fl bl (.slice A n c) w)
  (m:∀(G H I M N P f g h:Value) (a:Nat) (w':World),Below w w w'->gL w' (From w) a nd (aY fl.toNat inn.toNat l).1 (aY fl.toNat inn.toNat l).2->Q .normal ⟨(.pointer (some ⟨p,0,none⟩)::u1::y:: .pointer (some ⟨a,0,none⟩)::G::H::I::M::N::P::f::g::h::Y).toArray,[]⟩ w'):
  Code.wp prog Bg Q ⟨(.pointer (some ⟨p,0,none⟩)::u1::y::B::J::s::u::u7::k::r::L::E::O::Y).toArray,[]⟩ w:=by
 have z:=aa m;have b:Bc p nd lf inn fl bl (.slice A n c) w.drew:=q;clear m q;conv=>arg 2;whnf
 refine aO (S:=Bc p nd lf inn fl bl (.slice A n c)) (by kernel_rfl) ?_;refine vT 0 b ?_;refine vT 1 b ?_;refine vT 2 b ?_;refine vT 4 b ?_;refine vT 5 b ?_;refine vT 6 b ?_;refine vT 3 b ?_;refine vT 7 b ?_;refine nZ 8 fun K o=> ?_;go_simp;refine(Np nd lf inn fl bl c C (v.below mh.drew) j hcm hn x).mono ?_;rintro e R ⟨a,rfl,D,d⟩;have i:=b.below d;refine o.out _ _ i ?_;clear o K;try simp only [aL,aN,aZ,aC]
 refine vT 9 i ?_;refine bf (by kernel_rfl) ?_ _;exact z _ _ _ _ _ _ _ _ _ a _ (mh.drew.trans d) D
noncomputable def Y0:Code:=aQ (f36.body.bind (aF 1))
theorem Jn {k r G:Value} (kF:Hid (∀c t (a:Act) w,Q (.panic c) ⟨t,a.defers⟩ w->Q (.panic c) a w))
  (V:Hid ((bV nd lf inn fl bl l).1=0)) (P:Hid (dh w F A n l)) (j:n<=c) (hcm:c<=maxLen) (hn:n<=1152921504606) (R:Hid (∀e∈l,e.1.length<=1152921504606/\e.2.length<=1152921504606)) (N:Bc p nd lf inn fl bl (.slice A n c) w)
  (I:∀(v4 v5 v6 v7 v8 v9 i m o q v x z D H:Value) (a:Nat) (w':World),Below w w w'->pG w' (From w) a nd (aY fl.toNat inn.toNat l).1 (aY fl.toNat inn.toNat l).2->Q .normal ⟨(.pointer (some ⟨p,0,none⟩)::u1::y:: .pointer (some ⟨a,0,none⟩)::v4::v5::v6::v7::v8::v9::i::m::o::q::v::x::z::D::H::Y).toArray,[]⟩ w'):
  Code.wp prog Y0 Q ⟨(.pointer (some ⟨p,0,none⟩)::u1::y::B::J::s::u::u7::k::r::L::E::O::W::Z::U::G::f::C::Y).toArray,[]⟩ w:=by
 have T:=aa I;have b:Bc p nd lf inn fl bl (.slice A n c) w.drew:=N;clear I N;conv=>arg 2;whnf
 refine aO (S:=Bc p nd lf inn fl bl (.slice A n c)) (by kernel_rfl) ?_;refine vT 0 b ?_;refine vT 1 b ?_;refine vT 2 b ?_;refine vT 4 b ?_;refine vT 5 b ?_;refine vT 6 b ?_;refine vT 3 b ?_;refine vT 7 b ?_;refine nZ 8 fun K M=> ?_;go_simp;refine(Jo nd lf inn fl bl A n c F l _ (P.below mh.drew) j hcm hn R).mono ?_;rintro e w5 ⟨pv,rfl,g,q6⟩;obtain⟨a,rfl,X⟩:=(q6.resolve_left (fun h=>h.1 V)).2;have d:=b.below g;refine M.out _ _ d ?_;clear M K;try simp only [aL,aN,aZ,aC]
 refine vT 9 d ?_;refine vT 10 d ?_;refine vT 11 d ?_;refine vT 12 d ?_;refine vT 13 d ?_;refine vT 14 d ?_;refine vT 15 d ?_;refine bf (by kernel_rfl) ?_ _;exact T _ _ _ _ _ _ _ _ _ _ _ _ _ _ _ a _ (mh.drew.trans g) X
theorem QQ (m:Bd w 136 F In p nd lf inn fl bl l) (hok:(bV nd lf inn fl bl l).1=0) (hl:l.length<=1152921504606) (j:∀e∈l,e.1.length<=1152921504606/\e.2.length<=1152921504606):
  Calls prog 32 #[p] w (AZ w 136 F In p nd lf inn fl bl (aY fl.toNat inn.toNat l)):=by
 have v:=aa m;obtain⟨A,n,c,d,q,s,r⟩:=m.ents;have o:=aa d;have x:=aa q;have y:=aa j;have D:=aa hok;have hn:n<=1152921504606:=by have:=q.len;omega
 have B:F p:=by obtain⟨_,_,_,_,h,_⟩:=m;exact h
 clear m d q j hok;go_enter func32,ntmps32;go_wp2;refine Nq (aa (fun _ _ _ _ h=>h)) D x s r hn y (BM o) ?_
 intro K L M N O P E G H a w1 f k;have g:=aa f;have z:=aa k;have u:=aa (o.below f);have I:w1.cell? ⟨p,5,none⟩=some (.slice A n c):=(u.out.cell 5).trans rfl;have J:=u.out.frozen;have C:p<w:=o.out.lt;clear f k;go_wp2;go_ret;have i:=ag.set1 w1 p 5 ();exact⟨a,rfl,z.chg i (fun b t e=>by have t:w<=b:=t;have e:b=p:=e;omega),(v.below g).empty,(ag.of_below (S:=F) g).trans i (fun b _ e=>(show b=p from e)▸B)⟩
theorem Nr (m:Bd w 89 F In p nd lf inn fl bl l) (hok:(bV nd lf inn fl bl l).1=0) (hl:l.length<=1152921504606) (j:∀e∈l,e.1.length<=1152921504606/\e.2.length<=1152921504606):
  Calls prog 36 #[p] w (A9 w 89 F In p nd lf inn fl bl (aY fl.toNat inn.toNat l)):=by
 have v:=aa m;obtain⟨A,n,c,d,q,s,r⟩:=m.ents;have o:=aa d;have x:=aa q;have y:=aa j;have D:=aa hok;have hn:n<=1152921504606:=by have:=q.len;omega
 have B:F p:=by obtain⟨_,_,_,_,h,_⟩:=m;exact h
 clear m d q j hok;go_enter func36,ntmps36;go_wp2;refine Jn (aa (fun _ _ _ _ h=>h)) D x s r hn y (BM o) ?_
 intro Q R T U V W E G H I J K L M N a w1 f k;have g:=aa f;have z:=aa k;have u:=aa (o.below f);have O:w1.cell? ⟨p,5,none⟩=some (.slice A n c):=(u.out.cell 5).trans rfl;have P:=u.out.frozen;have C:p<w:=o.out.lt;clear f k;go_wp2;go_ret;have i:=ag.set1 w1 p 5 ();exact⟨a,rfl,z.chg i (fun b t e=>by have t:w<=b:=t;have e:b=p:=e;omega),(v.below g).empty,(ag.of_below (S:=F) g).trans i (fun b _ e=>(show b=p from e)▸B)⟩
section
def yQ (z st:Nat):Value:= .func (.func (if st=0 then 52 else 92)) #[z] #[]
def XS (mp z q p:Nat) (Dr Fb:Nat->Prop):Nat->Prop:=fun b=>b=mp\/b=z\/b=q\/b=p\/Dr b\/Fb b
structure LX (w:World) (F Dr Fb:Nat->Prop) (mp z q p pb base hv:Nat) (A:Option Addr) (n cc:Nat) (us:List Value) (nd lf inn fl bl:Int) (K:Nat) (m:bM):Prop where
 sit:Sit F q p base
 zs:Zs z q p base
 nFz:¬F z
 bw:base<=w
 mblk:ak w mp 85 #[z,pb,false,.pointer none,.nilIface]
 rblk:ak w z 140 #[q,yQ z m.rdr.st,(),.slice A n cc,(m.rdr.err:Int),(m.rdr.bad:Int)]
 rows:bu w base Dr (.slice A n cc) n m.rdr.rows us
 iny:oU w F q p m.rdr.cur hv
 bd:Bd w 136 Fb Nil pb nd lf inn fl bl m.ents
 mpb:mp<base
 mpn:mp≠z/\mp≠q/\mp≠p/\¬F mp/\¬Fb mp
 fb:∀b,Fb b->b≠z/\b≠q/\b≠p/\¬F b/\¬Dr b
 drl:∀b,Dr b->b<w
 ok:m.Ok nd lf inn fl bl K
 go:m.done=false
def pU (w:World) (s:Nat) (v:Value) (nd:Int) (t:Option (List aX×Int)):Prop:=(t=none/\v= .pointer none)\/∃x a,t=some x/\v= .pointer (some ⟨a,0,none⟩)/\gL w (From s) a nd x.1 x.2
structure DX (w:World) (F:Nat->Prop) (mp p s:Nat) (nd:Int) (m:bM):Prop where
 mblk:∃v0 v1 tv ev,ak w mp 85 #[v0,v1,true,tv,ev]/\xC w s ev m.err (m.bad:Nat)/\pU w s tv nd m.tree
 src:ig w F p m.rdr.cur.src
 mps:mp<s
 done:m.done=true
section
variable {S F Dr Fb:Nat->Prop} {w w':World} {mp z q p pb base hv:Nat} {A:Option Addr} {n cc:Nat} {us:List Value} {nd lf inn fl bl:Int} {K s:Nat} {m:bM}
theorem pU.chg {v:Value} {t:Option (List aX×Int)} (h:pU w s v nd t) (hc:ag S w w') (n:∀b,s<=b->¬S b):pU w' s v nd t:=by
 rcases h with h|⟨x,a,c,d,e⟩
 ·exact .inl h
 ·exact .inr ⟨x,a,c,d,e.chg hc (fun b f=>n b f)⟩
theorem DX.chg (h:DX w F mp p s nd m) (hc:ag S w w') (n:∀b,s<=b->¬S b) (f:¬S mp) (e:¬S p) (t:∀b,F b->¬S b):DX w' F mp p s nd m:=by
 obtain⟨i,v1,g,d,a,b,c⟩:=h.mblk;exact⟨⟨i,v1,g,d,a.chg hc f,b.chg hc n,c.chg hc n⟩,h.src.chg hc e t,h.mps,h.done⟩
theorem DX.below (h:DX w F mp p s nd m) (o:Below w w w'):DX w' F mp p s nd m:=h.chg (S:=Nil) (ag.of_below o) (fun _ _ h=>h) (fun h=>h) (fun h=>h) (fun _ _ h=>h)
theorem LX.chg (h:LX w F Dr Fb mp z q p pb base hv A n cc us nd lf inn fl bl K m) (hc:ag S w w') (a:∀b,XS mp z q p Dr Fb b->¬S b) (d:∀b,F b->¬S b):LX w' F Dr Fb mp z q p pb base hv A n cc us nd lf inn fl bl K m:=
 ⟨h.sit,h.zs,h.nFz,ma h.bw hc.size,h.mblk.chg hc (a _ (.inl rfl)),h.rblk.chg hc (a _ (.inr (.inl rfl))),h.rows.chgD hc (fun b c _=>a b (.inr (.inr (.inr (.inr (.inl c)))))),
  h.iny.chg hc (a _ (.inr (.inr (.inl rfl)))) (a _ (.inr (.inr (.inr (.inl rfl))))) d,h.bd.chg hc (fun b c=>a b (.inr (.inr (.inr (.inr (.inr c)))))) (fun _ h=>h.elim),h.mpb,h.mpn,h.fb,fun b c=>mU (h.drl b c) hc.size,h.ok,h.go⟩
theorem LX.below (h:LX w F Dr Fb mp z q p pb base hv A n cc us nd lf inn fl bl K m) (o:Below w w w'):LX w' F Dr Fb mp z q p pb base hv A n cc us nd lf inn fl bl K m:=h.chg (S:=Nil) (ag.of_below o) (fun _ _ h=>h) (fun _ _ h=>h)
theorem LX.lt (h:LX w F Dr Fb mp z q p pb base hv A n cc us nd lf inn fl bl K m):∀b,XS mp z q p Dr Fb b->b<w:=by
 intro b a;have d:=h.bw;have e:=h.mpb;have f:=h.zs.lt;have g:=h.sit.qB;have i:=h.sit.pB
 rcases a with rfl|rfl|rfl|rfl|a|a
 ·omega
 ·omega
 ·omega
 ·omega
 ·exact h.drl b a
 ·obtain⟨_,_,_,_,_,c,_⟩:=h.bd;exact c b a
theorem LX.fs (h:LX w F Dr Fb mp z q p pb base hv A n cc us nd lf inn fl bl K m) (hc:ag (Fs z q p w (.slice A n cc)) w w'):ag (XS mp z q p Dr Fb) w w':=hc.mono (fun b hl a=>by
 rcases a with a|a|a|a|a
 ·exact .inr (.inl a)
 ·exact .inr (.inr (.inl a))
 ·exact .inr (.inr (.inr (.inl a)))
 ·exact .inr (.inr (.inr (.inr (.inl (h.rows.dom b a)))))
 ·omega)
end
noncomputable def EY:Code:=aQ (f9.body.bind (aF 13))
theorem Ro {Fb:Nat->Prop} (D:Nat->Prop) {mp x pb:Nat} {j k:Option Addr} {z G r cv:Nat} {nd lf inn fl bl:Int} {l:List aR} (e:aR) {w:World} {u1 y B J s u7 u8 u9 L E O W Z U u16 f C I M P V d u24 u25 u26 m u28 T u30 g u32 p n i u36 b u38 N u40 R u42 X u44 u45 u46 v u48 u49 H u51 A u53 F u55 dY q u58 u59 u60 fw:Value} {Y:List Value} {Q:Exit->Act->World->Prop} (kF:Hid (∀c t (a:Act) w,Q (.panic c) ⟨t,a.defers⟩ w->Q (.panic c) a w))
  (u:w.cell? ⟨mp,1,none⟩=some (pb:Value)) (ab:w.cell? x=some (.slice j z G)) (ac:w.cell? ⟨x,1,none⟩=some (.slice k r cv)) (HB:Hid (Bd w 136 Fb Nil pb nd lf inn fl bl l)) (o9:Hid ((bV nd lf inn fl bl l).1=0))
  (H1:Hid (Bt w D j z G e.1)) (H2:Hid (Bt w D k r cv e.2)) (he:e.1.length<=64/\e.2.length<=256) (al:¬Fb mp) (ad:¬Fb x)
  (au:∀(am an ao ap aq ar:Value) (w':World),Bd w' 136 (Grown Fb w w') Nil pb nd lf inn fl bl (vG nd lf inn fl bl l e)->ag Fb w w'->Q .normal ⟨(.pointer (some ⟨mp,0,none⟩)::u1::y::B::J::s:: .pointer (some ⟨x,0,none⟩):: .int .i64 (iH nd lf inn fl bl l e)::u8::u9::L::E::O::W::Z::U::u16::f::C::I::M::P::V::d::u24::u25::u26::m::u28::T::u30::g::u32::p::n::i::u36::b::u38::N::u40::R::u42::X::u44::u45::u46::v::u48::u49::H::u51::A::u53::F::u55::am::an::ao::ap::aq::ar::Y).toArray,[]⟩ w'):
  Code.wp prog EY Q ⟨(.pointer (some ⟨mp,0,none⟩)::u1::y::B::J::s:: .pointer (some ⟨x,0,none⟩)::u7::u8::u9::L::E::O::W::Z::U::u16::f::C::I::M::P::V::d::u24::u25::u26::m::u28::T::u30::g::u32::p::n::i::u36::b::u38::N::u40::R::u42::X::u44::u45::u46::v::u48::u49::H::u51::A::u53::F::u55::dY::q::u58::u59::u60::fw::Y).toArray,[]⟩ w:=by
 have dz:=aa au;have HD:Hid (Below w w w.drew):=aa mh.drew;have aw:=tV o9;have oP:=aa (lh o9);have ae:=aa (Uw (HB.below HD) (gP.1 o9).1 (fun _ h=>h.elim) (H1.below HD) (H2.below HD) (by omega) (by omega) (by omega) (fun x hx=>by have:=(oP.out x hx).1;omega));have o:w.drew.cell? ⟨mp,1,none⟩=some (pb:Value)/\w.drew.cell? x=some (.slice j z G)/\w.drew.cell? ⟨x,1,none⟩=some (.slice k r cv):=⟨u,ab,ac⟩;clear au u ab ac;conv=>arg 2;whnf
 refine aO (S:=(fun w'=>w'.cell? ⟨mp,1,none⟩=some (pb:Value)/\w'.cell? x=some (.slice j z G)/\w'.cell? ⟨x,1,none⟩=some (.slice k r cv))) (by kernel_rfl) ?_;refine vT 0 o ?_;refine vT 1 o ?_;refine vT 2 o ?_;refine vT 3 o ?_;refine vT 4 o ?_;refine nZ 5 fun K hK=> ?_;go_simp;go_loud (refine ae.mono ?_);rintro en w2 ⟨rfl,q1,q2⟩;have NT:=aa q1;have rJ:=aa q2;have S5:w2.cell? ⟨mp,1,none⟩=some (pb:Value)/\w2.cell? x=some (.slice j z G)/\w2.cell? ⟨x,1,none⟩=some (.slice k r cv):=⟨q2.cell al o.1,q2.cell ad o.2.1,q2.cell ad o.2.2⟩;clear q1 q2
 refine hK.out _ _ S5 ?_;clear hK K;try simp only [aL,aN,aZ,aC]
 refine vT 6 S5 ?_;refine bf (by kernel_rfl) ?_ _;exact dz _ _ _ _ _ _ _ NT ((ag.of_below (S:=Fb) HD).trans rJ (fun _ _ h=>h))
end
end Go.Proofs.YtepgcjbhabnciaaGreat
