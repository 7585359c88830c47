/- Part 5. -/
import Derived.Test.YtepgcjbhabnciaaGreatLp04
import Derived.Laws.CopyOwn
namespace Go.Proofs.YtepgcjbhabnciaaGreat
set_option maxRecDepth 100000
set_option maxHeartbeats 8000000
open Go.Proofs.Tryz Go.RowKit
variable {l y B J u7 L E O W Z U G f C I M P V d z D m u28 g x p u35 a u j u37 u38 N c R t X K u45 u46 v u29 u36 u48 u49 H u51 A u53 u55 dY dZ u58 u59 u60 fw fJ u63 u64 gm u66 gH u68 u69 u70 u24 u30 u34 u5 u8 u9 u33 h e:Value} {q gn gc ln lc pb n r i S b o:Nat} {w w':World} {gA lA:Option Addr} {Y cur:List Value} {F:Nat->Prop} {s:Src} {k:Int} {T:TypeId}
def kw (l:List Int):List Value:=l.map fun z=> (z:Int)
structure kM (w:World) (F:Nat->Prop) (q:Nat) (s:Src) (gA lA:Option Addr) (gn gc ln lc:Nat):Prop where
 blk:ak w q 76 #[.slice gA gn gc,(s.fail:Int),(s.calls:Int),.slice lA ln lc,s.eager]
 gv:Rd w F 1 gA gn (kw s.gives)
 sb:SB w F (.slice lA ln lc) s.left
theorem kM.chg {S:Nat->Prop} {w w':World} {F:Nat->Prop} {q:Nat} {s:Src} {gA lA:Option Addr} {gn gc ln lc:Nat} (h:kM w F q s gA lA gn gc ln lc) (hc:ag S w w') (n:¬S q) (Q:∀b,F b->¬S b):kM w' F q s gA lA gn gc ln lc:=
 ⟨h.blk.chg hc n,h.gv.chg hc Q,h.sb.chg hc Q⟩
theorem kM.drewN {w:World} {F:Nat->Prop} {q:Nat} {s:Src} {gA lA:Option Addr} {gn gc ln lc:Nat} (h:kM w F q s gA lA gn gc ln lc) (k:Nat):kM (w.drewN k) F q s gA lA gn gc ln lc:=
 h.chg ((ag.refl Nil w).drewN k) (fun h=>h) (fun _ _ h=>h)
def ig (w:World) (F:Nat->Prop) (q:Nat) (s:Src):Prop:=∃gA lA gn gc ln lc,kM w F q s gA lA gn gc ln lc
theorem kM.gn_len (h:kM w F q s gA lA gn gc ln lc):gn=s.gives.length:=by
 have:=h.gv.1;simp [kw] at this;omega
theorem ig.chg {S:Nat->Prop} {w w':World} {F:Nat->Prop} {q:Nat} {s:Src} (h:ig w F q s) (hc:ag S w w') (n:¬S q) (Q:∀b,F b->¬S b):ig w' F q s:=
 let⟨a,b,c,d,e,f,x⟩:=h;⟨a,b,c,d,e,f,x.blk.chg hc n,x.gv.chg hc Q,x.sb.chg hc Q⟩
theorem ig.below (h:ig w F q s) (o:Below w w w'):ig w' F q s:=h.chg (S:=Nil) (ag.of_below o) (fun h=>h) (fun _ _ h=>h)
def CY (F:Nat->Prop) (q:Nat) (s:Src) (gA lA:Option Addr) (gn gc ln lc n:Nat) (w:World) (e:Ending) (w':World):Prop:=
 e= .returned (.tuple #[.int .i64 (if 0<s.fail/\s.fail<=(s.calls:Int)+1 then 0 else s.most n:Nat),.bool (!decide (0<s.fail/\s.fail<=(s.calls:Int)+1))])/\kM w' F q s.asked gA lA gn gc ln lc/\ag (fun b=>b=q) w w'
theorem Iu (n:Nat) (h:kM w F q s gA lA gn gc ln lc) (c:¬F q) (hc:s.calls<4611686018427387904) (_hn:n<=1152921504606) (_x:gn<=1152921504606) (i:0<s.fail) (d:s.fail<=(s.calls:Int)+1):
  Calls prog 234 #[q,(n:Int)] w (CY F q s gA lA gn gc ln lc n w):=by
 refine letter fun R D=> ?_;have u:=aa h;have t:=aa c;obtain⟨fl,f⟩:=gF s.fail;obtain⟨cl,a⟩:=gF s.calls;have v:=aa f;have m:=aa a;have C:=aa h.blk;have G:=aa h.gn_len;have y:w.cell? q=some (.slice gA gn gc):=h.blk.cell 0;have z:w.cell? ⟨q,1,none⟩=some (.int .i64 fl):=by rw [f];exact h.blk.cell 1
 have A:w.cell? ⟨q,2,none⟩=some (.int .i64 cl):=by rw [a];exact h.blk.cell 2
 have B:=h.blk.frozen 2;rw [<-a] at hc
 (rw [<-f] at i d;rw [<-a] at d;have o:=aa i;have r:=aa d;clear i d)
 clear h c f a;go_enter func234,ntmps234;go_upto_region 2 with fail
 obtain⟨w1,g⟩:=gF (w.setCell ⟨q,2,none⟩ (.int .i64 ((cl:Int)+1)));rw [<-g]
 have l:Hid (kM w1 F q s.asked gA lA gn gc ln lc):=aa (by
  rw [g];have j:=(ag.refl (fun b=>b=q) w).setCell (p:=⟨q,2,none⟩) (fun _=>rfl) (.int .i64 ((cl:Int)+1));have k:=C.out.set_ 2 (.int .i64 ((cl:Int)+1));rw [m.out] at k j|-;exact⟨k,u.gv.chg j (fun b k e=>t (e▸k)),u.sb.chg j (fun b k e=>t (e▸k))⟩)
 have E:Hid (ag (fun b=>b=q) w w1):=aa (by rw [g];exact(ag.refl (fun b=>b=q) w).setCell (p:=⟨q,2,none⟩) (fun _=>rfl) _);clear y z A B g;have y:w1.cell? q=some (.slice gA gn gc):=l.out.blk.cell 0;have z:w1.cell? ⟨q,1,none⟩=some (.int .i64 fl):=by rw [v.out];exact l.blk.cell 1
 have A:w1.cell? ⟨q,2,none⟩=some (.int .i64 ((cl:Int)+1)):=by rw [m.out];exact l.blk.cell 2
 (have i:=o.out;have d:=r.out)
 go_wp2;go_quiet (fail)
 go_wp2
 (rw [D.out];refine⟨?_,l.drewN _,E.drewN _⟩;have i:=o.out;have d:=r.out;rw [v.out] at i d;rw [m.out] at d;rw [if_pos ⟨i,d⟩,decide_eq_true ⟨i,d⟩];rfl)
theorem BF (n:Nat) (h:kM w F q s gA lA gn gc ln lc) (c:¬F q) (hc:s.calls<4611686018427387904) (hn:n<=1152921504606) (_x:gn<=1152921504606) (r:¬0<s.fail) (t:s.calls<gn):
  Calls prog 234 #[q,(n:Int)] w (CY F q s gA lA gn gc ln lc n w):=by
 refine letter fun R N=> ?_;have E:=aa h;have D:=aa c;obtain⟨fl,i⟩:=gF s.fail;obtain⟨cl,f⟩:=gF s.calls;have H:=aa i;have A:=aa f;have M:=aa h.blk;have Q:=aa h.gn_len;have I:w.cell? q=some (.slice gA gn gc):=h.blk.cell 0;have J:w.cell? ⟨q,1,none⟩=some (.int .i64 fl):=by rw [i];exact h.blk.cell 1
 have K:w.cell? ⟨q,2,none⟩=some (.int .i64 cl):=by rw [f];exact h.blk.cell 2
 have L:=h.blk.frozen 2;rw [<-f] at hc
 (rw [<-i] at r;rw [<-f] at t;have B:=aa r;have C:=aa t;clear r t)
 clear h c i f;go_enter func234,ntmps234;go_upto_region 2 with fail
 obtain⟨w1,j⟩:=gF (w.setCell ⟨q,2,none⟩ (.int .i64 ((cl:Int)+1)));rw [<-j]
 have m:Hid (kM w1 F q s.asked gA lA gn gc ln lc):=aa (by
  rw [j];have k:=(ag.refl (fun b=>b=q) w).setCell (p:=⟨q,2,none⟩) (fun _=>rfl) (.int .i64 ((cl:Int)+1));have l:=M.out.set_ 2 (.int .i64 ((cl:Int)+1));rw [A.out] at l k|-;exact⟨l,E.gv.chg k (fun b l e=>D (e▸l)),E.sb.chg k (fun b l e=>D (e▸l))⟩)
 have O:Hid (ag (fun b=>b=q) w w1):=aa (by rw [j];exact(ag.refl (fun b=>b=q) w).setCell (p:=⟨q,2,none⟩) (fun _=>rfl) _);clear I J K L j;have I:w1.cell? q=some (.slice gA gn gc):=m.out.blk.cell 0;have J:w1.cell? ⟨q,1,none⟩=some (.int .i64 fl):=by rw [H.out];exact m.blk.cell 1
 have K:w1.cell? ⟨q,2,none⟩=some (.int .i64 ((cl:Int)+1)):=by rw [A.out];exact m.blk.cell 2
 (have r:decide (0<fl)=false:=(decide_eq_false B);have t:(cl:Int)+1<=(gn:Int):=(by have:=C.out;omega))
 go_wp2;go_quiet (fail)
 go_wp2
 (obtain⟨b,o,u,rfl,_,z,d⟩:=m.out.gv.at_ C;obtain⟨g,_x,rfl⟩:∃g,s.gives[cl]? =some g/\u= .int .i64 g:=(by simp only [kw,Src.asked,List.getElem?_map,Option.map_eq_some_iff] at z;obtain⟨g,a,e⟩:=z;exact⟨g,a,e.symm⟩);have v:w1.cell? ⟨b,o+cl,none⟩=some (.int .i64 g):=d;have P:=aa _x;clear z _x d;go_quiet (fail);go_wp2;go_quiet (fail);go_wp2;rw [N.out];refine⟨?_,(((m.drewN _).drewN _).drewN _),((O.drewN _).drewN _).drewN _⟩;(have G:¬(0<s.fail/\s.fail<=(s.calls:Int)+1):=(fun h=>absurd h.1 (by have:=B.out;have:=H.out;omega));have y:=decide_eq_false G;rw [if_neg G,y]);unfold Src.most;rw [<-A.out,P.out,show((min n g.toNat:Nat):Int)=max 0 (min (n:Int) g) by omega];rfl)
theorem BG (n:Nat) (h:kM w F q s gA lA gn gc ln lc) (c:¬F q) (hc:s.calls<4611686018427387904) (_hn:n<=1152921504606) (_x:gn<=1152921504606) (k:¬0<s.fail) (l:¬s.calls<gn):
  Calls prog 234 #[q,(n:Int)] w (CY F q s gA lA gn gc ln lc n w):=by
 refine letter fun R G=> ?_;have v:=aa h;have u:=aa c;obtain⟨fl,d⟩:=gF s.fail;obtain⟨cl,a⟩:=gF s.calls;have z:=aa d;have o:=aa a;have E:=aa h.blk;have H:=aa h.gn_len;have A:w.cell? q=some (.slice gA gn gc):=h.blk.cell 0;have B:w.cell? ⟨q,1,none⟩=some (.int .i64 fl):=by rw [d];exact h.blk.cell 1
 have C:w.cell? ⟨q,2,none⟩=some (.int .i64 cl):=by rw [a];exact h.blk.cell 2
 have D:=h.blk.frozen 2;rw [<-a] at hc
 (rw [<-d] at k;rw [<-a] at l;have r:=aa k;have t:=aa l;clear k l)
 clear h c d a;go_enter func234,ntmps234;go_upto_region 2 with fail
 obtain⟨w1,f⟩:=gF (w.setCell ⟨q,2,none⟩ (.int .i64 ((cl:Int)+1)));rw [<-f]
 have j:Hid (kM w1 F q s.asked gA lA gn gc ln lc):=aa (by
  rw [f];have g:=(ag.refl (fun b=>b=q) w).setCell (p:=⟨q,2,none⟩) (fun _=>rfl) (.int .i64 ((cl:Int)+1));have i:=E.out.set_ 2 (.int .i64 ((cl:Int)+1));rw [o.out] at i g|-;exact⟨i,v.gv.chg g (fun b i e=>u (e▸i)),v.sb.chg g (fun b i e=>u (e▸i))⟩)
 have I:Hid (ag (fun b=>b=q) w w1):=aa (by rw [f];exact(ag.refl (fun b=>b=q) w).setCell (p:=⟨q,2,none⟩) (fun _=>rfl) _);clear A B C D f;have A:w1.cell? q=some (.slice gA gn gc):=j.out.blk.cell 0;have B:w1.cell? ⟨q,1,none⟩=some (.int .i64 fl):=by rw [z.out];exact j.blk.cell 1
 have C:w1.cell? ⟨q,2,none⟩=some (.int .i64 ((cl:Int)+1)):=by rw [o.out];exact j.blk.cell 2
 (have k:decide (0<fl)=false:=(decide_eq_false r);have l:¬((cl:Int)+1<=(gn:Int)):=(by have:=t.out;omega))
 go_wp2;go_quiet (fail)
 go_wp2
 (go_quiet (fail);go_wp2;rw [G.out];refine⟨?_,((j.drewN _).drewN _),(I.drewN _).drewN _⟩;(have y:¬(0<s.fail/\s.fail<=(s.calls:Int)+1):=(fun h=>absurd h.1 (by have:=r.out;have:=z.out;omega));have m:=decide_eq_false y;rw [if_neg y,m]);unfold Src.most;rw [<-o.out,List.getElem?_eq_none (by have:=H.out;have:=t.out;omega)];rfl)
theorem BH (n:Nat) (h:kM w F q s gA lA gn gc ln lc) (c:¬F q) (hc:s.calls<4611686018427387904) (hn:n<=1152921504606) (_x:gn<=1152921504606) (r:0<s.fail/\¬s.fail<=(s.calls:Int)+1) (t:s.calls<gn):
  Calls prog 234 #[q,(n:Int)] w (CY F q s gA lA gn gc ln lc n w):=by
 refine letter fun R N=> ?_;have E:=aa h;have D:=aa c;obtain⟨fl,i⟩:=gF s.fail;obtain⟨cl,f⟩:=gF s.calls;have H:=aa i;have v:=aa f;have M:=aa h.blk;have S:=aa h.gn_len;have I:w.cell? q=some (.slice gA gn gc):=h.blk.cell 0;have J:w.cell? ⟨q,1,none⟩=some (.int .i64 fl):=by rw [i];exact h.blk.cell 1
 have K:w.cell? ⟨q,2,none⟩=some (.int .i64 cl):=by rw [f];exact h.blk.cell 2
 have L:=h.blk.frozen 2;rw [<-f] at hc
 (rw [<-i,<-f] at r;rw [<-f] at t;have y:=aa r;have C:=aa t;clear r t)
 clear h c i f;go_enter func234,ntmps234;go_upto_region 2 with fail
 obtain⟨w1,j⟩:=gF (w.setCell ⟨q,2,none⟩ (.int .i64 ((cl:Int)+1)));rw [<-j]
 have m:Hid (kM w1 F q s.asked gA lA gn gc ln lc):=aa (by
  rw [j];have k:=(ag.refl (fun b=>b=q) w).setCell (p:=⟨q,2,none⟩) (fun _=>rfl) (.int .i64 ((cl:Int)+1));have l:=M.out.set_ 2 (.int .i64 ((cl:Int)+1));rw [v.out] at l k|-;exact⟨l,E.gv.chg k (fun b l e=>D (e▸l)),E.sb.chg k (fun b l e=>D (e▸l))⟩)
 have P:Hid (ag (fun b=>b=q) w w1):=aa (by rw [j];exact(ag.refl (fun b=>b=q) w).setCell (p:=⟨q,2,none⟩) (fun _=>rfl) _);clear I J K L j;have I:w1.cell? q=some (.slice gA gn gc):=m.out.blk.cell 0;have J:w1.cell? ⟨q,1,none⟩=some (.int .i64 fl):=by rw [H.out];exact m.blk.cell 1
 have K:w1.cell? ⟨q,2,none⟩=some (.int .i64 ((cl:Int)+1)):=by rw [v.out];exact m.blk.cell 2
 (have r:=y.out.1;have O:=y.out.2;have t:(cl:Int)+1<=(gn:Int):=(by have:=C.out;omega))
 go_wp2;go_quiet (fail)
 go_wp2
 (obtain⟨b,o,u,rfl,_,B,d⟩:=m.out.gv.at_ C;obtain⟨g,_x,rfl⟩:∃g,s.gives[cl]? =some g/\u= .int .i64 g:=(by simp only [kw,Src.asked,List.getElem?_map,Option.map_eq_some_iff] at B;obtain⟨g,a,e⟩:=B;exact⟨g,a,e.symm⟩);have z:w1.cell? ⟨b,o+cl,none⟩=some (.int .i64 g):=d;have Q:=aa _x;clear B _x d;go_quiet (fail);go_wp2;go_quiet (fail);go_wp2;rw [N.out];refine⟨?_,(((m.drewN _).drewN _).drewN _),((P.drewN _).drewN _).drewN _⟩;(have G:¬(0<s.fail/\s.fail<=(s.calls:Int)+1):=(fun h=>absurd h.2 (by have:=y.out.2;have:=H.out;have:=v.out;omega));have A:=decide_eq_false G;rw [if_neg G,A]);unfold Src.most;rw [<-v.out,Q.out,show((min n g.toNat:Nat):Int)=max 0 (min (n:Int) g) by omega];rfl)
theorem BI (n:Nat) (h:kM w F q s gA lA gn gc ln lc) (c:¬F q) (hc:s.calls<4611686018427387904) (_hn:n<=1152921504606) (_x:gn<=1152921504606) (k:0<s.fail/\¬s.fail<=(s.calls:Int)+1) (l:¬s.calls<gn):
  Calls prog 234 #[q,(n:Int)] w (CY F q s gA lA gn gc ln lc n w):=by
 refine letter fun R G=> ?_;have v:=aa h;have u:=aa c;obtain⟨fl,d⟩:=gF s.fail;obtain⟨cl,a⟩:=gF s.calls;have z:=aa d;have m:=aa a;have E:=aa h.blk;have H:=aa h.gn_len;have A:w.cell? q=some (.slice gA gn gc):=h.blk.cell 0;have B:w.cell? ⟨q,1,none⟩=some (.int .i64 fl):=by rw [d];exact h.blk.cell 1
 have C:w.cell? ⟨q,2,none⟩=some (.int .i64 cl):=by rw [a];exact h.blk.cell 2
 have D:=h.blk.frozen 2;rw [<-a] at hc
 (rw [<-d,<-a] at k;rw [<-a] at l;have o:=aa k;have t:=aa l;clear k l)
 clear h c d a;go_enter func234,ntmps234;go_upto_region 2 with fail
 obtain⟨w1,f⟩:=gF (w.setCell ⟨q,2,none⟩ (.int .i64 ((cl:Int)+1)));rw [<-f]
 have j:Hid (kM w1 F q s.asked gA lA gn gc ln lc):=aa (by
  rw [f];have g:=(ag.refl (fun b=>b=q) w).setCell (p:=⟨q,2,none⟩) (fun _=>rfl) (.int .i64 ((cl:Int)+1));have i:=E.out.set_ 2 (.int .i64 ((cl:Int)+1));rw [m.out] at i g|-;exact⟨i,v.gv.chg g (fun b i e=>u (e▸i)),v.sb.chg g (fun b i e=>u (e▸i))⟩)
 have J:Hid (ag (fun b=>b=q) w w1):=aa (by rw [f];exact(ag.refl (fun b=>b=q) w).setCell (p:=⟨q,2,none⟩) (fun _=>rfl) _);clear A B C D f;have A:w1.cell? q=some (.slice gA gn gc):=j.out.blk.cell 0;have B:w1.cell? ⟨q,1,none⟩=some (.int .i64 fl):=by rw [z.out];exact j.blk.cell 1
 have C:w1.cell? ⟨q,2,none⟩=some (.int .i64 ((cl:Int)+1)):=by rw [m.out];exact j.blk.cell 2
 (have k:=o.out.1;have I:=o.out.2;have l:¬((cl:Int)+1<=(gn:Int)):=(by have:=t.out;omega))
 go_wp2;go_quiet (fail)
 go_wp2
 (go_quiet (fail);go_wp2;rw [G.out];refine⟨?_,((j.drewN _).drewN _),(J.drewN _).drewN _⟩;(have y:¬(0<s.fail/\s.fail<=(s.calls:Int)+1):=(fun h=>absurd h.2 (by have:=o.out.2;have:=z.out;have:=m.out;omega));have r:=decide_eq_false y;rw [if_neg y,r]);unfold Src.most;rw [<-m.out,List.getElem?_eq_none (by have:=H.out;have:=t.out;omega)];rfl)
theorem Iv (n:Nat) (h:kM w F q s gA lA gn gc ln lc) (c:¬F q) (hc:s.calls<4611686018427387904) (hn:n<=1152921504606) (x:gn<=1152921504606):
  Calls prog 234 #[q,(n:Int)] w (CY F q s gA lA gn gc ln lc n w):=by
 by_cases a:0<s.fail
 ·by_cases d:s.fail<=(s.calls:Int)+1
  ·exact Iu n h c hc hn x a d
  ·by_cases b:s.calls<gn
   ·exact BH n h c hc hn x ⟨a,d⟩ b
   ·exact BI n h c hc hn x ⟨a,d⟩ b
 ·by_cases b:s.calls<gn
  ·exact BF n h c hc hn x a b
  ·exact BG n h c hc hn x a b
noncomputable def Xd:Code:=aQ (f233.body.bind (aF 6))
theorem XO (e:Nat) {l:List UInt8} {s k r T:Value} {Q:Exit->Act->World->Prop} (kF:Hid (∀c t (a:Act) w,Q (.panic c) ⟨t,a.defers⟩ w->Q (.panic c) a w))
  (h:w.drew.cell? ⟨q,3,none⟩=some (.slice lA ln lc)) (HL:Hid (SB w F (.slice lA ln lc) l)) (HP:Hid (ak w pb 5 cur.toArray)) (ac:Hid (cur.length=n)) (hk:e<=n) (hn:n<=1152921504606) (hq:q<pb)
  (au:∀(an ao ap aq ar aw aA aE:Value) (w':World),ak w' pb 5 (splice cur 0 (aI (l.take e))).toArray->Below pb w w'->Q .normal ⟨(.pointer (some ⟨q,0,none⟩):: .slice (some ⟨pb,0,none⟩) n n::y::B::J::s:: .int .i64 e::u7:: .int .i64 (l.take e).length::r::L::E::O::W::Z::U::G::f::C::I::M::P::V::d::u24::z::D::m::an::ao::ap::aq::ar::aw::aA::aE::Y).toArray,[]⟩ w'):
  Code.wp prog Xd Q ⟨(.pointer (some ⟨q,0,none⟩):: .slice (some ⟨pb,0,none⟩) n n::y::B::J::s:: .int .i64 e::u7::k::r::L::E::O::W::Z::U::G::f::C::I::M::P::V::d::u24::z::D::m::u28::T::u30::g::x::p::u34::u35::Y).toArray,[]⟩ w:=by
 have dz:=aa au;have R:Hid (Below w.heap.size w w.drew):=aa mh.drew;have A:=aa (HL.below R);have X:=aa (HP.below R)
 have al:(prog.info? 5).map (·.size)=some 1:=by
  obtain⟨i0,ae,_,am,_⟩:=info_parts bD;rw [ae];simp [am]
 have a0:(e:Int)<=(n:Int):=by omega
 have H:=h;have dW:Hid (Below pb w w.drew):=aa (R.mono (Nat.le_of_lt HP.lt));clear au;conv=>arg 2;whnf
 refine aO (S:=(fun w'=>w'.cell? ⟨q,3,none⟩=some (.slice lA ln lc))) (by kernel_rfl) ?_;refine vT 0 h ?_;refine vT 1 h ?_;refine vT 2 h ?_;refine vT 3 h ?_;refine vT 4 h ?_;refine vT 5 h ?_;refine vT 6 h ?_;refine aK (i:=7) (by kernel_rfl) rfl (fun K hK=> ?_);refine step_copy_splice rfl (.tmp 30) (.tmp 34) 24 24 rfl 5 underlying24 al (some ⟨pb,0,none⟩) lA e n ln lc rfl rfl pb 0 cur 5 X (aI (l.take e)) (by have:=A.out.parts.2.2.1;rw [dO,List.length_take];show _=min ln e;omega) (fun h0=>⟨rfl,by{have hp:=A.out.parts;have h1:0<ln:=(by rw [dO,List.length_take] at h0;omega);obtain⟨b,o,rfl,_,hc⟩:=hp.2.2.2.2 h1;refine⟨_,rfl,fun j v N=> ?_⟩;rw [jr];exact hc j v (by rw [<-GU] at N;rw [List.getElem?_take] at N;split at N;exact N;cases N)}⟩) (by rw [dO,List.length_take];have:=ac.out;omega) (bJ _) pb w dW jO ?_;intro w2 ad ab;have rC:=aa ad;have u:=aa ab;refine rT hK (iL u hq (show w.cell? ⟨q,3,none⟩=some (.slice lA ln lc) from H)) ?_;clear hK K;refine vT 8 (iL u hq (show w.cell? ⟨q,3,none⟩=some (.slice lA ln lc) from H)) ?_;refine bf (by kernel_rfl) ?_ _;go_simp;simp only [dO];exact dz _ _ _ _ _ _ _ _ _ rC.out u
theorem ry (l:List UInt8) (k:Nat):l.drop (l.take k).length=l.drop k:=by
 rw [List.length_take]
 rcases Nat.le_total k l.length with h|h
 ·rw [Nat.min_eq_left h]
 ·rw [Nat.min_eq_right h,List.drop_of_length_le jO,List.drop_of_length_le h]
theorem Rd.dropn {m:Nat} {bs:List UInt8} (h:Rd w F 1 (some ⟨b,o,none⟩) n (aI bs)) (k:m<=n):Rd w F 1 (some ⟨b,o+m,none⟩) (n-m) (aI (bs.drop m)):=by
 refine⟨by have:=h.1;rw [dO] at this|-;rw [List.length_drop];omega,fun i=> ?_⟩;obtain⟨g,l,e,f,hc⟩:=h.2 (by omega);injection e with e;injection e with c d
 subst c;subst d;refine⟨b,o+m,rfl,f,fun j u a=> ?_⟩;rw [Nat.add_assoc];refine hc (m+j) u ?_;rw [<-zg,List.getElem?_drop] at a;exact a
theorem SB.dropn {w:World} {F:Nat->Prop} {b o n c m:Nat} {bs:List UInt8} {nA:Option Addr} (h:SB w F (.slice (some ⟨b,o,none⟩) n c) bs) (e:m<=n) (hA:n-m=0\/nA=some ⟨b,o+m,none⟩):SB w F (.slice nA (n-m) (c-m)) (bs.drop m):=by
 obtain⟨f,g,i,a⟩:=h.parts;refine SB.mk (by omega) (by omega) (by rw [List.length_drop];omega) ?_
 rcases hA with hA|rfl
 ·have d:bs.drop m= []:=List.drop_of_length_le (by omega);rw [hA,d]
  exact Rd.none_ _ _ _ _
 ·exact a.dropn e
def Bf (w:World) (pb n:Nat) (bs:List UInt8):Prop:=∃cur:List Value,ak w pb 5 cur.toArray/\cur.length=n/\cur.take bs.length=aI bs
def Reads (F:Nat->Prop) (q pb n:Nat) (s:Src) (w:World) (e:Ending) (w':World):Prop:=
 e= .returned (.tuple #[.int .i64 ((s.read n).1.length:Nat),.int .i64 (s.read n).2.1])/\ig w' F q (s.read n).2.2/\Bf w' pb n (s.read n).1/\ag (fun b=>b=q\/pb<=b) w w'
theorem Src.read_broken (h:0<s.fail/\s.fail<=(s.calls:Int)+1):s.read n=([],32,s.asked):=by unfold Src.read;rw [if_pos h]
theorem Src.read_end (h:¬(0<s.fail/\s.fail<=(s.calls:Int)+1)) (a:s.left= []):s.read n=([],31,s.asked):=by unfold Src.read;rw [if_neg h,if_pos a]
theorem Src.read_go (h:¬(0<s.fail/\s.fail<=(s.calls:Int)+1)) (a:s.left≠ []):s.read n=(s.left.take (s.most n),if s.eager=true/\s.left.drop (s.most n)= [] then 31 else 0,{s.asked with left:=s.left.drop (s.most n)}):=by unfold Src.read;rw [if_neg h,if_neg a]
theorem NG (h:ig w F q s) (hF:¬F q) (c:∀b,F b->b<pb) (T:Bf w pb n []) (hq:q<pb) (hc:s.calls<4611686018427387904) (hn:n<=1152921504606) (hg:s.gives.length<=1152921504606) (hl:s.left.length<=1152921504606):
  Calls prog 233 #[q,.slice (some ⟨pb,0,none⟩) n n] w (Reads F q pb n s w):=by
 refine letter fun R E=> ?_;obtain⟨gA,lA,gn,gc,ln,lc,hy⟩:=h;obtain⟨cur,d,S,_⟩:=T;have HY:=aa hy;have J:=aa hF;have mG:=aa c;have HB:=aa d;have G:=aa S;have Au:=aa hl;have N:Hid (gn<=1152921504606):=aa (by have:=hy.gn_len;omega);obtain⟨br,Q⟩:=gF (decide (0<s.fail/\s.fail<=(s.calls:Int)+1));have lC:=aa Q;obtain⟨t,U⟩:∃t:Nat,t=if 0<s.fail/\s.fail<=(s.calls:Int)+1 then 0 else s.most n:=⟨_,rfl⟩;have HK:=aa U;have D:=aa hq;have tJ:=aa hc;clear hy hF c d S hl Q U hg hc
 cases br with
 |true=>
  have z:Hid (0<s.fail/\s.fail<=(s.calls:Int)+1):=aa (of_decide_eq_true lC.out.symm);go_enter func233,ntmps233;go_wp2_with (go_at_call 234;go_loud (refine(Iv (F:=F) (q:=q) (s:=s) (gA:=gA) (lA:=lA) (gn:=gn) (gc:=gc) (ln:=ln) (lc:=lc) n (w:=w) HY J tJ hn N).mono ?_);rintro e w1 ⟨rfl,r,k⟩;rw [<-lC.out,<-HK.out];have B:=aa r;have A:=aa k;clear r k)
  rw [E.out];unfold Reads;rw [Src.read_broken z.out]
  exact⟨rfl,⟨gA,lA,gn,gc,ln,lc,B⟩,⟨cur,HB.chg A (fun e=>by have:=D.out;omega),G,by simp [aI]⟩,A.mono (fun b _ e=> .inl e)⟩
 |false=>
  have z:Hid (¬(0<s.fail/\s.fail<=(s.calls:Int)+1)):=aa (of_decide_eq_false lC.out.symm);have g:Hid (t=s.most n):=aa (by rw [HK.out,if_neg z.out]);go_enter func233,ntmps233;go_upto_region 2 with(go_at_call 234;go_loud (refine(Iv (F:=F) (q:=q) (s:=s) (gA:=gA) (lA:=lA) (gn:=gn) (gc:=gc) (ln:=ln) (lc:=lc) n (w:=w) HY J tJ hn N).mono ?_);rintro e w1 ⟨rfl,r,k⟩;rw [<-lC.out,<-HK.out];have B:=aa r;have A:=aa k;clear r k)
  have Y:Hid (ln=s.left.length):=aa B.sb.parts.2.2.1;have z3:w1.cell? ⟨q,3,none⟩=some (.slice lA ln lc):=B.out.blk.cell 3;have z4:w1.cell? ⟨q,4,none⟩=some (.bool s.eager):=B.out.blk.cell 4
  by_cases h0:ln=0
  ·have H:Hid (s.left= []):=aa (List.eq_nil_of_length_eq_zero (by have:=Y.out;omega));subst h0;go_wp2;rw [E.out];unfold Reads;rw [Src.read_end z.out H.out]
   exact⟨rfl,⟨gA,lA,gn,gc,0,lc,B⟩,⟨cur,HB.chg A (fun e=>by have:=D.out;omega),G,by simp [aI]⟩,A.mono (fun b _ e=> .inl e)⟩
  ·have H:Hid (s.left≠ []):=aa (fun e=>h0 (by rw [Y.out,e];rfl));have ab:¬((ln:Int)=0):=by omega
   go_upto_region 6 with fail
   refine XO (F:=F) (q:=q) (pb:=pb) (n:=n) t (ln:=ln) (lc:=lc) (lA:=lA) (l:=s.left) (cur:=cur) (w:=w1) (by exact aa (fun _ _ _ _ h=>h)) z3 (aa B.sb) (aa (HB.chg A (fun e=>by have:=D.out;omega))) G (by have:=g.out;have:=s.most_le n;omega) hn D ?_;intro am an ao ap aq ar au aw w2 P Lg;have M:=aa P;have qP:=aa Lg
   have u:Hid (kM w2 F q s.asked gA lA gn gc ln lc):=aa (by
    have f:ag (fun b=>pb<=b) w1 w2:=ag.of_below_ Lg (fun b _ d=>d);exact B.chg f (fun e=>by have:=D.out;omega) (fun b d e=>by have:=mG.out b d;omega))
   obtain⟨m,Z⟩:=gF ((s.left.take t).length);rw [<-Z];have x:=aa Z;have jN:Hid (t<=n):=aa (by have:=g.out;have:=s.most_le n;omega);have TZ:m<=ln:=by rw [Z,List.length_take,Y.out];omega
   obtain⟨b,o,rfl,FX,_⟩:=u.out.sb.parts.2.2.2.2 (by omega);have ad:ln<=lc:=u.out.sb.parts.1;have y3:w2.cell? ⟨q,3,none⟩=some (.slice (some ⟨b,o,none⟩) ln lc):=u.out.blk.cell 3;have aA:=u.out.blk.frozen 3;obtain⟨X,Ud⟩:=gF s.eager;have K:=aa Ud;have LB:(m:Int)<=(ln:Int):=by omega
   have al:ln<=1152921504606:=by have:=Au.out;have:=Y.out;omega
   clear P Lg Z z3 z4 Ud
   by_cases ac:lc=m
   ·have ae:ln=m:=by omega
    go_upto_region 8 with fail
    obtain⟨i,a⟩:=gF (w2.setCell ⟨q,3,none⟩ (.slice (some ⟨b,o,none⟩) 0 0));rw [<-a]
    have j:Hid (kM i F q {s.asked with left:=s.left.drop (s.most n)} gA (some ⟨b,o,none⟩) gn gc 0 0):=aa (by
     rw [a];have f:=(ag.refl (fun b=>b=q) w2).setCell (p:=⟨q,3,none⟩) (fun _=>rfl) (.slice (some ⟨b,o,none⟩) 0 0);refine⟨u.blk.set_ 3 _,u.gv.chg f (fun b d e=>J (e▸d)),?_⟩;rw [<-g.out,<-ry,<-x.out];have y:=SB.dropn (nA:=(some ⟨b,o,none⟩)) u.sb TZ (.inl (by omega))
     (rw [show ln-m=0 by omega,show lc-m=0 by omega] at y)
     exact y.chg f (fun b d e=>J (e▸d)))
    have C:Hid (ak i pb 5 (splice cur 0 (aI (s.left.take t))).toArray):=aa (by rw [a];exact M.far (p:=⟨q,3,none⟩) (fun e=>by have e:pb=q:=e;have:=D.out;omega) _)
    have L:Hid (ag (fun b=>b=q\/pb<=b) w i):=aa (by
     rw [a];refine(((A.mono (fun b _ e=> .inl e)).trans (?_:ag (fun b=>b=q\/pb<=b) w1 w2) (fun _ _ h=>h))).setCell (p:=⟨q,3,none⟩) (fun _=> .inl rfl) _;exact ag.of_below_ qP (fun b _ d=> .inr d))
    have z3:i.cell? ⟨q,3,none⟩=some (.slice (some ⟨b,o,none⟩) 0 0):=j.out.blk.cell 3;have z4:i.cell? ⟨q,4,none⟩=some (.bool X):=(j.out.blk.cell 4).trans (by rw [K.out];rfl);clear a
    have I:Hid (Bf i pb n (s.left.take t)):=aa ⟨_,C,by rw [length_splice _ _ _ (by rw [dO,G.out];have:=x.out;have:=jN.out;rw [List.length_take];omega)];exact G,by
     unfold splice;simp [dO]⟩
    have W:Hid (0=(s.left.drop (s.most n)).length):=aa j.sb.parts.2.2.1
    cases X with
    |true=>
     by_cases hz:(0:Nat)=0
     ·have V:((0:Nat):Int)=0:=by omega
      have v:Hid (s.eager=true/\s.left.drop (s.most n)= []):=aa ⟨K.out.symm,List.eq_nil_of_length_eq_zero (by have:=W.out;omega)⟩;go_wp2;rw [E.out];unfold Reads;rw [Src.read_go z.out H.out,if_pos v.out]
      exact⟨by rw [x.out,g.out],⟨gA,_,gn,gc,_,_,j⟩,by have:=I.out;rw [g.out] at this;exact this,L⟩
     ·exact absurd rfl hz
    |false=>
     have v:Hid (¬(s.eager=true/\s.left.drop (s.most n)= [])):=aa (fun h=>by have O:=h.1;rw [<-K.out] at O;cases O);go_wp2;rw [E.out];unfold Reads;rw [Src.read_go z.out H.out,if_neg v.out]
     exact⟨by rw [x.out,g.out],⟨gA,_,gn,gc,_,_,j⟩,by have:=I.out;rw [g.out] at this;exact this,L⟩
   ·go_upto_region 8 with fail
    obtain⟨i,a⟩:=gF (w2.setCell ⟨q,3,none⟩ (.slice (some ⟨b,o+m,none⟩) (ln-m) (lc-m)));rw [<-a]
    have j:Hid (kM i F q {s.asked with left:=s.left.drop (s.most n)} gA (some ⟨b,o+m,none⟩) gn gc (ln-m) (lc-m)):=aa (by
     rw [a];have f:=(ag.refl (fun b=>b=q) w2).setCell (p:=⟨q,3,none⟩) (fun _=>rfl) (.slice (some ⟨b,o+m,none⟩) (ln-m) (lc-m));refine⟨u.blk.set_ 3 _,u.gv.chg f (fun b d e=>J (e▸d)),?_⟩;rw [<-g.out,<-ry,<-x.out];have y:=SB.dropn (nA:=(some ⟨b,o+m,none⟩)) u.sb TZ (.inr rfl)
     skip
     exact y.chg f (fun b d e=>J (e▸d)))
    have C:Hid (ak i pb 5 (splice cur 0 (aI (s.left.take t))).toArray):=aa (by rw [a];exact M.far (p:=⟨q,3,none⟩) (fun e=>by have e:pb=q:=e;have:=D.out;omega) _)
    have L:Hid (ag (fun b=>b=q\/pb<=b) w i):=aa (by
     rw [a];refine(((A.mono (fun b _ e=> .inl e)).trans (?_:ag (fun b=>b=q\/pb<=b) w1 w2) (fun _ _ h=>h))).setCell (p:=⟨q,3,none⟩) (fun _=> .inl rfl) _;exact ag.of_below_ qP (fun b _ d=> .inr d))
    have z3:i.cell? ⟨q,3,none⟩=some (.slice (some ⟨b,o+m,none⟩) (ln-m) (lc-m)):=j.out.blk.cell 3;have z4:i.cell? ⟨q,4,none⟩=some (.bool X):=(j.out.blk.cell 4).trans (by rw [K.out];rfl);clear a
    have I:Hid (Bf i pb n (s.left.take t)):=aa ⟨_,C,by rw [length_splice _ _ _ (by rw [dO,G.out];have:=x.out;have:=jN.out;rw [List.length_take];omega)];exact G,by
     unfold splice;simp [dO]⟩
    have W:Hid ((ln-m)=(s.left.drop (s.most n)).length):=aa j.sb.parts.2.2.1
    cases X with
    |true=>
     by_cases hz:((ln-m):Nat)=0
     ·have V:(((ln-m):Nat):Int)=0:=by omega
      have v:Hid (s.eager=true/\s.left.drop (s.most n)= []):=aa ⟨K.out.symm,List.eq_nil_of_length_eq_zero (by have:=W.out;omega)⟩;go_wp2;rw [E.out];unfold Reads;rw [Src.read_go z.out H.out,if_pos v.out]
      exact⟨by rw [x.out,g.out],⟨gA,_,gn,gc,_,_,j⟩,by have:=I.out;rw [g.out] at this;exact this,L⟩
     ·(have V:¬(((ln-m:Nat):Int)=0):=by omega);(have v:Hid (¬(s.eager=true/\s.left.drop (s.most n)= [])):=aa (fun h=>hz (by rw [W.out,h.2];rfl)));go_wp2;rw [E.out];unfold Reads;rw [Src.read_go z.out H.out,if_neg v.out];exact⟨by rw [x.out,g.out],⟨gA,_,gn,gc,_,_,j⟩,by have:=I.out;rw [g.out] at this;exact this,L⟩
    |false=>
     have v:Hid (¬(s.eager=true/\s.left.drop (s.most n)= [])):=aa (fun h=>by have O:=h.1;rw [<-K.out] at O;cases O);go_wp2;rw [E.out];unfold Reads;rw [Src.read_go z.out H.out,if_neg v.out];exact⟨by rw [x.out,g.out],⟨gA,_,gn,gc,_,_,j⟩,by have:=I.out;rw [g.out] at this;exact this,L⟩
structure oU (w:World) (F:Nat->Prop) (q p:Nat) (c:ay) (hv:Nat):Prop where
 blk:ak w q 188 #[(c.at_:Int),(c.err:Int),(c.idle:Int),.iface 29 p,.int .i64 9223372036854775807,.int .u8 hv,c.held.isSome]
 src:ig w F p c.src
 hl:∀x,c.held=some x->hv=x.toNat
theorem yK {cs:Array Value} (e:Int) (h:ak w q T cs) (b:1<cs.size):Calls prog 133 #[q,e] w fun a w'=>a= .returned e/\w'=w.setCell ⟨q,1,none⟩ e:=by
 have c:w.cell? ⟨q,1,none⟩=some cs[1]:=by rw [h.cell];exact Array.getElem?_eq_getElem b
 have d:=h.frozen 1;go_enter func133,ntmps133;go_wp2;go_ret
 exact⟨rfl,rfl⟩
theorem NF (i:Nat) {cs:Array Value} (h:ak w q T cs) (d:cs[2]? =some (.int .i64 i)) (hi:i<=1000):Calls prog 161 #[q,true] w fun c w'=>c= .returned (.bool (decide ((0:Nat)=16)))/\ak w' q T (cs.setIfInBounds 2 (.int .i64 (0:Nat)))/\ag (fun b=>b=q) w w':=by
 have e:w.cell? ⟨q,2,none⟩=some (.int .i64 i):=(h.cell 2).trans d;have f:=h.frozen 2;have a:=aa h;clear h;go_enter func161,ntmps161;go_wp2;go_ret
 refine⟨rfl,(by have:=(a.out.set_ 2 (.int .i64 ((i:Int)+1))).set_ 2 (.int .i64 0);rw [Array.setIfInBounds_setIfInBounds] at this;exact this),((ag.refl (fun b=>b=q) w).setCell (p:=⟨q,2,none⟩) (fun _=>rfl) _).setCell (p:=⟨q,2,none⟩) (fun _=>rfl) _⟩
theorem QZ (i:Nat) {cs:Array Value} (h:ak w q T cs) (d:cs[2]? =some (.int .i64 i)) (hi:i<=1000):Calls prog 161 #[q,false] w fun c w'=>c= .returned (.bool (decide (((i+1):Nat)=16)))/\ak w' q T (cs.setIfInBounds 2 (.int .i64 ((i+1):Nat)))/\ag (fun b=>b=q) w w':=by
 have e:w.cell? ⟨q,2,none⟩=some (.int .i64 i):=(h.cell 2).trans d;have f:=h.frozen 2;have a:=aa h;clear h;go_enter func161,ntmps161;go_wp2;go_ret
 refine⟨(by rw [show decide (i+1=16)=((i:Int)+1==16) by rw [Bool.eq_iff_iff];simp;omega];rfl),a.set_ 2 _,(ag.refl (fun b=>b=q) w).setCell (p:=⟨q,2,none⟩) (fun _=>rfl) _⟩
theorem vN (i:Nat) (b:Bool) {cs:Array Value} (h:ak w q T cs) (a:cs[2]? =some (.int .i64 i)) (hi:i<=1000):Calls prog 161 #[q,b] w fun c w'=>c= .returned (.bool (decide ((if b then 0 else i+1:Nat)=16)))/\ak w' q T (cs.setIfInBounds 2 (.int .i64 (if b then 0 else i+1:Nat)))/\ag (fun b=>b=q) w w':=by
 cases b
 ·exact QZ i h a hi
 ·exact NF i h a hi
theorem Q5 (a:Addr) (w:World):(nilAhead prog.depth 29 (.pointer (some a)) "Read").run prog w= .ok (some false) w:=by kernel_rfl
theorem Gi (a:Addr) (w:World):(method 468 29 (.pointer (some a)) "Read").run prog w= .ok (233,.pointer (some a)) w:=by kernel_rfl
noncomputable def CW:Code:=aQ (f134.body.bind (aF 6))
theorem Vf {p k:Nat} {r T n i:Value} (Q:Exit->Act->World->Prop)
  (z3:w.cell? ⟨q,3,none⟩=some (.iface 29 p)) (H:Hid (ig w F p s)) (hF:Hid (¬F p)) (ET:Hid (∀b,F b->b<pb)) (HP:Hid (Bf w pb k [])) (hp:p<pb) (hc:s.calls<4611686018427387904) (hk:k<=4096) (hg:s.gives.length<=1152921504606) (hl:s.left.length<=1152921504606)
  (au:∀(ad ae al am an ao ap aq ar:Value) (w':World),ig w' F p (s.read k).2.2->Bf w' pb k (s.read k).1->ag (fun b=>b=p\/pb<=b) w w'->Q .normal ⟨(.pointer (some ⟨q,0,none⟩)::a::y::B::J::u5::u:: .slice (some ⟨pb,0,none⟩) k k:: .int .i64 ((s.read k).1.length:Nat):: .int .i64 (s.read k).2.1::L::E::O::W::Z::U::G::f::C::I::M::P::V::d::l::z::D::m::r::T::j::g::x::u33::n::i::h::u37::u38::ad::ae::al::am::an::ao::ap::aq::ar::Y).toArray,[]⟩ w'):
  Code.wp prog CW Q ⟨(.pointer (some ⟨q,0,none⟩)::a::y::B::J::u5::u:: .slice (some ⟨pb,0,none⟩) k k::u8::u9::L::E::O::W::Z::U::G::f::C::I::M::P::V::d::l::z::D::m::r::T::j::g::x::u33::n::i::h::u37::u38::N::c::R::t::X::K::u45::u46::v::Y).toArray,[]⟩ w:=by
 have dz:=aa au;have n1:=Q5 ⟨p,0,none⟩ w;have n2:=Gi p w;clear au;conv=>arg 2;whnf
 go_wp2_with (go_at_call 233;go_loud (refine(NG H hF.out ET.out HP hp hc (by omega) hg hl).mono ?_);rintro e w2 ⟨rfl,S,o,A⟩;have ac:=aa S;have ab:=aa o;have bz:=aa A;clear S o A)
 exact dz _ _ _ _ _ _ _ _ _ w2 ac ab bz
noncomputable def L9:Code:=aQ (f134.body.bind (aF 10))
theorem Q9 {cs:Array Value} {s n F:Value} (Q:Exit->Act->World->Prop) (h:Hid (ak w q T cs)) (h2:Hid (cs[2]? =some (.int .i64 i))) (hi:i<=1000) (hr:Hid (r=if S≠0\/k≠0 then 0 else i+1)) (h0:S≠0)
  (au:∀(al am an ao ap aq ar aw aA aE:Value) (w':World),ak w' q T (cs.setIfInBounds 2 (r:Int))->ag (fun b=>b=q) w w'->Q .normal ⟨(.pointer (some ⟨q,0,none⟩)::a::y::B::J::s::u::u7:: .int .i64 S:: .int .i64 k:: .bool (decide (r=16))::E::O::W::Z::U::G::f::C::I::M::P::V::d::l::z::D::m::u28::u29::j::g::x::p::n::u35::u36::u37::u38::N::c::R::t::X::K::u45::u46::v::u48::u49::H::u51::A::u53::F::u55::dY::dZ::u58::u59::u60::al::am::an::ao::ap::aq::ar::aw::aA::aE::Y).toArray,[]⟩ w'):
  Code.wp prog L9 Q ⟨(.pointer (some ⟨q,0,none⟩)::a::y::B::J::s::u::u7:: .int .i64 S:: .int .i64 k::L::E::O::W::Z::U::G::f::C::I::M::P::V::d::l::z::D::m::u28::u29::j::g::x::p::n::u35::u36::u37::u38::N::c::R::t::X::K::u45::u46::v::u48::u49::H::u51::A::u53::F::u55::dY::dZ::u58::u59::u60::fw::fJ::u63::u64::gm::u66::gH::u68::u69::u70::Y).toArray,[]⟩ w:=by
 have dz:=aa au;have hw:=vN i true h.out h2.out hi;have ad:(if(true:Bool)=true then 0 else i+1:Nat)=r:=by rw [hr.out];simp [h0]
 rw [ad] at hw;obtain⟨rb,ac⟩:=gF (decide (r=16));rw [<-ac] at hw dz;have HW:=aa hw
 (have a1:decide (0<S)=true:=decide_eq_true (by omega);have a0:decide ((0:Int)<(S:Int))=true:=decide_eq_true (by omega);clear h0)
 clear au hw ad ac hr h h2;conv=>arg 2;whnf
 go_wp2_with (go_at_call 161;go_loud (refine HW.mono ?_);rintro e w2 ⟨rfl,o,ab⟩;have ae:=aa o;have bz:=aa ab;clear o ab)
 exact dz _ _ _ _ _ _ _ _ _ _ w2 ae bz
theorem Ra {cs:Array Value} {s n F:Value} (Q:Exit->Act->World->Prop) (h:Hid (ak w q T cs)) (h2:Hid (cs[2]? =some (.int .i64 i))) (hi:i<=1000) (hr:Hid (r=if S≠0\/k≠0 then 0 else i+1)) (h0:S=0) (h1:k≠0)
  (au:∀(al am an ao ap aq ar aw aA aE:Value) (w':World),ak w' q T (cs.setIfInBounds 2 (.int .i64 (r:Nat)))->ag (fun b=>b=q) w w'->Q .normal ⟨(.pointer (some ⟨q,0,none⟩)::a::y::B::J::s::u::u7:: .int .i64 S:: .int .i64 k:: .bool (decide (r=16))::E::O::W::Z::U::G::f::C::I::M::P::V::d::l::z::D::m::u28::u29::j::g::x::p::n::u35::u36::u37::u38::N::c::R::t::X::K::u45::u46::v::u48::u49::H::u51::A::u53::F::u55::dY::dZ::u58::u59::u60::al::am::an::ao::ap::aq::ar::aw::aA::aE::Y).toArray,[]⟩ w'):
  Code.wp prog L9 Q ⟨(.pointer (some ⟨q,0,none⟩)::a::y::B::J::s::u::u7:: .int .i64 S:: .int .i64 k::L::E::O::W::Z::U::G::f::C::I::M::P::V::d::l::z::D::m::u28::u29::j::g::x::p::n::u35::u36::u37::u38::N::c::R::t::X::K::u45::u46::v::u48::u49::H::u51::A::u53::F::u55::dY::dZ::u58::u59::u60::fw::fJ::u63::u64::gm::u66::gH::u68::u69::u70::Y).toArray,[]⟩ w:=by
 have dz:=aa au;have hw:=vN i true h.out h2.out hi;have ad:(if(true:Bool)=true then 0 else i+1:Nat)=r:=by rw [hr.out];simp [h1]
 rw [ad] at hw;obtain⟨rb,ac⟩:=gF (decide (r=16));rw [<-ac] at hw dz;have HW:=aa hw
 (subst h0;have a0:(k==0)=false:=(by rw [mi];exact h1);have a1:decide (k=0)=false:=decide_eq_false h1;have a2:(k !=0)=true:=(by rw [bne_iff_ne];exact h1))
 clear au hw ad ac hr h h2;conv=>arg 2;whnf
 go_wp2_with (go_at_call 161;go_loud (refine HW.mono ?_);rintro e w2 ⟨rfl,o,ab⟩;have ae:=aa o;have bz:=aa ab;clear o ab)
 exact dz _ _ _ _ _ _ _ _ _ _ w2 ae bz
theorem Vi {cs:Array Value} {s n F:Value} (Q:Exit->Act->World->Prop) (h:Hid (ak w q T cs)) (h2:Hid (cs[2]? =some (.int .i64 i))) (hi:i<=1000) (hr:Hid (r=if S≠0\/k≠0 then 0 else i+1)) (h0:S=0) (h1:k=0)
  (au:∀(al am an ao ap aq ar aw aA aE:Value) (w':World),ak w' q T (cs.setIfInBounds 2 (.int .i64 (r:Nat)))->ag (fun b=>b=q) w w'->Q .normal ⟨(.pointer (some ⟨q,0,none⟩)::a::y::B::J::s::u::u7:: .int .i64 S:: .int .i64 k:: .bool (decide (r=16))::E::O::W::Z::U::G::f::C::I::M::P::V::d::l::z::D::m::u28::u29::j::g::x::p::n::u35::u36::u37::u38::N::c::R::t::X::K::u45::u46::v::u48::u49::H::u51::A::u53::F::u55::dY::dZ::u58::u59::u60::al::am::an::ao::ap::aq::ar::aw::aA::aE::Y).toArray,[]⟩ w'):
  Code.wp prog L9 Q ⟨(.pointer (some ⟨q,0,none⟩)::a::y::B::J::s::u::u7:: .int .i64 S:: .int .i64 k::L::E::O::W::Z::U::G::f::C::I::M::P::V::d::l::z::D::m::u28::u29::j::g::x::p::n::u35::u36::u37::u38::N::c::R::t::X::K::u45::u46::v::u48::u49::H::u51::A::u53::F::u55::dY::dZ::u58::u59::u60::fw::fJ::u63::u64::gm::u66::gH::u68::u69::u70::Y).toArray,[]⟩ w:=by
 have dz:=aa au;have hw:=vN i false h.out h2.out hi;have ad:(if(false:Bool)=true then 0 else i+1:Nat)=r:=by rw [hr.out];simp [h0,h1]
 rw [ad] at hw;obtain⟨rb,ac⟩:=gF (decide (r=16));rw [<-ac] at hw dz;have HW:=aa hw
 (subst h0;subst h1)
 clear au hw ad ac hr h h2;conv=>arg 2;whnf
 go_wp2_with (go_at_call 161;go_loud (refine HW.mono ?_);rintro e w2 ⟨rfl,o,ab⟩;have ae:=aa o;have bz:=aa ab;clear o ab)
 exact dz _ _ _ _ _ _ _ _ _ _ w2 ae bz
theorem Q7 {cs:Array Value} {s n F:Value} (Q:Exit->Act->World->Prop) (h:Hid (ak w q T cs)) (h2:Hid (cs[2]? =some (.int .i64 i))) (hi:i<=1000) (hr:Hid (r=if S≠0\/k≠0 then 0 else i+1))
  (o:∀(ab ac ad ae al am an ao ap aq:Value) (w':World),ak w' q T (cs.setIfInBounds 2 (.int .i64 (r:Nat)))->ag (fun b=>b=q) w w'->Q .normal ⟨(.pointer (some ⟨q,0,none⟩)::a::y::B::J::s::u::u7:: .int .i64 S:: .int .i64 k:: .bool (decide (r=16))::E::O::W::Z::U::G::f::C::I::M::P::V::d::l::z::D::m::u28::u29::j::g::x::p::n::u35::u36::u37::e::N::c::R::t::X::K::u45::u46::v::u48::u49::H::u51::A::u53::F::u55::dY::dZ::u58::u59::u60::ab::ac::ad::ae::al::am::an::ao::ap::aq::Y).toArray,[]⟩ w'):
  Code.wp prog L9 Q ⟨(.pointer (some ⟨q,0,none⟩)::a::y::B::J::s::u::u7:: .int .i64 S:: .int .i64 k::L::E::O::W::Z::U::G::f::C::I::M::P::V::d::l::z::D::m::u28::u29::j::g::x::p::n::u35::u36::u37::e::N::c::R::t::X::K::u45::u46::v::u48::u49::H::u51::A::u53::F::u55::dY::dZ::u58::u59::u60::fw::fJ::u63::u64::gm::u66::gH::u68::u69::u70::Y).toArray,[]⟩ w:=by
 by_cases h0:S=0
 ·by_cases h1:k=0
  ·exact Vi Q h h2 hi hr h0 h1 o
  ·exact Ra Q h h2 hi hr h0 h1 o
 ·exact Q9 Q h h2 hi hr h0 o
end Go.Proofs.YtepgcjbhabnciaaGreat
