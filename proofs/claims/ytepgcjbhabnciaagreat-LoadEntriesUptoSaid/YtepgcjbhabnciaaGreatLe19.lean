/- Part 19. -/
import Derived.Test.YtepgcjbhabnciaaGreatLe07
import Derived.Laws.CopyOwn
namespace Go.Proofs.YtepgcjbhabnciaaGreat
set_option maxRecDepth 100000
set_option maxHeartbeats 8000000
open Go.Proofs.Tryz Go.RowKit
variable {J L r M E I Z N U Y O f C V P m g T W u A x u33 u34 u35 H u5 B u8 u24 u27 k u1 u4 v d u9 u20 j u31 h u37 c R u40 X K G u44 i u46 l:Value} {q n gn gc p D b:Nat} {w w':World} {F:Nat->Prop} {s:Src} {S:List Value}
def jw (l:List Int):List Value:=l.map fun z=> .int .i64 z
structure ji (w:World) (F:Nat->Prop) (q:Nat) (s:Src) (gA lA:Option Addr) (gn gc ln lc:Nat):Prop where
 blk:aj w q 76 #[.slice gA gn gc,.int .i64 s.fail,.int .i64 s.calls,.slice lA ln lc,.bool s.eager]
 gv:Rd w F 1 gA gn (jw s.gives)
 sb:SB w F (.slice lA ln lc) s.left
theorem ji.chg {S:Nat->Prop} {w w':World} {F:Nat->Prop} {q:Nat} {s:Src} {gA o:Option Addr} {gn gc p D:Nat} (h:ji w F q s gA o gn gc p D) (y:ag S w w') (P:¬S q) (K:∀b,F b->¬S b):ji w' F q s gA o gn gc p D:=
 ⟨h.blk.chg y P,h.gv.chg y K,h.sb.chg y K⟩
theorem ji.drewN {w:World} {F:Nat->Prop} {q:Nat} {s:Src} {gA o:Option Addr} {gn gc p D:Nat} (h:ji w F q s gA o gn gc p D) (k:Nat):ji (w.drewN k) F q s gA o gn gc p D:=
 h.chg ((ag.refl Nil w).drewN k) (fun h=>h) (fun _ _ h=>h)
def fo (w:World) (F:Nat->Prop) (q:Nat) (s:Src):Prop:=∃gA a gn gc c b,ji w F q s gA a gn gc c b
theorem ji.gn_len {gA o:Option Addr} (h:ji w F q s gA o gn gc p D):gn=s.gives.length:=by
 have:=h.gv.1;simp [jw] at this;omega
theorem fo.chg {S:Nat->Prop} {w w':World} {F:Nat->Prop} {q:Nat} {s:Src} (h:fo w F q s) (y:ag S w w') (P:¬S q) (K:∀b,F b->¬S b):fo w' F q s:=
 let⟨a,b,c,d,e,f,x⟩:=h;⟨a,b,c,d,e,f,x.blk.chg y P,x.gv.chg y K,x.sb.chg y K⟩
theorem fo.below (h:fo w F q s) (a:Below w.heap.size w w'):fo w' F q s:=h.chg (S:=Nil) (ag.of_below a) (fun h=>h) (fun _ _ h=>h)
def zG (F:Nat->Prop) (q:Nat) (s:Src) (gA o:Option Addr) (gn gc p D n:Nat) (w:World) (e:Ending) (w':World):Prop:=
 e= .returned (.tuple #[.int .i64 (if 0<s.fail/\s.fail<=(s.calls:Int)+1 then 0 else s.most n:Nat),.bool (!decide (0<s.fail/\s.fail<=(s.calls:Int)+1))])/\ji w' F q s.asked gA o gn gc p D/\ag (fun b=>b=q) w w'
theorem Ei (F:Nat->Prop) (q:Nat) (s:Src) (gA o:Option Addr) (gn gc ln D n:Nat) (w:World) (h:ji w F q s gA o gn gc ln D) (x:¬F q) (H:s.calls<4611686018427387904) (_T:n<=1152921504606) (_A:gn<=1152921504606) (g:0<s.fail) (c:s.fail<=(s.calls:Int)+1):
  Calls prog 234 #[.pointer (some ⟨q,0,none⟩),.int .i64 n] w (zG F q s gA o gn gc ln D n w):=by
 refine letter fun R G=> ?_;have v:=aa h;have u:=aa x;obtain⟨fl,d⟩:∃fl,fl=s.fail:=⟨_,rfl⟩;obtain⟨i,a⟩:∃i,i=s.calls:=⟨_,rfl⟩;have y:=aa d;have m:=aa a;have E:=aa h.blk;have K:=aa h.gn_len;have z:w.cell? ⟨q,0,none⟩=some (.slice gA gn gc):=h.blk.cell 0;have B:w.cell? ⟨q,1,none⟩=some (.int .i64 fl):=by rw [d];exact h.blk.cell 1
 have C:w.cell? ⟨q,2,none⟩=some (.int .i64 i):=by rw [a];exact h.blk.cell 2
 have J:=h.blk.frozen 2;rw [<-a] at H
 (rw [<-d] at g c;rw [<-a] at c;have r:=aa g;have t:=aa c;clear g c)
 clear h x d a;go_enter func234,ntmps234
 go_upto_region 2 with fail
 obtain⟨w1,f⟩:∃W,W=w.setCell ⟨q,2,none⟩ (.int .i64 ((i:Int)+1)):=⟨_,rfl⟩;rw [<-f]
 have l:Hid (ji w1 F q s.asked gA o gn gc ln D):=aa (by
  rw [f];have j:=(ag.refl (fun b=>b=q) w).setCell (p:=⟨q,2,none⟩) (fun _=>rfl) (.int .i64 ((i:Int)+1));have k:=E.out.set_ 2 (.int .i64 ((i:Int)+1));rw [m.out] at k j|-;exact⟨k,v.gv.chg j (fun b k e=>u (e▸k)),v.sb.chg j (fun b k e=>u (e▸k))⟩)
 have I:Hid (ag (fun b=>b=q) w w1):=aa (by rw [f];exact(ag.refl (fun b=>b=q) w).setCell (p:=⟨q,2,none⟩) (fun _=>rfl) _);clear z B C J f;have z:w1.cell? ⟨q,0,none⟩=some (.slice gA gn gc):=l.out.blk.cell 0;have B:w1.cell? ⟨q,1,none⟩=some (.int .i64 fl):=by rw [y.out];exact l.blk.cell 1
 have C:w1.cell? ⟨q,2,none⟩=some (.int .i64 ((i:Int)+1)):=by rw [m.out];exact l.blk.cell 2
 (have g:=r.out;have c:=t.out)
 go_wp2;go_quiet (fail)
 go_wp2
 (rw [G.out];refine⟨?_,l.drewN _,I.drewN _⟩;have g:=r.out;have c:=t.out;rw [y.out] at g c;rw [m.out] at c;rw [if_pos ⟨g,c⟩,decide_eq_true ⟨g,c⟩];rfl)
theorem yE (F:Nat->Prop) (q:Nat) (s:Src) (gA lA:Option Addr) (gn gc ln D n:Nat) (w:World) (h:ji w F q s gA lA gn gc ln D) (x:¬F q) (P:s.calls<4611686018427387904) (T:n<=1152921504606) (_A:gn<=1152921504606) (r:¬0<s.fail) (t:s.calls<gn):
  Calls prog 234 #[.pointer (some ⟨q,0,none⟩),.int .i64 n] w (zG F q s gA lA gn gc ln D n w):=by
 refine letter fun R O=> ?_;have H:=aa h;have G:=aa x;obtain⟨fl,i⟩:∃fl,fl=s.fail:=⟨_,rfl⟩;obtain⟨f,d⟩:∃f,f=s.calls:=⟨_,rfl⟩;have J:=aa i;have v:=aa d;have N:=aa h.blk;have V:=aa h.gn_len;have K:w.cell? ⟨q,0,none⟩=some (.slice gA gn gc):=h.blk.cell 0;have L:w.cell? ⟨q,1,none⟩=some (.int .i64 fl):=by rw [i];exact h.blk.cell 1
 have M:w.cell? ⟨q,2,none⟩=some (.int .i64 f):=by rw [d];exact h.blk.cell 2
 have U:=h.blk.frozen 2;rw [<-d] at P
 (rw [<-i] at r;rw [<-d] at t;have C:=aa r;have E:=aa t;clear r t)
 clear h x i d;go_enter func234,ntmps234
 go_upto_region 2 with fail
 obtain⟨w1,j⟩:∃W,W=w.setCell ⟨q,2,none⟩ (.int .i64 ((f:Int)+1)):=⟨_,rfl⟩;rw [<-j]
 have m:Hid (ji w1 F q s.asked gA lA gn gc ln D):=aa (by
  rw [j];have k:=(ag.refl (fun b=>b=q) w).setCell (p:=⟨q,2,none⟩) (fun _=>rfl) (.int .i64 ((f:Int)+1));have l:=N.out.set_ 2 (.int .i64 ((f:Int)+1));rw [v.out] at l k|-;exact⟨l,H.gv.chg k (fun b l e=>G (e▸l)),H.sb.chg k (fun b l e=>G (e▸l))⟩)
 have Q:Hid (ag (fun b=>b=q) w w1):=aa (by rw [j];exact(ag.refl (fun b=>b=q) w).setCell (p:=⟨q,2,none⟩) (fun _=>rfl) _);clear K L M U j;have K:w1.cell? ⟨q,0,none⟩=some (.slice gA gn gc):=m.out.blk.cell 0;have L:w1.cell? ⟨q,1,none⟩=some (.int .i64 fl):=by rw [J.out];exact m.blk.cell 1
 have M:w1.cell? ⟨q,2,none⟩=some (.int .i64 ((f:Int)+1)):=by rw [v.out];exact m.blk.cell 2
 (have r:decide (0<fl)=false:=(decide_eq_false C);have t:(f:Int)+1<=(gn:Int):=(by have:=E.out;omega))
 go_wp2;go_quiet (fail)
 go_wp2
 (obtain⟨b,o,u,rfl,_,B,c⟩:=m.out.gv.at_ E;obtain⟨g,_A,rfl⟩:∃g,s.gives[f]? =some g/\u= .int .i64 g:=(by simp only [jw,Src.asked,List.getElem?_map,Option.map_eq_some_iff] at B;obtain⟨g,a,e⟩:=B;exact⟨g,a,e.symm⟩);have y:w1.cell? ⟨b,o+f,none⟩=some (.int .i64 g):=c;have S:=aa _A;clear B _A c;go_quiet (fail);go_wp2;go_quiet (fail);go_wp2;rw [O.out];refine⟨?_,(((m.drewN _).drewN _).drewN _),((Q.drewN _).drewN _).drewN _⟩;(have I:¬(0<s.fail/\s.fail<=(s.calls:Int)+1):=(fun h=>absurd h.1 (by have:=C.out;have:=J.out;omega));have z:=decide_eq_false I;rw [if_neg I,z]);unfold Src.most;rw [<-v.out,S.out,show((min n g.toNat:Nat):Int)=max 0 (min (n:Int) g) by omega];rfl)
theorem yF (F:Nat->Prop) (q:Nat) (s:Src) (gA o:Option Addr) (gn gc ln D n:Nat) (w:World) (h:ji w F q s gA o gn gc ln D) (x:¬F q) (K:s.calls<4611686018427387904) (_T:n<=1152921504606) (_A:gn<=1152921504606) (k:¬0<s.fail) (l:¬s.calls<gn):
  Calls prog 234 #[.pointer (some ⟨q,0,none⟩),.int .i64 n] w (zG F q s gA o gn gc ln D n w):=by
 refine letter fun R J=> ?_;have y:=aa h;have v:=aa x;obtain⟨fl,c⟩:∃fl,fl=s.fail:=⟨_,rfl⟩;obtain⟨f,a⟩:∃f,f=s.calls:=⟨_,rfl⟩;have B:=aa c;have m:=aa a;have I:=aa h.blk;have H:=aa h.gn_len;have C:w.cell? ⟨q,0,none⟩=some (.slice gA gn gc):=h.blk.cell 0;have E:w.cell? ⟨q,1,none⟩=some (.int .i64 fl):=by rw [c];exact h.blk.cell 1
 have G:w.cell? ⟨q,2,none⟩=some (.int .i64 f):=by rw [a];exact h.blk.cell 2
 have M:=h.blk.frozen 2;rw [<-a] at K
 (rw [<-c] at k;rw [<-a] at l;have t:=aa k;have u:=aa l;clear k l)
 clear h x c a;go_enter func234,ntmps234
 go_upto_region 2 with fail
 obtain⟨w1,d⟩:∃W,W=w.setCell ⟨q,2,none⟩ (.int .i64 ((f:Int)+1)):=⟨_,rfl⟩;rw [<-d]
 have j:Hid (ji w1 F q s.asked gA o gn gc ln D):=aa (by
  rw [d];have g:=(ag.refl (fun b=>b=q) w).setCell (p:=⟨q,2,none⟩) (fun _=>rfl) (.int .i64 ((f:Int)+1));have i:=I.out.set_ 2 (.int .i64 ((f:Int)+1));rw [m.out] at i g|-;exact⟨i,y.gv.chg g (fun b i e=>v (e▸i)),y.sb.chg g (fun b i e=>v (e▸i))⟩)
 have L:Hid (ag (fun b=>b=q) w w1):=aa (by rw [d];exact(ag.refl (fun b=>b=q) w).setCell (p:=⟨q,2,none⟩) (fun _=>rfl) _);clear C E G M d;have C:w1.cell? ⟨q,0,none⟩=some (.slice gA gn gc):=j.out.blk.cell 0;have E:w1.cell? ⟨q,1,none⟩=some (.int .i64 fl):=by rw [B.out];exact j.blk.cell 1
 have G:w1.cell? ⟨q,2,none⟩=some (.int .i64 ((f:Int)+1)):=by rw [m.out];exact j.blk.cell 2
 (have k:decide (0<fl)=false:=(decide_eq_false t);have l:¬((f:Int)+1<=(gn:Int)):=(by have:=u.out;omega))
 go_wp2;go_quiet (fail)
 go_wp2
 (go_quiet (fail);go_wp2;rw [J.out];refine⟨?_,((j.drewN _).drewN _),(L.drewN _).drewN _⟩;(have z:¬(0<s.fail/\s.fail<=(s.calls:Int)+1):=(fun h=>absurd h.1 (by have:=t.out;have:=B.out;omega));have r:=decide_eq_false z;rw [if_neg z,r]);unfold Src.most;rw [<-m.out,List.getElem?_eq_none (by have:=H.out;have:=u.out;omega)];rfl)
theorem yG (F:Nat->Prop) (q:Nat) (s:Src) (gA lA:Option Addr) (gn gc ln D n:Nat) (w:World) (h:ji w F q s gA lA gn gc ln D) (x:¬F q) (Q:s.calls<4611686018427387904) (T:n<=1152921504606) (_A:gn<=1152921504606) (t:0<s.fail/\¬s.fail<=(s.calls:Int)+1) (v:s.calls<gn):
  Calls prog 234 #[.pointer (some ⟨q,0,none⟩),.int .i64 n] w (zG F q s gA lA gn gc ln D n w):=by
 refine letter fun R O=> ?_;have H:=aa h;have G:=aa x;obtain⟨fl,i⟩:∃fl,fl=s.fail:=⟨_,rfl⟩;obtain⟨f,d⟩:∃f,f=s.calls:=⟨_,rfl⟩;have J:=aa i;have r:=aa d;have N:=aa h.blk;have X:=aa h.gn_len;have K:w.cell? ⟨q,0,none⟩=some (.slice gA gn gc):=h.blk.cell 0;have L:w.cell? ⟨q,1,none⟩=some (.int .i64 fl):=by rw [i];exact h.blk.cell 1
 have M:w.cell? ⟨q,2,none⟩=some (.int .i64 f):=by rw [d];exact h.blk.cell 2
 have V:=h.blk.frozen 2;rw [<-d] at Q
 (rw [<-i,<-d] at t;rw [<-d] at v;have y:=aa t;have E:=aa v;clear t v)
 clear h x i d;go_enter func234,ntmps234
 go_upto_region 2 with fail
 obtain⟨w1,j⟩:∃W,W=w.setCell ⟨q,2,none⟩ (.int .i64 ((f:Int)+1)):=⟨_,rfl⟩;rw [<-j]
 have m:Hid (ji w1 F q s.asked gA lA gn gc ln D):=aa (by
  rw [j];have k:=(ag.refl (fun b=>b=q) w).setCell (p:=⟨q,2,none⟩) (fun _=>rfl) (.int .i64 ((f:Int)+1));have l:=N.out.set_ 2 (.int .i64 ((f:Int)+1));rw [r.out] at l k|-;exact⟨l,H.gv.chg k (fun b l e=>G (e▸l)),H.sb.chg k (fun b l e=>G (e▸l))⟩)
 have S:Hid (ag (fun b=>b=q) w w1):=aa (by rw [j];exact(ag.refl (fun b=>b=q) w).setCell (p:=⟨q,2,none⟩) (fun _=>rfl) _);clear K L M V j;have K:w1.cell? ⟨q,0,none⟩=some (.slice gA gn gc):=m.out.blk.cell 0;have L:w1.cell? ⟨q,1,none⟩=some (.int .i64 fl):=by rw [J.out];exact m.blk.cell 1
 have M:w1.cell? ⟨q,2,none⟩=some (.int .i64 ((f:Int)+1)):=by rw [r.out];exact m.blk.cell 2
 (have t:=y.out.1;have P:=y.out.2;have v:(f:Int)+1<=(gn:Int):=(by have:=E.out;omega))
 go_wp2;go_quiet (fail)
 go_wp2
 (obtain⟨b,o,u,rfl,_,C,c⟩:=m.out.gv.at_ E;obtain⟨g,_A,rfl⟩:∃g,s.gives[f]? =some g/\u= .int .i64 g:=(by simp only [jw,Src.asked,List.getElem?_map,Option.map_eq_some_iff] at C;obtain⟨g,a,e⟩:=C;exact⟨g,a,e.symm⟩);have z:w1.cell? ⟨b,o+f,none⟩=some (.int .i64 g):=c;have U:=aa _A;clear C _A c;go_quiet (fail);go_wp2;go_quiet (fail);go_wp2;rw [O.out];refine⟨?_,(((m.drewN _).drewN _).drewN _),((S.drewN _).drewN _).drewN _⟩;(have I:¬(0<s.fail/\s.fail<=(s.calls:Int)+1):=(fun h=>absurd h.2 (by have:=y.out.2;have:=J.out;have:=r.out;omega));have B:=decide_eq_false I;rw [if_neg I,B]);unfold Src.most;rw [<-r.out,U.out,show((min n g.toNat:Nat):Int)=max 0 (min (n:Int) g) by omega];rfl)
theorem yH (F:Nat->Prop) (q:Nat) (s:Src) (gA o:Option Addr) (gn gc ln D n:Nat) (w:World) (h:ji w F q s gA o gn gc ln D) (x:¬F q) (L:s.calls<4611686018427387904) (_T:n<=1152921504606) (_A:gn<=1152921504606) (l:0<s.fail/\¬s.fail<=(s.calls:Int)+1) (m:¬s.calls<gn):
  Calls prog 234 #[.pointer (some ⟨q,0,none⟩),.int .i64 n] w (zG F q s gA o gn gc ln D n w):=by
 refine letter fun R J=> ?_;have y:=aa h;have v:=aa x;obtain⟨fl,c⟩:∃fl,fl=s.fail:=⟨_,rfl⟩;obtain⟨f,a⟩:∃f,f=s.calls:=⟨_,rfl⟩;have B:=aa c;have k:=aa a;have I:=aa h.blk;have H:=aa h.gn_len;have C:w.cell? ⟨q,0,none⟩=some (.slice gA gn gc):=h.blk.cell 0;have E:w.cell? ⟨q,1,none⟩=some (.int .i64 fl):=by rw [c];exact h.blk.cell 1
 have G:w.cell? ⟨q,2,none⟩=some (.int .i64 f):=by rw [a];exact h.blk.cell 2
 have N:=h.blk.frozen 2;rw [<-a] at L
 (rw [<-c,<-a] at l;rw [<-a] at m;have r:=aa l;have u:=aa m;clear l m)
 clear h x c a;go_enter func234,ntmps234
 go_upto_region 2 with fail
 obtain⟨w1,d⟩:∃W,W=w.setCell ⟨q,2,none⟩ (.int .i64 ((f:Int)+1)):=⟨_,rfl⟩;rw [<-d]
 have j:Hid (ji w1 F q s.asked gA o gn gc ln D):=aa (by
  rw [d];have g:=(ag.refl (fun b=>b=q) w).setCell (p:=⟨q,2,none⟩) (fun _=>rfl) (.int .i64 ((f:Int)+1));have i:=I.out.set_ 2 (.int .i64 ((f:Int)+1));rw [k.out] at i g|-;exact⟨i,y.gv.chg g (fun b i e=>v (e▸i)),y.sb.chg g (fun b i e=>v (e▸i))⟩)
 have M:Hid (ag (fun b=>b=q) w w1):=aa (by rw [d];exact(ag.refl (fun b=>b=q) w).setCell (p:=⟨q,2,none⟩) (fun _=>rfl) _);clear C E G N d;have C:w1.cell? ⟨q,0,none⟩=some (.slice gA gn gc):=j.out.blk.cell 0;have E:w1.cell? ⟨q,1,none⟩=some (.int .i64 fl):=by rw [B.out];exact j.blk.cell 1
 have G:w1.cell? ⟨q,2,none⟩=some (.int .i64 ((f:Int)+1)):=by rw [k.out];exact j.blk.cell 2
 (have l:=r.out.1;have K:=r.out.2;have m:¬((f:Int)+1<=(gn:Int)):=(by have:=u.out;omega))
 go_wp2;go_quiet (fail)
 go_wp2
 (go_quiet (fail);go_wp2;rw [J.out];refine⟨?_,((j.drewN _).drewN _),(M.drewN _).drewN _⟩;(have z:¬(0<s.fail/\s.fail<=(s.calls:Int)+1):=(fun h=>absurd h.2 (by have:=r.out.2;have:=B.out;have:=k.out;omega));have t:=decide_eq_false z;rw [if_neg z,t]);unfold Src.most;rw [<-k.out,List.getElem?_eq_none (by have:=H.out;have:=u.out;omega)];rfl)
theorem Ej (F:Nat->Prop) (q:Nat) (s:Src) (gA o:Option Addr) (gn gc p D n:Nat) (w:World) (h:ji w F q s gA o gn gc p D) (x:¬F q) (c:s.calls<4611686018427387904) (T:n<=1152921504606) (A:gn<=1152921504606):
  Calls prog 234 #[.pointer (some ⟨q,0,none⟩),.int .i64 n] w (zG F q s gA o gn gc p D n w):=by
 by_cases a:0<s.fail
 ·by_cases d:s.fail<=(s.calls:Int)+1
  ·exact Ei F q s gA o gn gc p D n w h x c T A a d
  ·by_cases b:s.calls<gn
   ·exact yG F q s gA o gn gc p D n w h x c T A ⟨a,d⟩ b
   ·exact yH F q s gA o gn gc p D n w h x c T A ⟨a,d⟩ b
 ·by_cases b:s.calls<gn
  ·exact yE F q s gA o gn gc p D n w h x c T A a b
  ·exact yF F q s gA o gn gc p D n w h x c T A a b
noncomputable def FE:Code:=aV (f233.body.bind (aJ 6))
theorem S7 (F:Nat->Prop) (q pb n d p D:Nat) (lA:Option Addr) (l:List UInt8) (cur:List Value) (w:World) {s:Value} (Q:Exit->Act->World->Prop) (mQ:Hid (∀c t (a:Act) w,Q (.panic c) ⟨t,a.defers⟩ w->Q (.panic c) a w))
  (e:w.drew.cell? ⟨q,3,none⟩=some (.slice lA p D)) (HL:Hid (SB w F (.slice lA p D) l)) (HP:Hid (aj w pb 5 cur.toArray)) (ac:Hid (cur.length=n)) (hk:d<=n) (hn:n<=1152921504606) (hq:q<pb)
  (ax:∀(an ao ap aq ar aw aA aE:Value) (w':World),aj w' pb 5 (splice cur 0 (aF (l.take d))).toArray->Below pb w w'->Q .normal ⟨(.pointer (some ⟨q,0,none⟩):: .slice (some ⟨pb,0,none⟩) n n::J::L::H::u5:: .int .i64 d::B:: .int .i64 (l.take d).length::r::M::E::I::Z::N::U::Y::O::f::C::s::V::P::m::u24::g::T::u27::an::ao::ap::aq::ar::aw::aA::aE::S).toArray,[]⟩ w'):
  Code.wp prog FE Q ⟨(.pointer (some ⟨q,0,none⟩):: .slice (some ⟨pb,0,none⟩) n n::J::L::H::u5:: .int .i64 d::B::u8::r::M::E::I::Z::N::U::Y::O::f::C::s::V::P::m::u24::g::T::u27::W::u::A::k::x::u33::u34::u35::S).toArray,[]⟩ w:=by
 have dP:=aa ax;have R:Hid (Below w.heap.size w w.drew):=aa (Below.refl _ _).drew;have y:=aa (HL.below R);have X:=aa (HP.below R)
 have al:(prog.info? 5).map (·.size)=some 1:=by
  obtain⟨i0,ae,_,am,_⟩:=info_parts bu;rw [ae];simp [am]
 have a0:(d:Int)<=(n:Int):=by omega
 have z:=e;have d9:Hid (Below pb w w.drew):=aa (R.mono (Nat.le_of_lt HP.lt));clear ax;conv=>arg 2;whnf
 refine aU (fun w'=>w'.cell? ⟨q,3,none⟩=some (.slice lA p D)) (by kernel_rfl) ?_;refine vT 0 e ?_;refine vT 1 e ?_;refine vT 2 e ?_;refine vT 3 e ?_;refine vT 4 e ?_;refine vT 5 e ?_;refine vT 6 e ?_;refine aO (i:=7) (by kernel_rfl) rfl (fun K hK=> ?_);refine step_copy_splice rfl (.tmp 30) (.tmp 34) 24 24 rfl 5 underlying24 al (some ⟨pb,0,none⟩) lA d n p D rfl rfl pb 0 cur 5 X (aF (l.take d)) (by have:=y.out.parts.2.2.1;rw [cO,List.length_take];show _=min p d;omega) (fun h0=>⟨rfl,by{have hp:=y.out.parts;have h1:0<p:=(by rw [cO,List.length_take] at h0;omega);obtain⟨b,o,rfl,_,hc⟩:=hp.2.2.2.2 h1;refine⟨_,rfl,fun j v G=> ?_⟩;rw [iT];exact hc j v (by rw [<-DK] at G;rw [List.getElem?_take] at G;split at G;exact G;cases G)}⟩) (by rw [cO,List.length_take];have:=ac.out;omega) (bC _) pb w d9 (Nat.le_refl _) ?_;intro w2 ad ab;have xD:=aa ad;have h:=aa ab;refine hK.out _ _ (tH h hq (show w.cell? ⟨q,3,none⟩=some (.slice lA p D) from z)) ?_;clear hK K;try simp only [aL,aN,aZ,aC]
 refine vT 8 (tH h hq (show w.cell? ⟨q,3,none⟩=some (.slice lA p D) from z)) ?_;refine bG (by kernel_rfl) ?_ _;go_simp
 simp only [cO];exact dP _ _ _ _ _ _ _ _ _ xD.out h
theorem oZ (l:List UInt8) (k:Nat):l.drop (l.take k).length=l.drop k:=by
 rw [List.length_take]
 rcases Nat.le_total k l.length with h|h
 ·rw [Nat.min_eq_left h]
 ·rw [Nat.min_eq_right h,List.drop_of_length_le (Nat.le_refl _),List.drop_of_length_le h]
theorem Rd.dropn {o m:Nat} {bs:List UInt8} (h:Rd w F 1 (some ⟨b,o,none⟩) n (aF bs)) (l:m<=n):Rd w F 1 (some ⟨b,o+m,none⟩) (n-m) (aF (bs.drop m)):=by
 refine⟨by have:=h.1;rw [cO] at this|-;rw [List.length_drop];omega,fun k=> ?_⟩;obtain⟨i,p,e,f,g⟩:=h.2 (by omega);injection e with e;injection e with c d
 subst c;subst d;refine⟨b,o+m,rfl,f,fun j u a=> ?_⟩;rw [Nat.add_assoc];refine g (m+j) u ?_;rw [<-wC,List.getElem?_drop] at a;exact a
theorem SB.dropn {w:World} {F:Nat->Prop} {b o n c m:Nat} {bs:List UInt8} {nA:Option Addr} (h:SB w F (.slice (some ⟨b,o,none⟩) n c) bs) (f:m<=n) (a:n-m=0\/nA=some ⟨b,o+m,none⟩):SB w F (.slice nA (n-m) (c-m)) (bs.drop m):=by
 obtain⟨g,i,j,d⟩:=h.parts;refine SB.mk (by omega) (by omega) (by rw [List.length_drop];omega) ?_
 rcases a with a|rfl
 ·have e:bs.drop m= []:=List.drop_of_length_le (by omega);rw [a,e]
  exact Rd.none_ _ _ _ _
 ·exact d.dropn f
def Bf (w:World) (pb n:Nat) (bs:List UInt8):Prop:=∃cur:List Value,aj w pb 5 cur.toArray/\cur.length=n/\cur.take bs.length=aF bs
def Reads (F:Nat->Prop) (q pb n:Nat) (s:Src) (w:World) (e:Ending) (w':World):Prop:=
 e= .returned (.tuple #[.int .i64 ((s.read n).1.length:Nat),.int .i64 (s.read n).2.1])/\fo w' F q (s.read n).2.2/\Bf w' pb n (s.read n).1/\ag (fun b=>b=q\/pb<=b) w w'
theorem Src.read_broken (h:0<s.fail/\s.fail<=(s.calls:Int)+1):s.read n=([],32,s.asked):=by unfold Src.read;rw [if_pos h]
theorem Src.read_end (h:¬(0<s.fail/\s.fail<=(s.calls:Int)+1)) (a:s.left= []):s.read n=([],31,s.asked):=by unfold Src.read;rw [if_neg h,if_pos a]
theorem Src.read_go (h:¬(0<s.fail/\s.fail<=(s.calls:Int)+1)) (a:s.left≠ []):s.read n=(s.left.take (s.most n),if s.eager=true/\s.left.drop (s.most n)= [] then 31 else 0,{s.asked with left:=s.left.drop (s.most n)}):=by unfold Src.read;rw [if_neg h,if_neg a]
theorem JM (F:Nat->Prop) (q pb n:Nat) (s:Src) (w:World) (h:fo w F q s) (x:¬F q) (t:∀b,F b->b<pb) (hp:Bf w pb n []) (a:q<pb) (hc:s.calls<4611686018427387904) (T:n<=1152921504606) (hg:s.gives.length<=1152921504606) (hl:s.left.length<=1152921504606):
  Calls prog 233 #[.pointer (some ⟨q,0,none⟩),.slice (some ⟨pb,0,none⟩) n n] w (Reads F q pb n s w):=by
 refine letter fun R I=> ?_;obtain⟨gA,K,gn,gc,c,i,hy⟩:=h;obtain⟨cur,f,Y,_⟩:=hp;have HY:=aa hy;have M:=aa x;have ja:=aa t;have HB:=aa f;have J:=aa Y;have xG:=aa hl;have Vo:Hid (gn<=1152921504606):=aa (by have:=hy.gn_len;omega);obtain⟨br,X⟩:∃br,br=decide (0<s.fail/\s.fail<=(s.calls:Int)+1):=⟨_,rfl⟩;have jM:=aa X;obtain⟨v,Z⟩:∃v:Nat,v=if 0<s.fail/\s.fail<=(s.calls:Int)+1 then 0 else s.most n:=⟨_,rfl⟩;have HK:=aa Z;have H:=aa a;have E7:=aa hc;clear hy x t f Y hl X Z hg hc
 cases br with
 |true=>
  have A:Hid (0<s.fail/\s.fail<=(s.calls:Int)+1):=aa (of_decide_eq_true jM.out.symm);go_enter func233,ntmps233
  go_wp2_with (go_at_call 234;go_loud (refine(Ej F q s gA K gn gc c i n w HY M E7 T Vo).mono ?_);rintro e w1 ⟨rfl,u,r⟩;rw [<-jM.out,<-HK.out];have E:=aa u;have D:=aa r;clear u r)
  rw [I.out];unfold Reads;rw [Src.read_broken A.out]
  exact⟨rfl,⟨gA,K,gn,gc,c,i,E⟩,⟨cur,HB.chg D (fun e=>by have:=H.out;omega),J,by simp [aF]⟩,D.mono (fun b _ e=> .inl e)⟩
 |false=>
  have A:Hid (¬(0<s.fail/\s.fail<=(s.calls:Int)+1)):=aa (of_decide_eq_false jM.out.symm);have j:Hid (v=s.most n):=aa (by rw [HK.out,if_neg A.out]);go_enter func233,ntmps233
  go_upto_region 2 with(go_at_call 234;go_loud (refine(Ej F q s gA K gn gc c i n w HY M E7 T Vo).mono ?_);rintro e w1 ⟨rfl,u,r⟩;rw [<-jM.out,<-HK.out];have E:=aa u;have D:=aa r;clear u r)
  have eu:Hid (c=s.left.length):=aa E.sb.parts.2.2.1;have z3:w1.cell? ⟨q,3,none⟩=some (.slice K c i):=E.out.blk.cell 3;have z4:w1.cell? ⟨q,4,none⟩=some (.bool s.eager):=E.out.blk.cell 4
  by_cases h0:c=0
  ·have L:Hid (s.left= []):=aa (List.eq_nil_of_length_eq_zero (by have:=eu.out;omega));subst h0;go_wp2;rw [I.out];unfold Reads;rw [Src.read_end A.out L.out]
   exact⟨rfl,⟨gA,K,gn,gc,0,i,E⟩,⟨cur,HB.chg D (fun e=>by have:=H.out;omega),J,by simp [aF]⟩,D.mono (fun b _ e=> .inl e)⟩
  ·have L:Hid (s.left≠ []):=aa (fun e=>h0 (by rw [eu.out,e];rfl));have ac:¬((c:Int)=0):=by omega
   go_upto_region 6 with fail
   refine S7 F q pb n v c i K s.left cur w1 _ (by exact aa (fun _ _ _ _ h=>h)) z3 (aa E.sb) (aa (HB.chg D (fun e=>by have:=H.out;omega))) J (by have:=j.out;have:=s.most_le n;omega) T H ?_;intro an ao ap aq ar aw ax aA w2 V Xg;have S:=aa V;have oH:=aa Xg
   have y:Hid (ji w2 F q s.asked gA K gn gc c i):=aa (by
    have g:ag (fun b=>pb<=b) w1 w2:=ag.of_below_ Xg (fun b _ f=>f);exact E.chg g (fun e=>by have:=H.out;omega) (fun b f e=>by have:=ja.out b f;omega))
   obtain⟨m,hm⟩:∃m,m=(s.left.take v).length:=⟨_,rfl⟩;rw [<-hm];have z:=aa hm;have ma:Hid (v<=n):=aa (by have:=j.out;have:=s.most_le n;omega);have Pb:m<=c:=by rw [hm,List.length_take,eu.out];omega
   obtain⟨b,o,rfl,BM,_⟩:=y.out.sb.parts.2.2.2.2 (by omega);have ae:c<=i:=y.out.sb.parts.1;have y3:w2.cell? ⟨q,3,none⟩=some (.slice (some ⟨b,o,none⟩) c i):=y.out.blk.cell 3;have aE:=y.out.blk.frozen 3;obtain⟨Q,MW⟩:∃Q,Q=s.eager:=⟨_,rfl⟩;have N:=aa MW;have Hu:(m:Int)<=(c:Int):=by omega
   have am:c<=1152921504606:=by have:=xG.out;have:=eu.out;omega
   clear V Xg hm z3 z4 MW
   by_cases ad:i=m
   ·have al:c=m:=by omega
    go_upto_region 8 with fail
    obtain⟨k,d⟩:∃W,W=w2.setCell ⟨q,3,none⟩ (.slice (some ⟨b,o,none⟩) 0 0):=⟨_,rfl⟩;rw [<-d]
    have l:Hid (ji k F q {s.asked with left:=s.left.drop (s.most n)} gA (some ⟨b,o,none⟩) gn gc 0 0):=aa (by
     rw [d];have g:=(ag.refl (fun b=>b=q) w2).setCell (p:=⟨q,3,none⟩) (fun _=>rfl) (.slice (some ⟨b,o,none⟩) 0 0);refine⟨y.blk.set_ 3 _,y.gv.chg g (fun b f e=>M (e▸f)),?_⟩;rw [<-j.out,<-oZ,<-z.out];have B:=SB.dropn (nA:=(some ⟨b,o,none⟩)) y.sb Pb (.inl (by omega))
     (rw [show c-m=0 by omega,show i-m=0 by omega] at B)
     exact B.chg g (fun b f e=>M (e▸f)))
    have G:Hid (aj k pb 5 (splice cur 0 (aF (s.left.take v))).toArray):=aa (by rw [d];exact S.far (p:=⟨q,3,none⟩) (fun e=>by have e:pb=q:=e;have:=H.out;omega) _)
    have P:Hid (ag (fun b=>b=q\/pb<=b) w k):=aa (by
     rw [d];refine(((D.mono (fun b _ e=> .inl e)).trans (?_:ag (fun b=>b=q\/pb<=b) w1 w2) (fun _ _ h=>h))).setCell (p:=⟨q,3,none⟩) (fun _=> .inl rfl) _;exact ag.of_below_ oH (fun b _ f=> .inr f))
    have z3:k.cell? ⟨q,3,none⟩=some (.slice (some ⟨b,o,none⟩) 0 0):=l.out.blk.cell 3;have z4:k.cell? ⟨q,4,none⟩=some (.bool Q):=(l.out.blk.cell 4).trans (by rw [N.out];rfl);clear d
    have O:Hid (Bf k pb n (s.left.take v)):=aa ⟨_,G,by rw [length_splice _ _ _ (by rw [cO,J.out];have:=z.out;have:=ma.out;rw [List.length_take];omega)];exact J,by
     unfold splice;simp [cO]⟩
    have KL:Hid (0=(s.left.drop (s.most n)).length):=aa l.sb.parts.2.2.1
    cases Q with
    |true=>
     by_cases hz:(0:Nat)=0
     ·have ab:((0:Nat):Int)=0:=by omega
      have C:Hid (s.eager=true/\s.left.drop (s.most n)= []):=aa ⟨N.out.symm,List.eq_nil_of_length_eq_zero (by have:=KL.out;omega)⟩;go_wp2;rw [I.out];unfold Reads;rw [Src.read_go A.out L.out,if_pos C.out]
      exact⟨by rw [z.out,j.out],⟨gA,_,gn,gc,_,_,l⟩,by have:=O.out;rw [j.out] at this;exact this,P⟩
     ·exact absurd rfl hz
    |false=>
     have C:Hid (¬(s.eager=true/\s.left.drop (s.most n)= [])):=aa (fun h=>by have U:=h.1;rw [<-N.out] at U;cases U);go_wp2;rw [I.out];unfold Reads;rw [Src.read_go A.out L.out,if_neg C.out]
     exact⟨by rw [z.out,j.out],⟨gA,_,gn,gc,_,_,l⟩,by have:=O.out;rw [j.out] at this;exact this,P⟩
   ·go_upto_region 8 with fail
    obtain⟨k,d⟩:∃W,W=w2.setCell ⟨q,3,none⟩ (.slice (some ⟨b,o+m,none⟩) (c-m) (i-m)):=⟨_,rfl⟩;rw [<-d]
    have l:Hid (ji k F q {s.asked with left:=s.left.drop (s.most n)} gA (some ⟨b,o+m,none⟩) gn gc (c-m) (i-m)):=aa (by
     rw [d];have g:=(ag.refl (fun b=>b=q) w2).setCell (p:=⟨q,3,none⟩) (fun _=>rfl) (.slice (some ⟨b,o+m,none⟩) (c-m) (i-m));refine⟨y.blk.set_ 3 _,y.gv.chg g (fun b f e=>M (e▸f)),?_⟩;rw [<-j.out,<-oZ,<-z.out];have B:=SB.dropn (nA:=(some ⟨b,o+m,none⟩)) y.sb Pb (.inr rfl)
     skip
     exact B.chg g (fun b f e=>M (e▸f)))
    have G:Hid (aj k pb 5 (splice cur 0 (aF (s.left.take v))).toArray):=aa (by rw [d];exact S.far (p:=⟨q,3,none⟩) (fun e=>by have e:pb=q:=e;have:=H.out;omega) _)
    have P:Hid (ag (fun b=>b=q\/pb<=b) w k):=aa (by
     rw [d];refine(((D.mono (fun b _ e=> .inl e)).trans (?_:ag (fun b=>b=q\/pb<=b) w1 w2) (fun _ _ h=>h))).setCell (p:=⟨q,3,none⟩) (fun _=> .inl rfl) _;exact ag.of_below_ oH (fun b _ f=> .inr f))
    have z3:k.cell? ⟨q,3,none⟩=some (.slice (some ⟨b,o+m,none⟩) (c-m) (i-m)):=l.out.blk.cell 3;have z4:k.cell? ⟨q,4,none⟩=some (.bool Q):=(l.out.blk.cell 4).trans (by rw [N.out];rfl);clear d
    have O:Hid (Bf k pb n (s.left.take v)):=aa ⟨_,G,by rw [length_splice _ _ _ (by rw [cO,J.out];have:=z.out;have:=ma.out;rw [List.length_take];omega)];exact J,by
     unfold splice;simp [cO]⟩
    have KL:Hid ((c-m)=(s.left.drop (s.most n)).length):=aa l.sb.parts.2.2.1
    cases Q with
    |true=>
     by_cases hz:((c-m):Nat)=0
     ·have ab:(((c-m):Nat):Int)=0:=by omega
      have C:Hid (s.eager=true/\s.left.drop (s.most n)= []):=aa ⟨N.out.symm,List.eq_nil_of_length_eq_zero (by have:=KL.out;omega)⟩;go_wp2;rw [I.out];unfold Reads;rw [Src.read_go A.out L.out,if_pos C.out]
      exact⟨by rw [z.out,j.out],⟨gA,_,gn,gc,_,_,l⟩,by have:=O.out;rw [j.out] at this;exact this,P⟩
     ·(have ab:¬(((c-m:Nat):Int)=0):=by omega);(have C:Hid (¬(s.eager=true/\s.left.drop (s.most n)= [])):=aa (fun h=>hz (by rw [KL.out,h.2];rfl)));go_wp2;rw [I.out];unfold Reads;rw [Src.read_go A.out L.out,if_neg C.out];exact⟨by rw [z.out,j.out],⟨gA,_,gn,gc,_,_,l⟩,by have:=O.out;rw [j.out] at this;exact this,P⟩
    |false=>
     have C:Hid (¬(s.eager=true/\s.left.drop (s.most n)= [])):=aa (fun h=>by have U:=h.1;rw [<-N.out] at U;cases U);go_wp2;rw [I.out];unfold Reads;rw [Src.read_go A.out L.out,if_neg C.out];exact⟨by rw [z.out,j.out],⟨gA,_,gn,gc,_,_,l⟩,by have:=O.out;rw [j.out] at this;exact this,P⟩
structure lW (w:World) (F:Nat->Prop) (q p:Nat) (c:ay) (hv:Nat):Prop where
 blk:aj w q 188 #[.int .i64 c.at_,.int .i64 c.err,.int .i64 c.idle,.iface 29 (.pointer (some ⟨p,0,none⟩)),.int .i64 9223372036854775807,.int .u8 hv,.bool c.held.isSome]
 src:fo w F p c.src
 hl:∀x,c.held=some x->hv=x.toNat
theorem vG (q:Nat) (cs:Array Value) (T:TypeId) (e:Int) (w:World) (h:aj w q T cs) (b:1<cs.size):Calls prog 133 #[.pointer (some ⟨q,0,none⟩),.int .i64 e] w fun a w'=>a= .returned (.int .i64 e)/\w'=w.setCell ⟨q,1,none⟩ (.int .i64 e):=by
 have c:w.cell? ⟨q,1,none⟩=some cs[1]:=by rw [h.cell];exact Array.getElem?_eq_getElem b
 have d:=h.frozen 1;go_enter func133,ntmps133
 go_wp2;go_ret
 exact⟨rfl,rfl⟩
theorem JL (q i:Nat) (cs:Array Value) (T:TypeId) (w:World) (h:aj w q T cs) (d:cs[2]? =some (.int .i64 i)) (hi:i<=1000):Calls prog 161 #[.pointer (some ⟨q,0,none⟩),.bool true] w fun c w'=>c= .returned (.bool (decide ((0:Nat)=16)))/\aj w' q T (cs.setIfInBounds 2 (.int .i64 (0:Nat)))/\ag (fun b=>b=q) w w':=by
 have e:w.cell? ⟨q,2,none⟩=some (.int .i64 i):=(h.cell 2).trans d;have f:=h.frozen 2;have a:=aa h;clear h;go_enter func161,ntmps161
 go_wp2;go_ret
 refine⟨rfl,(by have:=(a.out.set_ 2 (.int .i64 ((i:Int)+1))).set_ 2 (.int .i64 0);rw [Array.setIfInBounds_setIfInBounds] at this;exact this),((ag.refl (fun b=>b=q) w).setCell (p:=⟨q,2,none⟩) (fun _=>rfl) _).setCell (p:=⟨q,2,none⟩) (fun _=>rfl) _⟩
theorem Nj (q i:Nat) (cs:Array Value) (T:TypeId) (w:World) (h:aj w q T cs) (d:cs[2]? =some (.int .i64 i)) (hi:i<=1000):Calls prog 161 #[.pointer (some ⟨q,0,none⟩),.bool false] w fun c w'=>c= .returned (.bool (decide (((i+1):Nat)=16)))/\aj w' q T (cs.setIfInBounds 2 (.int .i64 ((i+1):Nat)))/\ag (fun b=>b=q) w w':=by
 have e:w.cell? ⟨q,2,none⟩=some (.int .i64 i):=(h.cell 2).trans d;have f:=h.frozen 2;have a:=aa h;clear h;go_enter func161,ntmps161
 go_wp2;go_ret
 refine⟨(by rw [show decide (i+1=16)=((i:Int)+1==16) by rw [Bool.eq_iff_iff];simp;omega];rfl),a.set_ 2 _,(ag.refl (fun b=>b=q) w).setCell (p:=⟨q,2,none⟩) (fun _=>rfl) _⟩
theorem rW (q i:Nat) (b:Bool) (cs:Array Value) (T:TypeId) (w:World) (h:aj w q T cs) (a:cs[2]? =some (.int .i64 i)) (hi:i<=1000):Calls prog 161 #[.pointer (some ⟨q,0,none⟩),.bool b] w fun c w'=>c= .returned (.bool (decide ((if b then 0 else i+1:Nat)=16)))/\aj w' q T (cs.setIfInBounds 2 (.int .i64 (if b then 0 else i+1:Nat)))/\ag (fun b=>b=q) w w':=by
 cases b
 ·exact Nj q i cs T w h a hi
 ·exact JL q i cs T w h a hi
theorem Nk (a:Addr) (w:World):(nilAhead prog.depth 29 (.pointer (some a)) "Read").run prog w= .ok (some false) w:=by kernel_rfl
theorem Dk (a:Addr) (w:World):(method 468 29 (.pointer (some a)) "Read").run prog w= .ok (233,.pointer (some a)) w:=by kernel_rfl
noncomputable def pW:Code:=aV (f134.body.bind (aJ 6))
theorem Qz (F:Nat->Prop) (q p pb k:Nat) (s:Src) (w:World) {D:Value} (Q:Exit->Act->World->Prop)
  (z3:w.cell? ⟨q,3,none⟩=some (.iface 29 (.pointer (some ⟨p,0,none⟩)))) (H:Hid (fo w F p s)) (hF:Hid (¬F p)) (Dl:Hid (∀b,F b->b<pb)) (HP:Hid (Bf w pb k [])) (hp:p<pb) (hc:s.calls<4611686018427387904) (hk:k<=4096) (hg:s.gives.length<=1152921504606) (hl:s.left.length<=1152921504606)
  (ax:∀(z B ab ac ad ae al am an:Value) (w':World),fo w' F p (s.read k).2.2->Bf w' pb k (s.read k).1->ag (fun b=>b=p\/pb<=b) w w'->Q .normal ⟨(.pointer (some ⟨q,0,none⟩)::u1::J::L::u4::v::d:: .slice (some ⟨pb,0,none⟩) k k:: .int .i64 ((s.read k).1.length:Nat):: .int .i64 (s.read k).2.1::M::E::I::Z::N::U::Y::O::f::C::u20::V::P::m::D::g::T::j::W::u::A::u31::x::u33::u34::u35::h::u37::c::z::B::ab::ac::ad::ae::al::am::an::S).toArray,[]⟩ w'):
  Code.wp prog pW Q ⟨(.pointer (some ⟨q,0,none⟩)::u1::J::L::u4::v::d:: .slice (some ⟨pb,0,none⟩) k k::r::u9::M::E::I::Z::N::U::Y::O::f::C::u20::V::P::m::D::g::T::j::W::u::A::u31::x::u33::u34::u35::h::u37::c::R::u40::X::K::G::u44::i::u46::l::S).toArray,[]⟩ w:=by
 have dP:=aa ax;have n1:=Nk ⟨p,0,none⟩ w;have n2:=Dk ⟨p,0,none⟩ w;clear ax;conv=>arg 2;whnf
 go_wp2_with (go_at_call 233;go_loud (refine(JM F p pb k s w H hF.out Dl.out HP hp hc (by omega) hg hl).mono ?_);rintro e w2 ⟨rfl,o,a,n⟩;have y:=aa o;have t:=aa a;have bB:=aa n;clear o a n)
 exact dP _ _ _ _ _ _ _ _ _ w2 y t bB
end Go.Proofs.YtepgcjbhabnciaaGreat
