/- Part 22. -/
import Derived.Test.YtepgcjbhabnciaaGreatLe21
namespace Go.Proofs.YtepgcjbhabnciaaGreat
set_option maxRecDepth 100000
set_option maxHeartbeats 8000000
open Go.Proofs.Tryz Go.RowKit
open Go.Lib (compareBytes)
theorem vH (F:Nat->Prop) (q p hv n K:Nat) (c:ay) (w:World) (h:lW w F q p c hv) (hf:c.Fine K) (i:¬F p) (j:p<w.heap.size) (B:q≠p) (o:¬F q) (d:∀b,F b->b<w.heap.size) (e:K<=1152921504606846976) (T:n<=1152921504606) (a:0<n) (f:c.src.gives.length<=1152921504606) (hl:c.src.left.length<=1152921504606):
  Calls prog 134 #[.pointer (some ⟨q,0,none⟩),.int .i64 n] w (oP F q p hv n c w):=by
 cases hh:c.held with
 |none=>exact JV F q p hv n K c w h hf i j B o d e T a f hl hh
 |some x=>exact JW F q p hv n K x c w h hf i j B o d e T a f hl hh
def JX (F:Nat->Prop) (q p n:Nat) (c:ay) (w:World) (e:Ending) (w':World):Prop:=
 ∃v hv,e= .returned (.tuple #[v,.int .i64 (c.bytes n).2.1])/\((c.bytes n).2.1=0->Ow w' w.heap.size v (c.bytes n).1)/\lW w' F q p (c.bytes n).2.2 hv/\ag (Cs q p w.heap.size) w w'
theorem bytes_err (F:Nat->Prop) (q p hv n:Nat) (c:ay) (w:World) (h:lW w F q p c hv) (b:c.err≠0):
  Calls prog 90 #[.pointer (some ⟨q,0,none⟩),.int .i64 n] w (JX F q p n c w):=by
 refine letter fun R f=> ?_;obtain⟨er,a⟩:∃er,er=c.err:=⟨_,rfl⟩;have j:=aa a;have k:w.cell? ⟨q,1,none⟩=some (.int .i64 er):=(h.blk.cell 1).trans (by rw [a];rfl);have d:=aa h;rw [<-a] at b;have e:=aa b;have g:(er==0)=false:=by rw [beq_eq_false_iff_ne];exact b
 have i:Hid (c.bytes n=([],er,c)):=aa (by unfold ay.bytes;rw [a] at b;rw [if_pos b,a]);clear h a;go_enter func90,ntmps90
 go_wp2;go_quiet (fail)
 go_wp2;rw [f.out]
 unfold JX;rw [i.out];exact⟨_,hv,rfl,fun h=>absurd h e,⟨d.blk.chg ((ag.refl Nil w).drewN _) (fun h=>h),d.src.chg ((ag.refl Nil w).drewN _) (fun h=>h) (fun _ _ h=>h),d.hl⟩,(ag.refl _ _).drewN _⟩
theorem bytes_ok (F:Nat->Prop) (q p hv n K:Nat) (c:ay) (w:World) (h:lW w F q p c hv) (A:c.err=0) (z:c.at_<=1152921504606) (i:c.Fine K) (hF:¬F p) (j:p<w.heap.size) (B:q≠p) (o:¬F q) (S:∀b,F b->b<w.heap.size) (Z:K<=1152921504606846976) (T:n<=1152921504606) (a:0<n) (C:c.src.gives.length<=1152921504606) (hl:c.src.left.length<=1152921504606):
  Calls prog 90 #[.pointer (some ⟨q,0,none⟩),.int .i64 n] w (JX F q p n c w):=by
 refine letter fun R N=> ?_;obtain⟨L,hL⟩:∃L,L=ay.loop {c with held:=none} c.held.toList n:=⟨_,rfl⟩;have P:Hid (c.bytes n=if L.2.1=0 then(L.1,0,{L.2.2 with at_:=c.at_+n}) else([],L.2.1,{L.2.2 with err:=L.2.1})):=aa (by unfold ay.bytes;rw [if_neg (fun h=>h A),if_neg (by omega),hL]);have G:(w.drewN 0)=w.drewN 0:=rfl;obtain⟨d,s⟩:∃d,d=c.at_:=⟨_,rfl⟩;have X:=aa s;rw [<-s] at z;have Q:w.cell? ⟨q,0,none⟩=some (.int .i64 d):=(h.blk.cell 0).trans (by rw [s];rfl);have z1:w.cell? ⟨q,1,none⟩=some (.int .i64 0):=(h.blk.cell 1).trans (by rw [A];rfl);have z4:w.cell? ⟨q,4,none⟩=some (.int .i64 9223372036854775807):=h.blk.cell 4;have V:=aa h;have W:Hid (∀k,Calls prog 134 #[.pointer (some ⟨q,0,none⟩),.int .i64 n] (w.drewN k) (oP F q p hv n c (w.drewN k))):=aa (fun k=>vH F q p hv n K c _ ⟨h.blk.chg ((ag.refl Nil w).drewN k) (fun h=>h),h.src.chg ((ag.refl Nil w).drewN k) (fun h=>h) (fun _ _ h=>h),h.hl⟩ i hF j B o S Z T a C hl);have U:=aa hL
 have u:Hid (L.2.2.at_=d):=aa (by
  rw [hL,s];exact(ay.loop_out (K:=K) n _ {c with held:=none} c.held.toList (Nat.le_refl _) ⟨i.idle,i.pot⟩ (by cases c.held<;>simp;omega)).2.2.2.1)
 have I:IntKind.i64.wrap ((9223372036854775807:Int)-d)=9223372036854775807-d:=IntWalk.i64_in _ (by omega);have D:¬((9223372036854775807:Int)-d<n):=by omega
 clear h A hL s G;go_enter func90,ntmps90
 go_wp2;go_quiet (fail)
 go_upto_region 8 with(go_at_call 134;go_loud (refine(W _).mono ?_);rintro e w2 ⟨v,rfl,E,hi,O⟩;rw [<-U.out] at E hi|-;have M:=aa E;have f:=aa hi;have J:Hid (ag (Cs q p w.heap.size) w w2):=aa (((ag.refl (Cs q p w.heap.size) w).drewN _).trans O (fun _ _ h=>h));clear E hi O)
 obtain⟨er,x⟩:∃er,er=L.2.1:=⟨_,rfl⟩;rw [<-x];have t:=aa x;clear x Q z1 z4 I D
 by_cases y:er=0
 ·have r:Hid (L.2.1=0):=aa (by rw [<-t.out];exact y);have Q:w2.cell? ⟨q,0,none⟩=some (.int .i64 d):=(f.out.blk.cell 0).trans (by rw [u.out];rfl);have Ev:=f.out.blk.frozen 0;subst y;go_wp2;rw [N.out];unfold JX;rw [P.out,if_pos r.out];have m:=(ag.refl (fun b=>b=q) w2).setCell (p:=⟨q,0,none⟩) (fun _=>rfl) (.int .i64 ((d:Int)+n))
  refine⟨v,hv,rfl,fun _=> ?_,⟨?_,f.src.chg m (fun e=>B e.symm) (fun b l e=>o (e▸l)),f.hl⟩,J.setCell (p:=⟨q,0,none⟩) (fun _=> .inl rfl) _⟩
  ·exact(M r).chg m (fun g C e=>by have Y:=(ah (M r) g C).1;have h2:=V.out.blk.lt;have e:g=q:=e;have h3:w.heap.size<=g:=Y;omega)
  ·have l:=f.out.blk.set_ 0 (.int .i64 ((d:Int)+n));rw [X.out] at l|-
   exact l
 ·have r:Hid (¬L.2.1=0):=aa (by rw [<-t.out];exact y);have H:1<(#[Value.int .i64 L.2.2.at_,.int .i64 L.2.2.err,.int .i64 L.2.2.idle,.iface 29 (.pointer (some ⟨p,0,none⟩)),.int .i64 9223372036854775807,.int .u8 hv,.bool L.2.2.held.isSome]).size:=by simp
  go_wp2_with (go_at_call 133;go_loud (refine(vG q _ _ er w2 f.blk H).mono ?_);rintro e w3 ⟨rfl,rfl⟩)
  rw [N.out];unfold JX;rw [P.out,if_neg r.out];have m:=(ag.refl (fun b=>b=q) w2).setCell (p:=⟨q,1,none⟩) (fun _=>rfl) (.int .i64 er);refine⟨_,hv,by{rw [t.out];rfl},fun h=>absurd h r,⟨?_,f.src.chg m (fun e=>B e.symm) (fun b l e=>o (e▸l)),f.hl⟩,J.setCell (p:=⟨q,1,none⟩) (fun _=> .inl rfl) _⟩;have l:=f.out.blk.set_ 1 (.int .i64 er);rw [t.out] at l|-;exact l
theorem Da (w:World):(Instr.index 321 (.agg gT) (.int .i64 0)).run prog w= .ok (.agg #[.func (.func 211) #[] #[],.func (.func 212) #[] #[],.int .i64 73]) w:=by kernel_rfl
theorem Db (w:World):(Instr.index 321 (.agg gT) (.int .i64 1)).run prog w= .ok (.agg #[.func (.func 213) #[] #[],.func (.func 214) #[] #[],.int .i64 74]) w:=by kernel_rfl
theorem Dc (w:World):(Instr.index 321 (.agg gT) (.int .i64 2)).run prog w= .ok (.agg #[.func (.func 215) #[] #[],.func (.func 216) #[] #[],.int .i64 75]) w:=by kernel_rfl
theorem Fv (F:Nat->Prop) (A:Option Addr) (n c:Nat) (l:List Row) (w:World) (h:lF w F A n l) (Q:n<=c) (S:gD l) (ha:∀x∈l,x.at_<=1152921504606) (hF:∀b,F b->b<w.heap.size):
  Calls prog 186 #[.slice A n c] w fun e w'=>e= .returned (.tuple #[.int .i64 0,.int .i64 0])/\Below w.heap.size w w':=by
 refine letter fun R HR=> ?_;have Z:=aa h;have HN:Hid (n=l.length):=h.len;have N:=aa S;have HA:=aa ha;have Pm:=aa hF;have hn:n<=8388608:=by have:=HN.out;have:=S.many;omega
 have be:¬((8388608:Int)<(n:Int)):=by omega
 have a8:=aa (Fu w);have bh:gT.toList= [.func (.func 211) #[] #[],.func (.func 212) #[] #[],.int .i64 73,.func (.func 213) #[] #[],.func (.func 214) #[] #[],.int .i64 74,.func (.func 215) #[] #[],.func (.func 216) #[] #[],.int .i64 75]:=rfl;clear h S ha hF;go_enter func186,ntmps186
 go_upto_region 4 with(go_at_call 202;go_loud (refine a8.mono ?_);rintro e w1 ⟨rfl,ab⟩;have Y:=aa ab;clear ab)
 obtain⟨m,U⟩:∃m,m=w1.heap.size:=⟨_,rfl⟩;obtain⟨w2,G⟩:∃W,W=w1.alloc (.cells #[.func (.func 211) #[] #[],.func (.func 212) #[] #[],.int .i64 73,.func (.func 213) #[] #[],.func (.func 214) #[] #[],.int .i64 74,.func (.func 215) #[] #[],.func (.func 216) #[] #[],.int .i64 75] 321):=⟨_,rfl⟩;rw [<-G,<-U];have pV:Hid (aj w2 m 321 gT):=aa (by rw [G,U];exact aj.new _ _ _);have a7:Hid (Below w.heap.size w w2):=aa (by rw [G];exact Y.alloc Y.size _);clear G U be bh;go_wp2
 go_loopw [16] (fun iv X=>∃i:Nat,i<=n/\iv= .int .i64 i/\Hid (Below w.heap.size w X)/\Hid (aj X m 321 gT)) (fun iv _=>n-(intOf iv).toNat)
 case atStart=>exact⟨0,Nat.zero_le _,rfl,a7,pV⟩
 case round=>
  obtain⟨i,hi,rfl,HB,UG⟩:=hrel
  by_cases bb:i<n
  ·have ae:(i:Int)<(n:Int):=by omega
   obtain⟨g,o,L,D,I,x,vC,UH,hx,c0,c1,c2,c3,s⟩:=(Z.out.below HB).at_ bb;have B:=List.mem_of_getElem? hx;have bj:x.at_<=1152921504606:=HA.out x B;have ad:=N.out.len x B;have ac:=N.out.count x B;have E6:=N.out.key x B;have sU:Hid (x.at_=bV (l.take i)):=aa (N.place i x hx);have HS:=aa s;have HX:=aa hx;have eu:Hid (D=x.last.length):=aa s.parts.2.2.1;obtain⟨v,V⟩:∃v,v=wr.heap.size:=⟨_,rfl⟩;subst vC;clear hx B s;go_upto_region 7 with fail
   obtain⟨r,H⟩:∃W,W=wr.alloc (.cells #[.slice L D I,.int .i64 x.at_,.int .i64 x.len,.int .i64 x.ents] 100):=⟨_,rfl⟩;rw [<-H,<-V];have P:Hid (Below wr.heap.size wr r):=aa (by rw [H];exact(Below.refl _ _).alloc (Nat.le_refl _) _);have ma:Hid (aj r v 100 #[.slice L D I,.int .i64 x.at_,.int .i64 x.len,.int .i64 x.ents]):=aa (by rw [H,V];exact aj.new _ _ _);have a9:Hid (aj r m 321 gT):=aa (UG.below P);have T:Hid (Below w.heap.size w r):=aa (HB.out.trans (P.mono HB.size));have y0:r.cell? ⟨v,0,none⟩=some (.slice L D I):=ma.out.cell 0;have Pj:Hid (∀w',Calls prog 97 #[.slice L D I] w' fun e w2=>e= .returned (.int .i64 0)/\w'=w2):=aa (fun w'=>by have h9:=Iu L D I x.last eu w';rw [Iv E6.1 E6.2] at h9;exact h9)
   have a6:Hid (∀y,(l.take i)[i-1]? =some y->compareBytes y.last x.last<0):=aa (fun y u=>by
    have h1:=(List.getElem?_eq_some_iff.mp u).1;rw [List.length_take] at h1;rw [List.getElem?_take_of_lt (by omega)] at u;exact N.rise (i-1) y x u (by rw [show i-1+1=i by omega];exact HX))
   obtain⟨A',hcut,am⟩:=Nc (Z.below T) hi Q;have a5:Hid (∀k,Calls prog 203 #[.slice A' i c,.slice L D I] (r.drewN k) fun e w'=>e= .returned (.bool true)/\(r.drewN k)=w'):=aa (fun k=>Fq F F A' L i c D I (l.take i) x.last (r.drewN k) (am.drewN k) ((HS.below P).chg ((ag.refl Nil r).drewN k) (fun _ _ h=>h)) (by omega) a6);have dR:Hid (∀nq,Below w.heap.size w (r.drewN nq)):=aa (fun nq=>below_drewN T nq);clear H V c0 c1 c2 c3 E6 am;go_quiet (first|(go_at_call 97;exact eU (Pj _))|(go_at_call 203;exact eU (a5 _)));have tY:Hid (aj (r.drewN nq) v 100 #[.slice L D I,.int .i64 x.at_,.int .i64 x.len,.int .i64 x.ents]):=aa (ma.drewN nq);have De:Hid (Below w.heap.size w (r.drewN nq)):=aa (below_drewN T nq);have C:Hid (aj (r.drewN nq) m 321 gT):=aa (a9.drewN nq);obtain⟨J,an⟩:∃W,W=r.drewN nq:=⟨_,rfl⟩;rw [<-an] at tY De C|-;clear an y0;have v0:J.cell? ⟨m,0,none⟩=some (.func (.func 211) #[] #[]):=C.out.cell 0;have v1:J.cell? ⟨m,1,none⟩=some (.func (.func 212) #[] #[]):=C.out.cell 1;have v2:J.cell? ⟨m,2,none⟩=some (.int .i64 73):=C.out.cell 2;have v3:J.cell? ⟨m,3,none⟩=some (.func (.func 213) #[] #[]):=C.out.cell 3;have v4:J.cell? ⟨m,4,none⟩=some (.func (.func 214) #[] #[]):=C.out.cell 4;have v5:J.cell? ⟨m,5,none⟩=some (.int .i64 74):=C.out.cell 5;have v6:J.cell? ⟨m,6,none⟩=some (.func (.func 215) #[] #[]):=C.out.cell 6;have v7:J.cell? ⟨m,7,none⟩=some (.func (.func 216) #[] #[]):=C.out.cell 7;have v8:J.cell? ⟨m,8,none⟩=some (.int .i64 75):=C.out.cell 8;go_upto_region 10 with fail
   have al:(#[.func (.func 211) #[] #[],.func (.func 212) #[] #[],.int .i64 73,.func (.func 213) #[] #[],.func (.func 214) #[] #[],.int .i64 74,.func (.func 215) #[] #[],.func (.func 216) #[] #[],.int .i64 75]:Array Value)=gT:=rfl;rw [al];clear al v0 v1 v2 v3 v4 v5 v6 v7 v8
   go_loopw [36] (fun kv X=>∃k:Nat,k<=3/\kv= .int .i64 k/\Hid (Below w.heap.size w X)/\Hid (aj X m 321 gT)/\Hid (aj X v 100 #[.slice L D I,.int .i64 x.at_,.int .i64 x.len,.int .i64 x.ents])) (fun kv _=>3-(intOf kv).toNat)
   case atStart=>exact⟨0,by omega,rfl,De,C,tY⟩
   case round=>
    obtain⟨k,S,rfl,j,E,Qw⟩:=hrel;have ba:k=0\/k=1\/k=2\/k=3:=by omega
    rcases ba with rfl|rfl|rfl|rfl
    ·show Code.wp _ _ _ _ _;have Nf:=Da;obtain⟨f,z⟩:∃f,f=wr.heap.size:=⟨_,rfl⟩;go_upto_region 12 with fail
     obtain⟨t,q⟩:∃W,W=wr.alloc (.cells #[.func (.func 211) #[] #[],.func (.func 212) #[] #[],.int .i64 73] 320):=⟨_,rfl⟩;rw [<-q,<-z];have d:Below wr.heap.size wr t:=by rw [q];exact(Below.refl _ _).alloc (Nat.le_refl _) _
     have p:=aa d;have M:Hid (aj t f 320 #[.func (.func 211) #[] #[],.func (.func 212) #[] #[],.int .i64 73]):=aa (by rw [q,z];exact aj.new _ _ _);have K:=aa (Qw.below d);have z0:t.cell? ⟨f,0,none⟩=some (.func (.func 211) #[] #[]):=M.out.cell 0;have z1:t.cell? ⟨v,1,none⟩=some (.int .i64 x.at_):=K.out.cell 1;clear q z Nf d;go_upto_region 13 with(go_at_call 211;go_loud (refine(Qq v _).mono ?_);rintro e O ⟨rfl,rfl⟩)
     refine vz F (some ⟨g,o,none⟩) n c i x.at_ f 212 _ _ l _ _ (aa (fun _ _ _ _ h=>h)) M (aa (Z.below (j.out.trans (p.mono j.size)))) hi Q hn (by omega) (aa (fun y u=>⟨HA y u,(N.len y u).2⟩)) (aa (fun w'=>by rw [<-sU.out];exact Qt x.at_ w' (by omega))) (fun args w'=>by kernel_rfl) ?_;intro ao ap aq ar aw ax aA aE a0 a1 a2 a3 a4 O a;have fT:=aa a;have d9:Hid (Below w.heap.size w O):=aa ((j.out.trans (p.mono j.size)).trans (a.mono (Nat.le_trans j.size p.size)));have Nh:=aa ((E.below p).below a);have Ni:=aa (K.below a);clear z0 z1 a;go_wp2
     go_roundw
     case rel=>exact⟨0+1,by omega,by go_num,d9,Nh,Ni⟩
     case measure=>simp [intOf]
    ·show Code.wp _ _ _ _ _;have Nf:=Db;obtain⟨f,z⟩:∃f,f=wr.heap.size:=⟨_,rfl⟩;go_upto_region 12 with fail
     obtain⟨t,q⟩:∃W,W=wr.alloc (.cells #[.func (.func 213) #[] #[],.func (.func 214) #[] #[],.int .i64 74] 320):=⟨_,rfl⟩;rw [<-q,<-z];have d:Below wr.heap.size wr t:=by rw [q];exact(Below.refl _ _).alloc (Nat.le_refl _) _
     have p:=aa d;have M:Hid (aj t f 320 #[.func (.func 213) #[] #[],.func (.func 214) #[] #[],.int .i64 74]):=aa (by rw [q,z];exact aj.new _ _ _);have K:=aa (Qw.below d);have z0:t.cell? ⟨f,0,none⟩=some (.func (.func 213) #[] #[]):=M.out.cell 0;have z1:t.cell? ⟨v,2,none⟩=some (.int .i64 x.len):=K.out.cell 2;clear q z Nf d;go_upto_region 13 with(go_at_call 213;go_loud (refine(Qr v _).mono ?_);rintro e O ⟨rfl,rfl⟩)
     refine vz F (some ⟨g,o,none⟩) n c i x.len f 214 _ _ l _ _ (aa (fun _ _ _ _ h=>h)) M (aa (Z.below (j.out.trans (p.mono j.size)))) hi Q hn (by omega) (aa (fun y u=>⟨HA y u,(N.len y u).2⟩)) (aa (fun w'=>Qu x.len _ w' ad.1 ad.2)) (fun args w'=>by kernel_rfl) ?_;intro ao ap aq ar aw ax aA aE a0 a1 a2 a3 a4 O a;have fT:=aa a;have d9:Hid (Below w.heap.size w O):=aa ((j.out.trans (p.mono j.size)).trans (a.mono (Nat.le_trans j.size p.size)));have Nh:=aa ((E.below p).below a);have Ni:=aa (K.below a);clear z0 z1 a;go_wp2
     go_roundw
     case rel=>exact⟨1+1,by omega,by go_num,d9,Nh,Ni⟩
     case measure=>simp [intOf]
    ·show Code.wp _ _ _ _ _;have Nf:=Dc;obtain⟨f,z⟩:∃f,f=wr.heap.size:=⟨_,rfl⟩;go_upto_region 12 with fail
     obtain⟨t,q⟩:∃W,W=wr.alloc (.cells #[.func (.func 215) #[] #[],.func (.func 216) #[] #[],.int .i64 75] 320):=⟨_,rfl⟩;rw [<-q,<-z];have d:Below wr.heap.size wr t:=by rw [q];exact(Below.refl _ _).alloc (Nat.le_refl _) _
     have p:=aa d;have M:Hid (aj t f 320 #[.func (.func 215) #[] #[],.func (.func 216) #[] #[],.int .i64 75]):=aa (by rw [q,z];exact aj.new _ _ _);have K:=aa (Qw.below d);have z0:t.cell? ⟨f,0,none⟩=some (.func (.func 215) #[] #[]):=M.out.cell 0;have z1:t.cell? ⟨v,3,none⟩=some (.int .i64 x.ents):=K.out.cell 3;clear q z Nf d;go_upto_region 13 with(go_at_call 215;go_loud (refine(Qs v _).mono ?_);rintro e O ⟨rfl,rfl⟩)
     refine vz F (some ⟨g,o,none⟩) n c i x.ents f 216 _ _ l _ _ (aa (fun _ _ _ _ h=>h)) M (aa (Z.below (j.out.trans (p.mono j.size)))) hi Q hn (by omega) (aa (fun y u=>⟨HA y u,(N.len y u).2⟩)) (aa (fun w'=>Qv x.ents _ w' ac.1 ac.2)) (fun args w'=>by kernel_rfl) ?_;intro ao ap aq ar aw ax aA aE a0 a1 a2 a3 a4 O a;have fT:=aa a;have d9:Hid (Below w.heap.size w O):=aa ((j.out.trans (p.mono j.size)).trans (a.mono (Nat.le_trans j.size p.size)));have Nh:=aa ((E.below p).below a);have Ni:=aa (K.below a);clear z0 z1 a;go_wp2
     go_roundw
     case rel=>exact⟨2+1,by omega,by go_num,d9,Nh,Ni⟩
     case measure=>simp [intOf]
    ·go_wp2
     go_roundw
     case rel=>exact⟨i+1,by omega,by go_num,j,E⟩
     case measure=>simp [intOf];omega
  ·have ae:¬((i:Int)<(n:Int)):=by omega
   go_wp2;rw [HR.out]
   exact⟨rfl,HB⟩
theorem JH (F:Nat->Prop) (A:Option Addr) (n c:Nat) (l:List Row) (w:World) (h:lF w F A n l) (Q:n<=c) (S:gD l) (d:∀x∈l,x.at_<=1152921504606) (a:∀b,F b->b<w.heap.size):
  Calls prog 162 #[.slice A n c] w (XY l w):=Fh F A n c l w h (S.few d) a (Fv F A n c l w h Q S d a)
theorem vF (F:Nat->Prop) (A:Option Addr) (n c:Nat) (l:List Row) (w:World) (h:lF w F A n l) (S:gD l) (d:∀x∈l,x.at_<=1152921504606) (a:∀b,F b->b<w.heap.size):
  Calls prog 64 #[.slice A n c] w (XY l w):=Dg F A n c l w h (S.few d) a (Dh F A n c l w h S d a)
structure Sit (F:Nat->Prop) (q p B:Nat):Prop where
 nFp:¬F p
 nFq:¬F q
 ne:q≠p
 lt:∀b,F b->b<B
 pB:p<B
 qB:q<B
theorem Sit.up {F:Nat->Prop} {q p B B':Nat} (s:Sit F q p B) (h:B<=B'):Sit F q p B':=⟨s.nFp,s.nFq,s.ne,fun b a=>Nat.lt_of_lt_of_le (s.lt b a) h,Nat.lt_of_lt_of_le s.pB h,Nat.lt_of_lt_of_le s.qB h⟩
theorem kS (F:Nat->Prop) (q p hv n K:Nat) (c:ay) (w:World) (s:Sit F q p w.heap.size) (h:lW w F q p c hv) (a:c.Ok K) (d:K<=1152921504606846976) (T:n<=1152921504606) (hn0:0<n):
  Calls prog 90 #[.pointer (some ⟨q,0,none⟩),.int .i64 n] w (JX F q p n c w):=by
 by_cases b:c.err=0
 ·have e:=a.sum
  exact bytes_ok F q p hv n K c w h b (by omega) (a.fine b) s.nFp s.pB s.ne s.nFq s.lt d T hn0 a.gives (by omega)
 ·exact bytes_err F q p hv n c w h b
def Nt (F:Nat->Prop) (q p:Nat) (c:ay) (w:World) (e:Ending) (w':World):Prop:=
 ∃hv,e= .returned (.tuple #[.int .u8 ((c.bytes 1).1.headD 0).toNat,.int .i64 (c.bytes 1).2.1])/\lW w' F q p (c.bytes 1).2.2 hv/\ag (Cs q p w.heap.size) w w'
theorem Dm (F:Nat->Prop) (q p hv K:Nat) (c:ay) (w:World) (s:Sit F q p w.heap.size) (h:lW w F q p c hv) (a:c.Ok K) (V:K<=1152921504606846976):
  Calls prog 137 #[.pointer (some ⟨q,0,none⟩)] w (Nt F q p c w):=by
 refine letter fun R H=> ?_;have S:=aa (kS F q p hv 1 K c w s h a V (by omega) (by omega));obtain⟨L,hL⟩:∃L,L=c.bytes 1:=⟨_,rfl⟩;have n:=aa hL;have O:Hid (L.2.1≠0->L.1= []):=aa (by rw [hL];exact c.bytes_err 1);have P:Hid (L.2.1=0->L.1.length=1):=aa (by rw [hL];exact ay.bytes_len a 1 (by omega));clear h a hL s;go_enter func137,ntmps137
 go_upto_region 2 with(go_at_call 90;go_loud (refine S.mono ?_);rintro e w2 ⟨v,f,rfl,C,B,J⟩;rw [<-n.out] at C B|-;have Q:=aa C;have G:=aa B;have E:=aa J;clear C B J)
 obtain⟨er,t⟩:∃er,er=L.2.1:=⟨_,rfl⟩;rw [<-t];have z:=aa t;clear t
 by_cases l:er=0
 ·have j:Hid (L.2.1=0):=aa (by rw [<-z.out];exact l);obtain⟨A,N,cc,rfl,Y,Z,U,I⟩:=(Q.out j).sb;have D:=P.out j;obtain⟨b,o,u,rfl,_,M,d⟩:=I.at_ (k:=0) (by omega);obtain⟨x,g,rfl⟩:=dX M
  have i:L.1.headD 0=x:=by
   cases hl:L.1 with
   |nil=>rw [hl] at g;cases g
   |cons y r=>rw [hl] at g;simpa using g
  have T:=aa i;have W:0<N:=by omega
  have X:(0:Int)<(N:Int):=by omega
  unfold bv at d;rw [Nat.add_zero] at d;clear i M g I D U;subst l;go_wp2;rw [H.out];unfold Nt;rw [<-n.out];refine⟨f,?_,G,E⟩;rw [T.out,j.out]
  rfl
 ·have j:=aa l;have m:Hid (L.1= []):=aa (O (by rw [<-z.out];exact l));go_wp2;rw [H.out];unfold Nt;rw [<-n.out];refine⟨f,?_,G,E⟩;rw [z.out,m.out];rfl
theorem lW.chg {S:Nat->Prop} {w w':World} {F:Nat->Prop} {q p hv:Nat} {c:ay} (h:lW w F q p c hv) (y:ag S w w') (a:¬S q) (d:¬S p) (e:∀b,F b->¬S b):lW w' F q p c hv:=⟨h.blk.chg y a,h.src.chg y d e,h.hl⟩
def IA (F:Nat->Prop) (q p:Nat) (c:ay) (w:World) (e:Ending) (w':World):Prop:=
 ∃hv,e= .returned (.tuple #[.int .u64 c.number.1,.int .i64 c.number.2.1])/\lW w' F q p c.number.2.2 hv/\ag (Cs q p w.heap.size) w w'
structure Zf (F:Nat->Prop) (q p t K:Nat) (c0:ay) (w0:World) (c:ay) (k v hv:Nat) (w:World):Prop where
 iny:lW w F q p c hv
 tk:uC w t v k 0
 k9:k<=9
 vlt:v<128^k
 ok:c.Ok K
 eq:c0.numL 0 0=c.numL k v
 chg:ag (Cs q p w0.heap.size) w0 w
theorem Nu {k v x:Nat} (hv:v<128^k):v+x%128*128^k<128^(k+1):=by
 have a:x%128*128^k<=127*128^k:=Nat.mul_le_mul_right _ (by omega);rw [Nat.pow_succ];omega
theorem vI (F:Nat->Prop) (q p hv K:Nat) (c:ay) (w:World) (s:Sit F q p w.heap.size) (h:lW w F q p c hv) (a:c.Ok K) (hK:K<=1152921504606846976):
  Calls prog 139 #[.pointer (some ⟨q,0,none⟩)] w (IA F q p c w):=by
 refine letter fun R HR=> ?_;obtain⟨o,z⟩:∃o,o=c.at_:=⟨_,rfl⟩;have HA:=aa z;have X:w.cell? ⟨q,0,none⟩=some (.int .i64 o):=(h.blk.cell 0).trans (by rw [z];rfl);have HH:=aa h;have HO:=aa a;have r:=aa s;clear h a s z;go_enter func139,ntmps139
 go_upto_region 3 with(go_at_call 166;go_loud (refine(Nv w).mono ?_);rintro e w1 ⟨rfl,E,y⟩;have HT:=aa E;have HB:=aa y;clear E y)
 obtain⟨t,E⟩:∃t,t=w.heap.size:=⟨_,rfl⟩;rw [<-E];have Pn:=aa E;have Tt:Hid (t≠q/\t≠p):=aa (by have D:=r.out.qB;have g:=r.out.pB;omega);clear X E
 go_loopg [] 10 (fun g' wz=>∃(P:ay) (k v A:Nat),g'=10-k/\Zf F q p t K c w P k v A wz)
 case atStart=>exact⟨c,0,0,hv,rfl,HH.chg (ag.of_below (S:=Nil) HB) (fun h=>h) (fun h=>h) (fun _ _ h=>h),by rw [Pn.out];exact HT,by omega,by simp,HO,rfl,ag.of_below HB⟩
 case round=>
  obtain⟨P,k,v,A,hg,Q⟩:=hrel;have HG:=aa hg;have f:=aa Q;have sN:Hid (w.heap.size<=wr.heap.size):=aa Q.chg.size;have zY:Hid (t<wr.heap.size):=aa Q.tk.lt;clear hg Q;obtain⟨L,hL⟩:∃L,L=P.bytes 1:=⟨_,rfl⟩;obtain⟨x,hx⟩:∃x,x=L.1.headD 0:=⟨_,rfl⟩;obtain⟨er,dU⟩:∃er,er=L.2.1:=⟨_,rfl⟩;have HL:=aa hL;have HX:=aa hx;have fO:=aa dU;have pE:=aa (Dm F q p A K P wr (r.up sN) f.iny f.ok hK)
  have W:Hid (c.numL 0 0=if er≠0 then(0,er,L.2.2)
   else if k=9/\1<x.toNat then(0,12,{L.2.2 with err:=12})
   else if 0<k/\x.toNat=0 then(0,13,{L.2.2 with err:=13})
   else if x.toNat<128 then(v+x.toNat%128*128^k,0,L.2.2)
   else L.2.2.numL (k+1) (v+x.toNat%128*128^k)):=aa (by rw [f.out.eq,ay.numL_eq _ _ _ (by have:=f.out.k9;omega),dU,hx,hL])
  have rJ:Hid (L.2.2.Ok K):=aa (by rw [hL];exact ay.bytes_ok f.ok 1);clear hL hx dU;go_upto_region 4 with(go_at_call 137;go_loud (refine pE.mono ?_);rintro e w2 ⟨l,rfl,hI,hC⟩;rw [<-HL.out] at hI|-;rw [<-HX.out,<-fO.out];have C:=aa hI;have HC:=aa hC;clear hI hC)
  have bB:Hid (ag (Cs q p w.heap.size) w w2):=aa (f.chg.trans (HC.mono (fun b _ e=>by rcases e with e|e|e;exact .inl e;exact .inr (.inl e);exact .inr (.inr (Nat.le_trans sN e)))) (fun _ _ h=>h));have ab:Hid (uC w2 t v k 0):=aa (f.tk.chg HC (fun e=>by have D:=Tt.out;have g:=zY.out;rcases e with e|e|e<;>omega));have X:w2.cell? ⟨q,0,none⟩=some (.int .i64 L.2.2.at_):=C.out.blk.cell 0;have Ev:=C.out.blk.frozen 0
  by_cases h0:er=0
  ·subst h0;have Lm:=aa (qi t v k x w2 ab f.k9 f.vlt);obtain⟨m,M⟩:∃m,m=aT k x:=⟨_,rfl⟩;obtain⟨tb,J⟩:∃tb,tb=decide (aT k x=0/\x.toNat<128):=⟨_,rfl⟩;have Fy:=aa M;have Y:=aa J;clear M J X Ev;go_upto_region 8 with(go_at_call 167;go_loud (refine Lm.mono ?_);rintro e n ⟨rfl,Tj,Zg⟩;rw [<-Y.out,<-Fy.out];have eH:=aa Tj;have H:=aa Zg;clear Tj Zg)
   have d:Hid (lW n F q p L.2.2 l):=aa (C.chg eH (fun e=>Tt.1 e.symm) (fun e=>Tt.2 e.symm) (fun b y e=>by have D:=r.out.lt b y;have g:=Pn.out;have e:b=t:=e;omega));have Z:Hid (ag (Cs q p w.heap.size) w n):=aa (bB.out.trans (eH.mono (fun b _ e=>by have e:b=t:=e;have:=Pn.out;exact .inr (.inr (by omega)))) (fun _ _ h=>h))
   by_cases D:m=0
   ·have N:Hid (aT k x=0):=aa (by rw [<-Fy.out];exact D)
    have G:Hid (¬(k=9/\1<x.toNat)/\¬(0<k/\x.toNat=0)):=aa (by
     have:=N.out;unfold aT at this
     split at this
     ·exact absurd this (by decide)
     ·rename_i U
      split at this
      ·exact absurd this (by decide)
      ·rename_i V;exact⟨U,V⟩)
    subst D
    by_cases g:x.toNat<128
    ·have h3:tb=true:=by rw [Y.out,decide_eq_true_iff];exact⟨N,g⟩
     subst h3;have O:Hid (uC n t (v+x.toNat%128*128^k) (k+1) 1):=aa (by have:=H.out N;rwa [if_pos g] at this);have H2:=aa g;obtain⟨vv,B⟩:∃vv,vv=v+x.toNat%128*128^k:=⟨_,rfl⟩;rw [<-B] at O;have ac:=aa B;clear g B;go_wp2_with (go_at_call 168;go_loud (refine(Nw t vv (k+1) n O).mono ?_);rintro e w4 ⟨rfl,rfl⟩)
     rw [HR.out];unfold IA;have T:=W.out;rw [if_neg (fun h=>h rfl),if_neg G.out.1,if_neg G.out.2,if_pos H2.out,<-ac.out] at T;have j:c.number=(vv,0,L.2.2):=by unfold ay.number;rw [T,if_pos rfl]
     rw [j]
     exact⟨l,rfl,d,Z⟩
    ·have h3:tb=false:=by rw [Y.out,decide_eq_false_iff_not];exact fun h=>g h.2
     subst h3;have O:Hid (uC n t (v+x.toNat%128*128^k) (k+1) 0):=aa (by have:=H.out N;rwa [if_neg g] at this);have Zh:Hid (k+1<=9):=aa (by have:=f.out.k9;have:=G.out;omega);have H2:=aa g;clear g;go_wp2
     go_roundg (10-(k+1))
     case measure=>have:=HG.out;have:=Zh.out;omega
     case rel=>
      refine⟨L.2.2,k+1,v+x.toNat%128*128^k,l,rfl,d,O,Zh,Nu f.vlt,rJ,?_,Z⟩
      rw [W.out,if_neg (fun h=>h rfl),if_neg G.out.1,if_neg G.out.2,if_neg H2.out]
   ·have Io:=aa D;have X:n.cell? ⟨q,0,none⟩=some (.int .i64 L.2.2.at_):=d.out.blk.cell 0;have Ev:=d.out.blk.frozen 0;have I:aj (n.setCell ⟨q,0,none⟩ (.int .i64 o)) q 188 _:=d.out.blk.set_ 0 (.int .i64 o);have dR:=aa I;clear I;go_wp2_with (go_at_call 133;go_loud (refine(vG q _ _ m _ dR (by simp)).mono ?_);rintro e w4 ⟨rfl,rfl⟩)
    rw [HR.out];unfold IA
    have T:c.numL 0 0=(0,m,{L.2.2 with err:=m}):=by
     rw [W.out,if_neg (fun h=>h rfl)];have u:=Fy.out;unfold aT at u
     by_cases U:k=9/\1<x.toNat
     ·rw [if_pos U] at u|-;rw [u]
     ·rw [if_neg U] at u|-
      by_cases V:0<k/\x.toNat=0
      ·rw [if_pos V] at u|-;rw [u]
      ·rw [if_neg V] at u;exact absurd u Io
    have j:c.number=(0,m,{L.2.2 with err:=m,at_:=c.at_}):=by unfold ay.number;rw [T,if_neg Io.out]
    rw [j];have i:ag (fun b=>b=q) n ((n.setCell ⟨q,0,none⟩ (.int .i64 o)).setCell ⟨q,1,none⟩ (.int .i64 m)):=((ag.refl (fun b=>b=q) n).setCell (p:=⟨q,0,none⟩) (fun _=>rfl) _).setCell (p:=⟨q,1,none⟩) (fun _=>rfl) _;refine⟨l,rfl,⟨?_,d.src.chg i (fun e=>r.ne e.symm) (fun b y e=>r.nFq (e▸y)),d.hl⟩,Z.out.trans (i.mono (fun b _ e=> .inl e)) (fun _ _ h=>h)⟩;have:=(d.out.blk.set_ 0 (.int .i64 o)).set_ 1 (.int .i64 m);rw [HA.out] at this|-
    exact this
  ·have H0:=aa h0;go_wp2;rw [HR.out];unfold IA;have j:c.number=(0,er,{L.2.2 with at_:=c.at_}):=by unfold ay.number;rw [W.out,if_pos H0.out,if_neg H0.out]
   rw [j];have i:ag (fun b=>b=q) w2 (w2.setCell ⟨q,0,none⟩ (.int .i64 o)):=(ag.refl (fun b=>b=q) w2).setCell (p:=⟨q,0,none⟩) (fun _=>rfl) _;refine⟨l,rfl,⟨?_,C.src.chg i (fun e=>r.ne e.symm) (fun b y e=>r.nFq (e▸y)),C.hl⟩,bB.out.trans (i.mono (fun b _ e=> .inl e)) (fun _ _ h=>h)⟩;have:=C.out.blk.set_ 0 (.int .i64 o);rw [HA.out] at this|-;exact this
def Dp (F:Nat->Prop) (q p:Nat) (c:ay) (w:World) (e:Ending) (w':World):Prop:=
 e= .returned (.tuple #[.bool c.end_.1,.int .i64 c.end_.2.1])/\fo w' F p c.end_.2.2.src/\ag (Cs q p w.heap.size) w w'
theorem QF (F:Nat->Prop) (q p hv K:Nat) (c:ay) (w:World) (s:Sit F q p w.heap.size) (h:lW w F q p c hv) (a:c.Ok K) (i:c.held=none) (hK:K<=1152921504606846976):
  Calls prog 165 #[.pointer (some ⟨q,0,none⟩)] w (Dp F q p c w):=by
 refine letter fun R C=> ?_;obtain⟨er,E⟩:∃er,er=c.err:=⟨_,rfl⟩;have O:=aa E;have z1:w.cell? ⟨q,1,none⟩=some (.int .i64 er):=(h.blk.cell 1).trans (by rw [E];rfl);have z6:w.cell? ⟨q,6,none⟩=some (.bool false):=(h.blk.cell 6).trans (by rw [i];rfl);have HH:=aa h;have HO:=aa a;have D:=aa s;have W:=aa i
 by_cases B:er=0
 ·have m:Hid (c.err=0):=aa (by rw [<-O.out];exact B);obtain⟨L,hL⟩:∃L,L=c.loop [] 1:=⟨_,rfl⟩;have HL:=aa hL;have z:({c with held:=none}:ay)=c:=by cases c;simp only at i;subst i;rfl
  have HT:Hid (∀k,Calls prog 134 #[.pointer (some ⟨q,0,none⟩),.int .i64 (1:Nat)] (w.drewN k) (oP F q p hv 1 c (w.drewN k))):=aa (fun k=>vH F q p hv 1 K c _ (h.chg ((ag.refl Nil w).drewN k) (fun h=>h) (fun h=>h) (fun _ _ h=>h)) (a.fine m) s.nFp s.pB s.ne s.nFq s.lt hK (by omega) (by omega) a.gives (by have:=a.sum;omega))
  have M:Hid (∀k e w',oP F q p hv 1 c (w.drewN k) e w'->∃v,e= .returned (.tuple #[v,.int .i64 L.2.1])/\(L.2.1=0->Ow w' w.heap.size v L.1)/\lW w' F q p L.2.2 hv/\ag (Cs q p w.heap.size) w w'):=aa (by
   intro k e w' h;obtain⟨v,P,Q,G,H⟩:=h;rw [z,W.out,show(none:Option UInt8).toList= [] from rfl,<-HL.out] at P Q G;exact⟨v,P,Q,G,((ag.refl (Cs q p w.heap.size) w).drewN k).trans H (fun _ _ h=>h)⟩)
  have Y:Hid (L.2.1=0->L.1.length=1):=aa (fun n=>by
   rw [hL] at n|-;exact((ay.loop_out (K:=K) 1 _ c [] (Nat.le_refl _) (HO.fine m) (by simp)).1 n).1)
  have I:Hid (c.end_=if L.2.1=0 then(false,0,{L.2.2 with held:=L.1.head?}) else if L.2.1=41 then(true,0,L.2.2) else(false,L.2.1,{L.2.2 with err:=L.2.1})):=aa (by
   unfold ay.end_;rw [if_neg (fun h=>by rcases h with h|h;exact h m.out;rw [W.out] at h;cases h),hL])
  clear h a s i E hL z;subst B;go_enter func165,ntmps165
  go_upto_region 4 with(go_at_call 134;go_loud (refine(HT 0).mono ?_);rintro e w2 hq;obtain⟨v,rfl,y,t,r⟩:=M.out 0 _ _ hq;clear hq;have iR:=aa y;have d:=aa t;have N:=aa r;clear y t r)
  obtain⟨l,j⟩:∃l,l=L.2.1:=⟨_,rfl⟩;rw [<-j] at iR Y I|-;have ab:=aa j;clear j z1 z6
  by_cases n:l=0
  ·subst n;obtain⟨A,nn,cc,rfl,P,Q,G,H⟩:=(iR.out rfl).sb;have T:=Y.out rfl;obtain⟨b,o,u,rfl,_,hu,f⟩:=H.at_ (k:=0) (by omega);obtain⟨x,hx,rfl⟩:=dX hu;have ae:0<nn:=by omega
   have Ze:(0:Int)<(nn:Int):=by omega
   unfold bv at f;rw [Nat.add_zero] at f;have z5:w2.cell? ⟨q,5,none⟩=some (.int .u8 hv):=d.out.blk.cell 5;have z6:w2.cell? ⟨q,6,none⟩=some (.bool L.2.2.held.isSome):=d.out.blk.cell 6;have al:=d.out.blk.frozen 5;have am:=d.out.blk.frozen 6;clear hu hx H T G;go_wp2;rw [C.out];unfold Dp;rw [I.out,if_pos trivial];have g:ag (fun b=>b=q) w2 ((w2.setCell ⟨q,5,none⟩ (.int .u8 x.toNat)).setCell ⟨q,6,none⟩ (.bool true)):=((ag.refl (fun b=>b=q) w2).setCell (p:=⟨q,5,none⟩) (fun _=>rfl) _).setCell (p:=⟨q,6,none⟩) (fun _=>rfl) _
   exact⟨rfl,d.src.chg g (fun e=>D.ne e.symm) (fun b S e=>D.nFq (e▸S)),N.out.trans (g.mono (fun b _ e=> .inl e)) (fun _ _ h=>h)⟩
  ·have V:=aa n
   by_cases X:l=41
   ·subst X;go_wp2;rw [C.out];unfold Dp;rw [I.out,if_neg V.out,if_pos trivial]
    exact⟨rfl,d.src,N⟩
   ·have J:=aa X;have U:1<(#[Value.int .i64 L.2.2.at_,.int .i64 L.2.2.err,.int .i64 L.2.2.idle,.iface 29 (.pointer (some ⟨p,0,none⟩)),.int .i64 9223372036854775807,.int .u8 hv,.bool L.2.2.held.isSome]).size:=by simp
    go_wp2_with (go_at_call 133;go_loud (refine(vG q _ _ l w2 d.blk U).mono ?_);rintro e w3 ⟨rfl,rfl⟩)
    rw [C.out];unfold Dp;rw [I.out,if_neg V.out,if_neg J.out];have g:=(ag.refl (fun b=>b=q) w2).setCell (p:=⟨q,1,none⟩) (fun _=>rfl) (.int .i64 l)
    exact⟨rfl,d.src.chg g (fun e=>D.ne e.symm) (fun b S e=>D.nFq (e▸S)),N.out.trans (g.mono (fun b _ e=> .inl e)) (fun _ _ h=>h)⟩
 ·have m:Hid (c.err≠0):=aa (by rw [<-O.out];exact B);have ad:(er !=0)=true:=by rw [bne_iff_ne];exact B
  have ac:(er==0)=false:=by rw [beq_eq_false_iff_ne];exact B
  clear h a s i E;go_enter func165,ntmps165
  go_wp2;go_quiet (fail)
  go_wp2;rw [C.out]
  unfold Dp;have hn:c.end_=(false,er,c):=by unfold ay.end_;rw [if_pos (.inl m.out),O.out]
  rw [hn];have Z:ag Nil w (w.drewN nq):=(ag.refl Nil w).drewN _;exact⟨rfl,HH.src.chg Z (fun h=>h) (fun _ _ h=>h),Z.mono (fun _ _ h=>h.elim)⟩
theorem JY (p:Nat) (w:World):Calls prog 51 #[.iface 29 (.pointer (some ⟨p,0,none⟩)),.int .i64 9223372036854775807] w fun e w'=>e= .returned (.pointer (some ⟨w.heap.size,0,none⟩))/\aj w' w.heap.size 188 #[.int .i64 0,.int .i64 0,.int .i64 0,.iface 29 (.pointer (some ⟨p,0,none⟩)),.int .i64 9223372036854775807,.int .u8 0,.bool false]/\Below w.heap.size w w':=by
 go_enter func51,ntmps51
 go_wp2;go_ret
 exact⟨rfl,aj.new _ _ _,(Below.refl _ _).alloc (Nat.le_refl _) _⟩
end Go.Proofs.YtepgcjbhabnciaaGreat
