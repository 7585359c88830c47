/- Part 29. -/
import Derived.Test.YtepgcjbhabnciaaGreatLe27
namespace Go.Proofs.YtepgcjbhabnciaaGreat
set_option maxRecDepth 100000
set_option maxHeartbeats 8000000
open Go.Proofs.Tryz Go.RowKit
def jI (w:World) (base q:Nat) (bs:List UInt8) (st:Int):Prop:=∃v,aj w q 204 #[v,.int .i64 st]/\Ow w base v bs/\v.ownBlock≠some q
theorem jI.new {_w w':World} {q:Nat} (h:aj w' q 204 #[.slice none 0 0,.int .i64 0]):jI w' q q [] 0:=⟨_,h,Ow.nil _ _,by simp [Value.ownBlock]⟩
def tQ (base q:Nat) (bs:List UInt8) (c:UInt8) (w:World) (e:Ending) (w':World):Prop:=
 e= .returned (.tuple #[.bool (decide (aT bs.length c=0/\c.toNat<128)),.int .i64 (aT bs.length c)])/\ag (From base) w w'/\
 (aT bs.length c=0->jI w' base q (bs++ [c]) (if c.toNat<128 then 1 else 0))
theorem GZ (base q:Nat) (bs:List UInt8) (c:UInt8) (w:World) (h:jI w base q bs 0) (b:base<=q) (hk:bs.length<=9) (o:bs.length=9) (n:1<c.toNat):
  Calls prog 102 #[.pointer (some ⟨q,0,none⟩),.int .u8 c.toNat] w (tQ base q bs c w):=by
 obtain⟨T,x,y,z,B⟩:=info_parts bu;refine letter fun R O=> ?_;obtain⟨v,f,s,l⟩:=h;have E:=aa f;have F:=aa s;have H:=aa l;have BL:base<=w.heap.size:=Nat.le_trans b (Nat.le_of_lt f.lt);obtain⟨A,c0,hv,t,u⟩:=au s;have HV:=aa hv;have Y:w.cell? ⟨q,0,none⟩=some v:=f.cell 0;have Z:w.cell? ⟨q,1,none⟩=some (.int .i64 0):=f.cell 1;have zD:=f.frozen 0;have zF:=f.frozen 1;clear f s l hv t u
 (have N:Hid (aT bs.length c=12):=aa (by unfold aT;rw [if_pos ⟨o,n⟩]);have M:=aa o;have L:=aa n;clear o n)
 go_enter func102,ntmps102
 go_upto_region 4 with(at_builtin;go_loud (refine af _ rfl (.tmp 15) (.tmp 17) _ rfl base 5 T _ 1 1 underlying24 x y z B rfl (by omega) v _ (aF bs) rfl (own_below F ((Below.refl _ _).alloc (Nat.le_refl _) _)) (From w.heap.size) (some ⟨w.heap.size,0,none⟩) 1 1 [.int .u8 c.toNat] rfl (Rd.one w _ _) (by simp [Value.oneCell']) (by simp only [maxLen];omega) (by omega) (by simp;omega) ?_);intro v6 D a r G;have X:=aa a;have V:=aa r;have xJ:=aa G;obtain⟨j,k,rfl,_,_⟩:=au a;have i:aj D q 204 #[v,.int .i64 0]:=(E.out.alloc _).chg (ag.of_grown r) H;have P:=aa i;have y0:=i.cell 0;have y1:D.cell? ⟨q,1,none⟩=some (.int .i64 0):=i.cell 1;have J:=i.frozen 0;have K:=i.frozen 1;clear a r G i Y Z zD zF)
 clear y0 y1 J K;obtain⟨m,d⟩:∃W,W=D.setCell ⟨q,0,none⟩ (.slice j (bs.length+1) k):=⟨_,rfl⟩;rw [<-d];have C:Hid (aj m q 204 #[.slice j (bs.length+1) k,.int .i64 0]):=aa (by rw [d];exact P.set_ 0 _)
 have Q:Hid (ag (From base) w m):=aa (by
  rw [d];exact((((ag.refl _ _).then ((Below.refl _ _).alloc (Nat.le_refl _) _)).trans (ag.of_grown V) (fun g _ e=>(ah F g e).1)).setCell (p:=⟨q,0,none⟩) (fun _=>b) _))
 have U:Hid ((Value.slice j (bs.length+1) k).ownBlock≠some q):=aa (fun e=>by
  rcases xJ.out with h|h
  ·exact H (h▸e)
  ·rw [h] at e;injection e with e;have:=E.out.lt;simp at e;omega)
 have rV:Hid (m.ownsRow base 5 1 (.slice j (bs.length+1) k) (bs.length+1) (aF bs++ [.int .u8 c.toNat])):=aa (by
  rw [d];exact aD X ((ag.refl (fun g=>g=q) _).setCell (p:=⟨q,0,none⟩) (fun _=>rfl) _) (fun g S e=>U (by rw [S,e])))
 have z0:m.cell? ⟨q,0,none⟩=some (.slice j (bs.length+1) k):=C.out.cell 0;have z1:m.cell? ⟨q,1,none⟩=some (.int .i64 0):=C.out.cell 1;have sW:=C.out.frozen 1;clear d;have o:(bs.length:Int)=9:=(by have:=M.out;omega);have n:(1:Int)<(c.toNat:Int):=(by have:=L.out;omega);go_wp2
 all_goals
  rw [O.out];have I:=N.out;exact⟨by rw [I];simp,Q.setCell (p:=⟨q,1,none⟩) (fun _=>b) _,fun h=>by rw [I] at h;cases h⟩
theorem xq (base q:Nat) (bs:List UInt8) (c:UInt8) (w:World) (h:jI w base q bs 0) (b:base<=q) (hk:bs.length<=9) (n:0<bs.length) (o:c.toNat=0):
  Calls prog 102 #[.pointer (some ⟨q,0,none⟩),.int .u8 c.toNat] w (tQ base q bs c w):=by
 obtain⟨T,x,y,z,B⟩:=info_parts bu;refine letter fun R O=> ?_;obtain⟨v,f,s,l⟩:=h;have E:=aa f;have F:=aa s;have H:=aa l;have BL:base<=w.heap.size:=Nat.le_trans b (Nat.le_of_lt f.lt);obtain⟨A,c0,hv,t,u⟩:=au s;have HV:=aa hv;have Y:w.cell? ⟨q,0,none⟩=some v:=f.cell 0;have Z:w.cell? ⟨q,1,none⟩=some (.int .i64 0):=f.cell 1;have zD:=f.frozen 0;have zF:=f.frozen 1;clear f s l hv t u
 (have N:Hid (aT bs.length c=13):=aa (by unfold aT;rw [if_neg (by omega),if_pos ⟨n,o⟩]);have L:=aa n;have M:=aa o;clear n o)
 go_enter func102,ntmps102
 go_upto_region 4 with(at_builtin;go_loud (refine af _ rfl (.tmp 15) (.tmp 17) _ rfl base 5 T _ 1 1 underlying24 x y z B rfl (by omega) v _ (aF bs) rfl (own_below F ((Below.refl _ _).alloc (Nat.le_refl _) _)) (From w.heap.size) (some ⟨w.heap.size,0,none⟩) 1 1 [.int .u8 c.toNat] rfl (Rd.one w _ _) (by simp [Value.oneCell']) (by simp only [maxLen];omega) (by omega) (by simp;omega) ?_);intro v6 D a r G;have X:=aa a;have V:=aa r;have xJ:=aa G;obtain⟨j,k,rfl,_,_⟩:=au a;have i:aj D q 204 #[v,.int .i64 0]:=(E.out.alloc _).chg (ag.of_grown r) H;have P:=aa i;have y0:=i.cell 0;have y1:D.cell? ⟨q,1,none⟩=some (.int .i64 0):=i.cell 1;have J:=i.frozen 0;have K:=i.frozen 1;clear a r G i Y Z zD zF)
 clear y0 y1 J K;obtain⟨m,d⟩:∃W,W=D.setCell ⟨q,0,none⟩ (.slice j (bs.length+1) k):=⟨_,rfl⟩;rw [<-d];have C:Hid (aj m q 204 #[.slice j (bs.length+1) k,.int .i64 0]):=aa (by rw [d];exact P.set_ 0 _)
 have Q:Hid (ag (From base) w m):=aa (by
  rw [d];exact((((ag.refl _ _).then ((Below.refl _ _).alloc (Nat.le_refl _) _)).trans (ag.of_grown V) (fun g _ e=>(ah F g e).1)).setCell (p:=⟨q,0,none⟩) (fun _=>b) _))
 have U:Hid ((Value.slice j (bs.length+1) k).ownBlock≠some q):=aa (fun e=>by
  rcases xJ.out with h|h
  ·exact H (h▸e)
  ·rw [h] at e;injection e with e;have:=E.out.lt;simp at e;omega)
 have rV:Hid (m.ownsRow base 5 1 (.slice j (bs.length+1) k) (bs.length+1) (aF bs++ [.int .u8 c.toNat])):=aa (by
  rw [d];exact aD X ((ag.refl (fun g=>g=q) _).setCell (p:=⟨q,0,none⟩) (fun _=>rfl) _) (fun g S e=>U (by rw [S,e])))
 have z0:m.cell? ⟨q,0,none⟩=some (.slice j (bs.length+1) k):=C.out.cell 0;have z1:m.cell? ⟨q,1,none⟩=some (.int .i64 0):=C.out.cell 1;have sW:=C.out.frozen 1;clear d
 (have n:0<(bs.length:Int):=(by have:=L.out;omega);have o:(c.toNat:Int)=0:=(by have:=M.out;omega))
 go_wp2
 all_goals
  rw [O.out];have I:=N.out;exact⟨by rw [I];simp,Q.setCell (p:=⟨q,1,none⟩) (fun _=>b) _,fun h=>by rw [I] at h;cases h⟩
theorem Ee (base q:Nat) (bs:List UInt8) (c:UInt8) (w:World) (h:jI w base q bs 0) (b:base<=q) (hk:bs.length<=9) (u:0<bs.length) (y:bs.length<9) (x:c.toNat≠0) (n:c.toNat<128):
  Calls prog 102 #[.pointer (some ⟨q,0,none⟩),.int .u8 c.toNat] w (tQ base q bs c w):=by
 obtain⟨X,E,F,G,H⟩:=info_parts bu;refine letter fun R S=> ?_;obtain⟨v,f,z,l⟩:=h;have K:=aa f;have L:=aa z;have N:=aa l;have BL:base<=w.heap.size:=Nat.le_trans b (Nat.le_of_lt f.lt);obtain⟨A,c0,hv,B,C⟩:=au z;have HV:=aa hv;have x0:w.cell? ⟨q,0,none⟩=some v:=f.cell 0;have x1:w.cell? ⟨q,1,none⟩=some (.int .i64 0):=f.cell 1;have zD:=f.frozen 0;have zF:=f.frozen 1;clear f z l hv B C
 (have Q:Hid (aT bs.length c=0):=aa (by unfold aT;rw [if_neg (by omega),if_neg (by omega)]);have r:=aa (And.intro u (And.intro y x));have s:=aa n;clear u y x n)
 go_enter func102,ntmps102
 go_upto_region 4 with(at_builtin;go_loud (refine af _ rfl (.tmp 15) (.tmp 17) _ rfl base 5 X _ 1 1 underlying24 E F G H rfl (by omega) v _ (aF bs) rfl (own_below L ((Below.refl _ _).alloc (Nat.le_refl _) _)) (From w.heap.size) (some ⟨w.heap.size,0,none⟩) 1 1 [.int .u8 c.toNat] rfl (Rd.one w _ _) (by simp [Value.oneCell']) (by simp only [maxLen];omega) (by omega) (by simp;omega) ?_);intro v6 J a t M;have Z:=aa a;have Y:=aa t;have xJ:=aa M;obtain⟨i,j,rfl,_,_⟩:=au a;have k:aj J q 204 #[v,.int .i64 0]:=(K.out.alloc _).chg (ag.of_grown t) N;have T:=aa k;have y0:=k.cell 0;have y1:J.cell? ⟨q,1,none⟩=some (.int .i64 0):=k.cell 1;have O:=k.frozen 0;have P:=k.frozen 1;clear a t M k x0 x1 zD zF)
 clear y0 y1 O P;obtain⟨m,d⟩:∃W,W=J.setCell ⟨q,0,none⟩ (.slice i (bs.length+1) j):=⟨_,rfl⟩;rw [<-d];have o:Hid (aj m q 204 #[.slice i (bs.length+1) j,.int .i64 0]):=aa (by rw [d];exact T.set_ 0 _)
 have U:Hid (ag (From base) w m):=aa (by
  rw [d];exact((((ag.refl _ _).then ((Below.refl _ _).alloc (Nat.le_refl _) _)).trans (ag.of_grown Y) (fun g _ e=>(ah L g e).1)).setCell (p:=⟨q,0,none⟩) (fun _=>b) _))
 have I:Hid ((Value.slice i (bs.length+1) j).ownBlock≠some q):=aa (fun e=>by
  rcases xJ.out with h|h
  ·exact N (h▸e)
  ·rw [h] at e;injection e with e;have:=K.out.lt;simp at e;omega)
 have rV:Hid (m.ownsRow base 5 1 (.slice i (bs.length+1) j) (bs.length+1) (aF bs++ [.int .u8 c.toNat])):=aa (by
  rw [d];exact aD Z ((ag.refl (fun g=>g=q) _).setCell (p:=⟨q,0,none⟩) (fun _=>rfl) _) (fun g D e=>I (by rw [D,e])))
 have z0:m.cell? ⟨q,0,none⟩=some (.slice i (bs.length+1) j):=o.out.cell 0;have z1:m.cell? ⟨q,1,none⟩=some (.int .i64 0):=o.out.cell 1;have sW:=o.out.frozen 1;clear d
 (have u:0<(bs.length:Int):=(by have:=r.out;omega);have y:¬((bs.length:Int)+1=10):=(by have:=r.out;omega);have x:¬((c.toNat:Int)=0):=(by have:=r.out;omega);have n:(c.toNat:Int)<128:=(by have:=s.out;omega))
 go_wp2
 all_goals
  rw [S.out];have V:=Q.out
  refine⟨by rw [V,decide_eq_true ⟨rfl,s.out⟩];try rfl,?_,fun _=>⟨.slice i (bs.length+1) j,?_,?_,I⟩⟩
  ·exact U.setCell (p:=⟨q,1,none⟩) (fun _=>b) _
  ·(rw [if_pos s.out];exact o.set_ 1 _)
  ·exact Ow.snoc (aD rV ((ag.refl (fun g=>g=q) _).setCell (p:=⟨q,1,none⟩) (fun _=>rfl) _) (fun g D e=>I (by rw [D,e]))) rfl
theorem Ef (base q:Nat) (bs:List UInt8) (c:UInt8) (w:World) (h:jI w base q bs 0) (b:base<=q) (hk:bs.length<=9) (t:0<bs.length) (x:bs.length<9) (u:c.toNat≠0) (Q:¬c.toNat<128):
  Calls prog 102 #[.pointer (some ⟨q,0,none⟩),.int .u8 c.toNat] w (tQ base q bs c w):=by
 obtain⟨X,C,D,E,F⟩:=info_parts bu;refine letter fun R P=> ?_;obtain⟨v,f,y,l⟩:=h;have H:=aa f;have I:=aa y;have K:=aa l;have BL:base<=w.heap.size:=Nat.le_trans b (Nat.le_of_lt f.lt);obtain⟨A,c0,hv,z,B⟩:=au y;have HV:=aa hv;have x0:w.cell? ⟨q,0,none⟩=some v:=f.cell 0;have x1:w.cell? ⟨q,1,none⟩=some (.int .i64 0):=f.cell 1;have zD:=f.frozen 0;have zF:=f.frozen 1;clear f y l hv z B
 (have O:Hid (aT bs.length c=0):=aa (by unfold aT;rw [if_neg (by omega),if_neg (by omega)]);have o:=aa (And.intro t (And.intro x u));have r:=aa Q;clear t x u Q)
 go_enter func102,ntmps102
 go_upto_region 4 with(at_builtin;go_loud (refine af _ rfl (.tmp 15) (.tmp 17) _ rfl base 5 X _ 1 1 underlying24 C D E F rfl (by omega) v _ (aF bs) rfl (own_below I ((Below.refl _ _).alloc (Nat.le_refl _) _)) (From w.heap.size) (some ⟨w.heap.size,0,none⟩) 1 1 [.int .u8 c.toNat] rfl (Rd.one w _ _) (by simp [Value.oneCell']) (by simp only [maxLen];omega) (by omega) (by simp;omega) ?_);intro v6 G a s J;have Z:=aa a;have Y:=aa s;have xJ:=aa J;obtain⟨i,j,rfl,_,_⟩:=au a;have k:aj G q 204 #[v,.int .i64 0]:=(H.out.alloc _).chg (ag.of_grown s) K;have S:=aa k;have y0:=k.cell 0;have y1:G.cell? ⟨q,1,none⟩=some (.int .i64 0):=k.cell 1;have M:=k.frozen 0;have N:=k.frozen 1;clear a s J k x0 x1 zD zF)
 clear y0 y1 M N;obtain⟨m,d⟩:∃W,W=G.setCell ⟨q,0,none⟩ (.slice i (bs.length+1) j):=⟨_,rfl⟩;rw [<-d];have n:Hid (aj m q 204 #[.slice i (bs.length+1) j,.int .i64 0]):=aa (by rw [d];exact S.set_ 0 _)
 have T:Hid (ag (From base) w m):=aa (by
  rw [d];exact((((ag.refl _ _).then ((Below.refl _ _).alloc (Nat.le_refl _) _)).trans (ag.of_grown Y) (fun g _ e=>(ah I g e).1)).setCell (p:=⟨q,0,none⟩) (fun _=>b) _))
 have L:Hid ((Value.slice i (bs.length+1) j).ownBlock≠some q):=aa (fun e=>by
  rcases xJ.out with h|h
  ·exact K (h▸e)
  ·rw [h] at e;injection e with e;have:=H.out.lt;simp at e;omega)
 have rV:Hid (m.ownsRow base 5 1 (.slice i (bs.length+1) j) (bs.length+1) (aF bs++ [.int .u8 c.toNat])):=aa (by
  rw [d];exact aD Z ((ag.refl (fun g=>g=q) _).setCell (p:=⟨q,0,none⟩) (fun _=>rfl) _) (fun g V e=>L (by rw [V,e])))
 have z0:m.cell? ⟨q,0,none⟩=some (.slice i (bs.length+1) j):=n.out.cell 0;have z1:m.cell? ⟨q,1,none⟩=some (.int .i64 0):=n.out.cell 1;have sW:=n.out.frozen 1;clear d
 (have t:0<(bs.length:Int):=(by have:=o.out;omega);have x:¬((bs.length:Int)+1=10):=(by have:=o.out;omega);have u:¬((c.toNat:Int)=0):=(by have:=o.out;omega);have Q:¬((c.toNat:Int)<128):=(by have:=r.out;omega))
 go_wp2
 all_goals
  rw [P.out];have U:=O.out
  refine⟨by rw [U,decide_eq_false (fun h=>r.out h.2)];try rfl,?_,fun _=>⟨.slice i (bs.length+1) j,?_,?_,L⟩⟩
  ·exact T
  ·(rw [if_neg r.out];exact n)
  ·exact Ow.snoc (rV) rfl
theorem yB (base q:Nat) (bs:List UInt8) (c:UInt8) (w:World) (h:jI w base q bs 0) (b:base<=q) (hk:bs.length<=9) (t:bs.length=0) (n:c.toNat<128):
  Calls prog 102 #[.pointer (some ⟨q,0,none⟩),.int .u8 c.toNat] w (tQ base q bs c w):=by
 obtain⟨U,B,C,D,E⟩:=info_parts bu;refine letter fun R P=> ?_;obtain⟨v,f,u,l⟩:=h;have I:=aa f;have J:=aa u;have L:=aa l;have BL:base<=w.heap.size:=Nat.le_trans b (Nat.le_of_lt f.lt);obtain⟨A,c0,hv,x,y⟩:=au u;have HV:=aa hv;have Z:w.cell? ⟨q,0,none⟩=some v:=f.cell 0;have x1:w.cell? ⟨q,1,none⟩=some (.int .i64 0):=f.cell 1;have zD:=f.frozen 0;have zF:=f.frozen 1;clear f u l hv x y
 (have O:Hid (aT bs.length c=0):=aa (by unfold aT;rw [if_neg (by omega),if_neg (by omega)]);have H:=aa t;have r:=aa n;clear t n)
 go_enter func102,ntmps102
 go_upto_region 4 with(at_builtin;go_loud (refine af _ rfl (.tmp 15) (.tmp 17) _ rfl base 5 U _ 1 1 underlying24 B C D E rfl (by omega) v _ (aF bs) rfl (own_below J ((Below.refl _ _).alloc (Nat.le_refl _) _)) (From w.heap.size) (some ⟨w.heap.size,0,none⟩) 1 1 [.int .u8 c.toNat] rfl (Rd.one w _ _) (by simp [Value.oneCell']) (by simp only [maxLen];omega) (by omega) (by simp;omega) ?_);intro v6 G a s K;have X:=aa a;have V:=aa s;have xJ:=aa K;obtain⟨i,j,rfl,_,_⟩:=au a;have k:aj G q 204 #[v,.int .i64 0]:=(I.out.alloc _).chg (ag.of_grown s) L;have Q:=aa k;have y0:=k.cell 0;have y1:G.cell? ⟨q,1,none⟩=some (.int .i64 0):=k.cell 1;have M:=k.frozen 0;have N:=k.frozen 1;clear a s K k Z x1 zD zF)
 clear y0 y1 M N;obtain⟨m,d⟩:∃W,W=G.setCell ⟨q,0,none⟩ (.slice i (bs.length+1) j):=⟨_,rfl⟩;rw [<-d];have o:Hid (aj m q 204 #[.slice i (bs.length+1) j,.int .i64 0]):=aa (by rw [d];exact Q.set_ 0 _)
 have S:Hid (ag (From base) w m):=aa (by
  rw [d];exact((((ag.refl _ _).then ((Below.refl _ _).alloc (Nat.le_refl _) _)).trans (ag.of_grown V) (fun g _ e=>(ah J g e).1)).setCell (p:=⟨q,0,none⟩) (fun _=>b) _))
 have F:Hid ((Value.slice i (bs.length+1) j).ownBlock≠some q):=aa (fun e=>by
  rcases xJ.out with h|h
  ·exact L (h▸e)
  ·rw [h] at e;injection e with e;have:=I.out.lt;simp at e;omega)
 have Y:Hid (m.ownsRow base 5 1 (.slice i (bs.length+1) j) (bs.length+1) (aF bs++ [.int .u8 c.toNat])):=aa (by
  rw [d];exact aD X ((ag.refl (fun g=>g=q) _).setCell (p:=⟨q,0,none⟩) (fun _=>rfl) _) (fun g z e=>F (by rw [z,e])))
 have z0:m.cell? ⟨q,0,none⟩=some (.slice i (bs.length+1) j):=o.out.cell 0;have z1:m.cell? ⟨q,1,none⟩=some (.int .i64 0):=o.out.cell 1;have sW:=o.out.frozen 1;clear d
 (have t:¬(0<(bs.length:Int)):=(by have:=H.out;omega);have h9:¬((bs.length:Int)+1=10):=(by have:=H.out;omega);have n:(c.toNat:Int)<128:=(by have:=r.out;omega))
 go_wp2
 all_goals
  rw [P.out];have T:=O.out
  refine⟨by rw [T,decide_eq_true ⟨rfl,r.out⟩];try rfl,?_,fun _=>⟨.slice i (bs.length+1) j,?_,?_,F⟩⟩
  ·exact S.setCell (p:=⟨q,1,none⟩) (fun _=>b) _
  ·(rw [if_pos r.out];exact o.set_ 1 _)
  ·exact Ow.snoc (aD Y ((ag.refl (fun g=>g=q) _).setCell (p:=⟨q,1,none⟩) (fun _=>rfl) _) (fun g z e=>F (by rw [z,e]))) rfl
theorem yC (base q:Nat) (bs:List UInt8) (c:UInt8) (w:World) (h:jI w base q bs 0) (b:base<=q) (hk:bs.length<=9) (s:bs.length=0) (Q:¬c.toNat<128):
  Calls prog 102 #[.pointer (some ⟨q,0,none⟩),.int .u8 c.toNat] w (tQ base q bs c w):=by
 obtain⟨U,y,z,B,C⟩:=info_parts bu;refine letter fun R N=> ?_;obtain⟨v,f,t,l⟩:=h;have F:=aa f;have G:=aa t;have I:=aa l;have BL:base<=w.heap.size:=Nat.le_trans b (Nat.le_of_lt f.lt);obtain⟨A,c0,hv,u,x⟩:=au t;have HV:=aa hv;have Z:w.cell? ⟨q,0,none⟩=some v:=f.cell 0;have x1:w.cell? ⟨q,1,none⟩=some (.int .i64 0):=f.cell 1;have zD:=f.frozen 0;have zF:=f.frozen 1;clear f t l hv u x
 (have M:Hid (aT bs.length c=0):=aa (by unfold aT;rw [if_neg (by omega),if_neg (by omega)]);have E:=aa s;have o:=aa Q;clear s Q)
 go_enter func102,ntmps102
 go_upto_region 4 with(at_builtin;go_loud (refine af _ rfl (.tmp 15) (.tmp 17) _ rfl base 5 U _ 1 1 underlying24 y z B C rfl (by omega) v _ (aF bs) rfl (own_below G ((Below.refl _ _).alloc (Nat.le_refl _) _)) (From w.heap.size) (some ⟨w.heap.size,0,none⟩) 1 1 [.int .u8 c.toNat] rfl (Rd.one w _ _) (by simp [Value.oneCell']) (by simp only [maxLen];omega) (by omega) (by simp;omega) ?_);intro v6 D a r H;have X:=aa a;have V:=aa r;have xJ:=aa H;obtain⟨i,j,rfl,_,_⟩:=au a;have k:aj D q 204 #[v,.int .i64 0]:=(F.out.alloc _).chg (ag.of_grown r) I;have O:=aa k;have y0:=k.cell 0;have y1:D.cell? ⟨q,1,none⟩=some (.int .i64 0):=k.cell 1;have K:=k.frozen 0;have L:=k.frozen 1;clear a r H k Z x1 zD zF)
 clear y0 y1 K L;obtain⟨m,d⟩:∃W,W=D.setCell ⟨q,0,none⟩ (.slice i (bs.length+1) j):=⟨_,rfl⟩;rw [<-d];have n:Hid (aj m q 204 #[.slice i (bs.length+1) j,.int .i64 0]):=aa (by rw [d];exact O.set_ 0 _)
 have P:Hid (ag (From base) w m):=aa (by
  rw [d];exact((((ag.refl _ _).then ((Below.refl _ _).alloc (Nat.le_refl _) _)).trans (ag.of_grown V) (fun g _ e=>(ah G g e).1)).setCell (p:=⟨q,0,none⟩) (fun _=>b) _))
 have J:Hid ((Value.slice i (bs.length+1) j).ownBlock≠some q):=aa (fun e=>by
  rcases xJ.out with h|h
  ·exact I (h▸e)
  ·rw [h] at e;injection e with e;have:=F.out.lt;simp at e;omega)
 have Y:Hid (m.ownsRow base 5 1 (.slice i (bs.length+1) j) (bs.length+1) (aF bs++ [.int .u8 c.toNat])):=aa (by
  rw [d];exact aD X ((ag.refl (fun g=>g=q) _).setCell (p:=⟨q,0,none⟩) (fun _=>rfl) _) (fun g T e=>J (by rw [T,e])))
 have z0:m.cell? ⟨q,0,none⟩=some (.slice i (bs.length+1) j):=n.out.cell 0;have z1:m.cell? ⟨q,1,none⟩=some (.int .i64 0):=n.out.cell 1;have sW:=n.out.frozen 1;clear d
 (have s:¬(0<(bs.length:Int)):=(by have:=E.out;omega);have h9:¬((bs.length:Int)+1=10):=(by have:=E.out;omega);have Q:¬((c.toNat:Int)<128):=(by have:=o.out;omega))
 go_wp2
 all_goals
  rw [N.out];have S:=M.out
  refine⟨by rw [S,decide_eq_false (fun h=>o.out h.2)];try rfl,?_,fun _=>⟨.slice i (bs.length+1) j,?_,?_,J⟩⟩
  ·exact P
  ·(rw [if_neg o.out];exact n)
  ·exact Ow.snoc (Y) rfl
theorem yD (base q:Nat) (bs:List UInt8) (c:UInt8) (w:World) (h:jI w base q bs 0) (b:base<=q) (hk:bs.length<=9) (u:bs.length=9) (t:c.toNat=1) (n:c.toNat<128):
  Calls prog 102 #[.pointer (some ⟨q,0,none⟩),.int .u8 c.toNat] w (tQ base q bs c w):=by
 obtain⟨V,C,D,E,F⟩:=info_parts bu;refine letter fun R Q=> ?_;obtain⟨v,f,x,l⟩:=h;have J:=aa f;have K:=aa x;have M:=aa l;have BL:base<=w.heap.size:=Nat.le_trans b (Nat.le_of_lt f.lt);obtain⟨A,c0,hv,y,z⟩:=au x;have HV:=aa hv;have x0:w.cell? ⟨q,0,none⟩=some v:=f.cell 0;have x1:w.cell? ⟨q,1,none⟩=some (.int .i64 0):=f.cell 1;have zD:=f.frozen 0;have zF:=f.frozen 1;clear f x l hv y z
 (have P:Hid (aT bs.length c=0):=aa (by unfold aT;rw [if_neg (by omega),if_neg (by omega)]);have I:=aa (And.intro u t);have r:=aa n;clear u t n)
 go_enter func102,ntmps102
 go_upto_region 4 with(at_builtin;go_loud (refine af _ rfl (.tmp 15) (.tmp 17) _ rfl base 5 V _ 1 1 underlying24 C D E F rfl (by omega) v _ (aF bs) rfl (own_below K ((Below.refl _ _).alloc (Nat.le_refl _) _)) (From w.heap.size) (some ⟨w.heap.size,0,none⟩) 1 1 [.int .u8 c.toNat] rfl (Rd.one w _ _) (by simp [Value.oneCell']) (by simp only [maxLen];omega) (by omega) (by simp;omega) ?_);intro v6 H a s L;have Y:=aa a;have X:=aa s;have xJ:=aa L;obtain⟨i,j,rfl,_,_⟩:=au a;have k:aj H q 204 #[v,.int .i64 0]:=(J.out.alloc _).chg (ag.of_grown s) M;have S:=aa k;have y0:=k.cell 0;have y1:H.cell? ⟨q,1,none⟩=some (.int .i64 0):=k.cell 1;have N:=k.frozen 0;have O:=k.frozen 1;clear a s L k x0 x1 zD zF)
 clear y0 y1 N O;obtain⟨m,d⟩:∃W,W=H.setCell ⟨q,0,none⟩ (.slice i (bs.length+1) j):=⟨_,rfl⟩;rw [<-d];have o:Hid (aj m q 204 #[.slice i (bs.length+1) j,.int .i64 0]):=aa (by rw [d];exact S.set_ 0 _)
 have T:Hid (ag (From base) w m):=aa (by
  rw [d];exact((((ag.refl _ _).then ((Below.refl _ _).alloc (Nat.le_refl _) _)).trans (ag.of_grown X) (fun g _ e=>(ah K g e).1)).setCell (p:=⟨q,0,none⟩) (fun _=>b) _))
 have G:Hid ((Value.slice i (bs.length+1) j).ownBlock≠some q):=aa (fun e=>by
  rcases xJ.out with h|h
  ·exact M (h▸e)
  ·rw [h] at e;injection e with e;have:=J.out.lt;simp at e;omega)
 have Z:Hid (m.ownsRow base 5 1 (.slice i (bs.length+1) j) (bs.length+1) (aF bs++ [.int .u8 c.toNat])):=aa (by
  rw [d];exact aD Y ((ag.refl (fun g=>g=q) _).setCell (p:=⟨q,0,none⟩) (fun _=>rfl) _) (fun g B e=>G (by rw [B,e])))
 have z0:m.cell? ⟨q,0,none⟩=some (.slice i (bs.length+1) j):=o.out.cell 0;have z1:m.cell? ⟨q,1,none⟩=some (.int .i64 0):=o.out.cell 1;have sW:=o.out.frozen 1;clear d
 (have u:(bs.length:Int)=9:=(by have:=I.out;omega);have t:(c.toNat:Int)=1:=(by have:=I.out;omega);have n:(c.toNat:Int)<128:=(by have:=r.out;omega))
 go_wp2
 all_goals
  rw [Q.out];have U:=P.out
  refine⟨by rw [U,decide_eq_true ⟨rfl,r.out⟩];try rfl,?_,fun _=>⟨.slice i (bs.length+1) j,?_,?_,G⟩⟩
  ·exact T.setCell (p:=⟨q,1,none⟩) (fun _=>b) _
  ·(rw [if_pos r.out];exact o.set_ 1 _)
  ·exact Ow.snoc (aD Z ((ag.refl (fun g=>g=q) _).setCell (p:=⟨q,1,none⟩) (fun _=>rfl) _) (fun g B e=>G (by rw [B,e]))) rfl
theorem KB (base q:Nat) (bs:List UInt8) (c:UInt8) (w:World) (h:jI w base q bs 0) (b:base<=q) (a:bs.length<=9):Calls prog 102 #[.pointer (some ⟨q,0,none⟩),.int .u8 c.toNat] w (tQ base q bs c w):=by
 rcases Nat.lt_or_ge bs.length 9 with e|e
 ·by_cases d:c.toNat<128
  ·by_cases g:bs.length=0
   ·exact yB base q bs c w h b a g d
   ·by_cases f:c.toNat=0
    ·exact xq base q bs c w h b a (by omega) f
    ·exact Ee base q bs c w h b a (by omega) e f d
  ·by_cases g:bs.length=0
   ·exact yC base q bs c w h b a g d
   ·exact Ef base q bs c w h b a (by omega) e (by omega) d
 ·have e:bs.length=9:=by omega
  by_cases d:1<c.toNat
  ·exact GZ base q bs c w h b a e d
  ·by_cases f:c.toNat=0
   ·exact xq base q bs c w h b a (by omega) f
   ·exact yD base q bs c w h b a e (by omega) (by omega)
theorem OJ (base q:Nat) (bs:List UInt8) (w:World) (h:jI w base q bs 1) (m:bs.length<=10) (hv:dG 0 bs=(0,bs.length)):Calls prog 103 #[.pointer (some ⟨q,0,none⟩)] w fun e w'=>e= .returned (.tuple #[.int .u64 (fM bs),.bool true])/\w=w':=by
 obtain⟨v,b,g,_⟩:=h;obtain⟨A,n,c,rfl,k,l,d,f⟩:=g.sb;have o:w.cell? ⟨q,0,none⟩=some (.slice A n c):=b.cell 0;have p:w.cell? ⟨q,1,none⟩=some (.int .i64 1):=b.cell 1;have a:=aa (iF _ A n c 0 bs w f d (Nat.zero_le _) (by omega))
 have j:ai bs 0=(fM bs,bs.length,0):=by
  unfold ai;rw [List.drop_zero,hv];simp
 rw [j] at a;clear b g f j d;obtain⟨V,i⟩:∃V,V=fM bs:=⟨_,rfl⟩;rw [<-i] at a|-;clear i;go_enter func103,ntmps103
 go_wp2_with (go_at_call 149;refine a.mono ?_;rintro e w2 ⟨rfl,rfl⟩)
 go_ret2
 exact⟨rfl,rfl⟩
noncomputable def Df:Code:=aV (f35.body.bind (aJ 50))
theorem D6 (G D:Nat->Prop) (base B z q at_ P eb eo en ec:Nat) (A:Option Addr) (n cc:Nat) (l:List Row) (us:List Value) (F:List aK) (v1 v2 v3 M v6:Value) (w:World) {u1 u2 u3 u4 u5 u6 u8 u9 dm E bO bX bY bQ bP f bN u20 u21 u22 u23 u24 u25 u26 u27 u28 u29 u30 u31 u32 u33 u34 u35 u36 u37 u38 R u40 dM u42 dN u44 u45 u46 ed u48 u49 ek u51 eO u53 eQ u55 fE fF u58 u59 u60 gJ gY u63 u64 J u66 iq u68 u69 u70 H u72 u73 jJ u75 jK mF mG mH mI mJ mV mW mX l8 nT rM qC qD wu ww wB u93 xM xN xO xP wI wJ jC jD jE jF jQ u105 jR jS jT jU L jW jX jY jZ j3 kV s kX u119 kY kZ lg lh u124 lm lq u127 qF qG qH u131 qI qJ qK qL qM qN u138 u139 qO qP qQ qR qT r y qW qX qY qZ rq u152 ru u154 xW xX xY xZ yc yg yh u162 yj u164 yl ym yn yo yt yu yw yx yz AC d C I O U Z AR v AV N AY AZ A8 X Bg Bh Bi Bj u193 u194 Bl u196 Bn u198 Bo Bp u201 Bq m yA Gw al Gx am Gy an Gz GA GD GG GH GI GJ GK GL GM GN GQ GR GU GV GX GY KM KN KO KP KQ KR ao KS ap KT Ri Rj Rk Rl Rm Rn Ro Rp Rq Rs Rt Ru Rv Rw Rx Ry Rz RA RB RD RE RF RG RH RI RJ RL RN RO RP RQ RS RU RV RY RZ R5 R6 R7 R8 R9 Sa Sb Sc Sd Se Sf Sg Si Sj Sk Sl Sm Sn Sq Sr Su Sv Sw Sy Sz SA SC Vz VA VB VC VD VE VF VG VH VI VJ VK VL VM VN VO VP VQ VR VS VT VU VV VW VX VY VZ V5 V6 SE:Value} (Q:Exit->Act->World->Prop) (mQ:Hid (∀c t (a:Act) w,Q (.panic c) ⟨t,a.defers⟩ w->Q (.panic c) a w))
  (HB:Hid (aj w z 103 #[.pointer (some ⟨q,0,none⟩),v1,v2,v3,M,.slice A n cc,v6])) (HM:Hid (aX w base D (.slice A n cc) n l us)) (HE:Hid (bz w G (some ⟨eb,eo,none⟩) en F)) (a3:Hid (w.cell? ⟨q,2,none⟩=some (.int .i64 (P:Nat)))) (he:0<en) (a9:en<=64) (_hk:∀e∈F,e.1.length<=64)
  (a8:at_<=P) (hP:P<=1152921504606846976) (hn:n<=8388608) (aq:base<=B) (ar:B<=w.heap.size) (bB:z<base) (bx:q<base) (HG:Hid (∀b,G b->B<=b/\b<w.heap.size/\(Value.slice A n cc).ownBlock≠some b))
  (ax:∀(V7 V9 Wd We Wh Wi Wj Wk Wl Wm Wn Wo Wp Wq Ws Wt Wu Wv Ww Wx Wy Wz WA WB WC WE WF WG WH:Value) (A':Option Addr) (iW:Nat) (kF:List Value) (w':World),aX w' base (fun b=>D b\/(B<=b/\b<w'.heap.size)) (.slice A' (n+1) iW) (n+1) (l++ [⟨az F,at_,P-at_,F.length⟩]) kF->aj w' z 103 #[.pointer (some ⟨q,0,none⟩),v1,v2,v3,M,.slice A' (n+1) iW,v6]->ag (fun b=>b=z\/(Value.slice A n cc).ownBlock=some b) w w'->(∀g,(Value.slice A' (n+1) iW).ownBlock=some g->(Value.slice A n cc).ownBlock=some g\/w.heap.size<=g)->Q .normal ⟨(.pointer (some ⟨z,0,none⟩)::u1::u2::u3::u4::u5::u6:: .int .i64 (at_:Nat)::u8::u9::dm::E::bO::bX::bY::bQ:: .slice (some ⟨eb,eo,none⟩) en ec::bP::f::bN::u20::u21::u22::u23::u24::u25::u26::u27::u28::u29::u30::u31::u32::u33::u34::u35::u36::u37::u38::R::u40::dM::u42::dN::u44::u45::u46::ed::u48::u49::ek::u51::eO::u53::eQ::u55::fE::fF::u58::u59::u60::gJ::gY::u63::u64::J::u66::iq::u68::u69::u70::H::u72::u73::jJ::u75::jK::mF::mG::mH::mI::mJ::mV::mW::mX::l8::nT::rM::qC::qD::wu::ww::wB::u93::xM::xN::xO::xP::wI::wJ::jC::jD::jE::jF::jQ::u105::jR::jS::jT::jU::L::jW::jX::jY::jZ::j3::kV::s::kX::u119::kY::kZ::lg::lh::u124::lm::lq::u127::qF::qG::qH::u131::qI::qJ::qK::qL::qM::qN::u138::u139::qO::qP::qQ::qR::qT::r::y::qW::qX::qY::qZ::rq::u152::ru::u154::xW::xX::xY::xZ::yc::yg::yh::u162::yj::u164::yl::ym::yn::yo::yt::yu::yw::yx::yz::AC::d::C::I::O::U::Z::AR::v::AV::N::AY::AZ::A8::X::Bg::Bh::Bi::Bj::u193::u194::Bl::u196::Bn::u198::Bo::Bp::u201::Bq::m::yA::Gw::al::Gx::am::Gy::an::Gz::GA::GD::GG::GH::GI::GJ::GK::GL::GM::GN::GQ::GR::GU::GV::GX::GY::KM::KN::KO::KP::KQ::KR::ao::KS::ap::KT::Ri::Rj::Rk::Rl::Rm::Rn::Ro::Rp::Rq::Rs::Rt::Ru::Rv::Rw::Rx::Ry::Rz::RA::RB::RD::RE::RF::RG::RH::RI::RJ::RL::RN::RO::RP::RQ::RS::RU::RV::RY::RZ::R5::R6::R7::R8::R9::Sa::Sb::Sc::Sd::Se::Sf::Sg::Si::Sj::Sk::Sl::Sm::Sn::Sq::Sr::Su::Sv::Sw::Sy::Sz::SA::SC::V7::V9::Wd::We::Wh::Wi::Wj::Wk::Wl::Wm::Wn::Wo::Wp::Wq::Ws::Wt::Wu::Wv::Ww::Wx::Wy::Wz::WA::WB::WC::WE::WF::WG::WH::SE:: []).toArray,[]⟩ w'):
  Code.wp prog Df Q ⟨(.pointer (some ⟨z,0,none⟩)::u1::u2::u3::u4::u5::u6:: .int .i64 (at_:Nat)::u8::u9::dm::E::bO::bX::bY::bQ:: .slice (some ⟨eb,eo,none⟩) en ec::bP::f::bN::u20::u21::u22::u23::u24::u25::u26::u27::u28::u29::u30::u31::u32::u33::u34::u35::u36::u37::u38::R::u40::dM::u42::dN::u44::u45::u46::ed::u48::u49::ek::u51::eO::u53::eQ::u55::fE::fF::u58::u59::u60::gJ::gY::u63::u64::J::u66::iq::u68::u69::u70::H::u72::u73::jJ::u75::jK::mF::mG::mH::mI::mJ::mV::mW::mX::l8::nT::rM::qC::qD::wu::ww::wB::u93::xM::xN::xO::xP::wI::wJ::jC::jD::jE::jF::jQ::u105::jR::jS::jT::jU::L::jW::jX::jY::jZ::j3::kV::s::kX::u119::kY::kZ::lg::lh::u124::lm::lq::u127::qF::qG::qH::u131::qI::qJ::qK::qL::qM::qN::u138::u139::qO::qP::qQ::qR::qT::r::y::qW::qX::qY::qZ::rq::u152::ru::u154::xW::xX::xY::xZ::yc::yg::yh::u162::yj::u164::yl::ym::yn::yo::yt::yu::yw::yx::yz::AC::d::C::I::O::U::Z::AR::v::AV::N::AY::AZ::A8::X::Bg::Bh::Bi::Bj::u193::u194::Bl::u196::Bn::u198::Bo::Bp::u201::Bq::m::yA::Gw::al::Gx::am::Gy::an::Gz::GA::GD::GG::GH::GI::GJ::GK::GL::GM::GN::GQ::GR::GU::GV::GX::GY::KM::KN::KO::KP::KQ::KR::ao::KS::ap::KT::Ri::Rj::Rk::Rl::Rm::Rn::Ro::Rp::Rq::Rs::Rt::Ru::Rv::Rw::Rx::Ry::Rz::RA::RB::RD::RE::RF::RG::RH::RI::RJ::RL::RN::RO::RP::RQ::RS::RU::RV::RY::RZ::R5::R6::R7::R8::R9::Sa::Sb::Sc::Sd::Se::Sf::Sg::Si::Sj::Sk::Sl::Sm::Sn::Sq::Sr::Su::Sv::Sw::Sy::Sz::SA::SC::Vz::VA::VB::VC::VD::VE::VF::VG::VH::VI::VJ::VK::VL::VM::VN::VO::VP::VQ::VR::VS::VT::VU::VV::VW::VX::VY::VZ::V5::V6::SE:: []).toArray,[]⟩ w:=by
 obtain⟨i0,a5,kH,kI,kJ⟩:=info_parts nZ;have dP:=aa ax;obtain⟨j,hj⟩:∃j,en=j+1:=⟨en-1,by omega⟩;obtain⟨b,o,Y,kn,kc,V,vn,vc,key,val,vC,Uu,aE,aw,_,a0,ut,a1,a2,_⟩:=HE.out.at_ (k:=j) (by omega);injection vC with vC
 injection vC with e1 e2
 subst e1;subst e2;have X6:Hid (az F=key):=aa (gH (e:=(key,val)) (by rw [<-HE.out.len,show en-1=j by omega];exact aE));have pX:Hid (en=F.length):=HE.out.len;have HJ:Hid (SB w G (.slice Y kn kc) key):=aa (SB.mk a0 ut a1 a2);have Ul:=aa (HG _ Uu);have bb:(en:Int)-1=(j:Int):=by omega
 have be:IntKind.i64.wrap ((en:Int)-1)=(j:Int):=by rw [IntWalk.i64_in _ (by omega)];omega
 have bh:IntKind.i64.wrap (j:Int)=(j:Int):=IntWalk.i64_in _ (by omega);have ba:(0:Int)<=(j:Int):=by omega
 have bo:IntKind.i64.wrap ((P-at_:Nat):Int)=((P-at_:Nat):Int):=IntWalk.i64_in _ (by omega);have bj:j<en:=by omega
 have xI:(j:Int)<(en:Int):=by omega
 have bk:(P:Int)-(at_:Int)=((P-at_:Nat):Int):=by omega
 have bm:IntKind.i64.wrap ((P:Int)-(at_:Int))=((P-at_:Nat):Int):=by rw [IntWalk.i64_in _ (by omega)];omega
 have bp:=HB.out.lt;have WI:Hid ((Value.slice A n cc).ownBlock≠some z):=aa (fun e=>by have:=(ah HM.own z e).1;omega);have S0:w.drew.cell? ⟨z,5,none⟩=some (.slice A n cc)/\w.drew.cell? ⟨z,0,none⟩=some (.pointer (some ⟨q,0,none⟩))/\w.drew.cell? ⟨eb,eo+j*2,none⟩=some (.slice Y kn kc)/\w.drew.cell? ⟨q,2,none⟩=some (.int .i64 (P:Nat)):=⟨(HB.cell 5).trans rfl,(HB.cell 0).trans rfl,aw,a3⟩;have a4:Hid ((Value.slice A n cc).ownBlock≠some q):=aa (fun e=>by have:=(ah HM.own q e).1;omega);clear ax aE aw a0 ut a1 a2 _hk Uu hj;conv=>arg 2;whnf
 refine aS (fun w'=>w'.cell? ⟨z,5,none⟩=some (.slice A n cc)/\w'.cell? ⟨z,0,none⟩=some (.pointer (some ⟨q,0,none⟩))/\w'.cell? ⟨eb,eo+j*2,none⟩=some (.slice Y kn kc)/\w'.cell? ⟨q,2,none⟩=some (.int .i64 (P:Nat))) 29 (by kernel_rfl) ?_;refine uF 0 (fun _=>S0) ?_;refine uF 1 (fun _=>S0) ?_;refine uF 2 (fun _=>S0) ?_;refine uF 3 (fun _=>S0) ?_;refine uF 5 (fun _=>S0) ?_;refine uF 6 (fun _=>S0) ?_;refine uF 7 (fun _=>S0) ?_;refine uF 8 (fun _=>S0) ?_;refine uF 9 (fun _=>S0) ?_;refine uF 10 (fun _=>S0) ?_;refine uF 12 (fun _=>S0) ?_;refine uF 13 (fun _=>S0) ?_;refine uF 14 (fun _=>S0) ?_;refine uF 15 (fun _=>S0) ?_;refine uF 20 (fun _=>S0) ?_;refine uF 22 (fun _=>S0) ?_;refine uF 23 (fun _=>S0) ?_;refine uT 4 S0 ?_;refine uT 11 S0 ?_;refine uT 16 S0 ?_;refine uF 17 (fun _=>S0) ?_;refine uF 18 (fun _=>S0) ?_;refine uT 19 S0 ?_;refine uF 21 (fun _=>S0) ?_;refine uF 24 (fun _=>S0) ?_;refine aH (i:=25) (by kernel_rfl) rfl (fun K hK=> ?_);go_simp
 obtain⟨w3,ae⟩:∃W,W=(w.alloc (.cells #[.slice Y kn kc,.int .i64 at_,.int .i64 ((P-at_:Nat):Int),.int .i64 en] 100)).drew:=⟨_,rfl⟩;rw [<-ae];have ad:Below w.heap.size w w3:=(by rw [ae];exact((Below.refl _ _).alloc (Nat.le_refl _) _).drew);have ab:Hid (Below w.heap.size w w3):=aa ad;have YQ:=aa (HJ.below ab);have uf:Hid (Rd w3 (From w.heap.size) 4 (some ⟨w.heap.size,0,none⟩) 1 [.slice Y kn kc,.int .i64 at_,.int .i64 ((P-at_:Nat):Int),.int .i64 en]):=aa (by rw [ae];exact⟨rfl,fun _=>⟨_,0,rfl,Nat.le_refl _,fun k u _hk=>by show(w.alloc _).cell? _=_;rw [(aj.new w _ _).cell];simpa using _hk⟩⟩);have D7:=aa (HM.below ab);have S3:w3.cell? ⟨z,5,none⟩=some (.slice A n cc)/\w3.cell? ⟨z,0,none⟩=some (.pointer (some ⟨q,0,none⟩))/\w3.cell? ⟨eb,eo+j*2,none⟩=some (.slice Y kn kc)/\w3.cell? ⟨q,2,none⟩=some (.int .i64 (P:Nat)):=⟨ak ad S0.1,ak ad S0.2.1,ak ad S0.2.2.1,ak ad S0.2.2.2⟩;clear ae ad;refine hK.out _ _ (fun _=>S3) ?_;clear hK K;try simp only [aL,aN,aZ,aC]
 refine aH (i:=26) (by kernel_rfl) rfl (fun K hK=> ?_);refine aI _ rfl (.tmp 305) (.tmp 326) _ rfl base 100 i0 _ 4 48 underlying97 a5 kH kI kJ rfl (by omega) (.slice A n cc) n us rfl D7.own (From w.heap.size) (some ⟨w.heap.size,0,none⟩) 1 1 _ rfl uf (by intro u hu;simp at hu;rcases hu with rfl|rfl|rfl|rfl<;>rfl) (by simp only [maxLen];omega) (by omega) (Nat.le_trans aq (Nat.le_trans ar ab.size)) ?_;intro x w4 dz ac ib;obtain⟨K4,EJ,a7,_,_⟩:=au dz;subst a7;have iV:=aa dz;have I9:=aa ac;have yL:=aa ib;have Hr:w4.cell? ⟨z,5,none⟩=some (.slice A n cc):=(ag.of_grown ac).cell WI S3.1;have dR:Hid (aj w4 z 103 #[.pointer (some ⟨q,0,none⟩),v1,v2,v3,M,.slice A n cc,v6]):=aa ((HB.below ab).chg (ag.of_grown ac) WI);have XQ:∀o,w4.frozen? ⟨z,o,none⟩=false:=dR.out.frozen;have S4:w4.cell? ⟨z,5,none⟩=some (.slice A n cc)/\w4.cell? ⟨z,0,none⟩=some (.pointer (some ⟨q,0,none⟩))/\w4.cell? ⟨eb,eo+j*2,none⟩=some (.slice Y kn kc)/\w4.cell? ⟨q,2,none⟩=some (.int .i64 (P:Nat)):=⟨Hr,(ag.of_grown ac).cell WI S3.2.1,(ag.of_grown ac).cell Ul.2.2 S3.2.2.1,(ag.of_grown ac).cell a4 S3.2.2.2⟩;clear dz ac ib;refine hK.out _ _ (fun _=>S4) ?_;clear hK K;try simp only [aL,aN,aZ,aC]
 refine uF 27 (fun _=>S4) ?_;refine uF 28 (fun _=>S4) ?_;refine aH (i:=29) (by kernel_rfl) rfl (fun K hK=> ?_);go_simp
 refine hK.out _ _ (fun h=>absurd h (by decide)) ?_;clear hK K;try simp only [aL,aN,aZ,aC]
 refine bS (by kernel_rfl) ?_ _
 have a6:aX w4 base (fun b=>D b\/(B<=b/\b<w4.heap.size)) (.slice K4 (n+1) EJ) (n+1) (l++ [⟨az F,at_,P-at_,F.length⟩]) _:=D7.out.snoc (x:=⟨az F,at_,P-at_,F.length⟩) (u:= .slice Y kn kc) I9 (by have h9:=iV.out;rw [<-pX.out];exact h9) yL (fun b hb=> .inl hb) (fun b hb=>hb.elim (HM.lo b) (fun h=>Nat.le_trans aq h.1)) (fun h=> .inr ⟨Nat.le_trans ar ab.size,h⟩) (by rw [X6.out];exact YQ.weak (fun b hb=>by
   have h1:=HG.out b hb;have h2:=ab.out.size;have h3:w3.heap.size<=w4.heap.size:=(ag.of_grown I9).size;exact⟨.inr ⟨h1.1,by omega⟩,by omega,h1.2.2⟩))
 have aA:=(ag.refl (fun b=>b=z) w4).setCell (p:=⟨z,5,none⟩) (fun _=>rfl) (.slice K4 (n+1) EJ)
 refine dP _ _ _ _ _ _ _ _ _ _ _ _ _ _ _ _ _ _ _ _ _ _ _ _ _ _ _ _ _ K4 EJ _ _ ((a6.chg (S:=fun b=>b=z) aA (fun b hb _ e=>by have e:b=z:=e;omega)).wider (fun b hb=>hb.imp id (fun h=>⟨h.1,Nat.lt_of_lt_of_le h.2 aA.size⟩)) (fun b hb=>hb.elim (HM.lo b) (fun h=>Nat.le_trans aq h.1))) (dR.set_ 5 _) ?_ (fun g hg=>by
  rcases yL.out with h|h
  ·exact .inl (h▸hg)
  ·rw [h] at hg;injection hg with hg;have h2:=ab.out.size;exact .inr (by omega))
 exact((ag.of_below ab).trans (T:=fun b=>(Value.slice A n cc).ownBlock=some b) (ag.of_grown I9) (fun b _ e=> .inr e)).setCell (p:=⟨z,5,none⟩) (fun _=> .inl rfl) _
end Go.Proofs.YtepgcjbhabnciaaGreat
