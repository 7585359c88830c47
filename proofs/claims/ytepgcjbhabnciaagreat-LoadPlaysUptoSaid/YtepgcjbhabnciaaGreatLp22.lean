/- Part 22. -/
import Derived.Test.YtepgcjbhabnciaaGreatLp21
namespace Go.Proofs.YtepgcjbhabnciaaGreat
set_option maxRecDepth 100000
set_option maxHeartbeats 8000000
open Go.Proofs.Tryz Go.RowKit
variable {q base p K:Nat} {w w':World} {F S:Nat->Prop} {bs:List UInt8} {c:ay}
def jV (w:World) (base q:Nat) (bs:List UInt8) (st:Int):Prop:=∃v,ak w q 204 #[v,st]/\Ow w base v bs/\v.ownBlock≠some q
theorem jV.new {_w w':World} (h:ak w' q 204 #[(),.int .i64 0]):jV w' q q [] 0:=⟨_,h,Ow.nil _ _,by simp [Value.ownBlock]⟩
def xq (base q:Nat) (bs:List UInt8) (c:UInt8) (w:World) (e:Ending) (w':World):Prop:=
 e= .returned (.tuple #[.bool (decide (aW bs.length c=0/\c.toNat<128)),.int .i64 (aW bs.length c)])/\ag (From base) w w'/\
 (aW bs.length c=0->jV w' base q (bs++ [c]) (if c.toNat<128 then 1 else 0))
theorem Lc (c:UInt8) (h:jV w base q bs 0) (K:base<=q) (hk:bs.length<=9) (n:bs.length=9) (m:1<c.toNat):
  Calls prog 102 #[q,.int .u8 c.toNat] w (xq base q bs c w):=by
 obtain⟨W,u,x,y,z⟩:=info_parts bD;refine letter fun R S=> ?_;obtain⟨v,d,r,k⟩:=h;have D:=aa d;have E:=aa r;have H:=aa k;have EQ:base<=w:=ma K (Nat.le_of_lt d.lt);obtain⟨A,c0,hv,s,t⟩:=ax r;have HV:=aa hv;have x0:w.cell? q=some v:=d.cell 0;have x1:w.cell? ⟨q,1,none⟩=some (.int .i64 0):=d.cell 1;have J:=d.frozen 0;have L:=d.frozen 1;clear d r k hv s t
 (have Q:Hid (aW bs.length c=12):=aa (by unfold aW;rw [if_pos ⟨n,m⟩]);have P:=aa n;have O:=aa m;clear n m)
 go_enter func102,ntmps102
 go_upto_region 4 with(at_builtin;go_loud (refine af _ rfl (.tmp 15) (.tmp 17) _ rfl base 5 W _ 1 1 underlying24 u x y z rfl (by omega) v _ (aI bs) rfl (own_below E gV) (From w) (some ⟨w,0,none⟩) 1 1 [.int .u8 c.toNat] rfl (Rd.one w _ _) (by simp [Value.oneCell']) (by simp only [maxLen];omega) (by omega) (by simp;omega) ?_);intro v6 C a o F;have X:=aa a;have Y:=aa o;have I:=aa F;obtain⟨i,j,rfl,_,_⟩:=ax a;have f:ak C q 204 #[v,.int .i64 0]:=(D.out.alloc _).chg (ag.of_grown o) H;have U:=aa f;have y0:=f.cell 0;have y1:C.cell? ⟨q,1,none⟩=some (.int .i64 0):=f.cell 1;have M:=f.frozen 0;have N:=f.frozen 1;clear a o F f x0 x1 J L)
 clear y0 y1 M N;obtain⟨l,b⟩:=gF (C.setCell ⟨q,0,none⟩ (.slice i (bs.length+1) j));rw [<-b];have B:Hid (ak l q 204 #[.slice i (bs.length+1) j,.int .i64 0]):=aa (by rw [b];exact U.set_ 0 _)
 have T:Hid (ag (From base) w l):=aa (by
  rw [b];exact((((ag.refl _ _).then gV).trans (ag.of_grown Y) (fun g _ e=>(ah E g e).1)).setCell (p:=q) (fun _=>K) _))
 have Z:Hid ((Value.slice i (bs.length+1) j).ownBlock≠some q):=aa (fun e=>by
  rcases I.out with h|h
  ·exact H (h▸e)
  ·rw [h] at e;injection e with e;have:=D.out.lt;simp at e;omega)
 have nW:Hid (l.ownsRow base 5 1 (.slice i (bs.length+1) j) (bs.length+1) (aI bs++ [.int .u8 c.toNat])):=aa (by
  rw [b];exact aB X ((ag.refl (fun g=>g=q) _).setCell (p:=q) (fun _=>rfl) _) (fun g V e=>Z (by rw [V,e])))
 have z0:l.cell? q=some (.slice i (bs.length+1) j):=B.out.cell 0;have z1:l.cell? ⟨q,1,none⟩=some (.int .i64 0):=B.out.cell 1;have xP:=B.out.frozen 1;clear b;have n:(bs.length:Int)=9:=(by have:=P.out;omega);have m:(1:Int)<(c.toNat:Int):=(by have:=O.out;omega);go_wp2
 all_goals
  rw [S.out];have G:=Q.out;exact⟨by rw [G];simp,T.setCell (p:=⟨q,1,none⟩) (fun _=>K) _,fun h=>by rw [G] at h;cases h⟩
theorem zU (c:UInt8) (h:jV w base q bs 0) (K:base<=q) (hk:bs.length<=9) (m:0<bs.length) (n:c.toNat=0):
  Calls prog 102 #[q,.int .u8 c.toNat] w (xq base q bs c w):=by
 obtain⟨W,u,x,y,z⟩:=info_parts bD;refine letter fun R S=> ?_;obtain⟨v,d,r,k⟩:=h;have D:=aa d;have E:=aa r;have H:=aa k;have EQ:base<=w:=ma K (Nat.le_of_lt d.lt);obtain⟨A,c0,hv,s,t⟩:=ax r;have HV:=aa hv;have x0:w.cell? q=some v:=d.cell 0;have x1:w.cell? ⟨q,1,none⟩=some (.int .i64 0):=d.cell 1;have J:=d.frozen 0;have L:=d.frozen 1;clear d r k hv s t
 (have Q:Hid (aW bs.length c=13):=aa (by unfold aW;rw [if_neg (by omega),if_pos ⟨m,n⟩]);have O:=aa m;have P:=aa n;clear m n)
 go_enter func102,ntmps102
 go_upto_region 4 with(at_builtin;go_loud (refine af _ rfl (.tmp 15) (.tmp 17) _ rfl base 5 W _ 1 1 underlying24 u x y z rfl (by omega) v _ (aI bs) rfl (own_below E gV) (From w) (some ⟨w,0,none⟩) 1 1 [.int .u8 c.toNat] rfl (Rd.one w _ _) (by simp [Value.oneCell']) (by simp only [maxLen];omega) (by omega) (by simp;omega) ?_);intro v6 C a o F;have X:=aa a;have Y:=aa o;have I:=aa F;obtain⟨i,j,rfl,_,_⟩:=ax a;have f:ak C q 204 #[v,.int .i64 0]:=(D.out.alloc _).chg (ag.of_grown o) H;have U:=aa f;have y0:=f.cell 0;have y1:C.cell? ⟨q,1,none⟩=some (.int .i64 0):=f.cell 1;have M:=f.frozen 0;have N:=f.frozen 1;clear a o F f x0 x1 J L)
 clear y0 y1 M N;obtain⟨l,b⟩:=gF (C.setCell ⟨q,0,none⟩ (.slice i (bs.length+1) j));rw [<-b];have B:Hid (ak l q 204 #[.slice i (bs.length+1) j,.int .i64 0]):=aa (by rw [b];exact U.set_ 0 _)
 have T:Hid (ag (From base) w l):=aa (by
  rw [b];exact((((ag.refl _ _).then gV).trans (ag.of_grown Y) (fun g _ e=>(ah E g e).1)).setCell (p:=q) (fun _=>K) _))
 have Z:Hid ((Value.slice i (bs.length+1) j).ownBlock≠some q):=aa (fun e=>by
  rcases I.out with h|h
  ·exact H (h▸e)
  ·rw [h] at e;injection e with e;have:=D.out.lt;simp at e;omega)
 have nW:Hid (l.ownsRow base 5 1 (.slice i (bs.length+1) j) (bs.length+1) (aI bs++ [.int .u8 c.toNat])):=aa (by
  rw [b];exact aB X ((ag.refl (fun g=>g=q) _).setCell (p:=q) (fun _=>rfl) _) (fun g V e=>Z (by rw [V,e])))
 have z0:l.cell? q=some (.slice i (bs.length+1) j):=B.out.cell 0;have z1:l.cell? ⟨q,1,none⟩=some (.int .i64 0):=B.out.cell 1;have xP:=B.out.frozen 1;clear b
 (have m:0<(bs.length:Int):=(by have:=O.out;omega);have n:(c.toNat:Int)=0:=(by have:=P.out;omega))
 go_wp2
 all_goals
  rw [S.out];have G:=Q.out;exact⟨by rw [G];simp,T.setCell (p:=⟨q,1,none⟩) (fun _=>K) _,fun h=>by rw [G] at h;cases h⟩
theorem Il (c:UInt8) (h:jV w base q bs 0) (K:base<=q) (hk:bs.length<=9) (t:0<bs.length) (x:bs.length<9) (u:c.toNat≠0) (i:c.toNat<128):
  Calls prog 102 #[q,.int .u8 c.toNat] w (xq base q bs c w):=by
 obtain⟨Z,D,E,F,G⟩:=info_parts bD;refine letter fun R V=> ?_;obtain⟨v,d,y,l⟩:=h;have J:=aa d;have L:=aa y;have N:=aa l;have EQ:base<=w:=ma K (Nat.le_of_lt d.lt);obtain⟨A,c0,hv,z,B⟩:=ax y;have HV:=aa hv;have x0:w.cell? q=some v:=d.cell 0;have x1:w.cell? ⟨q,1,none⟩=some (.int .i64 0):=d.cell 1;have P:=d.frozen 0;have Q:=d.frozen 1;clear d y l hv z B
 (have U:Hid (aW bs.length c=0):=aa (by unfold aW;rw [if_neg (by omega),if_neg (by omega)]);have o:=aa (And.intro t (And.intro x u));have r:=aa i;clear t x u i)
 go_enter func102,ntmps102
 go_upto_region 4 with(at_builtin;go_loud (refine af _ rfl (.tmp 15) (.tmp 17) _ rfl base 5 Z _ 1 1 underlying24 D E F G rfl (by omega) v _ (aI bs) rfl (own_below L gV) (From w) (some ⟨w,0,none⟩) 1 1 [.int .u8 c.toNat] rfl (Rd.one w _ _) (by simp [Value.oneCell']) (by simp only [maxLen];omega) (by omega) (by simp;omega) ?_);intro v6 I a s M;have lX:=aa a;have mE:=aa s;have O:=aa M;obtain⟨f,j,rfl,_,_⟩:=ax a;have k:ak I q 204 #[v,.int .i64 0]:=(J.out.alloc _).chg (ag.of_grown s) N;have X:=aa k;have y0:=k.cell 0;have y1:I.cell? ⟨q,1,none⟩=some (.int .i64 0):=k.cell 1;have S:=k.frozen 0;have T:=k.frozen 1;clear a s M k x0 x1 P Q)
 clear y0 y1 S T;obtain⟨m,b⟩:=gF (I.setCell ⟨q,0,none⟩ (.slice f (bs.length+1) j));rw [<-b];have n:Hid (ak m q 204 #[.slice f (bs.length+1) j,.int .i64 0]):=aa (by rw [b];exact X.set_ 0 _)
 have W:Hid (ag (From base) w m):=aa (by
  rw [b];exact((((ag.refl _ _).then gV).trans (ag.of_grown mE) (fun g _ e=>(ah L g e).1)).setCell (p:=q) (fun _=>K) _))
 have H:Hid ((Value.slice f (bs.length+1) j).ownBlock≠some q):=aa (fun e=>by
  rcases O.out with h|h
  ·exact N (h▸e)
  ·rw [h] at e;injection e with e;have:=J.out.lt;simp at e;omega)
 have nW:Hid (m.ownsRow base 5 1 (.slice f (bs.length+1) j) (bs.length+1) (aI bs++ [.int .u8 c.toNat])):=aa (by
  rw [b];exact aB lX ((ag.refl (fun g=>g=q) _).setCell (p:=q) (fun _=>rfl) _) (fun g C e=>H (by rw [C,e])))
 have z0:m.cell? q=some (.slice f (bs.length+1) j):=n.out.cell 0;have z1:m.cell? ⟨q,1,none⟩=some (.int .i64 0):=n.out.cell 1;have xP:=n.out.frozen 1;clear b
 (have t:0<(bs.length:Int):=(by have:=o.out;omega);have x:¬((bs.length:Int)+1=10):=(by have:=o.out;omega);have u:¬((c.toNat:Int)=0):=(by have:=o.out;omega);have i:(c.toNat:Int)<128:=(by have:=r.out;omega))
 go_wp2
 all_goals
  rw [V.out];have Y:=U.out
  refine⟨by rw [Y,decide_eq_true ⟨rfl,r.out⟩];try rfl,?_,fun _=>⟨.slice f (bs.length+1) j,?_,?_,H⟩⟩
  ·exact W.setCell (p:=⟨q,1,none⟩) (fun _=>K) _
  ·(rw [if_pos r.out];exact n.set_ 1 _)
  ·exact Ow.snoc (aB nW ((ag.refl (fun g=>g=q) _).setCell (p:=⟨q,1,none⟩) (fun _=>rfl) _) (fun g C e=>H (by rw [C,e]))) rfl
theorem Im (c:UInt8) (h:jV w base q bs 0) (K:base<=q) (hk:bs.length<=9) (t:0<bs.length) (x:bs.length<9) (u:c.toNat≠0) (j:¬c.toNat<128):
  Calls prog 102 #[q,.int .u8 c.toNat] w (xq base q bs c w):=by
 obtain⟨Z,C,D,E,F⟩:=info_parts bD;refine letter fun R U=> ?_;obtain⟨v,d,y,l⟩:=h;have H:=aa d;have I:=aa y;have L:=aa l;have EQ:base<=w:=ma K (Nat.le_of_lt d.lt);obtain⟨A,c0,hv,z,B⟩:=ax y;have HV:=aa hv;have x0:w.cell? q=some v:=d.cell 0;have x1:w.cell? ⟨q,1,none⟩=some (.int .i64 0):=d.cell 1;have O:=d.frozen 0;have P:=d.frozen 1;clear d y l hv z B
 (have T:Hid (aW bs.length c=0):=aa (by unfold aW;rw [if_neg (by omega),if_neg (by omega)]);have o:=aa (And.intro t (And.intro x u));have r:=aa j;clear t x u j)
 go_enter func102,ntmps102
 go_upto_region 4 with(at_builtin;go_loud (refine af _ rfl (.tmp 15) (.tmp 17) _ rfl base 5 Z _ 1 1 underlying24 C D E F rfl (by omega) v _ (aI bs) rfl (own_below I gV) (From w) (some ⟨w,0,none⟩) 1 1 [.int .u8 c.toNat] rfl (Rd.one w _ _) (by simp [Value.oneCell']) (by simp only [maxLen];omega) (by omega) (by simp;omega) ?_);intro v6 G a s J;have lX:=aa a;have mE:=aa s;have N:=aa J;obtain⟨f,i,rfl,_,_⟩:=ax a;have k:ak G q 204 #[v,.int .i64 0]:=(H.out.alloc _).chg (ag.of_grown s) L;have W:=aa k;have y0:=k.cell 0;have y1:G.cell? ⟨q,1,none⟩=some (.int .i64 0):=k.cell 1;have Q:=k.frozen 0;have S:=k.frozen 1;clear a s J k x0 x1 O P)
 clear y0 y1 Q S;obtain⟨m,b⟩:=gF (G.setCell ⟨q,0,none⟩ (.slice f (bs.length+1) i));rw [<-b];have n:Hid (ak m q 204 #[.slice f (bs.length+1) i,.int .i64 0]):=aa (by rw [b];exact W.set_ 0 _)
 have V:Hid (ag (From base) w m):=aa (by
  rw [b];exact((((ag.refl _ _).then gV).trans (ag.of_grown mE) (fun g _ e=>(ah I g e).1)).setCell (p:=q) (fun _=>K) _))
 have M:Hid ((Value.slice f (bs.length+1) i).ownBlock≠some q):=aa (fun e=>by
  rcases N.out with h|h
  ·exact L (h▸e)
  ·rw [h] at e;injection e with e;have:=H.out.lt;simp at e;omega)
 have nW:Hid (m.ownsRow base 5 1 (.slice f (bs.length+1) i) (bs.length+1) (aI bs++ [.int .u8 c.toNat])):=aa (by
  rw [b];exact aB lX ((ag.refl (fun g=>g=q) _).setCell (p:=q) (fun _=>rfl) _) (fun g Y e=>M (by rw [Y,e])))
 have z0:m.cell? q=some (.slice f (bs.length+1) i):=n.out.cell 0;have z1:m.cell? ⟨q,1,none⟩=some (.int .i64 0):=n.out.cell 1;have xP:=n.out.frozen 1;clear b
 (have t:0<(bs.length:Int):=(by have:=o.out;omega);have x:¬((bs.length:Int)+1=10):=(by have:=o.out;omega);have u:¬((c.toNat:Int)=0):=(by have:=o.out;omega);have j:¬((c.toNat:Int)<128):=(by have:=r.out;omega))
 go_wp2
 all_goals
  rw [U.out];have X:=T.out
  refine⟨by rw [X,decide_eq_false (fun h=>r.out h.2)];try rfl,?_,fun _=>⟨.slice f (bs.length+1) i,?_,?_,M⟩⟩
  ·exact V
  ·(rw [if_neg r.out];exact n)
  ·exact Ow.snoc (nW) rfl
theorem BA (c:UInt8) (h:jV w base q bs 0) (K:base<=q) (hk:bs.length<=9) (s:bs.length=0) (i:c.toNat<128):
  Calls prog 102 #[q,.int .u8 c.toNat] w (xq base q bs c w):=by
 obtain⟨X,z,B,C,D⟩:=info_parts bD;refine letter fun R T=> ?_;obtain⟨v,d,t,l⟩:=h;have H:=aa d;have I:=aa t;have L:=aa l;have EQ:base<=w:=ma K (Nat.le_of_lt d.lt);obtain⟨A,c0,hv,u,x⟩:=ax t;have HV:=aa hv;have x0:w.cell? q=some v:=d.cell 0;have x1:w.cell? ⟨q,1,none⟩=some (.int .i64 0):=d.cell 1;have N:=d.frozen 0;have O:=d.frozen 1;clear d t l hv u x
 (have S:Hid (aW bs.length c=0):=aa (by unfold aW;rw [if_neg (by omega),if_neg (by omega)]);have G:=aa s;have o:=aa i;clear s i)
 go_enter func102,ntmps102
 go_upto_region 4 with(at_builtin;go_loud (refine af _ rfl (.tmp 15) (.tmp 17) _ rfl base 5 X _ 1 1 underlying24 z B C D rfl (by omega) v _ (aI bs) rfl (own_below I gV) (From w) (some ⟨w,0,none⟩) 1 1 [.int .u8 c.toNat] rfl (Rd.one w _ _) (by simp [Value.oneCell']) (by simp only [maxLen];omega) (by omega) (by simp;omega) ?_);intro v6 F a r J;have Y:=aa a;have Z:=aa r;have M:=aa J;obtain⟨f,j,rfl,_,_⟩:=ax a;have k:ak F q 204 #[v,.int .i64 0]:=(H.out.alloc _).chg (ag.of_grown r) L;have V:=aa k;have y0:=k.cell 0;have y1:F.cell? ⟨q,1,none⟩=some (.int .i64 0):=k.cell 1;have P:=k.frozen 0;have Q:=k.frozen 1;clear a r J k x0 x1 N O)
 clear y0 y1 P Q;obtain⟨m,b⟩:=gF (F.setCell ⟨q,0,none⟩ (.slice f (bs.length+1) j));rw [<-b];have n:Hid (ak m q 204 #[.slice f (bs.length+1) j,.int .i64 0]):=aa (by rw [b];exact V.set_ 0 _)
 have U:Hid (ag (From base) w m):=aa (by
  rw [b];exact((((ag.refl _ _).then gV).trans (ag.of_grown Z) (fun g _ e=>(ah I g e).1)).setCell (p:=q) (fun _=>K) _))
 have E:Hid ((Value.slice f (bs.length+1) j).ownBlock≠some q):=aa (fun e=>by
  rcases M.out with h|h
  ·exact L (h▸e)
  ·rw [h] at e;injection e with e;have:=H.out.lt;simp at e;omega)
 have nW:Hid (m.ownsRow base 5 1 (.slice f (bs.length+1) j) (bs.length+1) (aI bs++ [.int .u8 c.toNat])):=aa (by
  rw [b];exact aB Y ((ag.refl (fun g=>g=q) _).setCell (p:=q) (fun _=>rfl) _) (fun g y e=>E (by rw [y,e])))
 have z0:m.cell? q=some (.slice f (bs.length+1) j):=n.out.cell 0;have z1:m.cell? ⟨q,1,none⟩=some (.int .i64 0):=n.out.cell 1;have xP:=n.out.frozen 1;clear b
 (have s:¬(0<(bs.length:Int)):=(by have:=G.out;omega);have h9:¬((bs.length:Int)+1=10):=(by have:=G.out;omega);have i:(c.toNat:Int)<128:=(by have:=o.out;omega))
 go_wp2
 all_goals
  rw [T.out];have W:=S.out
  refine⟨by rw [W,decide_eq_true ⟨rfl,o.out⟩];try rfl,?_,fun _=>⟨.slice f (bs.length+1) j,?_,?_,E⟩⟩
  ·exact U.setCell (p:=⟨q,1,none⟩) (fun _=>K) _
  ·(rw [if_pos o.out];exact n.set_ 1 _)
  ·exact Ow.snoc (aB nW ((ag.refl (fun g=>g=q) _).setCell (p:=⟨q,1,none⟩) (fun _=>rfl) _) (fun g y e=>E (by rw [y,e]))) rfl
theorem BB (c:UInt8) (h:jV w base q bs 0) (K:base<=q) (hk:bs.length<=9) (s:bs.length=0) (j:¬c.toNat<128):
  Calls prog 102 #[q,.int .u8 c.toNat] w (xq base q bs c w):=by
 obtain⟨X,y,z,B,C⟩:=info_parts bD;refine letter fun R S=> ?_;obtain⟨v,d,t,l⟩:=h;have F:=aa d;have G:=aa t;have I:=aa l;have EQ:base<=w:=ma K (Nat.le_of_lt d.lt);obtain⟨A,c0,hv,u,x⟩:=ax t;have HV:=aa hv;have x0:w.cell? q=some v:=d.cell 0;have x1:w.cell? ⟨q,1,none⟩=some (.int .i64 0):=d.cell 1;have M:=d.frozen 0;have N:=d.frozen 1;clear d t l hv u x
 (have Q:Hid (aW bs.length c=0):=aa (by unfold aW;rw [if_neg (by omega),if_neg (by omega)]);have E:=aa s;have o:=aa j;clear s j)
 go_enter func102,ntmps102
 go_upto_region 4 with(at_builtin;go_loud (refine af _ rfl (.tmp 15) (.tmp 17) _ rfl base 5 X _ 1 1 underlying24 y z B C rfl (by omega) v _ (aI bs) rfl (own_below G gV) (From w) (some ⟨w,0,none⟩) 1 1 [.int .u8 c.toNat] rfl (Rd.one w _ _) (by simp [Value.oneCell']) (by simp only [maxLen];omega) (by omega) (by simp;omega) ?_);intro v6 D a r H;have Y:=aa a;have Z:=aa r;have L:=aa H;obtain⟨f,i,rfl,_,_⟩:=ax a;have k:ak D q 204 #[v,.int .i64 0]:=(F.out.alloc _).chg (ag.of_grown r) I;have U:=aa k;have y0:=k.cell 0;have y1:D.cell? ⟨q,1,none⟩=some (.int .i64 0):=k.cell 1;have O:=k.frozen 0;have P:=k.frozen 1;clear a r H k x0 x1 M N)
 clear y0 y1 O P;obtain⟨m,b⟩:=gF (D.setCell ⟨q,0,none⟩ (.slice f (bs.length+1) i));rw [<-b];have n:Hid (ak m q 204 #[.slice f (bs.length+1) i,.int .i64 0]):=aa (by rw [b];exact U.set_ 0 _)
 have T:Hid (ag (From base) w m):=aa (by
  rw [b];exact((((ag.refl _ _).then gV).trans (ag.of_grown Z) (fun g _ e=>(ah G g e).1)).setCell (p:=q) (fun _=>K) _))
 have J:Hid ((Value.slice f (bs.length+1) i).ownBlock≠some q):=aa (fun e=>by
  rcases L.out with h|h
  ·exact I (h▸e)
  ·rw [h] at e;injection e with e;have:=F.out.lt;simp at e;omega)
 have nW:Hid (m.ownsRow base 5 1 (.slice f (bs.length+1) i) (bs.length+1) (aI bs++ [.int .u8 c.toNat])):=aa (by
  rw [b];exact aB Y ((ag.refl (fun g=>g=q) _).setCell (p:=q) (fun _=>rfl) _) (fun g W e=>J (by rw [W,e])))
 have z0:m.cell? q=some (.slice f (bs.length+1) i):=n.out.cell 0;have z1:m.cell? ⟨q,1,none⟩=some (.int .i64 0):=n.out.cell 1;have xP:=n.out.frozen 1;clear b
 (have s:¬(0<(bs.length:Int)):=(by have:=E.out;omega);have h9:¬((bs.length:Int)+1=10):=(by have:=E.out;omega);have j:¬((c.toNat:Int)<128):=(by have:=o.out;omega))
 go_wp2
 all_goals
  rw [S.out];have V:=Q.out
  refine⟨by rw [V,decide_eq_false (fun h=>o.out h.2)];try rfl,?_,fun _=>⟨.slice f (bs.length+1) i,?_,?_,J⟩⟩
  ·exact T
  ·(rw [if_neg o.out];exact n)
  ·exact Ow.snoc (nW) rfl
theorem BC (c:UInt8) (h:jV w base q bs 0) (K:base<=q) (hk:bs.length<=9) (t:bs.length=9) (s:c.toNat=1) (i:c.toNat<128):
  Calls prog 102 #[q,.int .u8 c.toNat] w (xq base q bs c w):=by
 obtain⟨Y,B,C,D,E⟩:=info_parts bD;refine letter fun R U=> ?_;obtain⟨v,d,u,l⟩:=h;have I:=aa d;have J:=aa u;have M:=aa l;have EQ:base<=w:=ma K (Nat.le_of_lt d.lt);obtain⟨A,c0,hv,x,y⟩:=ax u;have HV:=aa hv;have x0:w.cell? q=some v:=d.cell 0;have x1:w.cell? ⟨q,1,none⟩=some (.int .i64 0):=d.cell 1;have O:=d.frozen 0;have P:=d.frozen 1;clear d u l hv x y
 (have T:Hid (aW bs.length c=0):=aa (by unfold aW;rw [if_neg (by omega),if_neg (by omega)]);have H:=aa (And.intro t s);have o:=aa i;clear t s i)
 go_enter func102,ntmps102
 go_upto_region 4 with(at_builtin;go_loud (refine af _ rfl (.tmp 15) (.tmp 17) _ rfl base 5 Y _ 1 1 underlying24 B C D E rfl (by omega) v _ (aI bs) rfl (own_below J gV) (From w) (some ⟨w,0,none⟩) 1 1 [.int .u8 c.toNat] rfl (Rd.one w _ _) (by simp [Value.oneCell']) (by simp only [maxLen];omega) (by omega) (by simp;omega) ?_);intro v6 G a r L;have Z:=aa a;have mE:=aa r;have N:=aa L;obtain⟨f,j,rfl,_,_⟩:=ax a;have k:ak G q 204 #[v,.int .i64 0]:=(I.out.alloc _).chg (ag.of_grown r) M;have W:=aa k;have y0:=k.cell 0;have y1:G.cell? ⟨q,1,none⟩=some (.int .i64 0):=k.cell 1;have Q:=k.frozen 0;have S:=k.frozen 1;clear a r L k x0 x1 O P)
 clear y0 y1 Q S;obtain⟨m,b⟩:=gF (G.setCell ⟨q,0,none⟩ (.slice f (bs.length+1) j));rw [<-b];have n:Hid (ak m q 204 #[.slice f (bs.length+1) j,.int .i64 0]):=aa (by rw [b];exact W.set_ 0 _)
 have V:Hid (ag (From base) w m):=aa (by
  rw [b];exact((((ag.refl _ _).then gV).trans (ag.of_grown mE) (fun g _ e=>(ah J g e).1)).setCell (p:=q) (fun _=>K) _))
 have F:Hid ((Value.slice f (bs.length+1) j).ownBlock≠some q):=aa (fun e=>by
  rcases N.out with h|h
  ·exact M (h▸e)
  ·rw [h] at e;injection e with e;have:=I.out.lt;simp at e;omega)
 have nW:Hid (m.ownsRow base 5 1 (.slice f (bs.length+1) j) (bs.length+1) (aI bs++ [.int .u8 c.toNat])):=aa (by
  rw [b];exact aB Z ((ag.refl (fun g=>g=q) _).setCell (p:=q) (fun _=>rfl) _) (fun g z e=>F (by rw [z,e])))
 have z0:m.cell? q=some (.slice f (bs.length+1) j):=n.out.cell 0;have z1:m.cell? ⟨q,1,none⟩=some (.int .i64 0):=n.out.cell 1;have xP:=n.out.frozen 1;clear b
 (have t:(bs.length:Int)=9:=(by have:=H.out;omega);have s:(c.toNat:Int)=1:=(by have:=H.out;omega);have i:(c.toNat:Int)<128:=(by have:=o.out;omega))
 go_wp2
 all_goals
  rw [U.out];have X:=T.out
  refine⟨by rw [X,decide_eq_true ⟨rfl,o.out⟩];try rfl,?_,fun _=>⟨.slice f (bs.length+1) j,?_,?_,F⟩⟩
  ·exact V.setCell (p:=⟨q,1,none⟩) (fun _=>K) _
  ·(rw [if_pos o.out];exact n.set_ 1 _)
  ·exact Ow.snoc (aB nW ((ag.refl (fun g=>g=q) _).setCell (p:=⟨q,1,none⟩) (fun _=>rfl) _) (fun g z e=>F (by rw [z,e]))) rfl
theorem OJ (c:UInt8) (h:jV w base q bs 0) (K:base<=q) (a:bs.length<=9):Calls prog 102 #[q,.int .u8 c.toNat] w (xq base q bs c w):=by
 rcases Nat.lt_or_ge bs.length 9 with d|d
 ·by_cases b:c.toNat<128
  ·by_cases f:bs.length=0
   ·exact BA c h K a f b
   ·by_cases e:c.toNat=0
    ·exact zU c h K a (by omega) e
    ·exact Il c h K a (by omega) d e b
  ·by_cases f:bs.length=0
   ·exact BB c h K a f b
   ·exact Im c h K a (by omega) d (by omega) b
 ·have d:bs.length=9:=by omega
  by_cases b:1<c.toNat
  ·exact Lc c h K a d b
  ·by_cases e:c.toNat=0
   ·exact zU c h K a (by omega) e
   ·exact BC c h K a d (by omega) (by omega)
theorem Tg (bs:List UInt8) (h:jV w base q bs 1) (m:bs.length<=10) (hv:fF 0 bs=(0,bs.length)):Calls prog 103 #[q] w fun e w'=>e= .returned (.tuple #[.int .u64 (gZ bs),true])/\w=w':=by
 obtain⟨v,b,g,_⟩:=h;obtain⟨A,n,c,rfl,k,l,d,f⟩:=g.sb;have o:w.cell? q=some (.slice A n c):=b.cell 0;have p:w.cell? ⟨q,1,none⟩=some (.int .i64 1):=b.cell 1;have a:=aa (jB c 0 f d (Nat.zero_le _) (by omega))
 have j:ai bs 0=(gZ bs,bs.length,0):=by
  unfold ai;rw [List.drop_zero,hv];simp
 rw [j] at a;clear b g f j d;obtain⟨V,i⟩:=gF (gZ bs);rw [<-i] at a|-;clear i;go_enter func103,ntmps103;go_wp2_with (go_at_call 149;refine a.mono ?_;rintro e w2 ⟨rfl,rfl⟩)
 go_ret2
 exact⟨rfl,rfl⟩
def sH (F:Nat->Prop) (q p:Nat) (c:ay) (w:World) (e:Ending) (w':World):Prop:=
 e= .returned (.tuple #[.int .u64 c.number.1,(c.number.2.1:Int)])/\fV w' F q p c.number.2.2/\ag (Cs q p w) w w'
structure PV (F:Nat->Prop) (q p t K:Nat) (c0:ay) (w0:World) (c:ay) (bs:List UInt8) (w:World):Prop where
 iny:fV w F q p c
 tk:jV w t t bs 0
 k9:bs.length<=9
 scan:∀r,fF 0 (bs++r)=fF bs.length r
 ok:c.Ok K
 eq:c0.numL 0 0=c.numL bs.length (gZ bs)
 chg:ag (Cs q p w0) w0 w
theorem jV.lt {w:World} {b q:Nat} {bs:List UInt8} {st:Int} (h:jV w b q bs st):q<w:=let⟨_,a,_,_⟩:=h;a.lt
theorem jV.chg2 {st:Int} (h:jV w base q bs st) (hc:ag S w w') (f:base<=q) (e:∀g,base<=g->g<w->¬S g):jV w' base q bs st:=
 let⟨v,a,b,c⟩:=h;⟨v,a.chg hc (e q f a.lt),b.chg hc (fun g d=>e g (ah b g d).1 (ah b g d).2),c⟩
theorem Ht (h:fV w F q p c) (b:c.err≠0):
  Calls prog 63 #[q] w (sH F q p c w):=by
 refine letter fun R e=> ?_;obtain⟨er,a⟩:=gF c.err;have j:=aa a;have k:w.cell? ⟨q,3,none⟩=some (.int .i64 er):=(h.blk.cell 3).trans (by rw [a];rfl);have d:=aa h;have g:(er==0)=false:=by rw [mi,a];exact b
 have i:Hid (c.number=(0,er,c)):=aa (by
  have f:c.numL 0 0=(0,er,c):=by rw [ay.numL_eq _ _ _ (by omega),ay.bytes_e 1 b,if_pos b,a]
  unfold ay.number;rw [f,if_neg (by rw [a];exact b)])
 clear h a b;go_enter func63,ntmps63;go_wp2;go_quiet (fail)
 go_wp2;rw [e.out]
 unfold sH;rw [i.out];exact⟨rfl,d.chg ((ag.refl Nil w).drewN _) (fun h=>h) (fun h=>h) (fun _ _ h=>h),(ag.refl _ _).drewN _⟩
theorem KB (s:Sit F q p w) (h:fV w F q p c) (he:c.err=0) (Q:c.Ok K) (hK:K<=1152921504606846976):
  Calls prog 63 #[q] w (sH F q p c w):=by
 refine letter fun R Z=> ?_;obtain⟨E,y⟩:=gF c.at_;have HA:=aa y;have X:w.cell? ⟨q,2,none⟩=some (.int .i64 E):=(h.blk.cell 2).trans (by rw [y];rfl);have z3:w.cell? ⟨q,3,none⟩=some (.int .i64 0):=(h.blk.cell 3).trans (by rw [he];rfl);have HH:=aa h;have HO:=aa Q;have i:=aa s;clear h Q s y he;go_enter func63,ntmps63;go_upto_region 5 with fail
 obtain⟨t,U⟩:=gF w.heap.size;obtain⟨w1,m⟩:=gF (w.alloc (.cells #[.slice none 0 0,.int .i64 0] 204));rw [<-m,<-U];have D:=aa U;have HB:Hid (Below w w w1):=aa (by rw [m];exact gV);have HT:Hid (jV w1 t t [] 0):=aa (by rw [m,U];exact jV.new (_w:=w) (ak.new _ _ _));have X6:Hid (t≠q/\t≠p):=aa (by have l:=i.out.qB;have d:=i.out.pB;omega);clear X z3 U m
 go_loopg [] 10 (fun g' wz=>∃(c':ay) (bs:List UInt8),g'=10-bs.length/\PV F q p t K c w c' bs wz)
 case atStart=>exact⟨c,[],rfl,HH.chg (ag.of_below (S:=Nil) HB) (fun h=>h) (fun h=>h) (fun _ _ h=>h),HT,by simp,fun r=>rfl,HO,rfl,ag.of_below HB⟩
 case round=>
  obtain⟨c',bs,hg,T⟩:=hrel;have HG:=aa hg;have f:=aa T;have xu:Hid (w.heap.size<=wr):=aa T.chg.size;have Dw:Hid (t<wr):=aa T.tk.lt;clear hg T;obtain⟨L,hL⟩:=gF (c'.bytes 1);obtain⟨x,hx⟩:=gF (L.1.headD 0);obtain⟨er,dN⟩:=gF L.2.1;have HL:=aa hL;have HX:=aa hx;have gJ:=aa dN;have rQ:=aa (CS (i.up xu) f.iny f.ok hK)
  have M:Hid (c.numL 0 0=if er≠0 then(0,er,L.2.2)
   else if bs.length=9/\1<x.toNat then(0,12,{L.2.2 with err:=12})
   else if 0<bs.length/\x.toNat=0 then(0,13,{L.2.2 with err:=13})
   else if x.toNat<128 then(gZ bs+x.toNat%128*128^bs.length,0,L.2.2)
   else L.2.2.numL (bs.length+1) (gZ bs+x.toNat%128*128^bs.length)):=aa (by rw [f.out.eq,ay.numL_eq _ _ _ (by have:=f.out.k9;omega),dN,hx,hL])
  have o9:Hid (L.2.2.Ok K):=aa (by rw [hL];exact ay.bytes_ok f.ok 1);clear hL hx dN;go_upto_region 6 with(go_at_call 62;go_loud (refine rQ.mono ?_);rintro e w2 ⟨rfl,hI,hC⟩;rw [<-HL.out] at hI|-;rw [<-HX.out,<-gJ.out];have A:=aa hI;have HC:=aa hC;clear hI hC)
  have bz:Hid (ag (Cs q p w) w w2):=aa (f.chg.trans (HC.mono (fun b _ e=>by rcases e with e|e|e;exact .inl e;exact .inr (.inl e);exact .inr (.inr (ma xu e)))) (fun _ _ h=>h));have ab:Hid (jV w2 t t bs 0):=aa (f.tk.chg2 HC jO (fun g hg hl e=>by have l:=X6.out;have d:=D.out;have P:=i.out.qB;have h4:=i.out.pB;rcases e with e|e|e<;>omega));have X:w2.cell? ⟨q,2,none⟩=some (.int .i64 L.2.2.at_):=A.out.blk.cell 2;have BU:=A.out.blk.frozen 2
  by_cases h0:er=0
  ·subst h0;have PE:=aa (OJ x ab jO f.k9);obtain⟨v,J⟩:=gF (aW bs.length x);obtain⟨tb,I⟩:=gF (decide (aW bs.length x=0/\x.toNat<128));have Jz:=aa J;have Y:=aa I;clear J I X BU;go_upto_region 10 with(go_at_call 102;go_loud (refine PE.mono ?_);rintro e o ⟨rfl,Vk,G⟩;rw [<-Y.out,<-Jz.out];have fu:=aa Vk;have C:=aa G;clear Vk G)
   have a:Hid (fV o F q p L.2.2):=aa (A.chg fu (fun e=>by have l:=i.out.qB;have d:=D.out;have e:t<=q:=e;omega) (fun e=>by have l:=i.out.pB;have d:=D.out;have e:t<=p:=e;omega) (fun b H e=>by have l:=i.out.lt b H;have d:=D.out;have e:t<=b:=e;omega));have tJ:Hid (ag (Cs q p w) w o):=aa (bz.out.trans (fu.mono (fun b _ e=>by have e:t<=b:=e;have:=D.out;exact .inr (.inr (by omega)))) (fun _ _ h=>h))
   by_cases l:v=0
   ·have O:Hid (aW bs.length x=0):=aa (by rw [<-Jz.out];exact l)
    have n:Hid (¬(bs.length=9/\1<x.toNat)/\¬(0<bs.length/\x.toNat=0)):=aa (by
     have:=O.out;unfold aW at this
     split at this
     ·exact absurd this (by decide)
     ·rename_i V
      split at this
      ·exact absurd this (by decide)
      ·rename_i W;exact⟨V,W⟩)
    subst l
    by_cases d:x.toNat<128
    ·have P:tb=true:=by rw [Y.out,decide_eq_true_iff];exact⟨O,d⟩
     subst P;have X7:Hid (jV o t t (bs++ [x]) 1):=aa (by have:=C.out O;rwa [if_pos d] at this);have N:=aa d
     have ac:Hid (fF 0 (bs++ [x])=(0,(bs++ [x]).length)):=aa (by
      rw [f.out.scan,mq,List.length_singleton];unfold fF;rw [if_neg n.out.1,if_neg n.out.2,if_pos d])
     have Uh:=aa (Tg (bs++ [x]) X7 (by have:=f.out.k9;rw [mq,List.length_singleton];omega) ac);obtain⟨vv,z⟩:=gF (gZ (bs++ [x]));rw [<-z] at Uh;have ad:Hid (vv=gZ bs+x.toNat%128*128^bs.length):=aa (by rw [z,qH]);clear d z;go_wp2_with (go_at_call 103;go_loud (refine Uh.mono ?_);rintro e w4 ⟨rfl,rfl⟩);rw [Z.out];unfold sH;have hn:=M.out;rw [if_neg (fun h=>h rfl),if_neg n.out.1,if_neg n.out.2,if_pos N.out,<-ad.out] at hn;have k:c.number=(vv,0,L.2.2):=by unfold ay.number;rw [hn,if_pos rfl]
     rw [k]
     exact⟨rfl,a,tJ⟩
    ·have P:tb=false:=by rw [Y.out,decide_eq_false_iff_not];exact fun h=>d h.2
     subst P;have X7:Hid (jV o t t (bs++ [x]) 0):=aa (by have:=C.out O;rwa [if_neg d] at this);have B:Hid (bs.length+1<=9):=aa (by have:=f.out.k9;have:=n.out;omega);have N:=aa d;clear d;go_wp2
     go_roundg (10-(bs.length+1))
     case measure=>have:=HG.out;have:=B.out;omega
     case rel=>
      refine⟨L.2.2,bs++ [x],by simp,a,X7,by rw [mq,List.length_singleton];exact B,fun r=> ?_,o9,?_,tJ⟩
      ·rw [List.append_assoc,f.out.scan,mq,List.length_singleton,List.singleton_append];conv=>lhs;unfold fF
       rw [if_neg n.out.1,if_neg n.out.2,if_neg N.out]
      ·rw [M.out,if_neg (fun h=>h rfl),if_neg n.out.1,if_neg n.out.2,if_neg N.out,qH,mq,List.length_singleton]
   ·have LW:=aa l;have al:(v==0)=false:=by rw [mi];exact l
    have X:o.cell? ⟨q,2,none⟩=some (.int .i64 L.2.2.at_):=a.out.blk.cell 2;have BU:=a.out.blk.frozen 2;have z3:o.cell? ⟨q,3,none⟩=some (.int .i64 L.2.2.err):=a.out.blk.cell 3;have UC:=a.out.blk.frozen 3;go_wp2;rw [Z.out];unfold sH
    have hn:c.numL 0 0=(0,v,{L.2.2 with err:=v}):=by
     rw [M.out,if_neg (fun h=>h rfl)];have u:=Jz.out;unfold aW at u
     by_cases V:bs.length=9/\1<x.toNat
     ·rw [if_pos V] at u|-;rw [u]
     ·rw [if_neg V] at u|-
      by_cases W:0<bs.length/\x.toNat=0
      ·rw [if_pos W] at u|-;rw [u]
      ·rw [if_neg W] at u;exact absurd u LW
    have k:c.number=(0,v,{L.2.2 with err:=v,at_:=c.at_}):=by unfold ay.number;rw [hn,if_neg LW.out]
    rw [k];have j:ag (fun b=>b=q) o ((o.setCell ⟨q,2,none⟩ (E:Int)).setCell ⟨q,3,none⟩ (v:Int)):=((ag.refl (fun b=>b=q) o).setCell (p:=⟨q,2,none⟩) (fun _=>rfl) _).setCell (p:=⟨q,3,none⟩) (fun _=>rfl) _;refine⟨rfl,⟨?_,a.src.chg j (fun e=>i.ne e.symm) (fun b H e=>i.nFq (e▸H)),a.hl⟩,tJ.out.trans (j.mono (fun b _ e=> .inl e)) (fun _ _ h=>h)⟩;have:=(a.out.blk.set_ 2 (E:Int)).set_ 3 (v:Int);rw [HA.out] at this|-
    exact this
  ·have H0:=aa h0;have ae:(er==0)=false:=by rw [mi];exact h0
   go_wp2;rw [Z.out]
   unfold sH;have k:c.number=(0,er,{L.2.2 with at_:=c.at_}):=by unfold ay.number;rw [M.out,if_pos H0.out,if_neg H0.out]
   rw [k];have j:ag (fun b=>b=q) w2 (w2.setCell ⟨q,2,none⟩ (E:Int)):=(ag.refl (fun b=>b=q) w2).setCell (p:=⟨q,2,none⟩) (fun _=>rfl) _;refine⟨rfl,⟨?_,A.src.chg j (fun e=>i.ne e.symm) (fun b H e=>i.nFq (e▸H)),A.hl⟩,bz.out.trans (j.mono (fun b _ e=> .inl e)) (fun _ _ h=>h)⟩;have:=A.out.blk.set_ 2 (E:Int);rw [HA.out] at this|-;exact this
theorem Hu (s:Sit F q p w) (h:fV w F q p c) (Q:c.Ok K) (b:K<=1152921504606846976):
  Calls prog 63 #[q] w (sH F q p c w):=by
 by_cases a:c.err=0
 ·exact KB s h a Q b
 ·exact Ht h a
def zH (F:Nat->Prop) (q p:Nat) (c:ay) (w:World) (e:Ending) (w':World):Prop:=
 e= .returned (.tuple #[c.end_.1,(c.end_.2.1:Int)])/\eP w' F p c.end_.2.2.src/\ag (Cs q p w) w w'
theorem Ti (s:Sit F q p w) (h:fV w F q p c) (Q:c.Ok K) (Y:K<=1152921504606846976):
  Calls prog 110 #[q] w (zH F q p c w):=by
 refine letter fun R m=> ?_;obtain⟨er,o⟩:=gF c.err;have z:=aa o;have G:w.cell? ⟨q,3,none⟩=some (.int .i64 er):=(h.blk.cell 3).trans (by rw [o];rfl);have H:w.cell? ⟨q,4,none⟩=some (.slice none 0 0):=h.blk.cell 4;have J:=aa h;have HO:=aa Q;have n:=aa s;have O:=aa h.hl
 by_cases r:er=0
 ·have l:Hid (c.err=0):=aa (by rw [<-z.out];exact r);obtain⟨L,hL⟩:=gF (c.loop [] 1);have M:=aa hL;have N:=aa (CQ 1 s h (Q.fine l) Y (by omega) (by omega) Q.gives)
  have t:Hid (c.end_=if L.2.1=0 then(false,0,{L.2.2 with held:=L.1.head?}) else if L.2.1=41 then(true,0,L.2.2) else(false,L.2.1,{L.2.2 with err:=L.2.1})):=aa (by
   unfold ay.end_;rw [if_neg (fun h=>by rcases h with h|h;exact h l.out;rw [O.out] at h;cases h),hL])
  clear h Q s o hL;subst r;go_enter func110,ntmps110;go_upto_region 6 with(go_at_call 101;go_loud (refine N.mono ?_);rintro e w2 ⟨v,rfl,g,f,k⟩;rw [<-M.out] at g f|-;have E:=aa g;have a:=aa f;have y:=aa k;clear g f k)
  obtain⟨j,i⟩:=gF L.2.1;rw [<-i] at E t|-;have I:=aa i;clear i G H
  by_cases B:j=0
  ·subst B;obtain⟨A,Z,cc,rfl,U,V,W,X⟩:=(E.out rfl).sb;have H:w2.cell? ⟨q,4,none⟩=some (.slice none 0 0):=a.out.blk.cell 4;have Ni:=a.out.blk.frozen 4;clear U V W X;go_wp2;rw [m.out];unfold zH;rw [t.out,if_pos trivial];have d:ag (fun b=>b=q) w2 (w2.setCell ⟨q,4,none⟩ (.slice A Z cc)):=(ag.refl (fun b=>b=q) w2).setCell (p:=⟨q,4,none⟩) (fun _=>rfl) _
   exact⟨rfl,a.src.chg d (fun e=>n.ne e.symm) (fun b C e=>n.nFq (e▸C)),y.out.trans (d.mono (fun b _ e=> .inl e)) (fun _ _ h=>h)⟩
  ·have D:=aa B
   by_cases x:j=41
   ·subst x;go_wp2;rw [m.out];unfold zH;rw [t.out,if_neg D.out,if_pos trivial]
    exact⟨rfl,a.src,y⟩
   ·have u:=aa x;have T:(j==0)=false:=by rw [mi];exact B
    have P:(j==41)=false:=by rw [mi];exact x
    have G:w2.cell? ⟨q,3,none⟩=some (.int .i64 L.2.2.err):=a.out.blk.cell 3;have UC:=a.out.blk.frozen 3;go_wp2;rw [m.out];unfold zH;rw [t.out,if_neg D.out,if_neg u.out];have d:=(ag.refl (fun b=>b=q) w2).setCell (p:=⟨q,3,none⟩) (fun _=>rfl) (j:Int)
    exact⟨rfl,a.src.chg d (fun e=>n.ne e.symm) (fun b C e=>n.nFq (e▸C)),y.out.trans (d.mono (fun b _ e=> .inl e)) (fun _ _ h=>h)⟩
 ·have l:Hid (c.err≠0):=aa (by rw [<-z.out];exact r);have S:(er==0)=false:=by rw [mi];exact r
  clear h Q s o;go_enter func110,ntmps110;go_wp2;go_quiet (fail)
  go_wp2;rw [m.out]
  unfold zH;have hn:c.end_=(false,er,c):=by unfold ay.end_;rw [if_pos (.inl l.out),z.out]
  rw [hn];have hc:ag Nil w (w.drewN nq):=(ag.refl Nil w).drewN _;exact⟨rfl,J.src.chg hc (fun h=>h) (fun _ _ h=>h),hc.mono (fun _ _ h=>h.elim)⟩
end Go.Proofs.YtepgcjbhabnciaaGreat
