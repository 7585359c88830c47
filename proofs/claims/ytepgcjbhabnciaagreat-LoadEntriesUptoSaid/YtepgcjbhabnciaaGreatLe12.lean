/- Part 12. -/
import Derived.Test.YtepgcjbhabnciaaGreatLe11
namespace Go.Proofs.YtepgcjbhabnciaaGreat
set_option maxRecDepth 100000
set_option maxHeartbeats 8000000
open Go.Proofs.Tryz Go.RowKit
variable {g p r:Nat} {w w':World} {t:TypeId}
theorem Mg:(prog.info? 232).map (fun i=>(i.zero,i.size,i.bytes))=some (some (.pointer none),1,8):=by kernel_rfl
theorem ky {v0 Y v2:Value} (h:aj w g t #[v0,Y,v2]):
  w.cell? ⟨g,0,none⟩=some v0/\w.cell? ⟨g,1,none⟩=some Y/\w.cell? ⟨g,2,none⟩=some v2/\(∀o,w.frozen? ⟨g,o,none⟩=false):=
 ⟨by rw [h.cell];rfl,by rw [h.cell];rfl,by rw [h.cell];rfl,h.frozen⟩
theorem PO {cs:Array Value} {v:Value} (h:aj w p t cs) (a:w.grownBy w' v.ownBlock) (c:v.ownBlock≠some p):aj w' p t cs:=
 h.chg ((ag.refl (fun b=>v.ownBlock=some b) w).grown a (fun b _ _=>by assumption)) c
def Uh (w:World) (F:Nat->Prop) (p:Nat) (nodes root:Int) (sl:List bR) (e:Ending) (w':World):Prop:=
 e= .returned (.tuple #[.int .i64 ((sl.length:Int)+1),.int .i64 0])/\gM w' (fun b=>F b\/w.heap.size<=b) p nodes (sl++ [(1,Nd.zero)]) root/\ag F w w'
theorem Mh (F:Nat->Prop) (p:Nat) (nodes root:Int) (sl:List bR) (w:World) (h:gM w F p nodes sl root) (C:(sl.length:Int)<nodes) (T:nodes<=65536):
  Calls prog 179 #[.pointer (some ⟨p,0,none⟩)] w (Uh w F p nodes root sl):=by
 obtain⟨G,o,I,J,K⟩:=info_parts Mg;obtain⟨A,n,c,bs,f⟩:=h;have t:n=sl.length:=f.len;have B:=aa t;have S:((n:Int)==nodes)=false:=by rw [beq_eq_false_iff_ne];omega
 have D:n<=65536:=by omega
 obtain⟨c0,c1,N,O⟩:=f.cells;have s:=aa f;have E:=f.blk.lt;clear t C f;go_enter func179,ntmps179
 go_wp2;go_quiet (fail)
 rename_i nq;have j:aj ((w.drewN nq).alloc (.cells (sP 0) 236)) w.heap.size 236 (sP 0):=aj.new (w.drewN nq) _ _;go_wp2_with fail
 refine(zP _ _ (.int .u64 0) _ _ (j.cell 0) (j.frozen 0)).mono ?_;rintro e w1 ⟨rfl,d⟩;have k1:aj w1 w.heap.size 236 (sP 1):=by rw [<-d];exact j.set_ 0 _
 have b:Below w.heap.size w w1:=by rw [<-d];exact((below_drewN (Below.refl _ _) nq).alloc (Nat.le_refl _) _).setCell (p:=⟨w.heap.size,0,none⟩) (Nat.le_refl _) _
 clear d j;have i:=s.out.below b;obtain⟨d0,P,Q,R⟩:=i.cells;have l:=aa i.row;have y:=aa i;clear i;go_wp2_with (at_builtin;go_loud (refine af _ rfl (.tmp 25) (.tmp 27) _ rfl 0 232 G _ 1 8 underlying171 o I J K rfl (by omega) (.slice A n c) n (bs.map ptr) rfl (l.alloc _) (From w1.heap.size) (some ⟨w1.heap.size,0,none⟩) 1 1 [ptr w.heap.size] rfl (Rd.one w1 _ _) (by intro u v;simp at v;subst v;rfl) (by simp only [maxLen];omega) (by omega) (by simp) ?_);intro v2 w2 a g x;obtain⟨z,m,r,Y,Z⟩:=au a;subst r;have q:=PO (y.blk.alloc (.cells #[.pointer (some ⟨w.heap.size,0,none⟩)] 232)) g y.row_p;obtain⟨U,V,W,X⟩:=ky q;have H:=aa a;have k:=aa x;clear a x)
 go_ret2
 obtain⟨L,M⟩:=s.out.push rfl (b.alloc b.size _) (k1.alloc (.cells #[.pointer (some ⟨w.heap.size,0,none⟩)] 232)) H g k rfl;exact⟨by rw [B.out];rfl,⟨z,n+1,m,_,L⟩,M⟩
theorem Mi (F:Nat->Prop) (p:Nat) (nodes root:Int) (sl:List bR) (id:Int) (s:bR) (w:World) (h:gM w F p nodes sl root) (i:1<=id) (u:id<=sl.length) (hn:sl.length<=65536) (x:sl[id.toNat-1]? =some s) (q:0<=s.1) (Q:s.1<=4611686018427387904)
  (v:s.1%2=0):
  Calls prog 178 #[.pointer (some ⟨p,0,none⟩),.int .i64 id,.int .u64 s.1] w fun e w'=>e= .returned (.tuple #[.bool true,.int .i64 0])/\gM w' F p nodes (sl.set (id.toNat-1) (s.1+1,s.2)) root/\ag F w w':=by
 obtain⟨A,n,c,bs,j⟩:=h;have C:n=sl.length:=j.len;obtain⟨g,Y,l,a,d,y⟩:=j.slot_at i (by omega);rw [x] at a;injection a with a
 subst a;have B:=aa y;have z:=aa d;have m:g∈bs:=List.mem_of_getElem? l;obtain⟨P,H,t,R,T,S,Z,vn,vc,M,O,N,k,U,V,W,X⟩:=y;obtain⟨I,z1,z2,z3,z4,z5,z6,J⟩:=zO k;have K:w.frozen? ⟨g,0,none⟩=false:=J 0;have D:id<=n:=by omega
 have E:n<=65536:=by omega
 have o:=aa l;have L:=aa k;have r:bits BinOp.and IntKind.u64 s.1 1=s.1%2:=and_one_u64 s.1 q (by omega);have G:(s.1%2==0)=true:=by rw [beq_iff_eq];exact v
 clear l x u hn C k v d;go_enter func178,ntmps178
 go_wp2_with (first|(go_at_call 131;refine(yM F p nodes root sl A n c bs id _ j i D E g o).mono ?_;rintro e w' ⟨rfl,rfl⟩)|(go_at_call 196;refine(EL _ _ _ _ _ I K).mono ?_;rintro e w' ⟨rfl,rfl⟩))
 go_ret2
 have f:=ag.set1 w g 0 (.int .u64 (s.1+1));exact⟨rfl,⟨A,n,c,bs,j.upd o f (fun _ h=>h) (B.setWord (fun t=>t.2 (.inr (.inr m))) _)⟩,f.mono (fun b _ e=>(show b=g from e)▸z.out)⟩
theorem uK (F:Nat->Prop) (p:Nat) (nodes root:Int) (sl:List bR) (A:Option Addr) (n c:Nat) (bs:List Nat) (id:Int) (s:bR) (w:World) (b:lL w F p nodes sl root A n c bs) (i:1<=id) (k:id<=n) (l:n<=65536) (g:Nat) (a:bs[id.toNat-1]? =some g) (h:sl[id.toNat-1]? =some s) (q:0<=s.1) (z:s.1<=4611686018427387904)
  (K:s.1%2=1):
  Calls prog 198 #[.pointer (some ⟨p,0,none⟩),.int .i64 id] w fun e w'=>e= .returned (.tuple #[.pointer (some ⟨g,0,none⟩),.int .i64 0])/\w=w':=by
 obtain⟨x,o,y,B,D,C,J,M,L,t,v,u,f,E,G,H,I⟩:=b.slot _ g s a h;obtain⟨r,N,O,P,Q,R,S,T⟩:=zO f;have j:=aa a;have d:bits BinOp.and IntKind.u64 s.1 1=s.1%2:=and_one_u64 s.1 q (by omega);have m:(s.1%2==0)=false:=by rw [beq_eq_false_iff_ne];omega
 clear a h f K;go_enter func198,ntmps198
 go_wp2_with (first|(go_at_call 131;refine(yM F p nodes root sl A n c bs id _ b i k l g j).mono ?_;rintro e w' ⟨rfl,rfl⟩)|(go_at_call 121;refine(sO _ _ _ _ r).mono ?_;rintro e w' ⟨rfl,rfl⟩))
 go_ret2
 exact⟨rfl,rfl⟩
theorem j5 (F:Nat->Prop) (p:Nat) (nodes root:Int) (sl:List bR) (id:Int) (s:bR) (w:World) (h:gM w F p nodes sl root) (i:1<=id) (u:id<=sl.length) (hn:sl.length<=65536) (r:sl[id.toNat-1]? =some s) (q:0<=s.1) (I:s.1<=4611686018427387904)
  (K:s.1%2=1):
  Calls prog 182 #[.pointer (some ⟨p,0,none⟩),.int .i64 id,.bool true] w fun e w'=>e= .returned (.int .i64 0)/\gM w' F p nodes (sl.set (id.toNat-1) (s.1+1,s.2)) root/\ag F w w':=by
 have B:=aa r;obtain⟨A,n,c,bs,k⟩:=h;have E:n=sl.length:=k.len;obtain⟨g,s',m,a,d,x⟩:=k.slot_at i (by omega);rw [r] at a;injection a with a
 subst a;have D:=aa x;have z:=aa d;have o:g∈bs:=List.mem_of_getElem? m;obtain⟨S,J,v,T,V,U,vA,vn,vc,P,R,Q,l,W,X,Y,Z⟩:=x;obtain⟨L,z1,z2,z3,z4,z5,z6,M⟩:=zO l;have N:w.frozen? ⟨g,0,none⟩=false:=M 0;have G:id<=n:=by omega
 have H:n<=65536:=by omega
 have t:=aa m;have O:=aa l;have f:bits BinOp.and IntKind.u64 s.1 1=s.1%2:=and_one_u64 s.1 q (by omega);have C:Hid (IntKind.u64.wrap (s.1+1)=s.1+1):=aa (IntWalk.u64_in _ (by omega));have y:=aa K;clear m r u hn E l K d f;go_enter func182,ntmps182
 go_wp2_with (first|(go_at_call 198;refine(uK F p nodes root sl A n c bs id s _ k i G H g t B q I y).mono ?_;rintro e w' ⟨rfl,rfl⟩)|(go_at_call 199;refine(EM _ _ _ _ _ L N).mono ?_;rintro e w' ⟨rfl,rfl⟩;rw [C.out]))
 go_ret
 have j:=ag.set1 w g 0 (.int .u64 (s.1+1));exact⟨rfl,⟨A,n,c,bs,k.upd t j (fun _ h=>h) (D.setWord (fun v=>v.2 (.inr (.inr o))) _)⟩,j.mono (fun b _ e=>(show b=g from e)▸z.out)⟩
theorem lM (F:Nat->Prop) (p:Nat) (nodes root:Int) (sl:List bR) (id:Int) (s:bR) (w:World) (h:gM w F p nodes sl root) (i:1<=id) (u:id<=sl.length) (hn:sl.length<=65536) (H:sl[id.toNat-1]? =some s) (q:0<=s.1) (hm:s.1<=4611686018427387904)
  (K:s.1%2=1) (G:Nat->Prop) (B:Option Addr) (m d:Nat) (lev right:Int) (high:List UInt8) (N:Bt w G B m d high) (x:high.length<=1152921504606):
  Calls prog 180 #[.pointer (some ⟨p,0,none⟩),.int .i64 id,.agg #[.int .i64 lev,.slice B m d,.int .i64 right]] w fun e w'=>
   e= .returned (.int .i64 0)/\gM w' (fun b=>F b\/w.heap.size<=b) p nodes (sl.set (id.toNat-1) (s.1,⟨lev,high,right,s.2.keys,s.2.vals,s.2.kids⟩)) root/\ag F w w':=by
 have HS:=aa H;obtain⟨A,n,c,bs,k⟩:=h;have e1:n=sl.length:=k.len;obtain⟨g,s',D,j,l,P⟩:=k.slot_at i (by omega);rw [H] at j;injection j with j
 subst j;have HX:=aa P;have HF:=aa l;have v:g∈bs:=List.mem_of_getElem? D;obtain⟨hA,ac,O,kA,kn,kc,vA,vn,vc,dA,dn,dc,a,q1,q2,q3,q4⟩:=P;obtain⟨R,T,U,V,W,X,Y,J⟩:=zO a;have zf:w.frozen? ⟨g,0,none⟩=false:=J 0;have h3:id<=n:=by omega
 have h4:n<=65536:=by omega
 have M:=aa D;have HB:=aa a;have r:bits BinOp.and IntKind.u64 s.1 1=s.1%2:=and_one_u64 s.1 q (by omega);have y:Below w.heap.size w (w.alloc (.cells #[.int .i64 lev,.slice B m d,.int .i64 right] 127)):=(Below.refl _ _).alloc (Nat.le_refl _) _;have Z:=k.below y;have oG:=aa (N.below y);have pR:=aa x;have HE:=aa K;have Ug:=Ch;have HY:=aa k;have ab:=k.lt_bs v;clear D H u hn e1 a K l r N x k R T U V W X Y J zf;go_enter func180,ntmps180
 go_wp2_with (first|(go_at_call 198;refine(uK F p nodes root sl A n c bs id s _ Z i h3 h4 g M HS q hm HE).mono ?_;rintro e w' ⟨rfl,rfl⟩))
 refine(uL ⟨lev,high,right,[],[],[]⟩ G B none none none m d 0 0 0 0 0 0 _ oG (Tx.nil _ _) (Tx.nil _ _) (It.nil _ _) ⟨pR,by simp,by simp,by simp,by simp,by simp⟩).mono ?_;rintro e w1 ⟨L,Q,c1,A2,n2,c2,A3,n3,c3,A4,n4,c4,rfl,r1,r2,r3,r4,z⟩;have f:Below w.heap.size w w1:=y.trans (z.mono y.size);obtain⟨R,T,U,V,W,X,Y,J⟩:=zO (HB.below f);go_wp2;go_ret
 have t:=Co w1 g 1 2 3 (.int .i64 lev) (.slice L Q c1) (.int .i64 right);have I:eZ w1 (fun b=>(F b\/w.heap.size<=b)/\¬Ma p (.slice A n c) bs b) g s:=(HX.out.chg (ag.of_below (S:=Nil) f) (fun C=>C) (fun _ _ C=>C)).weak (fun b a=>⟨.inl a.1,a.2⟩);have o:=HY.out;have E:Bt w1 (fun b=>(F b\/w.heap.size<=b)/\¬Ma p (.slice A n c) bs b) L Q c1 high:=r1.weak (fun b a=>⟨.inr (by simp only [From,World.size_alloc] at a;omega),o.mut_lt (by simp only [From,World.size_alloc] at a;omega)⟩);refine⟨rfl,⟨A,n,c,bs,(o.below f).upd M t (fun b a=> .inl a) (I.setHead (fun O=>O.2 (.inr (.inr v))) E)⟩,?_⟩;exact(ag.of_below (S:=F) f).trans t (fun b _ e=>(show b=g from e)▸HF.out)
theorem lN (F:Nat->Prop) (p:Nat) (nodes root:Int) (sl:List bR) (id:Int) (s:bR) (w:World) (h:gM w F p nodes sl root) (i:1<=id) (u:id<=sl.length) (hn:sl.length<=65536) (M:sl[id.toNat-1]? =some s) (q:0<=s.1) (hm:s.1<=4611686018427387904)
  (K:s.1%2=1) (G:Nat->Prop) (l m o:Option Addr) (D r E t H v:Nat) (keys vals:List (List UInt8)) (kids:List Int) (Q:Tx w G l D r keys) (R:Tx w G m E t vals) (P:It w G o H v kids) (C:Small ⟨0,[],0,keys,vals,kids⟩):
  Calls prog 181 #[.pointer (some ⟨p,0,none⟩),.int .i64 id,.agg #[.slice l D r,.slice m E t,.slice o H v]] w fun e w'=>
   e= .returned (.int .i64 0)/\gM w' (fun b=>F b\/w.heap.size<=b) p nodes (sl.set (id.toNat-1) (s.1,⟨s.2.lev,s.2.high,s.2.right,keys,vals,kids⟩)) root/\ag F w w':=by
 have HS:=aa M;obtain⟨A,n,c,bs,k⟩:=h;have e1:n=sl.length:=k.len;obtain⟨g,s',L,f,x,U⟩:=k.slot_at i (by omega);rw [M] at f;injection f with f
 subst f;have HX:=aa U;have HF:=aa x;have B:g∈bs:=List.mem_of_getElem? L;obtain⟨hA,ac,T,kA,kn,kc,vA,vn,vc,dA,dn,dc,a,q1,q2,q3,q4⟩:=U;have h3:id<=n:=by omega
 have h4:n<=65536:=by omega
 have O:=aa L;have Z:=aa a;have j:Below w.heap.size w (w.alloc (.cells #[.slice l D r,.slice m E t,.slice o H v] 130)):=(Below.refl _ _).alloc (Nat.le_refl _) _;have Y:=k.below j;have HK:=aa (Q.below j);have HV:=aa (R.below j);have HI:=aa (P.below j);have pR:=aa C;have HE:=aa K;have Ug:=Ci;have HY:=aa k;have ab:=k.lt_bs B;clear L M u hn e1 a K x Q R P C k;go_enter func181,ntmps181
 go_wp2_with (first|(go_at_call 198;refine(uK F p nodes root sl A n c bs id s _ Y i h3 h4 g O HS q hm HE).mono ?_;rintro e w' ⟨rfl,rfl⟩))
 refine(uL ⟨0,[],0,keys,vals,kids⟩ G none l m o 0 0 D r E t H v _ (Bt.nil _ _) HK HV HI pR).mono ?_;rintro e w1 ⟨A1,n1,c1,V,n2,c2,W,n3,c3,X,n4,c4,rfl,r1,r2,r3,r4,I⟩;have d:Below w.heap.size w w1:=j.trans (I.mono j.size);obtain⟨z0,z1,z2,z3,z4,z5,z6,z7⟩:=zO (Z.below d);go_wp2;go_ret
 have z:=Co w1 g 4 5 6 (.slice V n2 c2) (.slice W n3 c3) (.slice X n4 c4);have N:eZ w1 (fun b=>(F b\/w.heap.size<=b)/\¬Ma p (.slice A n c) bs b) g s:=(HX.out.chg (ag.of_below (S:=Nil) d) (fun J=>J) (fun _ _ J=>J)).weak (fun b a=>⟨.inl a.1,a.2⟩);have y:=HY.out;have up:∀b,From (w.alloc (.cells #[.slice l D r,.slice m E t,.slice o H v] 130)).heap.size b->((F b\/w.heap.size<=b)/\¬Ma p (.slice A n c) bs b):=fun b a=>⟨.inr (by simp only [From,World.size_alloc] at a;omega),y.mut_lt (by simp only [From,World.size_alloc] at a;omega)⟩;refine⟨rfl,⟨A,n,c,bs,(y.below d).upd O z (fun b a=> .inl a) (N.setBody (fun T=>T.2 (.inr (.inr B))) (r2.weak up) (r3.weak up) (r4.weak up))⟩,?_⟩;exact(ag.of_below (S:=F) d).trans z (fun b _ e=>(show b=g from e)▸HF.out)
theorem Mj (F:Nat->Prop) (p:Nat) (nodes root:Int) (sl:List bR) (id:Int) (w:World) (h:gM w F p nodes sl root) (i:1<=id) (u:id<=sl.length) (q:sl.length<=65536) (_y: -9223372036854775808<=root/\root<=9223372036854775807):
  Calls prog 96 #[.pointer (some ⟨p,0,none⟩),.int .i64 root,.int .i64 id] w fun e w'=>e= .returned (.tuple #[.bool true,.int .i64 0])/\gM w' F p nodes sl id/\ag F w w':=by
 obtain⟨A,n,c,bs,a⟩:=h;have r:n=sl.length:=a.len;obtain⟨g,z,k,j,f,v⟩:=a.slot_at i (by omega);obtain⟨c0,c1,m,o⟩:=a.cells;have x:w.frozen? ⟨p,2,none⟩=false:=o 2;have s:id<=n:=by omega
 have t:n<=65536:=by omega
 have l:=aa k;have d:=aa a;clear k j u q r v f;go_enter func96,ntmps96
 go_wp2_with (first|(go_at_call 131;refine(yM F p nodes root sl A n c bs id _ d i s t g l).mono ?_;rintro e w' ⟨rfl,rfl⟩)|(go_at_call 147;refine(EN _ _ _ _ _ m x).mono ?_;rintro e w' ⟨rfl,rfl⟩))
 go_ret2
 exact⟨rfl,⟨A,n,c,bs,d.setRoot id⟩,(ag.set1 w p 2 _).mono (fun b _ e=>(show b=p from e)▸d.out.fp)⟩
def Mk (w:World) (nodes:Int) (e:Ending) (w':World):Prop:=
 ∃p,e= .returned (.tuple #[.pointer (some ⟨p,0,none⟩),.int .i64 0])/\gM w' (From w.heap.size) p nodes [(0,Nd.zero)] 1/\Below w.heap.size w w'
theorem EO (w:World) (a c d:TypeId) (c0 c1 b:Array Value):
  aj (((w.alloc (.cells c0 a)).alloc (.cells c1 c)).alloc (.cells b d)) w.heap.size a c0/\aj (((w.alloc (.cells c0 a)).alloc (.cells c1 c)).alloc (.cells b d)) (w.heap.size+1) c c1/\
  aj (((w.alloc (.cells c0 a)).alloc (.cells c1 c)).alloc (.cells b d)) (w.heap.size+1+1) d b/\Below w.heap.size w (((w.alloc (.cells c0 a)).alloc (.cells c1 c)).alloc (.cells b d)):=by
 refine⟨((aj.new w a c0).alloc _).alloc _,?_,?_,(((Below.refl _ _).alloc (Nat.le_refl _) _).alloc (by simp) _).alloc (by simp;omega) _⟩
 ·have:=(aj.new (w.alloc (.cells c0 a)) c c1).alloc (.cells b d)
  simpa using this
 ·have:=aj.new ((w.alloc (.cells c0 a)).alloc (.cells c1 c)) d b;simpa using this
theorem PP {_w w1:World} {nodes:Int} {F:Nat->Prop} (m:aj w1 g 236 (sP 0)) (k1:aj w1 r 232 #[ptr g]) (k2:aj w1 p 178 #[.int .i64 nodes,.slice (some ⟨r,0,none⟩) 1 1,.int .i64 0]) (h:F g) (j:F r) (k:F p):
  lL w1 F p nodes [(0,Nd.zero)] 0 (some ⟨r,0,none⟩) 1 1 [g]:=by
 refine⟨rfl,rfl,k2,⟨rfl,.inr ⟨r,1,#[ptr g],rfl,Nat.zero_le _,k1,Nat.le_refl _,by simp [maxLen],rfl,rfl⟩⟩,k,fun b a=> ?_,fun b a=> ?_,by simp,fun i f s c l=> ?_⟩
 ·have a:r=b:=by simpa [Value.ownBlock] using a
  exact a▸j
 ·have a:b=g:=by simpa using a
  exact a▸h
 ·match i with
  |0=>
   have d:f=g:=by simpa using c.symm
   have e:s=(0,Nd.zero):=by simpa using l.symm
   subst d;subst e
   exact Cn _ m
  |i+1=>simp at c
theorem Ia (nodes:Int) (j:1<=nodes) (k:nodes<=65536) (w:World):Calls prog 93 #[.int .i64 nodes] w (Mk w nodes):=by
 go_enter func93,ntmps93
 go_wp2_with fail
 obtain⟨d,k1,k2,c⟩:=EO w 236 232 178 (sP 0) #[ptr w.heap.size] #[.int .i64 nodes,.slice (some ⟨w.heap.size+1,0,none⟩) 1 1,.int .i64 0];have b:=PP (_w:=w) (F:=From w.heap.size) d k1 k2 (Nat.le_refl _) (by show w.heap.size<=w.heap.size+1;omega) (by show w.heap.size<=w.heap.size+1+1;omega);have g:=aa b;have f:=aa c;refine(zQ _ _ (.int .i64 0) _ _ (k2.cell 2) (k2.frozen 2)).mono ?_;clear b c d k1 k2;rintro e w1 ⟨rfl,a⟩;have h:gM w1 (From w.heap.size) (w.heap.size+1+1) nodes [(0,Nd.zero)] 1:=by rw [<-a];exact⟨_,_,_,_,g.setRoot 1⟩
 have i:Below w.heap.size w w1:=by rw [<-a];exact f.setCell (p:=⟨w.heap.size+1+1,2,none⟩) (by show w.heap.size<=w.heap.size+1+1;omega) _
 clear a;go_wp2;go_ret2
 exact⟨_,rfl,h,i⟩
section
section
variable {F G S:Nat->Prop} {w w':World} {p:Nat} {nodes root:Int} {sl:List bR}
theorem gM.lt (h:gM w F p nodes sl root):gM w (fun b=>F b/\b<w.heap.size) p nodes sl root:=by
 obtain⟨A,n,c,bs,a⟩:=h
 have d:∀b∈bs,b<w.heap.size:=by
  intro b d;obtain⟨i,hi⟩:=List.mem_iff_getElem?.1 d;have hl:i<sl.length:=by have:=(List.getElem?_eq_some_iff.1 hi).1;have q:n=sl.length:=a.len;have r:bs.length=n:=a.blen;omega
  obtain⟨t,j,u,v,y,x,z,C,B,l,o,m,f,_⟩:=a.slot i b _ hi (List.getElem?_eq_getElem hl);exact f.lt
 exact⟨A,n,c,bs,⟨a.len,a.blen,a.blk,a.row,⟨a.fp,a.blk.lt⟩,fun b d=>⟨a.frow b d,(ah a.row b d).2⟩,fun b h=>⟨a.fbs b h,d b h⟩,a.nodup,fun i g s e k=>(a.slot i g s e k).lt.weak (fun b d=>⟨⟨d.1.1,d.2⟩,d.1.2⟩)⟩⟩
end
def Grown (F:Nat->Prop) (w w':World):Nat->Prop:=fun b=>F b\/(w.heap.size<=b/\b<w'.heap.size)
theorem gM.drew {F:Nat->Prop} {w:World} {p:Nat} {nodes root:Int} {sl:List bR} (h:gM w F p nodes sl root):gM w.drew F p nodes sl root:=h.chg (S:=Nil) (ag.of_below (Below.refl _ _).drew) (fun _ _ a=>a)
theorem gM.grown {F:Nat->Prop} {w q:World} {p:Nat} {nodes root:Int} {sl:List bR} (h:gM w (fun _b=>F _b\/q.heap.size<=_b) p nodes sl root):gM w (Grown F q w) p nodes sl root:=
 h.lt.weak (fun _b a=>a.1.elim .inl (fun h=> .inr ⟨h,a.2⟩))
def vJ (w:World) (F:Nat->Prop) (p mm:Nat) (nodes root:Int) (a:List bR) (id:Int) (e:Ending) (w':World):Prop:=
 e= .returned (.int .i64 id)/\gM w' (Grown F w w') p nodes a root/\aj w' mm 193 #[.pointer (some ⟨p,0,none⟩),.bool false]/\ag (fun b=>F b\/b=mm) w w'
def aQ (F:Nat->Prop) (w:World):Nat->Prop:=fun b=>F b/\b<w.heap.size
theorem Ny (more:Bool) (F G:Nat->Prop) (p mm:Nat) (nodes root:Int) (nd:Nd) (k Q vA c:Option Addr) (hn hc n j vn vc a t:Nat) (w:World)
  (hx:gM w F p nodes [(0,Nd.zero)] root) (hm:aj w mm 193 #[.pointer (some ⟨p,0,none⟩),.bool true]) (Nz:¬F mm)
  (s:Bt w G k hn hc nd.high) (h2:Tx w G Q n j nd.keys) (h3:Tx w G vA vn vc nd.vals) (h4:It w G c a t nd.kids) (hG:∀b,G b->¬F b/\b≠mm) (x:Small nd) (rt:Int) (ab:rt=if more then 2 else nd.right):
  Calls prog 145 #[.pointer (some ⟨mm,0,none⟩),.agg #[.int .i64 nd.lev,.slice k hn hc,.int .i64 nd.right,.slice Q n j,.slice vA vn vc,.slice c a t],.bool more] w
   (vJ w F p mm nodes root [(2,⟨nd.lev,nd.high,rt,nd.keys,nd.vals,nd.kids⟩)] 1):=by
 have b1:Below w.heap.size w (w.alloc (.cells #[.int .i64 nd.lev,.slice k hn hc,.int .i64 nd.right,.slice Q n j,.slice vA vn vc,.slice c a t] 132)):=(Below.refl _ _).alloc (Nat.le_refl _) _;have HX:=aa ((show gM w (aQ F w) p nodes _ root from hx.lt).below b1);have HM:=aa (hm.below b1);have HB:=aa (aj.new w 132 #[.int .i64 nd.lev,.slice k hn hc,.int .i64 nd.right,.slice Q n j,.slice vA vn vc,.slice c a t])
 obtain⟨m0,m1,mf⟩:(w.alloc (.cells #[.int .i64 nd.lev,.slice k hn hc,.int .i64 nd.right,.slice Q n j,.slice vA vn vc,.slice c a t] 132)).cell? ⟨mm,0,none⟩=some (.pointer (some ⟨p,0,none⟩))/\(w.alloc (.cells #[.int .i64 nd.lev,.slice k hn hc,.int .i64 nd.right,.slice Q n j,.slice vA vn vc,.slice c a t] 132)).cell? ⟨mm,1,none⟩=some (.bool true)/\jo w mm:=
  ⟨by rw [HM.out.cell];rfl,by rw [HM.out.cell];rfl,hm.soft⟩
 have Pb:=hm.lt;have H1:=aa (show Bt w (aQ G w) k hn hc nd.high from s.lt);have H2:=aa (show Tx w (aQ G w) Q n j nd.keys from h2.lt);have H3:=aa (show Tx w (aQ G w) vA vn vc nd.vals from h3.lt);have H4:=aa (show It w (aQ G w) c a t nd.kids from h4.lt);have C:=aa x;clear hx hm s h2 h3 h4 x;have LK:=aa (Mi (aQ F w) p nodes root [(0,Nd.zero)] 1 (0,Nd.zero) _ HX (by omega) (by simp) (by simp) (by simp) (by simp) (by simp) (by simp))
 cases more
 ·go_enter func145,ntmps145
  go_wp2_with (first|(go_at_call 178;go_loud (refine(LK.out).mono ?_);go_loud (rintro e w2 ⟨rfl,I,l⟩;have uG:=aa I;have bB:=aa l;have O:=aa (HM.chg l (fun h=>Nz h.1));have u:=aa (HB.chg l (fun h=>by have:=h.2;omega));have n0:w2.cell? ⟨mm,0,none⟩=some (.pointer (some ⟨p,0,none⟩)):=(O.out.cell _).trans rfl;have n1:w2.cell? ⟨mm,1,none⟩=some (.bool true):=(O.out.cell _).trans rfl;have nf:∀o,w2.frozen? ⟨mm,o,none⟩=false:=O.out.frozen;clear I l)))
  have S:Hid (aj (w2.setCell ⟨mm,1,none⟩ (.bool false)) mm 193 #[.pointer (some ⟨p,0,none⟩),.bool false]):=aa (O.set_ 1 (.bool false));have A:=aa (u.far (p:=⟨mm,1,none⟩) (by show w.heap.size≠mm;omega) (.bool false));have JZ:Hid (gM (w2.setCell ⟨mm,1,none⟩ (.bool false)) (aQ F w) p nodes [(1,Nd.zero)] root):=aa (uG.chg (ag.set1 w2 mm 1 _) (fun b f e=>Nz (by have e:b=mm:=e;exact e▸f.1)));have B:Hid (ag (fun b=>(aQ F w b\/b=mm)\/w.heap.size<=b) w (w2.setCell ⟨mm,1,none⟩ (.bool false))):=aa (((ag.of_below b1).trans bB (fun b _ h=> .inl (.inl h))).setCell (p:=⟨mm,1,none⟩) (fun _=> .inl (.inr rfl)) _);have v:(1:Int)<=1:=by omega
  have y:(1:Int)<=(([(1,Nd.zero)]:List bR).length:Int):=by simp
  have U:([(1,Nd.zero)]:List bR).length<=65536:=by simp
  have z:([(1,Nd.zero)]:List bR)[(1:Int).toNat-1]? =some (1,Nd.zero):=rfl;have H:([(1,Nd.zero)]:List bR).set ((1:Int).toNat-1) (2,⟨nd.lev,nd.high,nd.right,nd.keys,nd.vals,nd.kids⟩)= [(2,⟨nd.lev,nd.high,rt,nd.keys,nd.vals,nd.kids⟩)]:=by rw [ab];rfl
  clear b1 HX HM HB uG bB O u n0 n1 nf m0 m1 mf LK;have r:∀b,aQ F w b->aQ F w b\/(w.heap.size<b/\b<(w2.setCell ⟨mm,1,none⟩ (.bool false)).heap.size):=fun b h=> .inl h
  --the slot is held:the head,the body,the NA
  have P:(w2.setCell ⟨mm,1,none⟩ (.bool false)).cell? ⟨mm,0,none⟩=some (.pointer (some ⟨p,0,none⟩)):=by rw [S.out.cell];rfl
  have x0:(w2.setCell ⟨mm,1,none⟩ (.bool false)).cell? ⟨w.heap.size,0,none⟩=some (.int .i64 nd.lev):=by rw [A.out.cell];rfl
  have x1:(w2.setCell ⟨mm,1,none⟩ (.bool false)).cell? ⟨w.heap.size,1,none⟩=some (.slice k hn hc):=by rw [A.out.cell];rfl
  have x2:(w2.setCell ⟨mm,1,none⟩ (.bool false)).cell? ⟨w.heap.size,2,none⟩=some (.int .i64 nd.right):=by rw [A.out.cell];rfl
  have x3:(w2.setCell ⟨mm,1,none⟩ (.bool false)).cell? ⟨w.heap.size,3,none⟩=some (.slice Q n j):=by rw [A.out.cell];rfl
  have x4:(w2.setCell ⟨mm,1,none⟩ (.bool false)).cell? ⟨w.heap.size,4,none⟩=some (.slice vA vn vc):=by rw [A.out.cell];rfl
  have x5:(w2.setCell ⟨mm,1,none⟩ (.bool false)).cell? ⟨w.heap.size,5,none⟩=some (.slice c a t):=by rw [A.out.cell];rfl
  obtain⟨V,hV⟩:∃V,V=w2.setCell ⟨mm,1,none⟩ (.bool false):=⟨_,rfl⟩;rw [<-hV] at r P x0 x1 x2 x3 x4 x5 S A JZ B|-;clear hV;have zV:=B.out.size;have R:∀b,aQ G w b->¬((aQ F w b\/b=mm)\/w.heap.size<=b):=fun b f h=>h.elim (fun h=>h.elim (fun h=>(hG b f.1).1 h.1) (hG b f.1).2) (fun h=>by have:=f.2;omega);have T1:=aa ((H1.chg B R).below (Below.refl _ _).drew);have T2:=aa ((H2.chg B R).below (Below.refl _ _).drew);have T3:=aa ((H3.chg B R).below (Below.refl _ _).drew);have T4:=aa ((H4.chg B R).below (Below.refl _ _).drew);have Z:∀b,aQ G w b->¬(aQ F w) b:=fun b f h=>(r b h).elim (fun h=>(hG b f.1).1 h.1) (fun h=>by have:=f.2;omega);have nm:¬(aQ F w) mm:=fun h=>(r _ h).elim (fun h=>Nz h.1) (fun h=>by omega);have nb:¬(aQ F w) w.heap.size:=fun h=>(r _ h).elim (fun h=>by have:=h.2;omega) (fun h=>by omega);refine aS (fun w'=>w'.cell? ⟨mm,0,none⟩=some (.pointer (some ⟨p,0,none⟩))/\w'.cell? ⟨w.heap.size,0,none⟩=some (.int .i64 nd.lev)/\w'.cell? ⟨w.heap.size,1,none⟩=some (.slice k hn hc)/\w'.cell? ⟨w.heap.size,2,none⟩=some (.int .i64 nd.right)) 7 (by kernel_rfl) ?_;have m:V.drew.cell? ⟨mm,0,none⟩=some (.pointer (some ⟨p,0,none⟩))/\V.drew.cell? ⟨w.heap.size,0,none⟩=some (.int .i64 nd.lev)/\V.drew.cell? ⟨w.heap.size,1,none⟩=some (.slice k hn hc)/\V.drew.cell? ⟨w.heap.size,2,none⟩=some (.int .i64 nd.right):=⟨P,x0,x1,x2⟩;refine uF 0 (fun _=>m) ?_;refine uF 1 (fun _=>m) ?_;refine uF 2 (fun _=>m) ?_;refine uF 4 (fun _=>m) ?_;refine uF 5 (fun _=>m) ?_;refine uT 3 m ?_;refine uT 6 m ?_;refine aH (i:=7) (by kernel_rfl) rfl (fun K D=> ?_);go_simp
  refine(lM (aQ F w) p nodes root [(1,Nd.zero)] 1 (1,Nd.zero) V.drew JZ.drew v y U z (by simp) (by simp) (by simp) (aQ G w) k hn hc nd.lev nd.right nd.high T1.out C.1).mono ?_;rintro e g ⟨rfl,J,d⟩;refine D.out _ _ (fun h=>absurd h (by decide)) ?_;clear D K;try simp only [aL,aN,aZ,aC]
  refine bS (by kernel_rfl) ?_ _;have QH:=aa J.grown;have fV:=aa d;have X:=d.cell nm P;have U3:=d.cell nb x3;have U4:=d.cell nb x4;have U5:=d.cell nb x5;have V2:=aa ((T2.out.chg d Z).below (Below.refl _ _).drew);have V3:=aa ((T3.out.chg d Z).below (Below.refl _ _).drew);have V4:=aa ((T4.out.chg d Z).below (Below.refl _ _).drew);have z4:V.heap.size<=g.heap.size:=d.size;have mO:=aa (S.drew.chg d nm);clear J d m P x0 x1 x2 x3 x4 x5;go_wp2_with fail
  refine aS (fun w'=>w'.cell? ⟨mm,0,none⟩=some (.pointer (some ⟨p,0,none⟩))/\w'.cell? ⟨w.heap.size,3,none⟩=some (.slice Q n j)/\w'.cell? ⟨w.heap.size,4,none⟩=some (.slice vA vn vc)/\w'.cell? ⟨w.heap.size,5,none⟩=some (.slice c a t)) 7 (by kernel_rfl) ?_;have q:g.drew.cell? ⟨mm,0,none⟩=some (.pointer (some ⟨p,0,none⟩))/\g.drew.cell? ⟨w.heap.size,3,none⟩=some (.slice Q n j)/\g.drew.cell? ⟨w.heap.size,4,none⟩=some (.slice vA vn vc)/\g.drew.cell? ⟨w.heap.size,5,none⟩=some (.slice c a t):=⟨X,U3,U4,U5⟩;refine uF 0 (fun _=>q) ?_;refine uF 1 (fun _=>q) ?_;refine uF 2 (fun _=>q) ?_;refine uF 4 (fun _=>q) ?_;refine uF 5 (fun _=>q) ?_;refine uT 3 q ?_;refine uT 6 q ?_;refine aH (i:=7) (by kernel_rfl) rfl (fun K D=> ?_);go_simp
  refine(lN (Grown (aQ F w) V.drew g) p nodes root _ 1 (1,⟨nd.lev,nd.high,nd.right,[],[],[]⟩) g.drew QH.drew v (by rw [List.length_set];exact y) (by rw [List.length_set];exact U) (by rw [List.getElem?_set_self (List.getElem?_eq_some_iff.1 z).1];rfl) (by simp) (by simp) (by simp) (aQ G w) Q vA c n j vn vc a t nd.keys nd.vals nd.kids V2.out V3.out V4.out ⟨by simp,C.2.1,C.2.2.1,C.2.2.2.1,C.2.2.2.2.1,C.2.2.2.2.2⟩).mono ?_;rintro e w5 ⟨rfl,L,N⟩;refine D.out _ _ (fun h=>absurd h (by decide)) ?_;clear D K;try simp only [aL,aN,aZ,aC]
  refine bS (by kernel_rfl) ?_ _;have W:¬Grown (aQ F w) V.drew g mm:=fun h=>h.elim nm (fun h=>by have s:V.heap.size<=mm:=h.1;omega);have oI:=aa L.grown;have dF:=aa N;have W0:=N.cell W X;have vK:=aa (mO.drew.chg N W);have z5:g.heap.size<=w5.heap.size:=N.size;clear L N q X U3 U4 U5;have UL:=aa (j5 (Grown (Grown (aQ F w) V.drew g) g.drew w5) p nodes root _ 1 (1,⟨nd.lev,nd.high,nd.right,nd.keys,nd.vals,nd.kids⟩) _ oI v (by rw [List.length_set,List.length_set];exact y) (by rw [List.length_set,List.length_set];exact U) (by rw [List.set_set,List.getElem?_set_self (List.getElem?_eq_some_iff.1 z).1]) (by simp) (by simp) (by simp));go_wp2_with (go_at_call 182;refine UL.out.mono ?_;rintro e w6 ⟨rfl,M,E⟩;have UM:=aa M;have Y:=aa E;clear M E)
  go_ret
  have z6:=Y.out.size
  refine⟨rfl,?_,vK.chg Y (fun h=>h.elim W (fun h=>by have s:g.heap.size<=mm:=h.1;omega)),?_⟩
  ·have h:=UM.out;rw [List.set_set,List.set_set] at h;rw [<-H]
   exact h.weak (fun b f=>f.elim (fun h=>h.elim (fun h=>(r b h).elim (fun h=> .inl h.1) (fun h=> .inr ⟨by omega,by omega⟩)) (fun h=>by have s:V.heap.size<=b:=h.1;exact .inr ⟨by omega,by omega⟩)) (fun h=>by have s:g.heap.size<=b:=h.1;exact .inr ⟨by omega,by omega⟩))
  ·refine(((B.mono (T:=fun b=>F b\/b=mm) (fun b f h=>h.elim (fun h=>h.elim (fun h=> .inl h.1) .inr) (fun h=>absurd h (by omega)))).drew.trans fV (fun b f h=>(r b h).elim (fun h=> .inl h.1) (fun h=>by omega))).drew.trans dF (fun b f h=>h.elim (fun h=>(r b h).elim (fun h=> .inl h.1) (fun h=>by omega)) (fun h=>by have s:V.heap.size<=b:=h.1;omega))).trans Y (fun b f h=>h.elim (fun h=>h.elim (fun h=>(r b h).elim (fun h=> .inl h.1) (fun h=>by omega)) (fun h=>by have s:V.heap.size<=b:=h.1;omega)) (fun h=>by have s:g.heap.size<=b:=h.1;omega))
 ·go_enter func145,ntmps145
  go_wp2_with (first|(go_at_call 178;go_loud (refine(LK.out).mono ?_);go_loud (rintro e w2 ⟨rfl,I,l⟩;have uG:=aa I;have bB:=aa l;have O:=aa (HM.chg l (fun h=>Nz h.1));have u:=aa (HB.chg l (fun h=>by have:=h.2;omega));have n0:w2.cell? ⟨mm,0,none⟩=some (.pointer (some ⟨p,0,none⟩)):=(O.out.cell _).trans rfl;have n1:w2.cell? ⟨mm,1,none⟩=some (.bool true):=(O.out.cell _).trans rfl;have nf:∀o,w2.frozen? ⟨mm,o,none⟩=false:=O.out.frozen;have n2:w2.cell? ⟨w.heap.size,2,none⟩=some (.int .i64 nd.right):=(u.out.cell _).trans rfl;have Zi:∀o,w2.frozen? ⟨w.heap.size,o,none⟩=false:=u.out.frozen;have ac:mm≠w.heap.size:=Nat.ne_of_lt Pb;clear I l)))
  have S:Hid (aj ((w2.setCell ⟨mm,1,none⟩ (.bool false)).setCell ⟨w.heap.size,2,none⟩ (.int .i64 2)) mm 193 #[.pointer (some ⟨p,0,none⟩),.bool false]):=aa (aj.far (O.set_ 1 (.bool false)) (p:=⟨w.heap.size,2,none⟩) ac _);have A:Hid (aj ((w2.setCell ⟨mm,1,none⟩ (.bool false)).setCell ⟨w.heap.size,2,none⟩ (.int .i64 2)) w.heap.size 132 #[.int .i64 nd.lev,.slice k hn hc,.int .i64 2,.slice Q n j,.slice vA vn vc,.slice c a t]):=aa ((u.far (p:=⟨mm,1,none⟩) (by show w.heap.size≠mm;omega) (.bool false)).set_ 2 (.int .i64 2));have JZ:Hid (gM ((w2.setCell ⟨mm,1,none⟩ (.bool false)).setCell ⟨w.heap.size,2,none⟩ (.int .i64 2)) (aQ F w) p nodes [(1,Nd.zero)] root):=aa ((uG.chg (ag.set1 w2 mm 1 _) (fun b f e=>Nz (by have e:b=mm:=e;exact e▸f.1))).chg (ag.set1 _ w.heap.size 2 _) (fun b f e=>by have e:b=w.heap.size:=e;have:=f.2;omega));have B:Hid (ag (fun b=>(aQ F w b\/b=mm)\/w.heap.size<=b) w ((w2.setCell ⟨mm,1,none⟩ (.bool false)).setCell ⟨w.heap.size,2,none⟩ (.int .i64 2))):=aa ((((ag.of_below b1).trans bB (fun b _ h=> .inl (.inl h))).setCell (p:=⟨mm,1,none⟩) (fun _=> .inl (.inr rfl)) _).setCell (p:=⟨w.heap.size,2,none⟩) (fun _=> .inr (Nat.le_refl _)) _);have v:(1:Int)<=1:=by omega
  have y:(1:Int)<=(([(1,Nd.zero)]:List bR).length:Int):=by simp
  have U:([(1,Nd.zero)]:List bR).length<=65536:=by simp
  have z:([(1,Nd.zero)]:List bR)[(1:Int).toNat-1]? =some (1,Nd.zero):=rfl;have H:([(1,Nd.zero)]:List bR).set ((1:Int).toNat-1) (2,⟨nd.lev,nd.high,2,nd.keys,nd.vals,nd.kids⟩)= [(2,⟨nd.lev,nd.high,rt,nd.keys,nd.vals,nd.kids⟩)]:=by rw [ab];rfl
  clear b1 HX HM HB uG bB O u n0 n1 nf n2 Zi m0 m1 mf LK;have r:∀b,aQ F w b->aQ F w b\/(w.heap.size<b/\b<((w2.setCell ⟨mm,1,none⟩ (.bool false)).setCell ⟨w.heap.size,2,none⟩ (.int .i64 2)).heap.size):=fun b h=> .inl h
  --the slot is held:the head,the body,the NA
  have P:((w2.setCell ⟨mm,1,none⟩ (.bool false)).setCell ⟨w.heap.size,2,none⟩ (.int .i64 2)).cell? ⟨mm,0,none⟩=some (.pointer (some ⟨p,0,none⟩)):=by rw [S.out.cell];rfl
  have x0:((w2.setCell ⟨mm,1,none⟩ (.bool false)).setCell ⟨w.heap.size,2,none⟩ (.int .i64 2)).cell? ⟨w.heap.size,0,none⟩=some (.int .i64 nd.lev):=by rw [A.out.cell];rfl
  have x1:((w2.setCell ⟨mm,1,none⟩ (.bool false)).setCell ⟨w.heap.size,2,none⟩ (.int .i64 2)).cell? ⟨w.heap.size,1,none⟩=some (.slice k hn hc):=by rw [A.out.cell];rfl
  have x2:((w2.setCell ⟨mm,1,none⟩ (.bool false)).setCell ⟨w.heap.size,2,none⟩ (.int .i64 2)).cell? ⟨w.heap.size,2,none⟩=some (.int .i64 2):=by rw [A.out.cell];rfl
  have x3:((w2.setCell ⟨mm,1,none⟩ (.bool false)).setCell ⟨w.heap.size,2,none⟩ (.int .i64 2)).cell? ⟨w.heap.size,3,none⟩=some (.slice Q n j):=by rw [A.out.cell];rfl
  have x4:((w2.setCell ⟨mm,1,none⟩ (.bool false)).setCell ⟨w.heap.size,2,none⟩ (.int .i64 2)).cell? ⟨w.heap.size,4,none⟩=some (.slice vA vn vc):=by rw [A.out.cell];rfl
  have x5:((w2.setCell ⟨mm,1,none⟩ (.bool false)).setCell ⟨w.heap.size,2,none⟩ (.int .i64 2)).cell? ⟨w.heap.size,5,none⟩=some (.slice c a t):=by rw [A.out.cell];rfl
  obtain⟨V,hV⟩:∃V,V=(w2.setCell ⟨mm,1,none⟩ (.bool false)).setCell ⟨w.heap.size,2,none⟩ (.int .i64 2):=⟨_,rfl⟩;rw [<-hV] at r P x0 x1 x2 x3 x4 x5 S A JZ B|-;clear hV;have zV:=B.out.size;have R:∀b,aQ G w b->¬((aQ F w b\/b=mm)\/w.heap.size<=b):=fun b f h=>h.elim (fun h=>h.elim (fun h=>(hG b f.1).1 h.1) (hG b f.1).2) (fun h=>by have:=f.2;omega);have T1:=aa ((H1.chg B R).below (Below.refl _ _).drew);have T2:=aa ((H2.chg B R).below (Below.refl _ _).drew);have T3:=aa ((H3.chg B R).below (Below.refl _ _).drew);have T4:=aa ((H4.chg B R).below (Below.refl _ _).drew);have Z:∀b,aQ G w b->¬(aQ F w) b:=fun b f h=>(r b h).elim (fun h=>(hG b f.1).1 h.1) (fun h=>by have:=f.2;omega);have nm:¬(aQ F w) mm:=fun h=>(r _ h).elim (fun h=>Nz h.1) (fun h=>by omega);have nb:¬(aQ F w) w.heap.size:=fun h=>(r _ h).elim (fun h=>by have:=h.2;omega) (fun h=>by omega);refine aS (fun w'=>w'.cell? ⟨mm,0,none⟩=some (.pointer (some ⟨p,0,none⟩))/\w'.cell? ⟨w.heap.size,0,none⟩=some (.int .i64 nd.lev)/\w'.cell? ⟨w.heap.size,1,none⟩=some (.slice k hn hc)/\w'.cell? ⟨w.heap.size,2,none⟩=some (.int .i64 2)) 7 (by kernel_rfl) ?_;have m:V.drew.cell? ⟨mm,0,none⟩=some (.pointer (some ⟨p,0,none⟩))/\V.drew.cell? ⟨w.heap.size,0,none⟩=some (.int .i64 nd.lev)/\V.drew.cell? ⟨w.heap.size,1,none⟩=some (.slice k hn hc)/\V.drew.cell? ⟨w.heap.size,2,none⟩=some (.int .i64 2):=⟨P,x0,x1,x2⟩;refine uF 0 (fun _=>m) ?_;refine uF 1 (fun _=>m) ?_;refine uF 2 (fun _=>m) ?_;refine uF 4 (fun _=>m) ?_;refine uF 5 (fun _=>m) ?_;refine uT 3 m ?_;refine uT 6 m ?_;refine aH (i:=7) (by kernel_rfl) rfl (fun K D=> ?_);go_simp
  refine(lM (aQ F w) p nodes root [(1,Nd.zero)] 1 (1,Nd.zero) V.drew JZ.drew v y U z (by simp) (by simp) (by simp) (aQ G w) k hn hc nd.lev 2 nd.high T1.out C.1).mono ?_;rintro e g ⟨rfl,J,d⟩;refine D.out _ _ (fun h=>absurd h (by decide)) ?_;clear D K;try simp only [aL,aN,aZ,aC]
  refine bS (by kernel_rfl) ?_ _;have QH:=aa J.grown;have fV:=aa d;have X:=d.cell nm P;have U3:=d.cell nb x3;have U4:=d.cell nb x4;have U5:=d.cell nb x5;have V2:=aa ((T2.out.chg d Z).below (Below.refl _ _).drew);have V3:=aa ((T3.out.chg d Z).below (Below.refl _ _).drew);have V4:=aa ((T4.out.chg d Z).below (Below.refl _ _).drew);have z4:V.heap.size<=g.heap.size:=d.size;have mO:=aa (S.drew.chg d nm);clear J d m P x0 x1 x2 x3 x4 x5;go_wp2_with fail
  refine aS (fun w'=>w'.cell? ⟨mm,0,none⟩=some (.pointer (some ⟨p,0,none⟩))/\w'.cell? ⟨w.heap.size,3,none⟩=some (.slice Q n j)/\w'.cell? ⟨w.heap.size,4,none⟩=some (.slice vA vn vc)/\w'.cell? ⟨w.heap.size,5,none⟩=some (.slice c a t)) 7 (by kernel_rfl) ?_;have q:g.drew.cell? ⟨mm,0,none⟩=some (.pointer (some ⟨p,0,none⟩))/\g.drew.cell? ⟨w.heap.size,3,none⟩=some (.slice Q n j)/\g.drew.cell? ⟨w.heap.size,4,none⟩=some (.slice vA vn vc)/\g.drew.cell? ⟨w.heap.size,5,none⟩=some (.slice c a t):=⟨X,U3,U4,U5⟩;refine uF 0 (fun _=>q) ?_;refine uF 1 (fun _=>q) ?_;refine uF 2 (fun _=>q) ?_;refine uF 4 (fun _=>q) ?_;refine uF 5 (fun _=>q) ?_;refine uT 3 q ?_;refine uT 6 q ?_;refine aH (i:=7) (by kernel_rfl) rfl (fun K D=> ?_);go_simp
  refine(lN (Grown (aQ F w) V.drew g) p nodes root _ 1 (1,⟨nd.lev,nd.high,2,[],[],[]⟩) g.drew QH.drew v (by rw [List.length_set];exact y) (by rw [List.length_set];exact U) (by rw [List.getElem?_set_self (List.getElem?_eq_some_iff.1 z).1];rfl) (by simp) (by simp) (by simp) (aQ G w) Q vA c n j vn vc a t nd.keys nd.vals nd.kids V2.out V3.out V4.out ⟨by simp,C.2.1,C.2.2.1,C.2.2.2.1,C.2.2.2.2.1,C.2.2.2.2.2⟩).mono ?_;rintro e w5 ⟨rfl,L,N⟩;refine D.out _ _ (fun h=>absurd h (by decide)) ?_;clear D K;try simp only [aL,aN,aZ,aC]
  refine bS (by kernel_rfl) ?_ _;have W:¬Grown (aQ F w) V.drew g mm:=fun h=>h.elim nm (fun h=>by have s:V.heap.size<=mm:=h.1;omega);have oI:=aa L.grown;have dF:=aa N;have W0:=N.cell W X;have vK:=aa (mO.drew.chg N W);have z5:g.heap.size<=w5.heap.size:=N.size;clear L N q X U3 U4 U5;have UL:=aa (j5 (Grown (Grown (aQ F w) V.drew g) g.drew w5) p nodes root _ 1 (1,⟨nd.lev,nd.high,2,nd.keys,nd.vals,nd.kids⟩) _ oI v (by rw [List.length_set,List.length_set];exact y) (by rw [List.length_set,List.length_set];exact U) (by rw [List.set_set,List.getElem?_set_self (List.getElem?_eq_some_iff.1 z).1]) (by simp) (by simp) (by simp));go_wp2_with (go_at_call 182;refine UL.out.mono ?_;rintro e w6 ⟨rfl,M,E⟩;have UM:=aa M;have Y:=aa E;clear M E)
  go_ret
  have z6:=Y.out.size
  refine⟨rfl,?_,vK.chg Y (fun h=>h.elim W (fun h=>by have s:g.heap.size<=mm:=h.1;omega)),?_⟩
  ·have h:=UM.out;rw [List.set_set,List.set_set] at h;rw [<-H]
   exact h.weak (fun b f=>f.elim (fun h=>h.elim (fun h=>(r b h).elim (fun h=> .inl h.1) (fun h=> .inr ⟨by omega,by omega⟩)) (fun h=>by have s:V.heap.size<=b:=h.1;exact .inr ⟨by omega,by omega⟩)) (fun h=>by have s:g.heap.size<=b:=h.1;exact .inr ⟨by omega,by omega⟩))
  ·refine(((B.mono (T:=fun b=>F b\/b=mm) (fun b f h=>h.elim (fun h=>h.elim (fun h=> .inl h.1) .inr) (fun h=>absurd h (by omega)))).drew.trans fV (fun b f h=>(r b h).elim (fun h=> .inl h.1) (fun h=>by omega))).drew.trans dF (fun b f h=>h.elim (fun h=>(r b h).elim (fun h=> .inl h.1) (fun h=>by omega)) (fun h=>by have s:V.heap.size<=b:=h.1;omega))).trans Y (fun b f h=>h.elim (fun h=>h.elim (fun h=>(r b h).elim (fun h=> .inl h.1) (fun h=>by omega)) (fun h=>by have s:V.heap.size<=b:=h.1;omega)) (fun h=>by have s:g.heap.size<=b:=h.1;omega))
end
end Go.Proofs.YtepgcjbhabnciaaGreat
