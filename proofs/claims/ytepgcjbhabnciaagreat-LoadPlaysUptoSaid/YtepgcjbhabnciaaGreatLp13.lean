/- Part 13. -/
import Derived.Test.YtepgcjbhabnciaaGreatLp12
namespace Go.Proofs.YtepgcjbhabnciaaGreat
set_option maxRecDepth 100000
set_option maxHeartbeats 8000000
open Go.Proofs.Tryz Go.RowKit
variable {g p n c m d C d1 D z E r:Nat} {w w':World} {F G:Nat->Prop} {t:TypeId} {root:Int} {sl:List aX}
theorem Qj:(prog.info? 232).map (fun i=>(i.zero,i.size,i.bytes))=some (some (.pointer none),1,8):=by kernel_rfl
theorem oW {b v1 v2:Value} (h:ak w g t #[b,v1,v2]):
  w.cell? g=some b/\w.cell? ⟨g,1,none⟩=some v1/\w.cell? ⟨g,2,none⟩=some v2/\(∀o,w.frozen? ⟨g,o,none⟩=false):=
 ⟨by rw [h.cell];rfl,by rw [h.cell];rfl,by rw [h.cell];rfl,h.frozen⟩
theorem Uy {cs:Array Value} {v:Value} (h:ak w p t cs) (a:w.grownBy w' v.ownBlock) (c:v.ownBlock≠some p):ak w' p t cs:=
 h.chg ((ag.refl (fun b=>v.ownBlock=some b) w).grown a (fun b _ _=>by assumption)) c
def YN (w:World) (F:Nat->Prop) (p:Nat) (nodes root:Int) (sl:List aX) (e:Ending) (w':World):Prop:=
 e= .returned (.tuple #[.int .i64 ((sl.length:Int)+1),.int .i64 0])/\gL w' (fun b=>F b\/w<=b) p nodes (sl++ [(1,Nd.zero)]) root/\ag F w w'
theorem Qk {nodes:Int} (h:gL w F p nodes sl root) (C:(sl.length:Int)<nodes) (hn:nodes<=65536):
  Calls prog 179 #[p] w (YN w F p nodes root sl):=by
 obtain⟨G,o,H,I,J⟩:=info_parts Qj;obtain⟨A,n,c,bs,f⟩:=h;have v:n=sl.length:=f.len;have B:=aa v;have R:((n:Int)==nodes)=false:=by rw [mi];omega
 have D:n<=65536:=by omega
 obtain⟨c0,c1,N,O⟩:=f.cells;have s:=aa f;have E:=f.blk.lt;clear v C f;go_enter func179,ntmps179;go_wp2;go_quiet (fail)
 rename_i nq;have i:ak ((w.drewN nq).alloc (.cells (wP 0) 236)) w 236 (wP 0):=ak.new (w.drewN nq) _ _;go_wp2_with fail;refine(Di _ (i.cell 0) (i.frozen 0)).mono ?_;rintro e w1 ⟨rfl,d⟩;have k1:ak w1 w 236 (wP 1):=by rw [<-d];exact i.set_ 0 _
 have b:Below w w w1:=by rw [<-d];exact((below_drewN mh nq).alloc jO _).setCell (p:=w) jO _
 clear d i;have j:=s.out.below b;obtain⟨d0,d1,P,Q⟩:=j.cells;have l:=aa j.row;have y:=aa j;clear j;go_wp2_with (at_builtin;go_loud (refine af _ rfl (.tmp 25) (.tmp 27) _ rfl 0 232 G _ 1 8 underlying171 o H I J rfl (by omega) (.slice A n c) n (bs.map ptr) rfl (l.alloc _) (From w1) (some ⟨w1,0,none⟩) 1 1 [ptr w] rfl (Rd.one w1 _ _) (by intro u x;simp at x;subst x;rfl) (by simp only [maxLen];omega) (by omega) (by simp) ?_);intro v2 w2 a g t;obtain⟨z,m,r,W,X⟩:=ax a;subst r;have q:=Uy (y.blk.alloc (.cells #[w] 232)) g y.row_p;obtain⟨S,T,U,V⟩:=oW q;have K:=aa a;have k:=aa t;clear a t);go_ret2
 obtain⟨L,M⟩:=s.out.push rfl (b.alloc b.size _) (k1.alloc (.cells #[w] 232)) K g k rfl;exact⟨by rw [B.out];rfl,⟨z,n+1,m,_,L⟩,M⟩
theorem Ql {nodes:Int} (sl:List aX) (id:Int) (s:aX) (h:gL w F p nodes sl root) (a:1<=id) (o:id<=sl.length) (hn:sl.length<=65536) (v:sl[id.toNat-1]? =some s) (q:0<=s.1) (L:s.1<=4611686018427387904)
  (u:s.1%2=0):
  Calls prog 178 #[p,id,.int .u64 s.1] w fun e w'=>e= .returned (.tuple #[true,.int .i64 0])/\gL w' F p nodes (sl.set (id.toNat-1) (s.1+1,s.2)) root/\ag F w w':=by
 obtain⟨A,n,c,bs,j⟩:=h;have B:n=sl.length:=j.len;obtain⟨g,Q,l,d,f,x⟩:=j.slot_at a (by omega);rw [v] at d;injection d with d;subst d;have z:=aa x;have y:=aa f;have m:g∈bs:=nT l;obtain⟨hA,G,hc,kA,kn,kc,vA,vn,vc,dA,dn,dc,k,M,N,O,P⟩:=x;obtain⟨H,R,S,T,U,V,W,I⟩:=Aq k;have J:w.frozen? g=false:=I 0;have C:id<=n:=by omega
 have D:n<=65536:=by omega
 have r:=aa l;have K:=aa k;have t:bits BinOp.and IntKind.u64 s.1 1=s.1%2:=and_one_u64 s.1 q (by omega);have E:(s.1%2==0)=true:=by rw [beq_iff_eq];exact u
 clear l v o hn B k u f;go_enter func178,ntmps178;go_wp2_with (first|(go_at_call 131;refine(BO id j a C D g r).mono ?_;rintro e w' ⟨rfl,rfl⟩)|(go_at_call 196;refine(I5 _ H J).mono ?_;rintro e w' ⟨rfl,rfl⟩))
 go_ret2
 have i:=ag.set1 w g 0 (.int .u64 (s.1+1));exact⟨rfl,⟨A,n,c,bs,j.upd r i (fun _ h=>h) (z.setWord (fun hc=>hc.2 (.inr (.inr m))) _)⟩,i.mono (fun b _ e=>(show b=g from e)▸y.out)⟩
theorem yj {nodes:Int} {A:Option Addr} {bs:List Nat} (id:Int) (s:aX) (d:og w F p nodes sl root A n c bs) (a:1<=id) (k:id<=n) (l:n<=65536) (g:Nat) (b:bs[id.toNat-1]? =some g) (i:sl[id.toNat-1]? =some s) (q:0<=s.1) (t:s.1<=4611686018427387904)
  (V:s.1%2=1):
  Calls prog 198 #[p,id] w fun e w'=>e= .returned (.tuple #[g,.int .i64 0])/\w=w':=by
 obtain⟨hA,o,hc,kA,kn,kc,vA,vn,vc,dA,dn,dc,h,u,v,x,y⟩:=d.slot _ g s b i;obtain⟨r,z,B,C,D,E,G,H⟩:=Aq h;have j:=aa b;have f:bits BinOp.and IntKind.u64 s.1 1=s.1%2:=and_one_u64 s.1 q (by omega);have m:(s.1%2==0)=false:=by rw [mi];omega
 clear b i h V;go_enter func198,ntmps198;go_wp2_with (first|(go_at_call 131;refine(BO id d a k l g j).mono ?_;rintro e w' ⟨rfl,rfl⟩)|(go_at_call 121;refine(lV r).mono ?_;rintro e w' ⟨rfl,rfl⟩))
 go_ret2
 exact⟨rfl,rfl⟩
theorem lW (F:Nat->Prop) {nodes:Int} (id:Int) (s:aX) (h:gL w F p nodes sl root) (a:1<=id) (o:id<=sl.length) (hn:sl.length<=65536) (t:sl[id.toNat-1]? =some s) (q:0<=s.1) (H:s.1<=4611686018427387904)
  (V:s.1%2=1):
  Calls prog 182 #[p,id,true] w fun e w'=>e= .returned (.int .i64 0)/\gL w' F p nodes (sl.set (id.toNat-1) (s.1+1,s.2)) root/\ag F w w':=by
 have z:=aa t;obtain⟨A,n,c,bs,k⟩:=h;have D:n=sl.length:=k.len;obtain⟨g,R,m,d,f,v⟩:=k.slot_at a (by omega);rw [t] at d;injection d with d
 subst d;have C:=aa v;have y:=aa f;have r:g∈bs:=nT m;obtain⟨hA,I,hc,kA,kn,kc,vA,vn,vc,dA,dn,dc,l,N,O,P,Q⟩:=v;obtain⟨J,S,T,U,W,X,Y,K⟩:=Aq l;have L:w.frozen? g=false:=K 0;have E:id<=n:=by omega
 have G:n<=65536:=by omega
 have u:=aa m;have M:=aa l;have i:bits BinOp.and IntKind.u64 s.1 1=s.1%2:=and_one_u64 s.1 q (by omega);have B:Hid (IntKind.u64.wrap (s.1+1)=s.1+1):=aa (IntWalk.u64_in _ (by omega));have x:=aa V;clear m t o hn D l V f i;go_enter func182,ntmps182;go_wp2_with (first|(go_at_call 198;refine(yj id s k a E G g u z q H x).mono ?_;rintro e w' ⟨rfl,rfl⟩)|(go_at_call 199;refine(I6 _ J L).mono ?_;rintro e w' ⟨rfl,rfl⟩;rw [B.out]))
 go_ret
 have j:=ag.set1 w g 0 (.int .u64 (s.1+1));exact⟨rfl,⟨A,n,c,bs,k.upd u j (fun _ h=>h) (C.setWord (fun hc=>hc.2 (.inr (.inr r))) _)⟩,j.mono (fun b _ e=>(show b=g from e)▸y.out)⟩
theorem oh {nodes:Int} (sl:List aX) (id:Int) (s:aX) (h:gL w F p nodes sl root) (a:1<=id) (o:id<=sl.length) (hn:sl.length<=65536) (H:sl[id.toNat-1]? =some s) (q:0<=s.1) (hm:s.1<=4611686018427387904)
  (V:s.1%2=1) {B:Option Addr} (lev right:Int) {high:List UInt8} (M:Bt w G B m d high) (x:high.length<=1152921504606):
  Calls prog 180 #[p,id,.agg #[lev,.slice B m d,right]] w fun e w'=>
   e= .returned (.int .i64 0)/\gL w' (fun b=>F b\/w<=b) p nodes (sl.set (id.toNat-1) (s.1,⟨lev,high,right,s.2.keys,s.2.vals,s.2.kids⟩)) root/\ag F w w':=by
 have HS:=aa H;obtain⟨A,n,c,bs,k⟩:=h;have e1:n=sl.length:=k.len;obtain⟨g,s',D,j,l,N⟩:=k.slot_at a (by omega);rw [H] at j;injection j with j
 subst j;have HX:=aa N;have HF:=aa l;have v:g∈bs:=nT D;obtain⟨hA,ac,hc,kA,kn,kc,vA,vn,vc,dA,dn,dc,f,q1,q2,q3,q4⟩:=N;obtain⟨P,Q,R,T,U,W,X,J⟩:=Aq f;have zf:w.frozen? g=false:=J 0;have h3:id<=n:=by omega
 have h4:n<=65536:=by omega
 have L:=aa D;have Y:=aa f;have t:bits BinOp.and IntKind.u64 s.1 1=s.1%2:=and_one_u64 s.1 q (by omega);have y:Below w w (w.alloc (.cells #[lev,.slice B m d,right] 127)):=gV;have yg:=k.below y;have jm:=aa (M.below y);have oP:=aa x;have Z:=aa V;have YM:=Fq;have HY:=aa k;have ab:=k.lt_bs v;clear D H o hn e1 f V l t M x k P Q R T U W X J zf;go_enter func180,ntmps180;go_wp2_with (first|(go_at_call 198;refine(yj id s yg a h3 h4 g L HS q hm Z).mono ?_;rintro e w' ⟨rfl,rfl⟩))
 refine(ym ⟨lev,high,right,[],[],[]⟩ (kA:=none) (vA:=none) (dA:=none) (kn:=0) (kc:=0) (vn:=0) (vc:=0) (dn:=0) (dc:=0) jm (Tx.nil _ _) (Tx.nil _ _) (It.nil _ _) ⟨oP,by simp,by simp,by simp,by simp,by simp⟩).mono ?_;rintro e w1 ⟨K,O,c1,A2,n2,c2,A3,n3,c3,A4,n4,c4,rfl,r1,r2,r3,r4,z⟩;have i:Below w w w1:=y.trans (z.mono y.size);obtain⟨P,Q,R,T,U,W,X,J⟩:=Aq (Y.below i);go_wp2;go_ret;have u:=FB w1 g 1 2 3 lev (.slice K O c1) right;have I:gu w1 (fun b=>(F b\/w<=b)/\¬Qh p (.slice A n c) bs b) g s:=(HX.out.chg (ag.of_below (S:=Nil) i) (fun C=>C) (fun _ _ C=>C)).weak (fun b f=>⟨.inl f.1,f.2⟩);have r:=HY.out;have E:Bt w1 (fun b=>(F b\/w<=b)/\¬Qh p (.slice A n c) bs b) K O c1 high:=r1.weak (fun b f=>⟨.inr (by simp only [From,World.size_alloc] at f;omega),r.mut_lt (by simp only [From,World.size_alloc] at f;omega)⟩);refine⟨rfl,⟨A,n,c,bs,(r.below i).upd L u (fun b f=> .inl f) (I.setHead (fun hc=>hc.2 (.inr (.inr v))) E)⟩,?_⟩;exact(ag.of_below (S:=F) i).trans u (fun b _ e=>(show b=g from e)▸HF.out)
theorem ol {nodes:Int} (id:Int) (s:aX) (h:gL w F p nodes sl root) (a:1<=id) (o:id<=sl.length) (hn:sl.length<=65536) (K:sl[id.toNat-1]? =some s) (q:0<=s.1) (hm:s.1<=4611686018427387904)
  (V:s.1%2=1) {v x y:Option Addr} {B:Nat} {keys vals:List (List UInt8)} {kids:List Int} (O:Tx w G v C d1 keys) (P:Tx w G x D z vals) (N:It w G y E B kids) (u:Small ⟨0,[],0,keys,vals,kids⟩):
  Calls prog 181 #[p,id,.agg #[.slice v C d1,.slice x D z,.slice y E B]] w fun e w'=>
   e= .returned (.int .i64 0)/\gL w' (fun b=>F b\/w<=b) p nodes (sl.set (id.toNat-1) (s.1,⟨s.2.lev,s.2.high,s.2.right,keys,vals,kids⟩)) root/\ag F w w':=by
 have HS:=aa K;obtain⟨A,n,c,bs,k⟩:=h;have e1:n=sl.length:=k.len;obtain⟨g,s',J,i,l,Q⟩:=k.slot_at a (by omega);rw [K] at i;injection i with i
 subst i;have HX:=aa Q;have Y:=aa l;have t:g∈bs:=nT J;obtain⟨hA,ac,hc,kA,kn,kc,vA,vn,vc,dA,dn,dc,d,q1,q2,q3,q4⟩:=Q;have h3:id<=n:=by omega
 have h4:n<=65536:=by omega
 have M:=aa J;have W:=aa d;have j:Below w w (w.alloc (.cells #[.slice v C d1,.slice x D z,.slice y E B] 130)):=gV;have yg:=k.below j;have HK:=aa (O.below j);have HV:=aa (P.below j);have Z:=aa (N.below j);have oP:=aa u;have X:=aa V;have YM:=Fu;have HY:=aa k;have ab:=k.lt_bs t;clear J K o hn e1 d V l O P N u k;go_enter func181,ntmps181;go_wp2_with (first|(go_at_call 198;refine(yj id s yg a h3 h4 g M HS q hm X).mono ?_;rintro e w' ⟨rfl,rfl⟩))
 refine(ym ⟨0,[],0,keys,vals,kids⟩ (hA:=none) (hn:=0) (hc:=0) (Bt.nil _ _) HK HV Z oP).mono ?_;rintro e w1 ⟨A1,n1,c1,R,n2,c2,T,n3,c3,U,n4,c4,rfl,r1,r2,r3,r4,H⟩;have f:Below w w w1:=j.trans (H.mono j.size);obtain⟨z0,z1,z2,z3,z4,z5,z6,z7⟩:=Aq (W.below f);go_wp2;go_ret;have r:=FB w1 g 4 5 6 (.slice R n2 c2) (.slice T n3 c3) (.slice U n4 c4);have L:gu w1 (fun b=>(F b\/w<=b)/\¬Qh p (.slice A n c) bs b) g s:=(HX.out.chg (ag.of_below (S:=Nil) f) (fun I=>I) (fun _ _ I=>I)).weak (fun b d=>⟨.inl d.1,d.2⟩);have m:=HY.out;have up:∀b,From (w.alloc (.cells #[.slice v C d1,.slice x D z,.slice y E B] 130)).heap.size b->((F b\/w<=b)/\¬Qh p (.slice A n c) bs b):=fun b d=>⟨.inr (by simp only [From,World.size_alloc] at d;omega),m.mut_lt (by simp only [From,World.size_alloc] at d;omega)⟩;refine⟨rfl,⟨A,n,c,bs,(m.below f).upd M r (fun b d=> .inl d) (L.setBody (fun hc=>hc.2 (.inr (.inr t))) (r2.weak up) (r3.weak up) (r4.weak up))⟩,?_⟩;exact(ag.of_below (S:=F) f).trans r (fun b _ e=>(show b=g from e)▸Y.out)
theorem Qm {nodes:Int} (root:Int) (id:Int) (h:gL w F p nodes sl root) (a:1<=id) (o:id<=sl.length) (hn:sl.length<=65536) (_x: -9223372036854775808<=root/\root<=9223372036854775807):
  Calls prog 96 #[p,root,id] w fun e w'=>e= .returned (.tuple #[true,.int .i64 0])/\gL w' F p nodes sl id/\ag F w w':=by
 obtain⟨A,n,c,bs,d⟩:=h;have r:n=sl.length:=d.len;obtain⟨g,y,k,j,i,u⟩:=d.slot_at a (by omega);obtain⟨c0,c1,m,q⟩:=d.cells;have v:w.frozen? ⟨p,2,none⟩=false:=q 2;have s:id<=n:=by omega
 have t:n<=65536:=by omega
 have l:=aa k;have f:=aa d;clear k j o hn r u i;go_enter func96,ntmps96;go_wp2_with (first|(go_at_call 131;refine(BO id f a s t g l).mono ?_;rintro e w' ⟨rfl,rfl⟩)|(go_at_call 147;refine(I7 _ m v).mono ?_;rintro e w' ⟨rfl,rfl⟩))
 go_ret2
 exact⟨rfl,⟨A,n,c,bs,f.setRoot id⟩,(ag.set1 w p 2 _).mono (fun b _ e=>(show b=p from e)▸f.out.fp)⟩
def Qn (w:World) (nodes:Int) (e:Ending) (w':World):Prop:=
 ∃p,e= .returned (.tuple #[.pointer (some ⟨p,0,none⟩),.int .i64 0])/\gL w' (From w.heap.size) p nodes [(0,Nd.zero)] 1/\Below w.heap.size w w'
theorem I8 (w:World) (a c d:TypeId) (c0 c1 b:Array Value):
  ak (((w.alloc (.cells c0 a)).alloc (.cells c1 c)).alloc (.cells b d)) w a c0/\ak (((w.alloc (.cells c0 a)).alloc (.cells c1 c)).alloc (.cells b d)) (w+1) c c1/\
  ak (((w.alloc (.cells c0 a)).alloc (.cells c1 c)).alloc (.cells b d)) (w+1+1) d b/\Below w w (((w.alloc (.cells c0 a)).alloc (.cells c1 c)).alloc (.cells b d)):=by
 refine⟨((ak.new w a c0).alloc _).alloc _,?_,?_,(gV.alloc (by simp) _).alloc (by simp;omega) _⟩
 ·have:=(ak.new (w.alloc (.cells c0 a)) c c1).alloc (.cells b d)
  simpa using this
 ·have:=ak.new ((w.alloc (.cells c0 a)).alloc (.cells c1 c)) d b;simpa using this
theorem Uz {_w w1:World} {nodes:Int} (m:ak w1 g 236 (wP 0)) (k1:ak w1 r 232 #[ptr g]) (k2:ak w1 p 178 #[nodes,.slice (some ⟨r,0,none⟩) 1 1,.int .i64 0]) (h:F g) (j:F r) (k:F p):
  og w1 F p nodes [(0,Nd.zero)] 0 (some ⟨r,0,none⟩) 1 1 [g]:=by
 refine⟨rfl,rfl,k2,⟨rfl,.inr ⟨r,1,#[ptr g],rfl,Nat.zero_le _,k1,jO,by simp [maxLen],rfl,rfl⟩⟩,k,fun b a=> ?_,fun b a=> ?_,by simp,fun i f s c l=> ?_⟩
 ·have a:r=b:=by simpa [Value.ownBlock] using a
  exact a▸j
 ·have a:b=g:=by simpa using a
  exact a▸h
 ·match i with
  |0=>
   have d:f=g:=by simpa using c.symm
   have e:s=(0,Nd.zero):=by simpa using l.symm
   subst d;subst e
   exact Fz _ m
  |i+1=>simp at c
theorem LH (nodes:Int) (j:1<=nodes) (k:nodes<=65536) (w:World):Calls prog 93 #[nodes] w (Qn w nodes):=by
 go_enter func93,ntmps93
 go_wp2_with fail
 obtain⟨d,k1,k2,c⟩:=I8 w 236 232 178 (wP 0) #[ptr w] #[nodes,.slice (some ⟨w+1,0,none⟩) 1 1,.int .i64 0];have b:=Uz (_w:=w) (F:=From w) d k1 k2 jO (by show w.heap.size<=w+1;omega) (by show w.heap.size<=w+1+1;omega);have g:=aa b;have f:=aa c;refine(Dj _ (k2.cell 2) (k2.frozen 2)).mono ?_;clear b c d k1 k2;rintro e w1 ⟨rfl,a⟩;have h:gL w1 (From w) (w+1+1) nodes [(0,Nd.zero)] 1:=by rw [<-a];exact⟨_,_,_,_,g.setRoot 1⟩
 have i:Below w w w1:=by rw [<-a];exact f.setCell (p:=⟨w+1+1,2,none⟩) (by show w.heap.size<=w+1+1;omega) _
 clear a;go_wp2;go_ret2;exact⟨_,rfl,h,i⟩
section
section
variable {F G S:Nat->Prop} {w w':World} {p:Nat} {nodes root:Int} {sl:List aX}
theorem gL.lt (h:gL w F p nodes sl root):gL w (fun b=>F b/\b<w) p nodes sl root:=by
 obtain⟨A,n,c,bs,a⟩:=h
 have d:∀b∈bs,b<w:=by
  intro b d;obtain⟨i,hi⟩:=List.mem_iff_getElem?.1 d;have hl:i<sl.length:=by have:=(nE.1 hi).1;have l:n=sl.length:=a.len;have m:bs.length=n:=a.blen;omega
  obtain⟨hA,j,hc,kA,kn,kc,vA,vn,vc,dA,dn,dc,f,_⟩:=a.slot i b _ hi (mP hl);exact f.lt
 exact⟨A,n,c,bs,⟨a.len,a.blen,a.blk,a.row,⟨a.fp,a.blk.lt⟩,fun b d=>⟨a.frow b d,(ah a.row b d).2⟩,fun b h=>⟨a.fbs b h,d b h⟩,a.nodup,fun i g s e k=>(a.slot i g s e k).lt.weak (fun b d=>⟨⟨d.1.1,d.2⟩,d.1.2⟩)⟩⟩
end
def Grown (F:Nat->Prop) (w w':World):Nat->Prop:=fun b=>F b\/(w<=b/\b<w')
theorem gL.drew {F:Nat->Prop} {w:World} {p:Nat} {nodes root:Int} {sl:List aX} (h:gL w F p nodes sl root):gL w.drew F p nodes sl root:=h.chg (S:=Nil) (ag.of_below mh.drew) (fun _ _ a=>a)
theorem gL.grown {F:Nat->Prop} {w q:World} {p:Nat} {nodes root:Int} {sl:List aX} (h:gL w (fun _b=>F _b\/q<=_b) p nodes sl root):gL w (Grown F q w) p nodes sl root:=
 h.lt.weak (fun _b a=>a.1.elim .inl (fun h=> .inr ⟨h,a.2⟩))
def yN (w:World) (F:Nat->Prop) (p mm:Nat) (nodes root:Int) (a:List aX) (id:Int) (e:Ending) (w':World):Prop:=
 e= .returned id/\gL w' (Grown F w w') p nodes a root/\ak w' mm 193 #[p,false]/\ag (fun b=>F b\/b=mm) w w'
def aU (F:Nat->Prop) (w:World):Nat->Prop:=fun b=>F b/\b<w
theorem Rj (more:Bool) {F G:Nat->Prop} {p mm:Nat} {nodes root:Int} {nd:Nd} {hA kA vA dA:Option Addr} {hn hc kn kc vn vc dn dc:Nat} {w:World}
  (hx:gL w F p nodes [(0,Nd.zero)] root) (hm:ak w mm 193 #[p,true]) (Rk:¬F mm)
  (k:Bt w G hA hn hc nd.high) (h2:Tx w G kA kn kc nd.keys) (h3:Tx w G vA vn vc nd.vals) (h4:It w G dA dn dc nd.kids) (hG:∀b,G b->¬F b/\b≠mm) (n:Small nd) (rt:Int) (ab:rt=if more then 2 else nd.right):
  Calls prog 145 #[mm,.agg #[(nd.lev:Int),.slice hA hn hc,(nd.right:Int),.slice kA kn kc,.slice vA vn vc,.slice dA dn dc],more] w
   (yN w F p mm nodes root [(2,⟨nd.lev,nd.high,rt,nd.keys,nd.vals,nd.kids⟩)] 1):=by
 have b1:Below w w (w.alloc (.cells #[(nd.lev:Int),.slice hA hn hc,(nd.right:Int),.slice kA kn kc,.slice vA vn vc,.slice dA dn dc] 132)):=gV;have HX:=aa ((show gL w (aU F w) p nodes _ root from hx.lt).below b1);have Z:=aa (hm.below b1);have HB:=aa (ak.new w 132 #[(nd.lev:Int),.slice hA hn hc,(nd.right:Int),.slice kA kn kc,.slice vA vn vc,.slice dA dn dc])
 obtain⟨m0,m1,mf⟩:(w.alloc (.cells #[(nd.lev:Int),.slice hA hn hc,(nd.right:Int),.slice kA kn kc,.slice vA vn vc,.slice dA dn dc] 132)).cell? mm=some (p:Value)/\(w.alloc (.cells #[(nd.lev:Int),.slice hA hn hc,(nd.right:Int),.slice kA kn kc,.slice vA vn vc,.slice dA dn dc] 132)).cell? ⟨mm,1,none⟩=some (.bool true)/\fe w mm:=
  ⟨by rw [Z.out.cell];rfl,by rw [Z.out.cell];rfl,hm.soft⟩
 have TZ:=hm.lt;have H1:=aa (show Bt w (aU G w) hA hn hc nd.high from k.lt);have H2:=aa (show Tx w (aU G w) kA kn kc nd.keys from h2.lt);have H3:=aa (show Tx w (aU G w) vA vn vc nd.vals from h3.lt);have H4:=aa (show It w (aU G w) dA dn dc nd.kids from h4.lt);have u:=aa n;clear hx hm k h2 h3 h4 n;have LK:=aa (Ql [(0,Nd.zero)] 1 (0,Nd.zero) HX (by omega) (by simp) (by simp) (by simp) (by simp) (by simp) (by simp))
 cases more
 ·go_enter func145,ntmps145
  go_wp2_with (first|(go_at_call 178;go_loud (refine(LK.out).mono ?_);go_loud (rintro e w2 ⟨rfl,z,f⟩;have qh:=aa z;have bz:=aa f;have E:=aa (Z.chg f (fun h=>Rk h.1));have l:=aa (HB.chg f (fun h=>by have:=h.2;omega));have n0:w2.cell? mm=some (p:Value):=(E.out.cell _).trans rfl;have n1:w2.cell? ⟨mm,1,none⟩=some (.bool true):=(E.out.cell _).trans rfl;have nf:∀o,w2.frozen? ⟨mm,o,none⟩=false:=E.out.frozen;clear z f)))
  have J:Hid (ak (w2.setCell ⟨mm,1,none⟩ false) mm 193 #[p,false]):=aa (E.set_ 1 false);have s:=aa (l.far (p:=⟨mm,1,none⟩) (by show w.heap.size≠mm;omega) false);have NQ:Hid (gL (w2.setCell ⟨mm,1,none⟩ false) (aU F w) p nodes [(1,Nd.zero)] root):=aa (qh.chg (ag.set1 w2 mm 1 _) (fun b c e=>Rk (by have e:b=mm:=e;exact e▸c.1)));have t:Hid (ag (fun b=>(aU F w b\/b=mm)\/w<=b) w (w2.setCell ⟨mm,1,none⟩ false)):=aa (((ag.of_below b1).trans bz (fun b _ h=> .inl (.inl h))).setCell (p:=⟨mm,1,none⟩) (fun _=> .inl (.inr rfl)) _);have m:(1:Int)<=1:=by omega
  have q:(1:Int)<=(([(1,Nd.zero)]:List aX).length:Int):=by simp
  have L:([(1,Nd.zero)]:List aX).length<=65536:=by simp
  have r:([(1,Nd.zero)]:List aX)[(1:Int).toNat-1]? =some (1,Nd.zero):=rfl;have y:([(1,Nd.zero)]:List aX).set ((1:Int).toNat-1) (2,⟨nd.lev,nd.high,nd.right,nd.keys,nd.vals,nd.kids⟩)= [(2,⟨nd.lev,nd.high,rt,nd.keys,nd.vals,nd.kids⟩)]:=by rw [ab];rfl
  clear b1 HX Z HB qh bz E l n0 n1 nf m0 m1 mf LK;have j:∀b,aU F w b->aU F w b\/(w<b/\b<(w2.setCell ⟨mm,1,none⟩ false).heap.size):=fun b h=> .inl h
  --the slot is held:the head,the body,the Rl
  have H:(w2.setCell ⟨mm,1,none⟩ false).cell? mm=some (p:Value):=by rw [J.out.cell];rfl
  have R:(w2.setCell ⟨mm,1,none⟩ false).cell? w=some (.int .i64 nd.lev):=by rw [s.out.cell];rfl
  have S:(w2.setCell ⟨mm,1,none⟩ false).cell? ⟨w,1,none⟩=some (.slice hA hn hc):=by rw [s.out.cell];rfl
  have U:(w2.setCell ⟨mm,1,none⟩ false).cell? ⟨w,2,none⟩=some (.int .i64 nd.right):=by rw [s.out.cell];rfl
  have W:(w2.setCell ⟨mm,1,none⟩ false).cell? ⟨w,3,none⟩=some (.slice kA kn kc):=by rw [s.out.cell];rfl
  have X:(w2.setCell ⟨mm,1,none⟩ false).cell? ⟨w,4,none⟩=some (.slice vA vn vc):=by rw [s.out.cell];rfl
  have Y:(w2.setCell ⟨mm,1,none⟩ false).cell? ⟨w,5,none⟩=some (.slice dA dn dc):=by rw [s.out.cell];rfl
  obtain⟨V,hV⟩:=gF (w2.setCell ⟨mm,1,none⟩ (.bool false));rw [<-hV] at j H R S U W X Y J s NQ t|-;clear hV;have zV:=t.out.size;have I:∀b,aU G w b->¬((aU F w b\/b=mm)\/w<=b):=fun b c h=>h.elim (fun h=>h.elim (fun h=>(hG b c.1).1 h.1) (hG b c.1).2) (fun h=>by have:=c.2;omega);have T1:=aa ((H1.chg t I).below mh.drew);have T2:=aa ((H2.chg t I).below mh.drew);have T3:=aa ((H3.chg t I).below mh.drew);have T4:=aa ((H4.chg t I).below mh.drew);have P:∀b,aU G w b->¬(aU F w) b:=fun b c h=>(j b h).elim (fun h=>(hG b c.1).1 h.1) (fun h=>by have:=c.2;omega);have Q:¬(aU F w) mm:=fun h=>(j _ h).elim (fun h=>Rk h.1) (fun h=>by omega);have nb:¬(aU F w) w:=fun h=>(j _ h).elim (fun h=>by have:=h.2;omega) (fun h=>by omega);refine aM (fun w'=>w'.cell? mm=some (p:Value)/\w'.cell? w=some (.int .i64 nd.lev)/\w'.cell? ⟨w,1,none⟩=some (.slice hA hn hc)/\w'.cell? ⟨w,2,none⟩=some (.int .i64 nd.right)) 7 (by kernel_rfl) ?_;have g:V.drew.cell? mm=some (p:Value)/\V.drew.cell? w=some (.int .i64 nd.lev)/\V.drew.cell? ⟨w,1,none⟩=some (.slice hA hn hc)/\V.drew.cell? ⟨w,2,none⟩=some (.int .i64 nd.right):=⟨H,R,S,U⟩;refine uF 0 (fun _=>g) ?_;refine uF 1 (fun _=>g) ?_;refine uF 2 (fun _=>g) ?_;refine uF 4 (fun _=>g) ?_;refine uF 5 (fun _=>g) ?_;refine uT 3 g ?_;refine uT 6 g ?_;refine mR 7 fun K v=> ?_;go_simp;refine(oh [(1,Nd.zero)] 1 (1,Nd.zero) NQ.drew m q L r (by simp) (by simp) (by simp) nd.lev nd.right T1.out u.1).mono ?_;rintro e d ⟨rfl,A,a⟩;refine v.out _ _ (fun h=>absurd h (by decide)) ?_;clear v K;try simp only [aL,aN,aZ,aC]
  refine bH (by kernel_rfl) ?_ _;have Vn:=aa A.grown;have gK:=aa a;have N:=a.cell Q H;have U3:=a.cell nb W;have U4:=a.cell nb X;have U5:=a.cell nb Y;have V2:=aa ((T2.out.chg a P).below mh.drew);have V3:=aa ((T3.out.chg a P).below mh.drew);have V4:=aa ((T4.out.chg a P).below mh.drew);have z4:V.heap.size<=d:=a.size;have mH:=aa (J.drew.chg a Q);clear A a g H R S U W X Y;go_wp2_with fail;refine aM (fun w'=>w'.cell? mm=some (p:Value)/\w'.cell? ⟨w,3,none⟩=some (.slice kA kn kc)/\w'.cell? ⟨w,4,none⟩=some (.slice vA vn vc)/\w'.cell? ⟨w,5,none⟩=some (.slice dA dn dc)) 7 (by kernel_rfl) ?_;have i:d.drew.cell? mm=some (p:Value)/\d.drew.cell? ⟨w,3,none⟩=some (.slice kA kn kc)/\d.drew.cell? ⟨w,4,none⟩=some (.slice vA vn vc)/\d.drew.cell? ⟨w,5,none⟩=some (.slice dA dn dc):=⟨N,U3,U4,U5⟩;refine uF 0 (fun _=>i) ?_;refine uF 1 (fun _=>i) ?_;refine uF 2 (fun _=>i) ?_;refine uF 4 (fun _=>i) ?_;refine uF 5 (fun _=>i) ?_;refine uT 3 i ?_;refine uT 6 i ?_;refine mR 7 fun K v=> ?_;go_simp;refine(ol (F:=Grown (aU F w) V.drew d) 1 (1,⟨nd.lev,nd.high,nd.right,[],[],[]⟩) Vn.drew m (by rw [List.length_set];exact q) (by rw [List.length_set];exact L) (by rw [List.getElem?_set_self (List.getElem?_eq_some_iff.1 r).1];rfl) (by simp) (by simp) (by simp) V2.out V3.out V4.out ⟨by simp,u.2.1,u.2.2.1,u.2.2.2.1,u.2.2.2.2.1,u.2.2.2.2.2⟩).mono ?_;rintro e w5 ⟨rfl,B,D⟩;refine v.out _ _ (fun h=>absurd h (by decide)) ?_;clear v K;try simp only [aL,aN,aZ,aC]
  refine bH (by kernel_rfl) ?_ _;have M:¬Grown (aU F w) V.drew d mm:=fun h=>h.elim Q (fun h=>by have k:V<=mm:=h.1;omega);have qQ:=aa B.grown;have ed:=aa D;have W0:=D.cell M N;have yO:=aa (mH.drew.chg D M);have z5:d.heap.size<=w5:=D.size;clear B D i N U3 U4 U5;have UL:=aa (lW (Grown (Grown (aU F w) V.drew d) d.drew w5) 1 (1,⟨nd.lev,nd.high,nd.right,nd.keys,nd.vals,nd.kids⟩) qQ m (by rw [List.length_set,List.length_set];exact q) (by rw [List.length_set,List.length_set];exact L) (by rw [List.set_set,List.getElem?_set_self (nE.1 r).1]) (by simp) (by simp) (by simp));go_wp2_with (go_at_call 182;refine UL.out.mono ?_;rintro e w6 ⟨rfl,C,x⟩;have Uf:=aa C;have O:=aa x;clear C x);go_ret
  have z6:=O.out.size
  refine⟨rfl,?_,yO.chg O (fun h=>h.elim M (fun h=>by have k:d<=mm:=h.1;omega)),?_⟩
  ·have h:=Uf.out;rw [List.set_set,List.set_set] at h;rw [<-y]
   exact h.weak (fun b c=>c.elim (fun h=>h.elim (fun h=>(j b h).elim (fun h=> .inl h.1) (fun h=> .inr ⟨by omega,by omega⟩)) (fun h=>by have k:V<=b:=h.1;exact .inr ⟨by omega,by omega⟩)) (fun h=>by have k:d<=b:=h.1;exact .inr ⟨by omega,by omega⟩))
  ·refine(((t.mono (T:=fun b=>F b\/b=mm) (fun b c h=>h.elim (fun h=>h.elim (fun h=> .inl h.1) .inr) (fun h=>absurd h (by omega)))).drew.trans gK (fun b c h=>(j b h).elim (fun h=> .inl h.1) (fun h=>by omega))).drew.trans ed (fun b c h=>h.elim (fun h=>(j b h).elim (fun h=> .inl h.1) (fun h=>by omega)) (fun h=>by have k:V<=b:=h.1;omega))).trans O (fun b c h=>h.elim (fun h=>h.elim (fun h=>(j b h).elim (fun h=> .inl h.1) (fun h=>by omega)) (fun h=>by have k:V<=b:=h.1;omega)) (fun h=>by have k:d<=b:=h.1;omega))
 ·go_enter func145,ntmps145
  go_wp2_with (first|(go_at_call 178;go_loud (refine(LK.out).mono ?_);go_loud (rintro e w2 ⟨rfl,z,f⟩;have qh:=aa z;have bz:=aa f;have E:=aa (Z.chg f (fun h=>Rk h.1));have l:=aa (HB.chg f (fun h=>by have:=h.2;omega));have n0:w2.cell? mm=some (p:Value):=(E.out.cell _).trans rfl;have n1:w2.cell? ⟨mm,1,none⟩=some (.bool true):=(E.out.cell _).trans rfl;have nf:∀o,w2.frozen? ⟨mm,o,none⟩=false:=E.out.frozen;have n2:w2.cell? ⟨w,2,none⟩=some (.int .i64 nd.right):=(l.out.cell _).trans rfl;have ad:∀o,w2.frozen? ⟨w,o,none⟩=false:=l.out.frozen;have ac:mm≠w:=Nat.ne_of_lt TZ;clear z f)))
  have J:Hid (ak ((w2.setCell ⟨mm,1,none⟩ false).setCell ⟨w,2,none⟩ (.int .i64 2)) mm 193 #[p,false]):=aa (ak.far (E.set_ 1 false) (p:=⟨w,2,none⟩) ac _);have s:Hid (ak ((w2.setCell ⟨mm,1,none⟩ false).setCell ⟨w,2,none⟩ (.int .i64 2)) w 132 #[(nd.lev:Int),.slice hA hn hc,.int .i64 2,.slice kA kn kc,.slice vA vn vc,.slice dA dn dc]):=aa ((l.far (p:=⟨mm,1,none⟩) (by show w.heap.size≠mm;omega) false).set_ 2 (.int .i64 2));have NQ:Hid (gL ((w2.setCell ⟨mm,1,none⟩ false).setCell ⟨w,2,none⟩ (.int .i64 2)) (aU F w) p nodes [(1,Nd.zero)] root):=aa ((qh.chg (ag.set1 w2 mm 1 _) (fun b c e=>Rk (by have e:b=mm:=e;exact e▸c.1))).chg (ag.set1 _ w 2 _) (fun b c e=>by have e:b=w.heap.size:=e;have:=c.2;omega));have t:Hid (ag (fun b=>(aU F w b\/b=mm)\/w<=b) w ((w2.setCell ⟨mm,1,none⟩ false).setCell ⟨w,2,none⟩ (.int .i64 2))):=aa ((((ag.of_below b1).trans bz (fun b _ h=> .inl (.inl h))).setCell (p:=⟨mm,1,none⟩) (fun _=> .inl (.inr rfl)) _).setCell (p:=⟨w,2,none⟩) (fun _=> .inr jO) _);have m:(1:Int)<=1:=by omega
  have q:(1:Int)<=(([(1,Nd.zero)]:List aX).length:Int):=by simp
  have L:([(1,Nd.zero)]:List aX).length<=65536:=by simp
  have r:([(1,Nd.zero)]:List aX)[(1:Int).toNat-1]? =some (1,Nd.zero):=rfl;have y:([(1,Nd.zero)]:List aX).set ((1:Int).toNat-1) (2,⟨nd.lev,nd.high,2,nd.keys,nd.vals,nd.kids⟩)= [(2,⟨nd.lev,nd.high,rt,nd.keys,nd.vals,nd.kids⟩)]:=by rw [ab];rfl
  clear b1 HX Z HB qh bz E l n0 n1 nf n2 ad m0 m1 mf LK;have j:∀b,aU F w b->aU F w b\/(w<b/\b<((w2.setCell ⟨mm,1,none⟩ false).setCell ⟨w,2,none⟩ (.int .i64 2)).heap.size):=fun b h=> .inl h
  --the slot is held:the head,the body,the Rl
  have H:((w2.setCell ⟨mm,1,none⟩ false).setCell ⟨w,2,none⟩ (.int .i64 2)).cell? mm=some (p:Value):=by rw [J.out.cell];rfl
  have R:((w2.setCell ⟨mm,1,none⟩ false).setCell ⟨w,2,none⟩ (.int .i64 2)).cell? w=some (.int .i64 nd.lev):=by rw [s.out.cell];rfl
  have S:((w2.setCell ⟨mm,1,none⟩ false).setCell ⟨w,2,none⟩ (.int .i64 2)).cell? ⟨w,1,none⟩=some (.slice hA hn hc):=by rw [s.out.cell];rfl
  have U:((w2.setCell ⟨mm,1,none⟩ false).setCell ⟨w,2,none⟩ (.int .i64 2)).cell? ⟨w,2,none⟩=some (.int .i64 2):=by rw [s.out.cell];rfl
  have W:((w2.setCell ⟨mm,1,none⟩ false).setCell ⟨w,2,none⟩ (.int .i64 2)).cell? ⟨w,3,none⟩=some (.slice kA kn kc):=by rw [s.out.cell];rfl
  have X:((w2.setCell ⟨mm,1,none⟩ false).setCell ⟨w,2,none⟩ (.int .i64 2)).cell? ⟨w,4,none⟩=some (.slice vA vn vc):=by rw [s.out.cell];rfl
  have Y:((w2.setCell ⟨mm,1,none⟩ false).setCell ⟨w,2,none⟩ (.int .i64 2)).cell? ⟨w,5,none⟩=some (.slice dA dn dc):=by rw [s.out.cell];rfl
  obtain⟨V,hV⟩:=gF ((w2.setCell ⟨mm,1,none⟩ (.bool false)).setCell ⟨w.heap.size,2,none⟩ (.int .i64 2));rw [<-hV] at j H R S U W X Y J s NQ t|-;clear hV;have zV:=t.out.size;have I:∀b,aU G w b->¬((aU F w b\/b=mm)\/w<=b):=fun b c h=>h.elim (fun h=>h.elim (fun h=>(hG b c.1).1 h.1) (hG b c.1).2) (fun h=>by have:=c.2;omega);have T1:=aa ((H1.chg t I).below mh.drew);have T2:=aa ((H2.chg t I).below mh.drew);have T3:=aa ((H3.chg t I).below mh.drew);have T4:=aa ((H4.chg t I).below mh.drew);have P:∀b,aU G w b->¬(aU F w) b:=fun b c h=>(j b h).elim (fun h=>(hG b c.1).1 h.1) (fun h=>by have:=c.2;omega);have Q:¬(aU F w) mm:=fun h=>(j _ h).elim (fun h=>Rk h.1) (fun h=>by omega);have nb:¬(aU F w) w:=fun h=>(j _ h).elim (fun h=>by have:=h.2;omega) (fun h=>by omega);refine aM (fun w'=>w'.cell? mm=some (p:Value)/\w'.cell? w=some (.int .i64 nd.lev)/\w'.cell? ⟨w,1,none⟩=some (.slice hA hn hc)/\w'.cell? ⟨w,2,none⟩=some (.int .i64 2)) 7 (by kernel_rfl) ?_;have g:V.drew.cell? mm=some (p:Value)/\V.drew.cell? w=some (.int .i64 nd.lev)/\V.drew.cell? ⟨w,1,none⟩=some (.slice hA hn hc)/\V.drew.cell? ⟨w,2,none⟩=some (.int .i64 2):=⟨H,R,S,U⟩;refine uF 0 (fun _=>g) ?_;refine uF 1 (fun _=>g) ?_;refine uF 2 (fun _=>g) ?_;refine uF 4 (fun _=>g) ?_;refine uF 5 (fun _=>g) ?_;refine uT 3 g ?_;refine uT 6 g ?_;refine mR 7 fun K v=> ?_;go_simp;refine(oh [(1,Nd.zero)] 1 (1,Nd.zero) NQ.drew m q L r (by simp) (by simp) (by simp) nd.lev 2 T1.out u.1).mono ?_;rintro e d ⟨rfl,A,a⟩;refine v.out _ _ (fun h=>absurd h (by decide)) ?_;clear v K;try simp only [aL,aN,aZ,aC]
  refine bH (by kernel_rfl) ?_ _;have Vn:=aa A.grown;have gK:=aa a;have N:=a.cell Q H;have U3:=a.cell nb W;have U4:=a.cell nb X;have U5:=a.cell nb Y;have V2:=aa ((T2.out.chg a P).below mh.drew);have V3:=aa ((T3.out.chg a P).below mh.drew);have V4:=aa ((T4.out.chg a P).below mh.drew);have z4:V.heap.size<=d:=a.size;have mH:=aa (J.drew.chg a Q);clear A a g H R S U W X Y;go_wp2_with fail;refine aM (fun w'=>w'.cell? mm=some (p:Value)/\w'.cell? ⟨w,3,none⟩=some (.slice kA kn kc)/\w'.cell? ⟨w,4,none⟩=some (.slice vA vn vc)/\w'.cell? ⟨w,5,none⟩=some (.slice dA dn dc)) 7 (by kernel_rfl) ?_;have i:d.drew.cell? mm=some (p:Value)/\d.drew.cell? ⟨w,3,none⟩=some (.slice kA kn kc)/\d.drew.cell? ⟨w,4,none⟩=some (.slice vA vn vc)/\d.drew.cell? ⟨w,5,none⟩=some (.slice dA dn dc):=⟨N,U3,U4,U5⟩;refine uF 0 (fun _=>i) ?_;refine uF 1 (fun _=>i) ?_;refine uF 2 (fun _=>i) ?_;refine uF 4 (fun _=>i) ?_;refine uF 5 (fun _=>i) ?_;refine uT 3 i ?_;refine uT 6 i ?_;refine mR 7 fun K v=> ?_;go_simp;refine(ol (F:=Grown (aU F w) V.drew d) 1 (1,⟨nd.lev,nd.high,2,[],[],[]⟩) Vn.drew m (by rw [List.length_set];exact q) (by rw [List.length_set];exact L) (by rw [List.getElem?_set_self (List.getElem?_eq_some_iff.1 r).1];rfl) (by simp) (by simp) (by simp) V2.out V3.out V4.out ⟨by simp,u.2.1,u.2.2.1,u.2.2.2.1,u.2.2.2.2.1,u.2.2.2.2.2⟩).mono ?_;rintro e w5 ⟨rfl,B,D⟩;refine v.out _ _ (fun h=>absurd h (by decide)) ?_;clear v K;try simp only [aL,aN,aZ,aC]
  refine bH (by kernel_rfl) ?_ _;have M:¬Grown (aU F w) V.drew d mm:=fun h=>h.elim Q (fun h=>by have k:V<=mm:=h.1;omega);have qQ:=aa B.grown;have ed:=aa D;have W0:=D.cell M N;have yO:=aa (mH.drew.chg D M);have z5:d.heap.size<=w5:=D.size;clear B D i N U3 U4 U5;have UL:=aa (lW (Grown (Grown (aU F w) V.drew d) d.drew w5) 1 (1,⟨nd.lev,nd.high,2,nd.keys,nd.vals,nd.kids⟩) qQ m (by rw [List.length_set,List.length_set];exact q) (by rw [List.length_set,List.length_set];exact L) (by rw [List.set_set,List.getElem?_set_self (nE.1 r).1]) (by simp) (by simp) (by simp));go_wp2_with (go_at_call 182;refine UL.out.mono ?_;rintro e w6 ⟨rfl,C,x⟩;have Uf:=aa C;have O:=aa x;clear C x);go_ret
  have z6:=O.out.size
  refine⟨rfl,?_,yO.chg O (fun h=>h.elim M (fun h=>by have k:d<=mm:=h.1;omega)),?_⟩
  ·have h:=Uf.out;rw [List.set_set,List.set_set] at h;rw [<-y]
   exact h.weak (fun b c=>c.elim (fun h=>h.elim (fun h=>(j b h).elim (fun h=> .inl h.1) (fun h=> .inr ⟨by omega,by omega⟩)) (fun h=>by have k:V<=b:=h.1;exact .inr ⟨by omega,by omega⟩)) (fun h=>by have k:d<=b:=h.1;exact .inr ⟨by omega,by omega⟩))
  ·refine(((t.mono (T:=fun b=>F b\/b=mm) (fun b c h=>h.elim (fun h=>h.elim (fun h=> .inl h.1) .inr) (fun h=>absurd h (by omega)))).drew.trans gK (fun b c h=>(j b h).elim (fun h=> .inl h.1) (fun h=>by omega))).drew.trans ed (fun b c h=>h.elim (fun h=>(j b h).elim (fun h=> .inl h.1) (fun h=>by omega)) (fun h=>by have k:V<=b:=h.1;omega))).trans O (fun b c h=>h.elim (fun h=>h.elim (fun h=>(j b h).elim (fun h=> .inl h.1) (fun h=>by omega)) (fun h=>by have k:V<=b:=h.1;omega)) (fun h=>by have k:d<=b:=h.1;omega))
end
end Go.Proofs.YtepgcjbhabnciaaGreat
