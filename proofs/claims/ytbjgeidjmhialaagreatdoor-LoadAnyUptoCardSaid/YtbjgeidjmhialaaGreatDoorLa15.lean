/- Part 15. -/
import Derived.Test.YtbjgeidjmhialaaGreatDoorLa14
namespace Go.Proofs.YtbjgeidjmhialaaGreatDoor
set_option maxRecDepth 100000
set_option maxHeartbeats 8000000
section
open Go.Proofs.Tryz
open Go.RowKit
theorem Kc:(prog.info? 121).map (fun i=>(i.zero,i.size,i.bytes))=some (some (.pointer none),1,8):=by kernel_rfl
theorem Yp {w:World} {g:Nat} {t:TypeId} {v0 v1 v2:Value} (h:ai w g t #[v0,v1,v2]):
  w.cell? ⟨g,0,none⟩=some v0∧w.cell? ⟨g,1,none⟩=some v1∧w.cell? ⟨g,2,none⟩=some v2∧(∀o,w.frozen? ⟨g,o,none⟩=false):=
 ⟨by rw [h.cell];rfl,by rw [h.cell];rfl,by rw [h.cell];rfl,h.frozen⟩
theorem NS {w w':World} {p:Nat} {t:TypeId} {cs:Array Value} {v:Value} (h:ai w p t cs) (hg:w.grownBy w' v.ownBlock) (hp:v.ownBlock≠some p):ai w' p t cs:=
 h.chg ((ag.refl (fun b=>v.ownBlock=some b) w).grown hg (fun b _ _=>by assumption)) hp
def Rc (w:World) (F:Nat→Prop) (p:Nat) (nodes root:Int) (sl:List bB) (e:Ending) (w':World):Prop:=
 e= .returned (.tuple #[.int .i64 ((sl.length:Int)+1),.int .i64 0])∧gm w' (fun b=>F b∨w.heap.size≤b) p nodes (sl++ [(1,Nd.zero)]) root∧ag F w w'
theorem Ke (F:Nat→Prop) (p:Nat) (nodes root:Int) (sl:List bB) (w:World) (h:gm w F p nodes sl root) (hf:(sl.length:Int)<nodes) (hn:nodes≤65536):
  Calls prog 147 #[.pointer (some ⟨p,0,none⟩)] w (Rc w F p nodes root sl):=by
 obtain⟨i0,hi0,jO,jP,jQ⟩:=info_parts Kc;obtain⟨A,n,c,bs,hY⟩:=h;have e1:n=sl.length:=hY.len;have HL:=aa e1;have hb:((n:Int)==nodes)=false:=by rw [beq_eq_false_iff_ne];omega
 have hn2:n≤65536:=by omega
 obtain⟨c0,c1,c2,cf⟩:=hY.cells;have HY:=aa hY;have hpl:=hY.blk.lt;clear e1 hf hY;go_enter func147,ntmps147
 go_wp2;go_quiet (fail)
 rename_i nq;have kx:ai ((w.drewN nq).alloc (.cells (rY 0) 126)) w.heap.size 126 (rY 0):=ai.new (w.drewN nq) _ _;go_wp2_with fail
 refine(yh _ _ (.int .u64 0) _ _ (kx.cell 0) (kx.frozen 0)).mono ?_;rintro e w1 ⟨rfl,hw1⟩;have k1:ai w1 w.heap.size 126 (rY 1):=by rw [←hw1];exact kx.set_ 0 _
 have hb1:Below w.heap.size w w1:=by rw [←hw1];exact((below_drewN (Below.refl _ _) nq).alloc (Nat.le_refl _) _).setCell (p:=⟨w.heap.size,0,none⟩) (Nat.le_refl _) _
 clear hw1 kx;have xg:=HY.out.below hb1;obtain⟨d0,d1,d2,df⟩:=xg.cells;have HR1:=aa xg.row;have wC:=aa xg;clear xg;go_wp2_with (at_builtin;go_loud (refine af _ rfl (.tmp 25) (.tmp 27) _ rfl 0 121 i0 _ 1 8 underlying113 hi0 jO jP jQ rfl (by omega) (.slice A n c) n (bs.map ptr) rfl (HR1.alloc _) (From w1.heap.size) (some ⟨w1.heap.size,0,none⟩) 1 1 [ptr w.heap.size] rfl (Rd.one w1 _ _) (by intro u hu;simp at hu;subst hu;rfl) (by simp only [maxLen];omega) (by omega) (by simp) ?_);intro v2 w2 hown2 hg2 gP;obtain⟨A2,c2',hv2,r1,r2⟩:=ay hown2;subst hv2;have hp2:=NS (wC.blk.alloc (.cells #[.pointer (some ⟨w.heap.size,0,none⟩)] 121)) hg2 wC.row_p;obtain⟨p0,p1,p2,pf⟩:=Yp hp2;have iV:=aa hown2;have HA2:=aa gP;clear hown2 gP)
 go_ret2
 obtain⟨q1,q2⟩:=HY.out.push rfl (hb1.alloc hb1.size _) (k1.alloc (.cells #[.pointer (some ⟨w.heap.size,0,none⟩)] 121)) iV hg2 HA2 rfl;exact⟨by rw [HL.out];rfl,⟨A2,n+1,c2',_,q1⟩,q2⟩
theorem Kg (F:Nat→Prop) (p:Nat) (nodes root:Int) (sl:List bB) (id:Int) (s:bB) (w:World) (h:gm w F p nodes sl root) (h1:1≤id) (h2:id≤sl.length) (hn:sl.length≤65536) (hs:sl[id.toNat-1]? =some s) (h0:0≤s.1) (hm:s.1≤4611686018427387904)
  (he:s.1%2=0):
  Calls prog 146 #[.pointer (some ⟨p,0,none⟩),.int .i64 id,.int .u64 s.1] w fun e w'=>e= .returned (.tuple #[.bool true,.int .i64 0])∧gm w' F p nodes (sl.set (id.toNat-1) (s.1+1,s.2)) root∧ag F w w':=by
 obtain⟨A,n,c,bs,hY⟩:=h;have e1:n=sl.length:=hY.len;obtain⟨g,s',hg,hs',hFg,hx⟩:=hY.slot_at h1 (by omega);rw [hs] at hs';injection hs' with hs'
 subst hs';have HX:=aa hx;have HF:=aa hFg;have hgm:g∈bs:=List.mem_of_getElem? hg;obtain⟨hA,hn',hc,kA,kn,kc,vA,vn,vc,dA,dn,dc,hb,q1,q2,q3,q4⟩:=hx;obtain⟨z0,z1,z2,z3,z4,z5,z6,z7⟩:=yg hb;have zf:w.frozen? ⟨g,0,none⟩=false:=z7 0;have h3:id≤n:=by omega
 have h4:n≤65536:=by omega
 have HG:=aa hg;have HB:=aa hb;have hand:bits BinOp.and IntKind.u64 s.1 1=s.1%2:=and_one_u64 s.1 h0 (by omega);have hev:(s.1%2==0)=true:=by rw [beq_iff_eq];exact he
 clear hg hs h2 hn e1 hb he hFg;go_enter func146,ntmps146
 go_wp2_with (first|(go_at_call 80;refine(zR F p nodes root sl A n c bs id _ hY h1 h3 h4 g HG).mono ?_;rintro e w' ⟨rfl,rfl⟩)|(go_at_call 163;refine(C4 _ _ _ _ _ z0 zf).mono ?_;rintro e w' ⟨rfl,rfl⟩))
 go_ret2
 have hch:=ag.set1 w g 0 (.int .u64 (s.1+1));exact⟨rfl,⟨A,n,c,bs,hY.upd HG hch (fun _ h=>h) (HX.setWord (fun hc=>hc.2 (.inr (.inr hgm))) _)⟩,hch.mono (fun b _ e=>(show b=g from e)▸HF.out)⟩
theorem uq (F:Nat→Prop) (p:Nat) (nodes root:Int) (sl:List bB) (A:Option Addr) (n c:Nat) (bs:List Nat) (id:Int) (s:bB) (w:World) (hY:kG w F p nodes sl root A n c bs) (h1:1≤id) (h3:id≤n) (h4:n≤65536) (g:Nat) (hg:bs[id.toNat-1]? =some g) (hs:sl[id.toNat-1]? =some s) (h0:0≤s.1) (hm:s.1≤4611686018427387904)
  (he:s.1%2=1):
  Calls prog 165 #[.pointer (some ⟨p,0,none⟩),.int .i64 id] w fun e w'=>e= .returned (.tuple #[.pointer (some ⟨g,0,none⟩),.int .i64 0])∧w=w':=by
 obtain⟨hA,hn',hc,kA,kn,kc,vA,vn,vc,dA,dn,dc,hb,q1,q2,q3,q4⟩:=hY.slot _ g s hg hs;obtain⟨z0,z1,z2,z3,z4,z5,z6,z7⟩:=yg hb;have HG:=aa hg;have hand:bits BinOp.and IntKind.u64 s.1 1=s.1%2:=and_one_u64 s.1 h0 (by omega);have hev:(s.1%2==0)=false:=by rw [beq_eq_false_iff_ne];omega
 clear hg hs hb he;go_enter func165,ntmps165
 go_wp2_with (first|(go_at_call 80;refine(zR F p nodes root sl A n c bs id _ hY h1 h3 h4 g HG).mono ?_;rintro e w' ⟨rfl,rfl⟩)|(go_at_call 36;refine(lW _ _ _ _ z0).mono ?_;rintro e w' ⟨rfl,rfl⟩))
 go_ret2
 exact⟨rfl,rfl⟩
theorem jE (F:Nat→Prop) (p:Nat) (nodes root:Int) (sl:List bB) (id:Int) (s:bB) (w:World) (h:gm w F p nodes sl root) (h1:1≤id) (h2:id≤sl.length) (hn:sl.length≤65536) (hs:sl[id.toNat-1]? =some s) (h0:0≤s.1) (hm:s.1≤4611686018427387904)
  (he:s.1%2=1):
  Calls prog 150 #[.pointer (some ⟨p,0,none⟩),.int .i64 id,.bool true] w fun e w'=>e= .returned (.int .i64 0)∧gm w' F p nodes (sl.set (id.toNat-1) (s.1+1,s.2)) root∧ag F w w':=by
 have HS:=aa hs;obtain⟨A,n,c,bs,hY⟩:=h;have e1:n=sl.length:=hY.len;obtain⟨g,s',hg,hs',hFg,hx⟩:=hY.slot_at h1 (by omega);rw [hs] at hs';injection hs' with hs'
 subst hs';have HX:=aa hx;have HF:=aa hFg;have hgm:g∈bs:=List.mem_of_getElem? hg;obtain⟨hA,hn',hc,kA,kn,kc,vA,vn,vc,dA,dn,dc,hb,q1,q2,q3,q4⟩:=hx;obtain⟨z0,z1,z2,z3,z4,z5,z6,z7⟩:=yg hb;have zf:w.frozen? ⟨g,0,none⟩=false:=z7 0;have h3:id≤n:=by omega
 have h4:n≤65536:=by omega
 have HG:=aa hg;have HB:=aa hb;have hand:bits BinOp.and IntKind.u64 s.1 1=s.1%2:=and_one_u64 s.1 h0 (by omega);have HW:Hid (IntKind.u64.wrap (s.1+1)=s.1+1):=aa (IntWalk.u64_in _ (by omega));have HE:=aa he;clear hg hs h2 hn e1 hb he hFg hand;go_enter func150,ntmps150
 go_wp2_with (first|(go_at_call 165;refine(uq F p nodes root sl A n c bs id s _ hY h1 h3 h4 g HG HS h0 hm HE).mono ?_;rintro e w' ⟨rfl,rfl⟩)|(go_at_call 166;refine(C5 _ _ _ _ _ z0 zf).mono ?_;rintro e w' ⟨rfl,rfl⟩;rw [HW.out]))
 go_ret
 have hch:=ag.set1 w g 0 (.int .u64 (s.1+1));exact⟨rfl,⟨A,n,c,bs,hY.upd HG hch (fun _ h=>h) (HX.setWord (fun hc=>hc.2 (.inr (.inr hgm))) _)⟩,hch.mono (fun b _ e=>(show b=g from e)▸HF.out)⟩
theorem kH (F:Nat→Prop) (p:Nat) (nodes root:Int) (sl:List bB) (id:Int) (s:bB) (w:World) (h:gm w F p nodes sl root) (h1:1≤id) (h2:id≤sl.length) (hn:sl.length≤65536) (hs:sl[id.toNat-1]? =some s) (h0:0≤s.1) (hm:s.1≤4611686018427387904)
  (he:s.1%2=1) (G:Nat→Prop) (B:Option Addr) (m d:Nat) (lev right:Int) (high:List UInt8) (hB:Bt w G B m d high) (hsm:high.length≤1152921504606):
  Calls prog 148 #[.pointer (some ⟨p,0,none⟩),.int .i64 id,.agg #[.int .i64 lev,.slice B m d,.int .i64 right]] w fun e w'=>
   e= .returned (.int .i64 0)∧gm w' (fun b=>F b∨w.heap.size≤b) p nodes (sl.set (id.toNat-1) (s.1,⟨lev,high,right,s.2.keys,s.2.vals,s.2.kids⟩)) root∧ag F w w':=by
 have HS:=aa hs;obtain⟨A,n,c,bs,hY⟩:=h;have e1:n=sl.length:=hY.len;obtain⟨g,s',hg,hs',hFg,hx⟩:=hY.slot_at h1 (by omega);rw [hs] at hs';injection hs' with hs'
 subst hs';have HX:=aa hx;have HF:=aa hFg;have hgm:g∈bs:=List.mem_of_getElem? hg;obtain⟨hA,hn',hc,kA,kn,kc,vA,vn,vc,dA,dn,dc,hb,q1,q2,q3,q4⟩:=hx;obtain⟨z0,z1,z2,z3,z4,z5,z6,z7⟩:=yg hb;have zf:w.frozen? ⟨g,0,none⟩=false:=z7 0;have h3:id≤n:=by omega
 have h4:n≤65536:=by omega
 have HG:=aa hg;have HB:=aa hb;have hand:bits BinOp.and IntKind.u64 s.1 1=s.1%2:=and_one_u64 s.1 h0 (by omega);have b1:Below w.heap.size w (w.alloc (.cells #[.int .i64 lev,.slice B m d,.int .i64 right] 99)):=(Below.refl _ _).alloc (Nat.le_refl _) _;have xg:=hY.below b1;have ER:=aa (hB.below b1);have tL:=aa hsm;have HE:=aa he;have Rb:=zS;have HY:=aa hY;have hgs:=hY.lt_bs hgm;clear hg hs h2 hn e1 hb he hFg hand hB hsm hY z0 z1 z2 z3 z4 z5 z6 z7 zf;go_enter func148,ntmps148
 go_wp2_with (first|(go_at_call 165;refine(uq F p nodes root sl A n c bs id s _ xg h1 h3 h4 g HG HS h0 hm HE).mono ?_;rintro e w' ⟨rfl,rfl⟩))
 refine(ut ⟨lev,high,right,[],[],[]⟩ G B none none none m d 0 0 0 0 0 0 _ ER (Tx.nil _ _) (Tx.nil _ _) (It.nil _ _) ⟨tL,by simp,by simp,by simp,by simp,by simp⟩).mono ?_;rintro e w1 ⟨A1,n1,c1,A2,n2,c2,A3,n3,c3,A4,n4,c4,rfl,r1,r2,r3,r4,hb1⟩;have hB1:Below w.heap.size w w1:=b1.trans (hb1.mono b1.size);obtain⟨z0,z1,z2,z3,z4,z5,z6,z7⟩:=yg (HB.below hB1);go_wp2;go_ret
 have hch:=Af w1 g 1 2 3 (.int .i64 lev) (.slice A1 n1 c1) (.int .i64 right);have hx1:eF w1 (fun b=>(F b∨w.heap.size≤b)∧¬J9 p (.slice A n c) bs b) g s:=(HX.out.chg (ag.of_below (S:=Nil) hB1) (fun hf=>hf) (fun _ _ hf=>hf)).weak (fun b hb=>⟨.inl hb.1,hb.2⟩);have hYl:=HY.out;have hr1:Bt w1 (fun b=>(F b∨w.heap.size≤b)∧¬J9 p (.slice A n c) bs b) A1 n1 c1 high:=r1.weak (fun b hb=>⟨.inr (by simp only [From,World.size_alloc] at hb;omega),hYl.mut_lt (by simp only [From,World.size_alloc] at hb;omega)⟩);refine⟨rfl,⟨A,n,c,bs,(hYl.below hB1).upd HG hch (fun b hb=> .inl hb) (hx1.setHead (fun hc=>hc.2 (.inr (.inr hgm))) hr1)⟩,?_⟩;exact(ag.of_below (S:=F) hB1).trans hch (fun b _ e=>(show b=g from e)▸HF.out)
theorem kI (F:Nat→Prop) (p:Nat) (nodes root:Int) (sl:List bB) (id:Int) (s:bB) (w:World) (h:gm w F p nodes sl root) (h1:1≤id) (h2:id≤sl.length) (hn:sl.length≤65536) (hs:sl[id.toNat-1]? =some s) (h0:0≤s.1) (hm:s.1≤4611686018427387904)
  (he:s.1%2=1) (G:Nat→Prop) (B1 B2 B3:Option Addr) (m1 d1 m2 d2 m3 d3:Nat) (keys vals:List (List UInt8)) (kids:List Int) (hK:Tx w G B1 m1 d1 keys) (hV:Tx w G B2 m2 d2 vals) (hI:It w G B3 m3 d3 kids) (hsm:Small ⟨0,[],0,keys,vals,kids⟩):
  Calls prog 149 #[.pointer (some ⟨p,0,none⟩),.int .i64 id,.agg #[.slice B1 m1 d1,.slice B2 m2 d2,.slice B3 m3 d3]] w fun e w'=>
   e= .returned (.int .i64 0)∧gm w' (fun b=>F b∨w.heap.size≤b) p nodes (sl.set (id.toNat-1) (s.1,⟨s.2.lev,s.2.high,s.2.right,keys,vals,kids⟩)) root∧ag F w w':=by
 have HS:=aa hs;obtain⟨A,n,c,bs,hY⟩:=h;have e1:n=sl.length:=hY.len;obtain⟨g,s',hg,hs',hFg,hx⟩:=hY.slot_at h1 (by omega);rw [hs] at hs';injection hs' with hs'
 subst hs';have HX:=aa hx;have HF:=aa hFg;have hgm:g∈bs:=List.mem_of_getElem? hg;obtain⟨hA,hn',hc,kA,kn,kc,vA,vn,vc,dA,dn,dc,hb,q1,q2,q3,q4⟩:=hx;have h3:id≤n:=by omega
 have h4:n≤65536:=by omega
 have HG:=aa hg;have HB:=aa hb;have b1:Below w.heap.size w (w.alloc (.cells #[.slice B1 m1 d1,.slice B2 m2 d2,.slice B3 m3 d3] 102)):=(Below.refl _ _).alloc (Nat.le_refl _) _;have xg:=hY.below b1;have HK:=aa (hK.below b1);have HV:=aa (hV.below b1);have HI:=aa (hI.below b1);have tL:=aa hsm;have HE:=aa he;have Rb:=zT;have HY:=aa hY;have hgs:=hY.lt_bs hgm;clear hg hs h2 hn e1 hb he hFg hK hV hI hsm hY;go_enter func149,ntmps149
 go_wp2_with (first|(go_at_call 165;refine(uq F p nodes root sl A n c bs id s _ xg h1 h3 h4 g HG HS h0 hm HE).mono ?_;rintro e w' ⟨rfl,rfl⟩))
 refine(ut ⟨0,[],0,keys,vals,kids⟩ G none B1 B2 B3 0 0 m1 d1 m2 d2 m3 d3 _ (Bt.nil _ _) HK HV HI tL).mono ?_;rintro e w1 ⟨A1,n1,c1,A2,n2,c2,A3,n3,c3,A4,n4,c4,rfl,r1,r2,r3,r4,hb1⟩;have hB1:Below w.heap.size w w1:=b1.trans (hb1.mono b1.size);obtain⟨z0,z1,z2,z3,z4,z5,z6,z7⟩:=yg (HB.below hB1);go_wp2;go_ret
 have hch:=Af w1 g 4 5 6 (.slice A2 n2 c2) (.slice A3 n3 c3) (.slice A4 n4 c4);have hx1:eF w1 (fun b=>(F b∨w.heap.size≤b)∧¬J9 p (.slice A n c) bs b) g s:=(HX.out.chg (ag.of_below (S:=Nil) hB1) (fun hf=>hf) (fun _ _ hf=>hf)).weak (fun b hb=>⟨.inl hb.1,hb.2⟩);have hYl:=HY.out;have up:∀b,From (w.alloc (.cells #[.slice B1 m1 d1,.slice B2 m2 d2,.slice B3 m3 d3] 102)).heap.size b→((F b∨w.heap.size≤b)∧¬J9 p (.slice A n c) bs b):=fun b hb=>⟨.inr (by simp only [From,World.size_alloc] at hb;omega),hYl.mut_lt (by simp only [From,World.size_alloc] at hb;omega)⟩;refine⟨rfl,⟨A,n,c,bs,(hYl.below hB1).upd HG hch (fun b hb=> .inl hb) (hx1.setBody (fun hc=>hc.2 (.inr (.inr hgm))) (r2.weak up) (r3.weak up) (r4.weak up))⟩,?_⟩;exact(ag.of_below (S:=F) hB1).trans hch (fun b _ e=>(show b=g from e)▸HF.out)
theorem Kh (F:Nat→Prop) (p:Nat) (nodes root:Int) (sl:List bB) (id:Int) (w:World) (h:gm w F p nodes sl root) (h1:1≤id) (h2:id≤sl.length) (hn:sl.length≤65536) (hr: -9223372036854775808≤root∧root≤9223372036854775807):
  Calls prog 92 #[.pointer (some ⟨p,0,none⟩),.int .i64 root,.int .i64 id] w fun e w'=>e= .returned (.tuple #[.bool true,.int .i64 0])∧gm w' F p nodes sl id∧ag F w w':=by
 obtain⟨A,n,c,bs,hY⟩:=h;have e1:n=sl.length:=hY.len;obtain⟨g,s',hg,hs',hFg,hx⟩:=hY.slot_at h1 (by omega);obtain⟨c0,c1,c2,cf⟩:=hY.cells;have zf:w.frozen? ⟨p,2,none⟩=false:=cf 2;have h3:id≤n:=by omega
 have h4:n≤65536:=by omega
 have HG:=aa hg;have HY:=aa hY;clear hg hs' h2 hn e1 hx hFg;go_enter func92,ntmps92
 go_wp2_with (first|(go_at_call 80;refine(zR F p nodes root sl A n c bs id _ HY h1 h3 h4 g HG).mono ?_;rintro e w' ⟨rfl,rfl⟩)|(go_at_call 125;refine(C6 _ _ _ _ _ c2 zf).mono ?_;rintro e w' ⟨rfl,rfl⟩))
 go_ret2
 exact⟨rfl,⟨A,n,c,bs,HY.setRoot id⟩,(ag.set1 w p 2 _).mono (fun b _ e=>(show b=p from e)▸HY.out.fp)⟩
def Ki (w:World) (nodes:Int) (e:Ending) (w':World):Prop:=
 ∃p,e= .returned (.tuple #[.pointer (some ⟨p,0,none⟩),.int .i64 0])∧gm w' (From w.heap.size) p nodes [(0,Nd.zero)] 1∧Below w.heap.size w w'
theorem uu (w:World) (t0 t1 t2:TypeId) (c0 c1 c2:Array Value):
  ai (((w.alloc (.cells c0 t0)).alloc (.cells c1 t1)).alloc (.cells c2 t2)) w.heap.size t0 c0∧ai (((w.alloc (.cells c0 t0)).alloc (.cells c1 t1)).alloc (.cells c2 t2)) (w.heap.size+1) t1 c1∧
  ai (((w.alloc (.cells c0 t0)).alloc (.cells c1 t1)).alloc (.cells c2 t2)) (w.heap.size+1+1) t2 c2∧Below w.heap.size w (((w.alloc (.cells c0 t0)).alloc (.cells c1 t1)).alloc (.cells c2 t2)):=by
 refine⟨((ai.new w t0 c0).alloc _).alloc _,?_,?_,(((Below.refl _ _).alloc (Nat.le_refl _) _).alloc (by simp) _).alloc (by simp;omega) _⟩
 ·have:=(ai.new (w.alloc (.cells c0 t0)) t1 c1).alloc (.cells c2 t2)
  simpa using this
 ·have:=ai.new ((w.alloc (.cells c0 t0)).alloc (.cells c1 t1)) t2 c2;simpa using this
theorem NT {w w1:World} {g r p:Nat} {nodes:Int} {F:Nat→Prop} (k0:ai w1 g 126 (rY 0)) (k1:ai w1 r 121 #[ptr g]) (k2:ai w1 p 120 #[.int .i64 nodes,.slice (some ⟨r,0,none⟩) 1 1,.int .i64 0]) (h0:F g) (h1:F r) (h2:F p):
  kG w1 F p nodes [(0,Nd.zero)] 0 (some ⟨r,0,none⟩) 1 1 [g]:=by
 refine⟨rfl,rfl,k2,⟨rfl,.inr ⟨r,1,#[ptr g],rfl,Nat.zero_le _,k1,Nat.le_refl _,by simp [maxLen],rfl,rfl⟩⟩,h2,fun b hb=> ?_,fun b hb=> ?_,by simp,fun i g' s hg hs=> ?_⟩
 ·have hb:r=b:=by simpa [Value.ownBlock] using hb
  exact hb▸h1
 ·have hb:b=g:=by simpa using hb
  exact hb▸h0
 ·match i with
  |0=>
   have e1:g'=g:=by simpa using hg.symm
   have e2:s=(0,Nd.zero):=by simpa using hs.symm
   subst e1;subst e2
   exact zZ _ k0
  |i+1=>simp at hg
theorem E4 (nodes:Int) (h1:1≤nodes) (h2:nodes≤65536) (w:World):Calls prog 89 #[.int .i64 nodes] w (Ki w nodes):=by
 go_enter func89,ntmps89
 go_wp2_with fail
 obtain⟨k0,k1,k2,hb⟩:=uu w 126 121 120 (rY 0) #[ptr w.heap.size] #[.int .i64 nodes,.slice (some ⟨w.heap.size+1,0,none⟩) 1 1,.int .i64 0];have hY:=NT (w:=w) (F:=From w.heap.size) k0 k1 k2 (Nat.le_refl _) (by show w.heap.size≤w.heap.size+1;omega) (by show w.heap.size≤w.heap.size+1+1;omega);have HY:=aa hY;have HB:=aa hb;refine(yj _ _ (.int .i64 0) _ _ (k2.cell 2) (k2.frozen 2)).mono ?_;clear hY hb k0 k1 k2;rintro e w1 ⟨rfl,hw1⟩;have q1:gm w1 (From w.heap.size) (w.heap.size+1+1) nodes [(0,Nd.zero)] 1:=by rw [←hw1];exact⟨_,_,_,_,HY.setRoot 1⟩
 have q2:Below w.heap.size w w1:=by rw [←hw1];exact HB.setCell (p:=⟨w.heap.size+1+1,2,none⟩) (by show w.heap.size≤w.heap.size+1+1;omega) _
 clear hw1;go_wp2;go_ret2
 exact⟨_,rfl,q1,q2⟩
end
end Go.Proofs.YtbjgeidjmhialaaGreatDoor
