/- Part 15. -/
import Derived.Test.YtepgcjbhabnciaaGreatLe12
namespace Go.Proofs.YtepgcjbhabnciaaGreat
set_option maxRecDepth 100000
set_option maxHeartbeats 8000000
open Go.Proofs.Tryz Go.RowKit
theorem oQ {S:Nat->Prop} {w w2:World} {o:Obj} (h:ag S (w.alloc o) w2):w.heap.size+1<=w2.heap.size:=by have:=h.size;simpa using this
theorem NB (more:Bool) (F G:Nat->Prop) (p mm:Nat) (nodes root:Int) (sl:List bR) (nd:Nd) (k Q vA c:Option Addr) (hn hc n j vn vc a t:Nat) (w:World)
  (hx:gM w F p nodes sl root) (hf:(sl.length:Int)<nodes) (ac:nodes<=65536) (hm:aj w mm 193 #[.pointer (some ⟨p,0,none⟩),.bool false]) (Nz:¬F mm)
  (m:Bt w G k hn hc nd.high) (h2:Tx w G Q n j nd.keys) (h3:Tx w G vA vn vc nd.vals) (h4:It w G c a t nd.kids) (hG:∀b,G b->¬F b/\b≠mm) (x:Small nd) (rt:Int) (ab:rt=if more then(sl.length:Int)+1+1 else nd.right):
  Calls prog 145 #[.pointer (some ⟨mm,0,none⟩),.agg #[.int .i64 nd.lev,.slice k hn hc,.int .i64 nd.right,.slice Q n j,.slice vA vn vc,.slice c a t],.bool more] w
   (vJ w F p mm nodes root (sl++ [(2,⟨nd.lev,nd.high,rt,nd.keys,nd.vals,nd.kids⟩)]) ((sl.length:Int)+1)):=by
 have b1:Below w.heap.size w (w.alloc (.cells #[.int .i64 nd.lev,.slice k hn hc,.int .i64 nd.right,.slice Q n j,.slice vA vn vc,.slice c a t] 132)):=(Below.refl _ _).alloc (Nat.le_refl _) _;have HX:=aa ((show gM w (aQ F w) p nodes _ root from hx.lt).below b1);have HM:=aa (hm.below b1);have HB:=aa (aj.new w 132 #[.int .i64 nd.lev,.slice k hn hc,.int .i64 nd.right,.slice Q n j,.slice vA vn vc,.slice c a t])
 obtain⟨m0,m1,mf⟩:(w.alloc (.cells #[.int .i64 nd.lev,.slice k hn hc,.int .i64 nd.right,.slice Q n j,.slice vA vn vc,.slice c a t] 132)).cell? ⟨mm,0,none⟩=some (.pointer (some ⟨p,0,none⟩))/\(w.alloc (.cells #[.int .i64 nd.lev,.slice k hn hc,.int .i64 nd.right,.slice Q n j,.slice vA vn vc,.slice c a t] 132)).cell? ⟨mm,1,none⟩=some (.bool false)/\jo w mm:=
  ⟨by rw [HM.out.cell];rfl,by rw [HM.out.cell];rfl,hm.soft⟩
 have Pb:=hm.lt;have H1:=aa (show Bt w (aQ G w) k hn hc nd.high from m.lt);have H2:=aa (show Tx w (aQ G w) Q n j nd.keys from h2.lt);have H3:=aa (show Tx w (aQ G w) vA vn vc nd.vals from h3.lt);have H4:=aa (show It w (aQ G w) c a t nd.kids from h4.lt);have D:=aa x;clear hx hm m h2 h3 h4 x;have AL:=aa (Mh (aQ F w) p nodes root sl _ HX hf ac)
 cases more
 ·go_enter func145,ntmps145
  go_wp2_with (first|(go_at_call 179;go_loud (refine AL.out.mono ?_;rintro e w2 ⟨rfl,L,l⟩;have uG:=aa L.grown;have bB:=aa l;have qj:=aa (HM.chg l (fun h=>Nz h.1));have r:=aa (HB.chg l (fun h=>by have:=h.2;omega));have z2:w.heap.size+1<=w2.heap.size:=oQ l;have n2:w2.cell? ⟨w.heap.size,2,none⟩=some (.int .i64 nd.right):=(r.out.cell _).trans rfl;have Zi:∀o,w2.frozen? ⟨w.heap.size,o,none⟩=false:=r.out.frozen;have e1:=IntWalk.i64_in ((sl.length:Int)+1+1) (by omega);clear L l)))
  have U:=qj;have B:=r;have Y:=uG;have C:Hid (ag (fun b=>(aQ F w b\/b=mm)\/w.heap.size<=b) w w2):=aa ((ag.of_below b1).trans bB (fun b _ h=> .inl (.inl h)));have y:(1:Int)<=(sl.length:Int)+1:=by omega
  have z:((sl.length:Int)+1)<=((sl++ [(1,Nd.zero)]:List bR).length:Int):=by simp
  have W:(sl++ [(1,Nd.zero)]:List bR).length<=65536:=by simp;omega
  have H:((sl.length:Int)+1).toNat-1=sl.length:=by omega
  have A:(sl++ [(1,Nd.zero)]:List bR)[((sl.length:Int)+1).toNat-1]? =some (1,Nd.zero):=by rw [H];simp
  have J:(sl++ [(1,Nd.zero)]:List bR).set (((sl.length:Int)+1).toNat-1) (2,⟨nd.lev,nd.high,nd.right,nd.keys,nd.vals,nd.kids⟩)=sl++ [(2,⟨nd.lev,nd.high,rt,nd.keys,nd.vals,nd.kids⟩)]:=by rw [ab,H];simp
  have s:∀b,Grown (aQ F w) (w.alloc (.cells #[.int .i64 nd.lev,.slice k hn hc,.int .i64 nd.right,.slice Q n j,.slice vA vn vc,.slice c a t] 132)) w2 b->aQ F w b\/(w.heap.size<b/\b<(w2).heap.size):=fun b h=>h.elim .inl (fun h=>by have m:=h.1;have h2:=h.2;simp at m;exact .inr ⟨by omega,by exact h2⟩);clear b1 HX HM HB uG bB qj r n2 Zi m0 m1 mf AL;obtain⟨q,Zj⟩:∃q,q=Grown (aQ F w) (w.alloc (.cells #[.int .i64 nd.lev,.slice k hn hc,.int .i64 nd.right,.slice Q n j,.slice vA vn vc,.slice c a t] 132)) w2:=⟨_,rfl⟩;rw [<-Zj] at Y s;clear Zj
  --the slot is held:the head,the body,the NA
  have R:(w2).cell? ⟨mm,0,none⟩=some (.pointer (some ⟨p,0,none⟩)):=by rw [U.out.cell];rfl
  have x0:(w2).cell? ⟨w.heap.size,0,none⟩=some (.int .i64 nd.lev):=by rw [B.out.cell];rfl
  have x1:(w2).cell? ⟨w.heap.size,1,none⟩=some (.slice k hn hc):=by rw [B.out.cell];rfl
  have x2:(w2).cell? ⟨w.heap.size,2,none⟩=some (.int .i64 nd.right):=by rw [B.out.cell];rfl
  have x3:(w2).cell? ⟨w.heap.size,3,none⟩=some (.slice Q n j):=by rw [B.out.cell];rfl
  have x4:(w2).cell? ⟨w.heap.size,4,none⟩=some (.slice vA vn vc):=by rw [B.out.cell];rfl
  have x5:(w2).cell? ⟨w.heap.size,5,none⟩=some (.slice c a t):=by rw [B.out.cell];rfl
  obtain⟨V,hV⟩:∃V,V=w2:=⟨_,rfl⟩;rw [<-hV] at s R x0 x1 x2 x3 x4 x5 U B Y C|-;clear hV;have zV:=C.out.size;have S:∀b,aQ G w b->¬((aQ F w b\/b=mm)\/w.heap.size<=b):=fun b g h=>h.elim (fun h=>h.elim (fun h=>(hG b g.1).1 h.1) (hG b g.1).2) (fun h=>by have:=g.2;omega);have T1:=aa ((H1.chg C S).below (Below.refl _ _).drew);have T2:=aa ((H2.chg C S).below (Below.refl _ _).drew);have T3:=aa ((H3.chg C S).below (Below.refl _ _).drew);have T4:=aa ((H4.chg C S).below (Below.refl _ _).drew);have gF:∀b,aQ G w b->¬q b:=fun b g h=>(s b h).elim (fun h=>(hG b g.1).1 h.1) (fun h=>by have:=g.2;omega);have nm:¬q mm:=fun h=>(s _ h).elim (fun h=>Nz h.1) (fun h=>by omega);have nb:¬q w.heap.size:=fun h=>(s _ h).elim (fun h=>by have:=h.2;omega) (fun h=>by omega);refine aS (fun w'=>w'.cell? ⟨mm,0,none⟩=some (.pointer (some ⟨p,0,none⟩))/\w'.cell? ⟨w.heap.size,0,none⟩=some (.int .i64 nd.lev)/\w'.cell? ⟨w.heap.size,1,none⟩=some (.slice k hn hc)/\w'.cell? ⟨w.heap.size,2,none⟩=some (.int .i64 nd.right)) 7 (by kernel_rfl) ?_;have u:V.drew.cell? ⟨mm,0,none⟩=some (.pointer (some ⟨p,0,none⟩))/\V.drew.cell? ⟨w.heap.size,0,none⟩=some (.int .i64 nd.lev)/\V.drew.cell? ⟨w.heap.size,1,none⟩=some (.slice k hn hc)/\V.drew.cell? ⟨w.heap.size,2,none⟩=some (.int .i64 nd.right):=⟨R,x0,x1,x2⟩;refine uF 0 (fun _=>u) ?_;refine uF 1 (fun _=>u) ?_;refine uF 2 (fun _=>u) ?_;refine uF 4 (fun _=>u) ?_;refine uF 5 (fun _=>u) ?_;refine uT 3 u ?_;refine uT 6 u ?_;refine aH (i:=7) (by kernel_rfl) rfl (fun K E=> ?_);go_simp
  refine(lM q p nodes root (sl++ [(1,Nd.zero)]) ((sl.length:Int)+1) (1,Nd.zero) V.drew Y.drew y z W A (by simp) (by simp) (by simp) (aQ G w) k hn hc nd.lev nd.right nd.high T1.out D.1).mono ?_;rintro e f ⟨rfl,M,d⟩;refine E.out _ _ (fun h=>absurd h (by decide)) ?_;clear E K;try simp only [aL,aN,aZ,aC]
  refine bS (by kernel_rfl) ?_ _;have QH:=aa M.grown;have fV:=aa d;have Z:=d.cell nm R;have U3:=d.cell nb x3;have U4:=d.cell nb x4;have U5:=d.cell nb x5;have V2:=aa ((T2.out.chg d gF).below (Below.refl _ _).drew);have V3:=aa ((T3.out.chg d gF).below (Below.refl _ _).drew);have V4:=aa ((T4.out.chg d gF).below (Below.refl _ _).drew);have z4:V.heap.size<=f.heap.size:=d.size;have mO:=aa (U.drew.chg d nm);clear M d u R x0 x1 x2 x3 x4 x5;go_wp2_with fail
  refine aS (fun w'=>w'.cell? ⟨mm,0,none⟩=some (.pointer (some ⟨p,0,none⟩))/\w'.cell? ⟨w.heap.size,3,none⟩=some (.slice Q n j)/\w'.cell? ⟨w.heap.size,4,none⟩=some (.slice vA vn vc)/\w'.cell? ⟨w.heap.size,5,none⟩=some (.slice c a t)) 7 (by kernel_rfl) ?_;have v:f.drew.cell? ⟨mm,0,none⟩=some (.pointer (some ⟨p,0,none⟩))/\f.drew.cell? ⟨w.heap.size,3,none⟩=some (.slice Q n j)/\f.drew.cell? ⟨w.heap.size,4,none⟩=some (.slice vA vn vc)/\f.drew.cell? ⟨w.heap.size,5,none⟩=some (.slice c a t):=⟨Z,U3,U4,U5⟩;refine uF 0 (fun _=>v) ?_;refine uF 1 (fun _=>v) ?_;refine uF 2 (fun _=>v) ?_;refine uF 4 (fun _=>v) ?_;refine uF 5 (fun _=>v) ?_;refine uT 3 v ?_;refine uT 6 v ?_;refine aH (i:=7) (by kernel_rfl) rfl (fun K E=> ?_);go_simp
  refine(lN (Grown q V.drew f) p nodes root _ ((sl.length:Int)+1) (1,⟨nd.lev,nd.high,nd.right,[],[],[]⟩) f.drew QH.drew y (by rw [List.length_set];exact z) (by rw [List.length_set];exact W) (by rw [List.getElem?_set_self (List.getElem?_eq_some_iff.1 A).1];rfl) (by simp) (by simp) (by simp) (aQ G w) Q vA c n j vn vc a t nd.keys nd.vals nd.kids V2.out V3.out V4.out ⟨by simp,D.2.1,D.2.2.1,D.2.2.2.1,D.2.2.2.2.1,D.2.2.2.2.2⟩).mono ?_;rintro e w5 ⟨rfl,N,P⟩;refine E.out _ _ (fun h=>absurd h (by decide)) ?_;clear E K;try simp only [aL,aN,aZ,aC]
  refine bS (by kernel_rfl) ?_ _;have X:¬Grown q V.drew f mm:=fun h=>h.elim nm (fun h=>by have m:V.heap.size<=mm:=h.1;omega);have oI:=aa N.grown;have dF:=aa P;have W0:=P.cell X Z;have vK:=aa (mO.drew.chg P X);have z5:f.heap.size<=w5.heap.size:=P.size;clear N P v Z U3 U4 U5;have UL:=aa (j5 (Grown (Grown q V.drew f) f.drew w5) p nodes root _ ((sl.length:Int)+1) (1,⟨nd.lev,nd.high,nd.right,nd.keys,nd.vals,nd.kids⟩) _ oI y (by rw [List.length_set,List.length_set];exact z) (by rw [List.length_set,List.length_set];exact W) (by rw [List.set_set,List.getElem?_set_self (List.getElem?_eq_some_iff.1 A).1]) (by simp) (by simp) (by simp));go_wp2_with (go_at_call 182;refine UL.out.mono ?_;rintro e w6 ⟨rfl,O,I⟩;have UM:=aa O;have dV:=aa I;clear O I)
  go_ret
  have z6:=dV.out.size
  refine⟨rfl,?_,vK.chg dV (fun h=>h.elim X (fun h=>by have m:f.heap.size<=mm:=h.1;omega)),?_⟩
  ·have h:=UM.out;rw [List.set_set,List.set_set] at h;rw [<-J]
   exact h.weak (fun b g=>g.elim (fun h=>h.elim (fun h=>(s b h).elim (fun h=> .inl h.1) (fun h=> .inr ⟨by omega,by omega⟩)) (fun h=>by have m:V.heap.size<=b:=h.1;exact .inr ⟨by omega,by omega⟩)) (fun h=>by have m:f.heap.size<=b:=h.1;exact .inr ⟨by omega,by omega⟩))
  ·refine(((C.mono (T:=fun b=>F b\/b=mm) (fun b g h=>h.elim (fun h=>h.elim (fun h=> .inl h.1) .inr) (fun h=>absurd h (by omega)))).drew.trans fV (fun b g h=>(s b h).elim (fun h=> .inl h.1) (fun h=>by omega))).drew.trans dF (fun b g h=>h.elim (fun h=>(s b h).elim (fun h=> .inl h.1) (fun h=>by omega)) (fun h=>by have m:V.heap.size<=b:=h.1;omega))).trans dV (fun b g h=>h.elim (fun h=>h.elim (fun h=>(s b h).elim (fun h=> .inl h.1) (fun h=>by omega)) (fun h=>by have m:V.heap.size<=b:=h.1;omega)) (fun h=>by have m:f.heap.size<=b:=h.1;omega))
 ·go_enter func145,ntmps145
  go_wp2_with (first|(go_at_call 179;go_loud (refine AL.out.mono ?_;rintro e w2 ⟨rfl,L,l⟩;have uG:=aa L.grown;have bB:=aa l;have qj:=aa (HM.chg l (fun h=>Nz h.1));have r:=aa (HB.chg l (fun h=>by have:=h.2;omega));have z2:w.heap.size+1<=w2.heap.size:=oQ l;have n2:w2.cell? ⟨w.heap.size,2,none⟩=some (.int .i64 nd.right):=(r.out.cell _).trans rfl;have Zi:∀o,w2.frozen? ⟨w.heap.size,o,none⟩=false:=r.out.frozen;have e1:=IntWalk.i64_in ((sl.length:Int)+1+1) (by omega);clear L l)))
  have U:Hid (aj (w2.setCell ⟨w.heap.size,2,none⟩ (.int .i64 ((sl.length:Int)+1+1))) mm 193 #[.pointer (some ⟨p,0,none⟩),.bool false]):=aa (aj.far qj (p:=⟨w.heap.size,2,none⟩) (Nat.ne_of_lt Pb) _);have B:Hid (aj (w2.setCell ⟨w.heap.size,2,none⟩ (.int .i64 ((sl.length:Int)+1+1))) w.heap.size 132 #[.int .i64 nd.lev,.slice k hn hc,.int .i64 ((sl.length:Int)+1+1),.slice Q n j,.slice vA vn vc,.slice c a t]):=aa (r.set_ 2 _);have Y:Hid (gM (w2.setCell ⟨w.heap.size,2,none⟩ (.int .i64 ((sl.length:Int)+1+1))) (Grown (aQ F w) (w.alloc (.cells #[.int .i64 nd.lev,.slice k hn hc,.int .i64 nd.right,.slice Q n j,.slice vA vn vc,.slice c a t] 132)) w2) p nodes (sl++ [(1,Nd.zero)]) root):=aa (uG.chg (ag.set1 _ w.heap.size 2 _) (fun b g e=>by have e:b=w.heap.size:=e;exact g.elim (fun h=>by have:=h.2;omega) (fun h=>by have m:=h.1;simp at m;omega)));have C:Hid (ag (fun b=>(aQ F w b\/b=mm)\/w.heap.size<=b) w (w2.setCell ⟨w.heap.size,2,none⟩ (.int .i64 ((sl.length:Int)+1+1)))):=aa (((ag.of_below b1).trans bB (fun b _ h=> .inl (.inl h))).setCell (p:=⟨w.heap.size,2,none⟩) (fun _=> .inr (Nat.le_refl _)) _);have y:(1:Int)<=(sl.length:Int)+1:=by omega
  have z:((sl.length:Int)+1)<=((sl++ [(1,Nd.zero)]:List bR).length:Int):=by simp
  have W:(sl++ [(1,Nd.zero)]:List bR).length<=65536:=by simp;omega
  have H:((sl.length:Int)+1).toNat-1=sl.length:=by omega
  have A:(sl++ [(1,Nd.zero)]:List bR)[((sl.length:Int)+1).toNat-1]? =some (1,Nd.zero):=by rw [H];simp
  have J:(sl++ [(1,Nd.zero)]:List bR).set (((sl.length:Int)+1).toNat-1) (2,⟨nd.lev,nd.high,((sl.length:Int)+1+1),nd.keys,nd.vals,nd.kids⟩)=sl++ [(2,⟨nd.lev,nd.high,rt,nd.keys,nd.vals,nd.kids⟩)]:=by rw [ab,H];simp
  have s:∀b,Grown (aQ F w) (w.alloc (.cells #[.int .i64 nd.lev,.slice k hn hc,.int .i64 nd.right,.slice Q n j,.slice vA vn vc,.slice c a t] 132)) w2 b->aQ F w b\/(w.heap.size<b/\b<(w2.setCell ⟨w.heap.size,2,none⟩ (.int .i64 ((sl.length:Int)+1+1))).heap.size):=fun b h=>h.elim .inl (fun h=>by have m:=h.1;have h2:=h.2;simp at m;exact .inr ⟨by omega,by simpa [World.setCell] using h2⟩);clear b1 HX HM HB uG bB qj r n2 Zi m0 m1 mf AL;obtain⟨q,Zj⟩:∃q,q=Grown (aQ F w) (w.alloc (.cells #[.int .i64 nd.lev,.slice k hn hc,.int .i64 nd.right,.slice Q n j,.slice vA vn vc,.slice c a t] 132)) w2:=⟨_,rfl⟩;rw [<-Zj] at Y s;clear Zj
  --the slot is held:the head,the body,the NA
  have R:(w2.setCell ⟨w.heap.size,2,none⟩ (.int .i64 ((sl.length:Int)+1+1))).cell? ⟨mm,0,none⟩=some (.pointer (some ⟨p,0,none⟩)):=by rw [U.out.cell];rfl
  have x0:(w2.setCell ⟨w.heap.size,2,none⟩ (.int .i64 ((sl.length:Int)+1+1))).cell? ⟨w.heap.size,0,none⟩=some (.int .i64 nd.lev):=by rw [B.out.cell];rfl
  have x1:(w2.setCell ⟨w.heap.size,2,none⟩ (.int .i64 ((sl.length:Int)+1+1))).cell? ⟨w.heap.size,1,none⟩=some (.slice k hn hc):=by rw [B.out.cell];rfl
  have x2:(w2.setCell ⟨w.heap.size,2,none⟩ (.int .i64 ((sl.length:Int)+1+1))).cell? ⟨w.heap.size,2,none⟩=some (.int .i64 ((sl.length:Int)+1+1)):=by rw [B.out.cell];rfl
  have x3:(w2.setCell ⟨w.heap.size,2,none⟩ (.int .i64 ((sl.length:Int)+1+1))).cell? ⟨w.heap.size,3,none⟩=some (.slice Q n j):=by rw [B.out.cell];rfl
  have x4:(w2.setCell ⟨w.heap.size,2,none⟩ (.int .i64 ((sl.length:Int)+1+1))).cell? ⟨w.heap.size,4,none⟩=some (.slice vA vn vc):=by rw [B.out.cell];rfl
  have x5:(w2.setCell ⟨w.heap.size,2,none⟩ (.int .i64 ((sl.length:Int)+1+1))).cell? ⟨w.heap.size,5,none⟩=some (.slice c a t):=by rw [B.out.cell];rfl
  obtain⟨V,hV⟩:∃V,V=w2.setCell ⟨w.heap.size,2,none⟩ (.int .i64 ((sl.length:Int)+1+1)):=⟨_,rfl⟩;rw [<-hV] at s R x0 x1 x2 x3 x4 x5 U B Y C|-;clear hV;have zV:=C.out.size;have S:∀b,aQ G w b->¬((aQ F w b\/b=mm)\/w.heap.size<=b):=fun b g h=>h.elim (fun h=>h.elim (fun h=>(hG b g.1).1 h.1) (hG b g.1).2) (fun h=>by have:=g.2;omega);have T1:=aa ((H1.chg C S).below (Below.refl _ _).drew);have T2:=aa ((H2.chg C S).below (Below.refl _ _).drew);have T3:=aa ((H3.chg C S).below (Below.refl _ _).drew);have T4:=aa ((H4.chg C S).below (Below.refl _ _).drew);have gF:∀b,aQ G w b->¬q b:=fun b g h=>(s b h).elim (fun h=>(hG b g.1).1 h.1) (fun h=>by have:=g.2;omega);have nm:¬q mm:=fun h=>(s _ h).elim (fun h=>Nz h.1) (fun h=>by omega);have nb:¬q w.heap.size:=fun h=>(s _ h).elim (fun h=>by have:=h.2;omega) (fun h=>by omega);refine aS (fun w'=>w'.cell? ⟨mm,0,none⟩=some (.pointer (some ⟨p,0,none⟩))/\w'.cell? ⟨w.heap.size,0,none⟩=some (.int .i64 nd.lev)/\w'.cell? ⟨w.heap.size,1,none⟩=some (.slice k hn hc)/\w'.cell? ⟨w.heap.size,2,none⟩=some (.int .i64 ((sl.length:Int)+1+1))) 7 (by kernel_rfl) ?_;have u:V.drew.cell? ⟨mm,0,none⟩=some (.pointer (some ⟨p,0,none⟩))/\V.drew.cell? ⟨w.heap.size,0,none⟩=some (.int .i64 nd.lev)/\V.drew.cell? ⟨w.heap.size,1,none⟩=some (.slice k hn hc)/\V.drew.cell? ⟨w.heap.size,2,none⟩=some (.int .i64 ((sl.length:Int)+1+1)):=⟨R,x0,x1,x2⟩;refine uF 0 (fun _=>u) ?_;refine uF 1 (fun _=>u) ?_;refine uF 2 (fun _=>u) ?_;refine uF 4 (fun _=>u) ?_;refine uF 5 (fun _=>u) ?_;refine uT 3 u ?_;refine uT 6 u ?_;refine aH (i:=7) (by kernel_rfl) rfl (fun K E=> ?_);go_simp
  refine(lM q p nodes root (sl++ [(1,Nd.zero)]) ((sl.length:Int)+1) (1,Nd.zero) V.drew Y.drew y z W A (by simp) (by simp) (by simp) (aQ G w) k hn hc nd.lev ((sl.length:Int)+1+1) nd.high T1.out D.1).mono ?_;rintro e f ⟨rfl,M,d⟩;refine E.out _ _ (fun h=>absurd h (by decide)) ?_;clear E K;try simp only [aL,aN,aZ,aC]
  refine bS (by kernel_rfl) ?_ _;have QH:=aa M.grown;have fV:=aa d;have Z:=d.cell nm R;have U3:=d.cell nb x3;have U4:=d.cell nb x4;have U5:=d.cell nb x5;have V2:=aa ((T2.out.chg d gF).below (Below.refl _ _).drew);have V3:=aa ((T3.out.chg d gF).below (Below.refl _ _).drew);have V4:=aa ((T4.out.chg d gF).below (Below.refl _ _).drew);have z4:V.heap.size<=f.heap.size:=d.size;have mO:=aa (U.drew.chg d nm);clear M d u R x0 x1 x2 x3 x4 x5;go_wp2_with fail
  refine aS (fun w'=>w'.cell? ⟨mm,0,none⟩=some (.pointer (some ⟨p,0,none⟩))/\w'.cell? ⟨w.heap.size,3,none⟩=some (.slice Q n j)/\w'.cell? ⟨w.heap.size,4,none⟩=some (.slice vA vn vc)/\w'.cell? ⟨w.heap.size,5,none⟩=some (.slice c a t)) 7 (by kernel_rfl) ?_;have v:f.drew.cell? ⟨mm,0,none⟩=some (.pointer (some ⟨p,0,none⟩))/\f.drew.cell? ⟨w.heap.size,3,none⟩=some (.slice Q n j)/\f.drew.cell? ⟨w.heap.size,4,none⟩=some (.slice vA vn vc)/\f.drew.cell? ⟨w.heap.size,5,none⟩=some (.slice c a t):=⟨Z,U3,U4,U5⟩;refine uF 0 (fun _=>v) ?_;refine uF 1 (fun _=>v) ?_;refine uF 2 (fun _=>v) ?_;refine uF 4 (fun _=>v) ?_;refine uF 5 (fun _=>v) ?_;refine uT 3 v ?_;refine uT 6 v ?_;refine aH (i:=7) (by kernel_rfl) rfl (fun K E=> ?_);go_simp
  refine(lN (Grown q V.drew f) p nodes root _ ((sl.length:Int)+1) (1,⟨nd.lev,nd.high,((sl.length:Int)+1+1),[],[],[]⟩) f.drew QH.drew y (by rw [List.length_set];exact z) (by rw [List.length_set];exact W) (by rw [List.getElem?_set_self (List.getElem?_eq_some_iff.1 A).1];rfl) (by simp) (by simp) (by simp) (aQ G w) Q vA c n j vn vc a t nd.keys nd.vals nd.kids V2.out V3.out V4.out ⟨by simp,D.2.1,D.2.2.1,D.2.2.2.1,D.2.2.2.2.1,D.2.2.2.2.2⟩).mono ?_;rintro e w5 ⟨rfl,N,P⟩;refine E.out _ _ (fun h=>absurd h (by decide)) ?_;clear E K;try simp only [aL,aN,aZ,aC]
  refine bS (by kernel_rfl) ?_ _;have X:¬Grown q V.drew f mm:=fun h=>h.elim nm (fun h=>by have m:V.heap.size<=mm:=h.1;omega);have oI:=aa N.grown;have dF:=aa P;have W0:=P.cell X Z;have vK:=aa (mO.drew.chg P X);have z5:f.heap.size<=w5.heap.size:=P.size;clear N P v Z U3 U4 U5;have UL:=aa (j5 (Grown (Grown q V.drew f) f.drew w5) p nodes root _ ((sl.length:Int)+1) (1,⟨nd.lev,nd.high,((sl.length:Int)+1+1),nd.keys,nd.vals,nd.kids⟩) _ oI y (by rw [List.length_set,List.length_set];exact z) (by rw [List.length_set,List.length_set];exact W) (by rw [List.set_set,List.getElem?_set_self (List.getElem?_eq_some_iff.1 A).1]) (by simp) (by simp) (by simp));go_wp2_with (go_at_call 182;refine UL.out.mono ?_;rintro e w6 ⟨rfl,O,I⟩;have UM:=aa O;have dV:=aa I;clear O I)
  go_ret
  have z6:=dV.out.size
  refine⟨rfl,?_,vK.chg dV (fun h=>h.elim X (fun h=>by have m:f.heap.size<=mm:=h.1;omega)),?_⟩
  ·have h:=UM.out;rw [List.set_set,List.set_set] at h;rw [<-J]
   exact h.weak (fun b g=>g.elim (fun h=>h.elim (fun h=>(s b h).elim (fun h=> .inl h.1) (fun h=> .inr ⟨by omega,by omega⟩)) (fun h=>by have m:V.heap.size<=b:=h.1;exact .inr ⟨by omega,by omega⟩)) (fun h=>by have m:f.heap.size<=b:=h.1;exact .inr ⟨by omega,by omega⟩))
  ·refine(((C.mono (T:=fun b=>F b\/b=mm) (fun b g h=>h.elim (fun h=>h.elim (fun h=> .inl h.1) .inr) (fun h=>absurd h (by omega)))).drew.trans fV (fun b g h=>(s b h).elim (fun h=> .inl h.1) (fun h=>by omega))).drew.trans dF (fun b g h=>h.elim (fun h=>(s b h).elim (fun h=> .inl h.1) (fun h=>by omega)) (fun h=>by have m:V.heap.size<=b:=h.1;omega))).trans dV (fun b g h=>h.elim (fun h=>h.elim (fun h=>(s b h).elim (fun h=> .inl h.1) (fun h=>by omega)) (fun h=>by have m:V.heap.size<=b:=h.1;omega)) (fun h=>by have m:f.heap.size<=b:=h.1;omega))
section
def bz (w:World) (F:Nat->Prop) (A:Option Addr) (n:Nat) (l:List aK):Prop:=
 Hid (n=l.length)/\∃vs,Rd w F 2 A n vs/\∀(i:Nat) (e:aK),l[i]? =some e->∃u v,vs[2*i]? =some u/\vs[2*i+1]? =some v/\SB w F u e.1/\SB w F v e.2
section
variable {S F G:Nat->Prop} {w w':World} {A:Option Addr} {n:Nat} {l:List aK}
theorem bz.len (h:bz w F A n l):n=l.length:=h.1
theorem bz.nil (w:World) (F:Nat->Prop) (A:Option Addr):bz w F A 0 []:=⟨rfl,[],Rd.none_ _ _ _ _,fun i e h=>by simp at h⟩
theorem bz.weak (h:bz w F A n l) (k:∀b,F b->G b):bz w G A n l:=
 let⟨f,vs,g,j⟩:=h;⟨f,vs,g.weak k,fun i e m=>let⟨u,v,a,b,c,d⟩:=j i e m;⟨u,v,a,b,c.weak k,d.weak k⟩⟩
theorem bz.chg (h:bz w F A n l) (y:ag S w w') (K:∀b,F b->¬S b):bz w' F A n l:=
 let⟨f,vs,g,j⟩:=h;⟨f,vs,g.chg y K,fun i e k=>let⟨u,v,a,b,c,d⟩:=j i e k;⟨u,v,a,b,c.chg y K,d.chg y K⟩⟩
theorem bz.below (h:bz w F A n l) (a:Below w.heap.size w w'):bz w' F A n l:=h.chg (ag.of_below (S:=Nil) a) (fun _ _ b=>b)
theorem bz.at_ {k:Nat} (h:bz w F A n l) (z:k<n):∃b o g c e i d f key val,A=some ⟨b,o,none⟩/\F b/\l[k]? =some (key,val)/\
  w.cell? ⟨b,o+k*2,none⟩=some (.slice g c e)/\w.cell? ⟨b,o+k*2+1,none⟩=some (.slice i d f)/\
  c<=e/\e<=maxLen/\Hid (c=key.length)/\Rd w F 1 g c (aF key)/\d<=f/\f<=maxLen/\Hid (d=val.length)/\Rd w F 1 i d (aF val):=by
 obtain⟨r,vs,s,t⟩:=h;have hl:k<l.length:=by have:n=l.length:=r;omega
 obtain⟨b,o,u,v,x,y,p,q,c1,m⟩:=s.at2 z;obtain⟨J,K,j,a,D,E⟩:=t k l[k] (List.getElem?_eq_getElem hl);rw [p] at j;rw [q] at a;injection j with j;injection a with a
 subst j;subst a;obtain⟨g,c,e,rfl,k1,k2,B,C⟩:=D;obtain⟨i,d,f,rfl,G,v2,H,I⟩:=E;rw [Nat.mul_comm 2 k] at c1 m;rw [<-Nat.add_assoc] at m;exact⟨b,o,g,c,e,i,d,f,l[k].1,l[k].2,x,y,List.getElem?_eq_getElem hl,c1,m,k1,k2,B,C,G,v2,H,I⟩
end
end
section
def kR (w:World) (F:Nat->Prop) (xs:List Value) (most k:Nat) (vals:List Value):Prop:=
 ∀i,i<k->∃A c,vals[i]? =some (.slice A most c)/\most<=c/\c<=maxLen/\Rd w F 2 A most ((xs.drop (i*most*2)).take (most*2))
section
variable {S F G:Nat->Prop} {w w':World} {xs vals:List Value} {most k:Nat}
theorem kR.chg (h:kR w F xs most k vals) (y:ag S w w') (K:∀b,F b->¬S b):kR w' F xs most k vals:=fun i hi=>let⟨A,c,a,b,d,e⟩:=h i hi;⟨A,c,a,b,d,e.chg y K⟩
theorem kR.below (h:kR w F xs most k vals) (a:Below w.heap.size w w'):kR w' F xs most k vals:=h.chg (S:=Nil) (ag.of_below a) (fun _ _ b=>b)
theorem kR.push (h:kR w F xs most k vals) (hl:vals.length=k) {A:Option Addr} {c:Nat} (b:most<=c) (e:c<=maxLen) (f:Rd w F 2 A most ((xs.drop (k*most*2)).take (most*2))):kR w F xs most (k+1) (vals++ [.slice A most c]):=by
 intro i hi
 rcases Nat.lt_or_ge i k with a|a
 ·obtain⟨B,d,g,j⟩:=h i a
  exact⟨B,d,by rw [List.getElem?_append_left (by omega)];exact g,j⟩
 ·obtain rfl:i=k:=by omega
  exact⟨A,c,by rw [List.getElem?_append_right (by omega),hl];simp,b,e,f⟩
end
def Di (t:TypeId) (w:World) (F:Nat->Prop) (n:Nat) (xs:List Value) (most:Nat) (e:Ending) (w':World):Prop:=
 ∃K vals A m c v,e= .returned v/\w'.ownsRow w.heap.size t 1 v (K+1) (vals++ [.slice A m c])/\vals.length=K/\kR w' F xs most K vals/\
  n=K*most+m/\m<=most/\(K=0\/0<m)/\m<=c/\c<=maxLen/\Rd w' F 2 A m (xs.drop (K*most*2))/\Below w.heap.size w w'
theorem JI:(prog.info? 58).map (fun i=>(i.zero,i.size,i.bytes))=some (some (.slice none 0 0),1,24):=by kernel_rfl
theorem JJ:(prog.info? 194).map (fun i=>(i.zero,i.size,i.bytes))=some (some (.slice none 0 0),1,24):=by kernel_rfl
theorem Dj (A:Option Addr) (n c:Nat) (most:Nat) (F:Nat->Prop) (xs:List Value) (w:World) (h:Rd w F 2 A n xs) (Q:n<=c) (P:c<=maxLen) (e:1<=most) (ad:most<=1152921504606) (K:n<=1152921504606):
  Calls prog 143 #[.slice A n c,.int .i64 most] w (Di 58 w F n xs most):=by
 obtain⟨S,y,U,V,W⟩:=info_parts JI;have Y:=aa h;clear h;go_enter func143,ntmps143
 go_wp2
 go_loopg [0,5] n (fun g l vs wr=>∃(k m f:Nat) (v:Value) (vals:List Value) (B:Option Addr),g=m/\Hid (n=k*most+m)/\k<=n/\l= .slice B m f/\v=vs/\m<=f/\f<=maxLen/\(k=0\/0<m)/\wr.ownsRow w.heap.size 58 1 v k vals/\kR w F xs most k vals/\Rd w F 2 B m (xs.drop (k*most*2))/\Below w.heap.size w wr)
 case atStart=>exact⟨0,n,c,_,[],A,rfl,aa (by omega),by omega,rfl,rfl,Q,P,.inl rfl,World.ownsRow_nil _ _ _ _,fun i hi=>absurd hi (by omega),by simpa using Y.out,Below.refl _ _⟩
 case round=>
  obtain⟨k,m,f,v,vals,B,R,s,ab,rfl,rfl,z,x,I,d,H,p,r⟩:=hrel;have X:=aa R;have t:=aa d;have M:=aa H;have G:=aa p;have C:=r.size;simp only [maxLen] at x;clear R
  by_cases ac:most<m
  ·obtain⟨b,o,rfl,BM,_⟩:=p.2 (by omega);have J:¬f=most:=by omega
   clear d H p;go_wp2_with (at_builtin;refine af _ rfl (.tmp 10) (.tmp 15) _ rfl w.heap.size 58 S _ 1 24 underlying120 y U V W rfl (by omega) v k vals rfl (t.alloc _) (From wr.heap.size) (some ⟨wr.heap.size,0,none⟩) 1 1 [.slice (some ⟨b,o,none⟩) most most] rfl (Rd.one wr _ _) (by intro u D;simp at D;subst D;rfl) (by simp only [maxLen];omega) (by omega) (by simp;omega) ?_;intro v2 w2 a j T)
   go_roundg (m-most)
   case measure=>have:=X.out;omega
   case rel=>
    refine⟨k+1,m-most,f-most,v2,vals++ [.slice (some ⟨b,o,none⟩) most most],some ⟨b,o+most*2,none⟩,rfl,aa (by have:=s.out;rw [Nat.add_mul];omega),?_,rfl,rfl,by omega,by simp only [maxLen];omega,.inr (by omega),a,M.push (by have:=t.out.1;omega) (Nat.le_refl _) (by simp only [maxLen];omega) (G.take (by omega)),?_,(r.alloc C _).grown j (by simp;omega) (fun q L=>(ah t q L).1)⟩
    ·have h1:=s.out;have N:(k+1)*1<=(k+1)*most:=Nat.mul_le_mul_left _ e;rw [Nat.add_mul] at N;rw [Nat.add_mul (n:=k)] at N
     omega
    ·have O:=G.out.cut (k:=most) (cap:=f) (by omega) z;rw [if_neg J,Option.map_some,iT,List.drop_drop] at O;have Z:k*most*2+most*2=(k+1)*most*2:=by rw [Nat.add_mul,Nat.add_mul];omega
     rwa [Z] at O
  ·clear d H p;go_wp2_with (at_builtin;refine af _ rfl (.tmp 20) (.tmp 22) _ rfl w.heap.size 58 S _ 1 24 underlying120 y U V W rfl (by omega) v k vals rfl (t.alloc _) (From wr.heap.size) (some ⟨wr.heap.size,0,none⟩) 1 1 [.slice B m f] rfl (Rd.one wr _ _) (by intro u D;simp at D;subst D;rfl) (by simp only [maxLen];omega) (by omega) (by simp;omega) ?_;intro v2 w2 a j T)
   have E:=aa ((r.alloc C (.cells #[.slice B m f] 58)).grown j (by simp;omega) (fun q L=>(ah t q L).1));have iR:=aa a;clear a j T;go_ret
   refine⟨k,vals,B,m,f,v2,rfl,iR,by have:=t.out.1;omega,?_,s.out,by omega,I,z,by simp only [maxLen];omega,?_,E⟩
   ·exact M.below E
   ·exact G.below E
theorem Cb (A:Option Addr) (n c:Nat) (most:Nat) (F:Nat->Prop) (xs:List Value) (w:World) (h:Rd w F 2 A n xs) (Q:n<=c) (P:c<=maxLen) (e:1<=most) (ad:most<=1152921504606) (K:n<=1152921504606):
  Calls prog 146 #[.slice A n c,.int .i64 most] w (Di 194 w F n xs most):=by
 obtain⟨S,y,U,V,W⟩:=info_parts JJ;have Y:=aa h;clear h;go_enter func146,ntmps146
 go_wp2
 go_loopg [0,5] n (fun g l vs wr=>∃(k m f:Nat) (v:Value) (vals:List Value) (B:Option Addr),g=m/\Hid (n=k*most+m)/\k<=n/\l= .slice B m f/\v=vs/\m<=f/\f<=maxLen/\(k=0\/0<m)/\wr.ownsRow w.heap.size 194 1 v k vals/\kR w F xs most k vals/\Rd w F 2 B m (xs.drop (k*most*2))/\Below w.heap.size w wr)
 case atStart=>exact⟨0,n,c,_,[],A,rfl,aa (by omega),by omega,rfl,rfl,Q,P,.inl rfl,World.ownsRow_nil _ _ _ _,fun i hi=>absurd hi (by omega),by simpa using Y.out,Below.refl _ _⟩
 case round=>
  obtain⟨k,m,f,v,vals,B,R,s,ab,rfl,rfl,z,x,I,d,H,p,r⟩:=hrel;have X:=aa R;have t:=aa d;have M:=aa H;have G:=aa p;have C:=r.size;simp only [maxLen] at x;clear R
  by_cases ac:most<m
  ·obtain⟨b,o,rfl,BM,_⟩:=p.2 (by omega);have J:¬f=most:=by omega
   clear d H p;go_wp2_with (at_builtin;refine af _ rfl (.tmp 10) (.tmp 15) _ rfl w.heap.size 194 S _ 1 24 underlying265 y U V W rfl (by omega) v k vals rfl (t.alloc _) (From wr.heap.size) (some ⟨wr.heap.size,0,none⟩) 1 1 [.slice (some ⟨b,o,none⟩) most most] rfl (Rd.one wr _ _) (by intro u D;simp at D;subst D;rfl) (by simp only [maxLen];omega) (by omega) (by simp;omega) ?_;intro v2 w2 a j T)
   go_roundg (m-most)
   case measure=>have:=X.out;omega
   case rel=>
    refine⟨k+1,m-most,f-most,v2,vals++ [.slice (some ⟨b,o,none⟩) most most],some ⟨b,o+most*2,none⟩,rfl,aa (by have:=s.out;rw [Nat.add_mul];omega),?_,rfl,rfl,by omega,by simp only [maxLen];omega,.inr (by omega),a,M.push (by have:=t.out.1;omega) (Nat.le_refl _) (by simp only [maxLen];omega) (G.take (by omega)),?_,(r.alloc C _).grown j (by simp;omega) (fun q L=>(ah t q L).1)⟩
    ·have h1:=s.out;have N:(k+1)*1<=(k+1)*most:=Nat.mul_le_mul_left _ e;rw [Nat.add_mul] at N;rw [Nat.add_mul (n:=k)] at N
     omega
    ·have O:=G.out.cut (k:=most) (cap:=f) (by omega) z;rw [if_neg J,Option.map_some,iT,List.drop_drop] at O;have Z:k*most*2+most*2=(k+1)*most*2:=by rw [Nat.add_mul,Nat.add_mul];omega
     rwa [Z] at O
  ·clear d H p;go_wp2_with (at_builtin;refine af _ rfl (.tmp 20) (.tmp 22) _ rfl w.heap.size 194 S _ 1 24 underlying265 y U V W rfl (by omega) v k vals rfl (t.alloc _) (From wr.heap.size) (some ⟨wr.heap.size,0,none⟩) 1 1 [.slice B m f] rfl (Rd.one wr _ _) (by intro u D;simp at D;subst D;rfl) (by simp only [maxLen];omega) (by omega) (by simp;omega) ?_;intro v2 w2 a j T)
   have E:=aa ((r.alloc C (.cells #[.slice B m f] 194)).grown j (by simp;omega) (fun q L=>(ah t q L).1));have iR:=aa a;clear a j T;go_ret
   refine⟨k,vals,B,m,f,v2,rfl,iR,by have:=t.out.1;omega,?_,s.out,by omega,I,z,by simp only [maxLen];omega,?_,E⟩
   ·exact M.below E
   ·exact G.below E
end
section
def dQ (w:World) (F:Nat->Prop) (p mm:Nat) (nodes root:Int) (done:List bR):Prop:=
 ¬F mm/\(∀b,F b->b<w.heap.size)/\mm<w.heap.size/\((done= []/\gM w F p nodes [(0,Nd.zero)] root/\aj w mm 193 #[.pointer (some ⟨p,0,none⟩),.bool true])\/(done≠ []/\gM w F p nodes done root/\aj w mm 193 #[.pointer (some ⟨p,0,none⟩),.bool false]))
def Off (F:Nat->Prop) (mm:Nat):Nat->Prop:=fun b=>¬F b/\b≠mm
section
variable {S F G:Nat->Prop} {w w':World} {p mm:Nat} {nodes root:Int} {done:List bR}
theorem dQ.chg (h:dQ w F p mm nodes root done) (y:ag S w w') (K:∀b,F b->¬S b) (c:¬S mm):dQ w' F p mm nodes root done:=by
 obtain⟨d,f,g,i⟩:=h;refine⟨d,fun b j=>Nat.lt_of_lt_of_le (f b j) y.size,Nat.lt_of_lt_of_le g y.size,?_⟩
 rcases i with⟨e,a,b⟩|⟨e,a,b⟩
 ·exact .inl ⟨e,a.chg y K,b.chg y c⟩
 ·exact .inr ⟨e,a.chg y K,b.chg y c⟩
theorem dQ.below (h:dQ w F p mm nodes root done) (b:Below w.heap.size w w'):dQ w' F p mm nodes root done:=h.chg (S:=Nil) (ag.of_below b) (fun _ _ a=>a) (fun a=>a)
theorem off_next {b:Nat} (c:b<w.heap.size) (h:Off F mm b):Off (Grown F w w') mm b:=⟨fun a=>a.elim h.1 (fun h=>by have:=h.1;omega),h.2⟩
theorem Ht (more:Bool) (nd:Nd) (k Q vA c:Option Addr) (o i n j vn vc dn t:Nat) (h:dQ w F p mm nodes root done) (v:(done.length:Int)<nodes) (H:nodes<=65536)
  (l:Bt w (Off F mm) k o i nd.high) (m:Tx w (Off F mm) Q n j nd.keys) (q:Tx w (Off F mm) vA vn vc nd.vals) (r:It w (Off F mm) c dn t nd.kids) (x:Small nd):
  Calls prog 145 #[.pointer (some ⟨mm,0,none⟩),.agg #[.int .i64 nd.lev,.slice k o i,.int .i64 nd.right,.slice Q n j,.slice vA vn vc,.slice c dn t],.bool more] w
   (fun e w'=>e= .returned (.int .i64 ((done.length:Int)+1))/\dQ w' (Grown F w w') p mm nodes root (done++ [(2,⟨nd.lev,nd.high,if more then(done.length:Int)+1+1 else nd.right,nd.keys,nd.vals,nd.kids⟩)])/\ag (fun b=>F b\/b=mm) w w'):=by
 obtain⟨k1,k2,y,z⟩:=h;have s:∀b,Off F mm b->¬F b/\b≠mm:=fun b h=>h
 have d:∀(e:Ending) (w':World) (f:List bR) (id:Int),f≠ []->vJ w F p mm nodes root f id e w'->e= .returned (.int .i64 id)/\dQ w' (Grown F w w') p mm nodes root f/\ag (fun b=>F b\/b=mm) w w':=by
  intro e w' f id hl ⟨A,B,C,g⟩;exact⟨A,⟨fun h=>h.elim k1 (fun h=>by have:=h.1;omega),fun b u=>u.elim (fun h=>Nat.lt_of_lt_of_le (k2 b h) g.size) (fun h=>h.2),Nat.lt_of_lt_of_le y g.size,.inr ⟨hl,B,C⟩⟩,g⟩
 rcases z with⟨rfl,a,b⟩|⟨e,a,b⟩
 ·refine(Ny more F (Off F mm) p mm nodes root nd k Q vA c o i n j vn vc dn t w a b k1 l m q r s x _ rfl).mono fun e w' hl=> ?_;have:=d e w' _ _ (by simp) hl
  simpa using this
 ·refine(NB more F (Off F mm) p mm nodes root done nd k Q vA c o i n j vn vc dn t w a v H b k1 l m q r s x _ rfl).mono fun e w' hl=> ?_;exact d e w' _ _ (by simp) hl
end
end
end Go.Proofs.YtepgcjbhabnciaaGreat
