/- Part 14. -/
import Derived.Test.YtepgcjbhabnciaaGreatLp13
namespace Go.Proofs.YtepgcjbhabnciaaGreat
set_option maxRecDepth 100000
set_option maxHeartbeats 8000000
open Go.Proofs.Tryz Go.RowKit
variable {w w2:World}
theorem qZ {S:Nat->Prop} {o:Obj} (h:ag S (w.alloc o) w2):w.heap.size+1<=w2:=by have:=h.size;simpa using this
theorem Rm (more:Bool) {F G:Nat->Prop} {p mm:Nat} {nodes root:Int} {sl:List aX} {nd:Nd} {hA kA vA dA:Option Addr} {hn hc kn kc vn vc dn dc:Nat}
  (hx:gL w F p nodes sl root) (hf:(sl.length:Int)<nodes) (ac:nodes<=65536) (hm:ak w mm 193 #[p,false]) (Rk:¬F mm)
  (g:Bt w G hA hn hc nd.high) (h2:Tx w G kA kn kc nd.keys) (h3:Tx w G vA vn vc nd.vals) (h4:It w G dA dn dc nd.kids) (hG:∀b,G b->¬F b/\b≠mm) (n:Small nd) (rt:Int) (ab:rt=if more then(sl.length:Int)+1+1 else nd.right):
  Calls prog 145 #[mm,.agg #[(nd.lev:Int),.slice hA hn hc,(nd.right:Int),.slice kA kn kc,.slice vA vn vc,.slice dA dn dc],more] w
   (yN w F p mm nodes root (sl++ [(2,⟨nd.lev,nd.high,rt,nd.keys,nd.vals,nd.kids⟩)]) ((sl.length:Int)+1)):=by
 have b1:Below w w (w.alloc (.cells #[(nd.lev:Int),.slice hA hn hc,(nd.right:Int),.slice kA kn kc,.slice vA vn vc,.slice dA dn dc] 132)):=gV;have HX:=aa ((show gL w (aU F w) p nodes _ root from hx.lt).below b1);have HM:=aa (hm.below b1);have HB:=aa (ak.new w 132 #[(nd.lev:Int),.slice hA hn hc,(nd.right:Int),.slice kA kn kc,.slice vA vn vc,.slice dA dn dc])
 obtain⟨m0,m1,mf⟩:(w.alloc (.cells #[(nd.lev:Int),.slice hA hn hc,(nd.right:Int),.slice kA kn kc,.slice vA vn vc,.slice dA dn dc] 132)).cell? mm=some (p:Value)/\(w.alloc (.cells #[(nd.lev:Int),.slice hA hn hc,(nd.right:Int),.slice kA kn kc,.slice vA vn vc,.slice dA dn dc] 132)).cell? ⟨mm,1,none⟩=some (.bool false)/\fe w mm:=
  ⟨by rw [HM.out.cell];rfl,by rw [HM.out.cell];rfl,hm.soft⟩
 have TZ:=hm.lt;have H1:=aa (show Bt w (aU G w) hA hn hc nd.high from g.lt);have H2:=aa (show Tx w (aU G w) kA kn kc nd.keys from h2.lt);have H3:=aa (show Tx w (aU G w) vA vn vc nd.vals from h3.lt);have H4:=aa (show It w (aU G w) dA dn dc nd.kids from h4.lt);have v:=aa n;clear hx hm g h2 h3 h4 n;have AL:=aa (Qk HX hf ac)
 cases more
 ·go_enter func145,ntmps145
  go_wp2_with (first|(go_at_call 179;go_loud (refine AL.out.mono ?_;rintro e w2 ⟨rfl,D,f⟩;have qh:=aa D.grown;have bz:=aa f;have tQ:=aa (HM.chg f (fun h=>Rk h.1));have j:=aa (HB.chg f (fun h=>by have:=h.2;omega));have z2:w.heap.size+1<=w2.heap.size:=qZ f;have n2:w2.cell? ⟨w.heap.size,2,none⟩=some (.int .i64 nd.right):=(j.out.cell _).trans rfl;have W:∀o,w2.frozen? ⟨w.heap.size,o,none⟩=false:=j.out.frozen;have e1:=IntWalk.i64_in ((sl.length:Int)+1+1) (by omega);clear D f)))
  have N:=tQ;have t:=j;have Q:=qh;have u:Hid (ag (fun b=>(aU F w b\/b=mm)\/w.heap.size<=b) w w2):=aa ((ag.of_below b1).trans bz (fun b _ h=> .inl (.inl h)));have q:(1:Int)<=(sl.length:Int)+1:=by omega
  have r:((sl.length:Int)+1)<=((sl++ [(1,Nd.zero)]:List aX).length:Int):=by simp
  have O:(sl++ [(1,Nd.zero)]:List aX).length<=65536:=by simp;omega
  have A:((sl.length:Int)+1).toNat-1=sl.length:=by omega
  have s:(sl++ [(1,Nd.zero)]:List aX)[((sl.length:Int)+1).toNat-1]? =some (1,Nd.zero):=by rw [A];simp
  have C:(sl++ [(1,Nd.zero)]:List aX).set (((sl.length:Int)+1).toNat-1) (2,⟨nd.lev,nd.high,nd.right,nd.keys,nd.vals,nd.kids⟩)=sl++ [(2,⟨nd.lev,nd.high,rt,nd.keys,nd.vals,nd.kids⟩)]:=by rw [ab,A];simp
  have k:∀b,Grown (aU F w) (w.alloc (.cells #[(nd.lev:Int),.slice hA hn hc,(nd.right:Int),.slice kA kn kc,.slice vA vn vc,.slice dA dn dc] 132)) w2 b->aU F w b\/(w<b/\b<(w2).heap.size):=fun b h=>h.elim .inl (fun h=>by have g:=h.1;have h2:=h.2;simp at g;exact .inr ⟨by omega,by exact h2⟩);clear b1 HX HM HB qh bz tQ j n2 W m0 m1 mf AL;obtain⟨x,y⟩:=gF (Grown (aU F w) (w.alloc (.cells #[.int .i64 nd.lev,.slice hA hn hc,.int .i64 nd.right,.slice kA kn kc,.slice vA vn vc,.slice dA dn dc] 132)) w2);rw [<-y] at Q k;clear y
  --the slot is held:the head,the body,the Rl
  have L:(w2).cell? mm=some (p:Value):=by rw [N.out.cell];rfl
  have Y:(w2).cell? w=some (.int .i64 nd.lev):=by rw [t.out.cell];rfl
  have Z:(w2).cell? ⟨w,1,none⟩=some (.slice hA hn hc):=by rw [t.out.cell];rfl
  have x2:(w2).cell? ⟨w,2,none⟩=some (.int .i64 nd.right):=by rw [t.out.cell];rfl
  have x3:(w2).cell? ⟨w,3,none⟩=some (.slice kA kn kc):=by rw [t.out.cell];rfl
  have x4:(w2).cell? ⟨w,4,none⟩=some (.slice vA vn vc):=by rw [t.out.cell];rfl
  have x5:(w2).cell? ⟨w.heap.size,5,none⟩=some (.slice dA dn dc):=by rw [t.out.cell];rfl
  obtain⟨V,hV⟩:∃V,V=w2:=⟨_,rfl⟩;rw [<-hV] at k L Y Z x2 x3 x4 x5 N t Q u|-;clear hV;have zV:=u.out.size;have M:∀b,aU G w b->¬((aU F w b\/b=mm)\/w.heap.size<=b):=fun b c h=>h.elim (fun h=>h.elim (fun h=>(hG b c.1).1 h.1) (hG b c.1).2) (fun h=>by have:=c.2;omega);have T1:=aa ((H1.chg u M).below (Below.refl _ _).drew);have T2:=aa ((H2.chg u M).below (Below.refl _ _).drew);have T3:=aa ((H3.chg u M).below (Below.refl _ _).drew);have T4:=aa ((H4.chg u M).below (Below.refl _ _).drew);have U:∀b,aU G w b->¬x b:=fun b c h=>(k b h).elim (fun h=>(hG b c.1).1 h.1) (fun h=>by have:=c.2;omega);have X:¬x mm:=fun h=>(k _ h).elim (fun h=>Rk h.1) (fun h=>by omega);have nb:¬x w.heap.size:=fun h=>(k _ h).elim (fun h=>by have:=h.2;omega) (fun h=>by omega);refine aM (fun w'=>w'.cell? ⟨mm,0,none⟩=some (.pointer (some ⟨p,0,none⟩))/\w'.cell? ⟨w.heap.size,0,none⟩=some (.int .i64 nd.lev)/\w'.cell? ⟨w.heap.size,1,none⟩=some (.slice hA hn hc)/\w'.cell? ⟨w.heap.size,2,none⟩=some (.int .i64 nd.right)) 7 (by kernel_rfl) ?_;have l:V.drew.cell? ⟨mm,0,none⟩=some (.pointer (some ⟨p,0,none⟩))/\V.drew.cell? ⟨w.heap.size,0,none⟩=some (.int .i64 nd.lev)/\V.drew.cell? ⟨w.heap.size,1,none⟩=some (.slice hA hn hc)/\V.drew.cell? ⟨w.heap.size,2,none⟩=some (.int .i64 nd.right):=⟨L,Y,Z,x2⟩;refine uF 0 (fun _=>l) ?_;refine uF 1 (fun _=>l) ?_;refine uF 2 (fun _=>l) ?_;refine uF 4 (fun _=>l) ?_;refine uF 5 (fun _=>l) ?_;refine uT 3 l ?_;refine uT 6 l ?_;refine az (i:=7) (by kernel_rfl) rfl (fun K z=> ?_);go_simp;refine(oh (sl++ [(1,Nd.zero)]) ((sl.length:Int)+1) (1,Nd.zero) Q.drew q r O s (by simp) (by simp) (by simp) nd.lev nd.right T1.out v.1).mono ?_;rintro e d ⟨rfl,E,a⟩;refine z.out _ _ (fun h=>absurd h (by decide)) ?_;clear z K;try simp only [aL,aN,aZ,aC]
  refine bH (by kernel_rfl) ?_ _;have Vn:=aa E.grown;have gK:=aa a;have R:=a.cell X L;have U3:=a.cell nb x3;have U4:=a.cell nb x4;have U5:=a.cell nb x5;have V2:=aa ((T2.out.chg a U).below (Below.refl _ _).drew);have V3:=aa ((T3.out.chg a U).below (Below.refl _ _).drew);have V4:=aa ((T4.out.chg a U).below (Below.refl _ _).drew);have z4:V.heap.size<=d.heap.size:=a.size;have mH:=aa (N.drew.chg a X);clear E a l L Y Z x2 x3 x4 x5;go_wp2_with fail;refine aM (fun w'=>w'.cell? mm=some (p:Value)/\w'.cell? ⟨w,3,none⟩=some (.slice kA kn kc)/\w'.cell? ⟨w,4,none⟩=some (.slice vA vn vc)/\w'.cell? ⟨w,5,none⟩=some (.slice dA dn dc)) 7 (by kernel_rfl) ?_;have m:d.drew.cell? mm=some (p:Value)/\d.drew.cell? ⟨w,3,none⟩=some (.slice kA kn kc)/\d.drew.cell? ⟨w,4,none⟩=some (.slice vA vn vc)/\d.drew.cell? ⟨w,5,none⟩=some (.slice dA dn dc):=⟨R,U3,U4,U5⟩;refine uF 0 (fun _=>m) ?_;refine uF 1 (fun _=>m) ?_;refine uF 2 (fun _=>m) ?_;refine uF 4 (fun _=>m) ?_;refine uF 5 (fun _=>m) ?_;refine uT 3 m ?_;refine uT 6 m ?_;refine mR 7 fun K z=> ?_;go_simp;refine(ol ((sl.length:Int)+1) (1,⟨nd.lev,nd.high,nd.right,[],[],[]⟩) Vn.drew q (by rw [List.length_set];exact r) (by rw [List.length_set];exact O) (by rw [List.getElem?_set_self (nE.1 s).1];rfl) (by simp) (by simp) (by simp) V2.out V3.out V4.out ⟨by simp,v.2.1,v.2.2.1,v.2.2.2.1,v.2.2.2.2.1,v.2.2.2.2.2⟩).mono ?_;rintro e w5 ⟨rfl,H,J⟩;refine z.out _ _ (fun h=>absurd h (by decide)) ?_;clear z K;try simp only [aL,aN,aZ,aC]
  refine bH (by kernel_rfl) ?_ _;have P:¬Grown x V.drew d mm:=fun h=>h.elim X (fun h=>by have g:V<=mm:=h.1;omega);have qQ:=aa H.grown;have ed:=aa J;have W0:=J.cell P R;have yO:=aa (mH.drew.chg J P);have z5:d.heap.size<=w5:=J.size;clear H J m R U3 U4 U5;have UL:=aa (lW (Grown (Grown x V.drew d) d.drew w5) ((sl.length:Int)+1) (1,⟨nd.lev,nd.high,nd.right,nd.keys,nd.vals,nd.kids⟩) qQ q (by rw [List.length_set,List.length_set];exact r) (by rw [List.length_set,List.length_set];exact O) (by rw [List.set_set,List.getElem?_set_self (nE.1 s).1]) (by simp) (by simp) (by simp));go_wp2_with (go_at_call 182;refine UL.out.mono ?_;rintro e w6 ⟨rfl,I,B⟩;have Uf:=aa I;have S:=aa B;clear I B);go_ret
  have z6:=S.out.size
  refine⟨rfl,?_,yO.chg S (fun h=>h.elim P (fun h=>by have g:d<=mm:=h.1;omega)),?_⟩
  ·have h:=Uf.out;rw [List.set_set,List.set_set] at h;rw [<-C]
   exact h.weak (fun b c=>c.elim (fun h=>h.elim (fun h=>(k b h).elim (fun h=> .inl h.1) (fun h=> .inr ⟨by omega,by omega⟩)) (fun h=>by have g:V<=b:=h.1;exact .inr ⟨by omega,by omega⟩)) (fun h=>by have g:d<=b:=h.1;exact .inr ⟨by omega,by omega⟩))
  ·refine(((u.mono (T:=fun b=>F b\/b=mm) (fun b c h=>h.elim (fun h=>h.elim (fun h=> .inl h.1) .inr) (fun h=>absurd h (by omega)))).drew.trans gK (fun b c h=>(k b h).elim (fun h=> .inl h.1) (fun h=>by omega))).drew.trans ed (fun b c h=>h.elim (fun h=>(k b h).elim (fun h=> .inl h.1) (fun h=>by omega)) (fun h=>by have g:V<=b:=h.1;omega))).trans S (fun b c h=>h.elim (fun h=>h.elim (fun h=>(k b h).elim (fun h=> .inl h.1) (fun h=>by omega)) (fun h=>by have g:V<=b:=h.1;omega)) (fun h=>by have g:d<=b:=h.1;omega))
 ·go_enter func145,ntmps145
  go_wp2_with (first|(go_at_call 179;go_loud (refine AL.out.mono ?_;rintro e w2 ⟨rfl,D,f⟩;have qh:=aa D.grown;have bz:=aa f;have tQ:=aa (HM.chg f (fun h=>Rk h.1));have j:=aa (HB.chg f (fun h=>by have:=h.2;omega));have z2:w.heap.size+1<=w2.heap.size:=qZ f;have n2:w2.cell? ⟨w.heap.size,2,none⟩=some (.int .i64 nd.right):=(j.out.cell _).trans rfl;have W:∀o,w2.frozen? ⟨w.heap.size,o,none⟩=false:=j.out.frozen;have e1:=IntWalk.i64_in ((sl.length:Int)+1+1) (by omega);clear D f)))
  have N:Hid (ak (w2.setCell ⟨w.heap.size,2,none⟩ (.int .i64 ((sl.length:Int)+1+1))) mm 193 #[.pointer (some ⟨p,0,none⟩),.bool false]):=aa (ak.far tQ (p:=⟨w.heap.size,2,none⟩) (Nat.ne_of_lt TZ) _);have t:Hid (ak (w2.setCell ⟨w.heap.size,2,none⟩ (.int .i64 ((sl.length:Int)+1+1))) w.heap.size 132 #[.int .i64 nd.lev,.slice hA hn hc,.int .i64 ((sl.length:Int)+1+1),.slice kA kn kc,.slice vA vn vc,.slice dA dn dc]):=aa (j.set_ 2 _);have Q:Hid (gL (w2.setCell ⟨w.heap.size,2,none⟩ (.int .i64 ((sl.length:Int)+1+1))) (Grown (aU F w) (w.alloc (.cells #[.int .i64 nd.lev,.slice hA hn hc,.int .i64 nd.right,.slice kA kn kc,.slice vA vn vc,.slice dA dn dc] 132)) w2) p nodes (sl++ [(1,Nd.zero)]) root):=aa (qh.chg (ag.set1 _ w.heap.size 2 _) (fun b c e=>by have e:b=w.heap.size:=e;exact c.elim (fun h=>by have:=h.2;omega) (fun h=>by have g:=h.1;simp at g;omega)));have u:Hid (ag (fun b=>(aU F w b\/b=mm)\/w.heap.size<=b) w (w2.setCell ⟨w.heap.size,2,none⟩ (.int .i64 ((sl.length:Int)+1+1)))):=aa (((ag.of_below b1).trans bz (fun b _ h=> .inl (.inl h))).setCell (p:=⟨w.heap.size,2,none⟩) (fun _=> .inr (Nat.le_refl _)) _);have q:(1:Int)<=(sl.length:Int)+1:=by omega
  have r:((sl.length:Int)+1)<=((sl++ [(1,Nd.zero)]:List aX).length:Int):=by simp
  have O:(sl++ [(1,Nd.zero)]:List aX).length<=65536:=by simp;omega
  have A:((sl.length:Int)+1).toNat-1=sl.length:=by omega
  have s:(sl++ [(1,Nd.zero)]:List aX)[((sl.length:Int)+1).toNat-1]? =some (1,Nd.zero):=by rw [A];simp
  have C:(sl++ [(1,Nd.zero)]:List aX).set (((sl.length:Int)+1).toNat-1) (2,⟨nd.lev,nd.high,((sl.length:Int)+1+1),nd.keys,nd.vals,nd.kids⟩)=sl++ [(2,⟨nd.lev,nd.high,rt,nd.keys,nd.vals,nd.kids⟩)]:=by rw [ab,A];simp
  have k:∀b,Grown (aU F w) (w.alloc (.cells #[(nd.lev:Int),.slice hA hn hc,(nd.right:Int),.slice kA kn kc,.slice vA vn vc,.slice dA dn dc] 132)) w2 b->aU F w b\/(w<b/\b<(w2.setCell ⟨w,2,none⟩ (.int .i64 ((sl.length:Int)+1+1))).heap.size):=fun b h=>h.elim .inl (fun h=>by have g:=h.1;have h2:=h.2;simp at g;exact .inr ⟨by omega,by simpa [World.setCell] using h2⟩);clear b1 HX HM HB qh bz tQ j n2 W m0 m1 mf AL;obtain⟨x,y⟩:=gF (Grown (aU F w) (w.alloc (.cells #[.int .i64 nd.lev,.slice hA hn hc,.int .i64 nd.right,.slice kA kn kc,.slice vA vn vc,.slice dA dn dc] 132)) w2);rw [<-y] at Q k;clear y
  --the slot is held:the head,the body,the Rl
  have L:(w2.setCell ⟨w,2,none⟩ (.int .i64 ((sl.length:Int)+1+1))).cell? mm=some (p:Value):=by rw [N.out.cell];rfl
  have Y:(w2.setCell ⟨w,2,none⟩ (.int .i64 ((sl.length:Int)+1+1))).cell? w=some (.int .i64 nd.lev):=by rw [t.out.cell];rfl
  have Z:(w2.setCell ⟨w,2,none⟩ (.int .i64 ((sl.length:Int)+1+1))).cell? ⟨w,1,none⟩=some (.slice hA hn hc):=by rw [t.out.cell];rfl
  have x2:(w2.setCell ⟨w,2,none⟩ (.int .i64 ((sl.length:Int)+1+1))).cell? ⟨w,2,none⟩=some (.int .i64 ((sl.length:Int)+1+1)):=by rw [t.out.cell];rfl
  have x3:(w2.setCell ⟨w,2,none⟩ (.int .i64 ((sl.length:Int)+1+1))).cell? ⟨w,3,none⟩=some (.slice kA kn kc):=by rw [t.out.cell];rfl
  have x4:(w2.setCell ⟨w,2,none⟩ (.int .i64 ((sl.length:Int)+1+1))).cell? ⟨w,4,none⟩=some (.slice vA vn vc):=by rw [t.out.cell];rfl
  have x5:(w2.setCell ⟨w,2,none⟩ (.int .i64 ((sl.length:Int)+1+1))).cell? ⟨w,5,none⟩=some (.slice dA dn dc):=by rw [t.out.cell];rfl
  obtain⟨V,hV⟩:=gF (w2.setCell ⟨w.heap.size,2,none⟩ (.int .i64 ((sl.length:Int)+1+1)));rw [<-hV] at k L Y Z x2 x3 x4 x5 N t Q u|-;clear hV;have zV:=u.out.size;have M:∀b,aU G w b->¬((aU F w b\/b=mm)\/w<=b):=fun b c h=>h.elim (fun h=>h.elim (fun h=>(hG b c.1).1 h.1) (hG b c.1).2) (fun h=>by have:=c.2;omega);have T1:=aa ((H1.chg u M).below mh.drew);have T2:=aa ((H2.chg u M).below (Below.refl _ _).drew);have T3:=aa ((H3.chg u M).below (Below.refl _ _).drew);have T4:=aa ((H4.chg u M).below (Below.refl _ _).drew);have U:∀b,aU G w b->¬x b:=fun b c h=>(k b h).elim (fun h=>(hG b c.1).1 h.1) (fun h=>by have:=c.2;omega);have X:¬x mm:=fun h=>(k _ h).elim (fun h=>Rk h.1) (fun h=>by omega);have nb:¬x w.heap.size:=fun h=>(k _ h).elim (fun h=>by have:=h.2;omega) (fun h=>by omega);refine aM (fun w'=>w'.cell? ⟨mm,0,none⟩=some (.pointer (some ⟨p,0,none⟩))/\w'.cell? ⟨w.heap.size,0,none⟩=some (.int .i64 nd.lev)/\w'.cell? ⟨w.heap.size,1,none⟩=some (.slice hA hn hc)/\w'.cell? ⟨w.heap.size,2,none⟩=some (.int .i64 ((sl.length:Int)+1+1))) 7 (by kernel_rfl) ?_;have l:V.drew.cell? ⟨mm,0,none⟩=some (.pointer (some ⟨p,0,none⟩))/\V.drew.cell? ⟨w.heap.size,0,none⟩=some (.int .i64 nd.lev)/\V.drew.cell? ⟨w.heap.size,1,none⟩=some (.slice hA hn hc)/\V.drew.cell? ⟨w.heap.size,2,none⟩=some (.int .i64 ((sl.length:Int)+1+1)):=⟨L,Y,Z,x2⟩;refine uF 0 (fun _=>l) ?_;refine uF 1 (fun _=>l) ?_;refine uF 2 (fun _=>l) ?_;refine uF 4 (fun _=>l) ?_;refine uF 5 (fun _=>l) ?_;refine uT 3 l ?_;refine uT 6 l ?_;refine az (i:=7) (by kernel_rfl) rfl (fun K z=> ?_);go_simp;refine(oh (sl++ [(1,Nd.zero)]) ((sl.length:Int)+1) (1,Nd.zero) Q.drew q r O s (by simp) (by simp) (by simp) nd.lev ((sl.length:Int)+1+1) T1.out v.1).mono ?_;rintro e d ⟨rfl,E,a⟩;refine z.out _ _ (fun h=>absurd h (by decide)) ?_;clear z K;try simp only [aL,aN,aZ,aC]
  refine bH (by kernel_rfl) ?_ _;have Vn:=aa E.grown;have gK:=aa a;have R:=a.cell X L;have U3:=a.cell nb x3;have U4:=a.cell nb x4;have U5:=a.cell nb x5;have V2:=aa ((T2.out.chg a U).below (Below.refl _ _).drew);have V3:=aa ((T3.out.chg a U).below (Below.refl _ _).drew);have V4:=aa ((T4.out.chg a U).below (Below.refl _ _).drew);have z4:V.heap.size<=d.heap.size:=a.size;have mH:=aa (N.drew.chg a X);clear E a l L Y Z x2 x3 x4 x5;go_wp2_with fail;refine aM (fun w'=>w'.cell? ⟨mm,0,none⟩=some (.pointer (some ⟨p,0,none⟩))/\w'.cell? ⟨w.heap.size,3,none⟩=some (.slice kA kn kc)/\w'.cell? ⟨w.heap.size,4,none⟩=some (.slice vA vn vc)/\w'.cell? ⟨w.heap.size,5,none⟩=some (.slice dA dn dc)) 7 (by kernel_rfl) ?_;have m:d.drew.cell? ⟨mm,0,none⟩=some (.pointer (some ⟨p,0,none⟩))/\d.drew.cell? ⟨w.heap.size,3,none⟩=some (.slice kA kn kc)/\d.drew.cell? ⟨w.heap.size,4,none⟩=some (.slice vA vn vc)/\d.drew.cell? ⟨w.heap.size,5,none⟩=some (.slice dA dn dc):=⟨R,U3,U4,U5⟩;refine uF 0 (fun _=>m) ?_;refine uF 1 (fun _=>m) ?_;refine uF 2 (fun _=>m) ?_;refine uF 4 (fun _=>m) ?_;refine uF 5 (fun _=>m) ?_;refine uT 3 m ?_;refine uT 6 m ?_;refine az (i:=7) (by kernel_rfl) rfl (fun K z=> ?_);go_simp;refine(ol ((sl.length:Int)+1) (1,⟨nd.lev,nd.high,((sl.length:Int)+1+1),[],[],[]⟩) Vn.drew q (by rw [List.length_set];exact r) (by rw [List.length_set];exact O) (by rw [List.getElem?_set_self (List.getElem?_eq_some_iff.1 s).1];rfl) (by simp) (by simp) (by simp) V2.out V3.out V4.out ⟨by simp,v.2.1,v.2.2.1,v.2.2.2.1,v.2.2.2.2.1,v.2.2.2.2.2⟩).mono ?_;rintro e w5 ⟨rfl,H,J⟩;refine z.out _ _ (fun h=>absurd h (by decide)) ?_;clear z K;try simp only [aL,aN,aZ,aC]
  refine bH (by kernel_rfl) ?_ _;have P:¬Grown x V.drew d mm:=fun h=>h.elim X (fun h=>by have g:V.heap.size<=mm:=h.1;omega);have qQ:=aa H.grown;have ed:=aa J;have W0:=J.cell P R;have yO:=aa (mH.drew.chg J P);have z5:d.heap.size<=w5.heap.size:=J.size;clear H J m R U3 U4 U5;have UL:=aa (lW (Grown (Grown x V.drew d) d.drew w5) ((sl.length:Int)+1) (1,⟨nd.lev,nd.high,((sl.length:Int)+1+1),nd.keys,nd.vals,nd.kids⟩) qQ q (by rw [List.length_set,List.length_set];exact r) (by rw [List.length_set,List.length_set];exact O) (by rw [List.set_set,List.getElem?_set_self (List.getElem?_eq_some_iff.1 s).1]) (by simp) (by simp) (by simp));go_wp2_with (go_at_call 182;refine UL.out.mono ?_;rintro e w6 ⟨rfl,I,B⟩;have Uf:=aa I;have S:=aa B;clear I B);go_ret
  have z6:=S.out.size
  refine⟨rfl,?_,yO.chg S (fun h=>h.elim P (fun h=>by have g:d<=mm:=h.1;omega)),?_⟩
  ·have h:=Uf.out;rw [List.set_set,List.set_set] at h;rw [<-C]
   exact h.weak (fun b c=>c.elim (fun h=>h.elim (fun h=>(k b h).elim (fun h=> .inl h.1) (fun h=> .inr ⟨by omega,by omega⟩)) (fun h=>by have g:V<=b:=h.1;exact .inr ⟨by omega,by omega⟩)) (fun h=>by have g:d<=b:=h.1;exact .inr ⟨by omega,by omega⟩))
  ·refine(((u.mono (T:=fun b=>F b\/b=mm) (fun b c h=>h.elim (fun h=>h.elim (fun h=> .inl h.1) .inr) (fun h=>absurd h (by omega)))).drew.trans gK (fun b c h=>(k b h).elim (fun h=> .inl h.1) (fun h=>by omega))).drew.trans ed (fun b c h=>h.elim (fun h=>(k b h).elim (fun h=> .inl h.1) (fun h=>by omega)) (fun h=>by have g:V<=b:=h.1;omega))).trans S (fun b c h=>h.elim (fun h=>h.elim (fun h=>(k b h).elim (fun h=> .inl h.1) (fun h=>by omega)) (fun h=>by have g:V<=b:=h.1;omega)) (fun h=>by have g:d<=b:=h.1;omega))
section
def fo (w:World) (F:Nat->Prop) (p mm:Nat) (nodes root:Int) (done:List aX):Prop:=
 ¬F mm/\(∀b,F b->b<w)/\mm<w/\((done= []/\gL w F p nodes [(0,Nd.zero)] root/\ak w mm 193 #[p,true])\/(done≠ []/\gL w F p nodes done root/\ak w mm 193 #[p,false]))
def Off (F:Nat->Prop) (mm:Nat):Nat->Prop:=fun b=>¬F b/\b≠mm
section
variable {S F G:Nat->Prop} {w w':World} {p mm:Nat} {nodes root:Int} {done:List aX}
theorem fo.chg (h:fo w F p mm nodes root done) (hc:ag S w w') (Q:∀b,F b->¬S b) (c:¬S mm):fo w' F p mm nodes root done:=by
 obtain⟨d,f,g,i⟩:=h;refine⟨d,fun b j=>mU (f b j) hc.size,mU g hc.size,?_⟩
 rcases i with⟨e,a,b⟩|⟨e,a,b⟩
 ·exact .inl ⟨e,a.chg hc Q,b.chg hc c⟩
 ·exact .inr ⟨e,a.chg hc Q,b.chg hc c⟩
theorem fo.below (h:fo w F p mm nodes root done) (o:Below w w w'):fo w' F p mm nodes root done:=h.chg (S:=Nil) (ag.of_below o) (fun _ _ a=>a) (fun a=>a)
theorem off_next {b:Nat} (c:b<w) (h:Off F mm b):Off (Grown F w w') mm b:=⟨fun a=>a.elim h.1 (fun h=>by have:=h.1;omega),h.2⟩
theorem LA (more:Bool) {nd:Nd} {hA kA vA dA:Option Addr} {hn hc kn kc vn vc dn dc:Nat} (h:fo w F p mm nodes root done) (o:(done.length:Int)<nodes) (x:nodes<=65536)
  (g:Bt w (Off F mm) hA hn hc nd.high) (i:Tx w (Off F mm) kA kn kc nd.keys) (j:Tx w (Off F mm) vA vn vc nd.vals) (k:It w (Off F mm) dA dn dc nd.kids) (n:Small nd):
  Calls prog 145 #[mm,.agg #[(nd.lev:Int),.slice hA hn hc,(nd.right:Int),.slice kA kn kc,.slice vA vn vc,.slice dA dn dc],more] w
   (fun e w'=>e= .returned (.int .i64 ((done.length:Int)+1))/\fo w' (Grown F w w') p mm nodes root (done++ [(2,⟨nd.lev,nd.high,if more then(done.length:Int)+1+1 else nd.right,nd.keys,nd.vals,nd.kids⟩)])/\ag (fun b=>F b\/b=mm) w w'):=by
 obtain⟨k1,k2,q,r⟩:=h;have l:∀b,Off F mm b->¬F b/\b≠mm:=fun b h=>h
 have c:∀(e:Ending) (w':World) (d:List aX) (id:Int),d≠ []->yN w F p mm nodes root d id e w'->e= .returned (id:Int)/\fo w' (Grown F w w') p mm nodes root d/\ag (fun b=>F b\/b=mm) w w':=by
  intro e w' d id hl ⟨s,t,u,f⟩;exact⟨s,⟨fun h=>h.elim k1 (fun h=>by have:=h.1;omega),fun b m=>m.elim (fun h=>mU (k2 b h) f.size) (fun h=>h.2),mU q f.size,.inr ⟨hl,t,u⟩⟩,f⟩
 rcases r with⟨rfl,a,b⟩|⟨e,a,b⟩
 ·refine(Rj more a b k1 g i j k l n _ rfl).mono fun e w' hl=> ?_;have:=c e w' _ _ (by simp) hl
  simpa using this
 ·refine(Rm more a o x b k1 g i j k l n _ rfl).mono fun e w' hl=> ?_;exact c e w' _ _ (by simp) hl
end
end
section
def mX (w:World) (F:Nat->Prop) (xs:List Value) (most k:Nat) (vals:List Value):Prop:=
 ∀i,i<k->∃A c,vals[i]? =some (.slice A most c)/\most<=c/\c<=maxLen/\Rd w F 2 A most ((xs.drop (i*most*2)).take (most*2))
section
variable {S F G:Nat->Prop} {w w':World} {xs vals:List Value} {most k:Nat}
theorem mX.chg (h:mX w F xs most k vals) (hc:ag S w w') (Q:∀b,F b->¬S b):mX w' F xs most k vals:=fun i hi=>let⟨A,c,a,b,d,e⟩:=h i hi;⟨A,c,a,b,d,e.chg hc Q⟩
theorem mX.below (h:mX w F xs most k vals) (o:Below w w w'):mX w' F xs most k vals:=h.chg (S:=Nil) (ag.of_below o) (fun _ _ a=>a)
theorem mX.push (h:mX w F xs most k vals) (hl:vals.length=k) {A:Option Addr} {c:Nat} (b:most<=c) (e:c<=maxLen) (f:Rd w F 2 A most ((xs.drop (k*most*2)).take (most*2))):mX w F xs most (k+1) (vals++ [.slice A most c]):=by
 intro i hi
 rcases Nat.lt_or_ge i k with a|a
 ·obtain⟨B,d,g,j⟩:=h i a
  exact⟨B,d,by rw [qK (by omega)];exact g,j⟩
 ·obtain rfl:i=k:=by omega
  exact⟨A,c,by rw [q9 (by omega),hl];simp,b,e,f⟩
end
def Gd (t:TypeId) (w:World) (F:Nat->Prop) (n:Nat) (xs:List Value) (most:Nat) (e:Ending) (w':World):Prop:=
 ∃K vals A m c v,e= .returned v/\w'.ownsRow w t 1 v (K+1) (vals++ [.slice A m c])/\vals.length=K/\mX w' F xs most K vals/\
  n=K*most+m/\m<=most/\(K=0\/0<m)/\m<=c/\c<=maxLen/\Rd w' F 2 A m (xs.drop (K*most*2))/\Below w w w'
theorem NB:(prog.info? 58).map (fun i=>(i.zero,i.size,i.bytes))=some (some (.slice none 0 0),1,24):=by kernel_rfl
theorem NC:(prog.info? 194).map (fun i=>(i.zero,i.size,i.bytes))=some (some (.slice none 0 0),1,24):=by kernel_rfl
theorem Gf {A:Option Addr} {n:Nat} (c:Nat) (most:Nat) {F:Nat->Prop} {xs:List Value} {w:World} (h:Rd w F 2 A n xs) (j:n<=c) (t:c<=maxLen) (hm:1<=most) (ab:most<=1152921504606) (K:n<=1152921504606):
  Calls prog 143 #[.slice A n c,(most:Int)] w (Gd 58 w F n xs most):=by
 obtain⟨R,z,S,T,U⟩:=info_parts NB;have W:=aa h;clear h;go_enter func143,ntmps143;go_wp2
 go_loopg [0,5] n (fun g l vs wr=>∃(k m e:Nat) (v:Value) (vals:List Value) (B:Option Addr),g=m/\Hid (n=k*most+m)/\k<=n/\l= .slice B m e/\v=vs/\m<=e/\e<=maxLen/\(k=0\/0<m)/\wr.ownsRow w 58 1 v k vals/\mX w F xs most k vals/\Rd w F 2 B m (xs.drop (k*most*2))/\Below w w wr)
 case atStart=>exact⟨0,n,c,_,[],A,rfl,aa (by omega),by omega,rfl,rfl,j,t,.inl rfl,World.ownsRow_nil _ _ _ _,fun i hi=>absurd hi (by omega),by simpa using W.out,mh⟩
 case round=>
  obtain⟨k,m,e,v,vals,B,Q,s,Y,rfl,rfl,C,y,J,d,I,p,r⟩:=hrel;have V:=aa Q;have x:=aa d;have N:=aa I;have H:=aa p;have D:=r.size;simp only [maxLen] at y;clear Q
  by_cases Z:most<m
  ·obtain⟨b,o,rfl,FX,_⟩:=p.2 (by omega);have L:¬e=most:=by omega
   clear d I p;go_wp2_with (at_builtin;refine af _ rfl (.tmp 10) (.tmp 15) _ rfl w 58 R _ 1 24 underlying120 z S T U rfl (by omega) v k vals rfl (x.alloc _) (From wr) (some ⟨wr,0,none⟩) 1 1 [.slice (some ⟨b,o,none⟩) most most] rfl (Rd.one wr _ _) (by intro u E;simp at E;subst E;rfl) (by simp only [maxLen];omega) (by omega) (by simp;omega) ?_;intro v2 w2 a f O)
   go_roundg (m-most)
   case measure=>have:=V.out;omega
   case rel=>
    refine⟨k+1,m-most,e-most,v2,vals++ [.slice (some ⟨b,o,none⟩) most most],some ⟨b,o+most*2,none⟩,rfl,aa (by have:=s.out;rw [Nat.add_mul];omega),?_,rfl,rfl,by omega,by simp only [maxLen];omega,.inr (by omega),a,N.push (by have:=x.out.1;omega) jO (by simp only [maxLen];omega) (H.take (by omega)),?_,(r.alloc D _).grown f (by simp;omega) (fun q M=>(ah x q M).1)⟩
    ·have h1:=s.out;have P:(k+1)*1<=(k+1)*most:=Nat.mul_le_mul_left _ hm;rw [Nat.add_mul] at P;rw [Nat.add_mul (n:=k)] at P
     omega
    ·have hc:=H.out.cut (k:=most) (cap:=e) (by omega) C;rw [if_neg L,Option.map_some,jr,List.drop_drop] at hc;have X:k*most*2+most*2=(k+1)*most*2:=by rw [Nat.add_mul,Nat.add_mul];omega
     rwa [X] at hc
  ·clear d I p;go_wp2_with (at_builtin;refine af _ rfl (.tmp 20) (.tmp 22) _ rfl w 58 R _ 1 24 underlying120 z S T U rfl (by omega) v k vals rfl (x.alloc _) (From wr) (some ⟨wr,0,none⟩) 1 1 [.slice B m e] rfl (Rd.one wr _ _) (by intro u E;simp at E;subst E;rfl) (by simp only [maxLen];omega) (by omega) (by simp;omega) ?_;intro v2 w2 a f O);have G:=aa ((r.alloc D (.cells #[.slice B m e] 58)).grown f (by simp;omega) (fun q M=>(ah x q M).1));have iG:=aa a;clear a f O;go_ret
   refine⟨k,vals,B,m,e,v2,rfl,iG,by have:=x.out.1;omega,?_,s.out,by omega,J,C,by simp only [maxLen];omega,?_,G⟩
   ·exact N.below G
   ·exact H.below G
theorem Fa {A:Option Addr} {n:Nat} (c:Nat) (most:Nat) {F:Nat->Prop} {xs:List Value} {w:World} (h:Rd w F 2 A n xs) (j:n<=c) (t:c<=maxLen) (hm:1<=most) (ab:most<=1152921504606) (K:n<=1152921504606):
  Calls prog 146 #[.slice A n c,(most:Int)] w (Gd 194 w F n xs most):=by
 obtain⟨R,z,S,T,U⟩:=info_parts NC;have W:=aa h;clear h;go_enter func146,ntmps146;go_wp2
 go_loopg [0,5] n (fun g l vs wr=>∃(k m e:Nat) (v:Value) (vals:List Value) (B:Option Addr),g=m/\Hid (n=k*most+m)/\k<=n/\l= .slice B m e/\v=vs/\m<=e/\e<=maxLen/\(k=0\/0<m)/\wr.ownsRow w 194 1 v k vals/\mX w F xs most k vals/\Rd w F 2 B m (xs.drop (k*most*2))/\Below w w wr)
 case atStart=>exact⟨0,n,c,_,[],A,rfl,aa (by omega),by omega,rfl,rfl,j,t,.inl rfl,World.ownsRow_nil _ _ _ _,fun i hi=>absurd hi (by omega),by simpa using W.out,mh⟩
 case round=>
  obtain⟨k,m,e,v,vals,B,Q,s,Y,rfl,rfl,C,y,J,d,I,p,r⟩:=hrel;have V:=aa Q;have x:=aa d;have N:=aa I;have H:=aa p;have D:=r.size;simp only [maxLen] at y;clear Q
  by_cases Z:most<m
  ·obtain⟨b,o,rfl,FX,_⟩:=p.2 (by omega);have L:¬e=most:=by omega
   clear d I p;go_wp2_with (at_builtin;refine af _ rfl (.tmp 10) (.tmp 15) _ rfl w 194 R _ 1 24 underlying265 z S T U rfl (by omega) v k vals rfl (x.alloc _) (From wr) (some ⟨wr,0,none⟩) 1 1 [.slice (some ⟨b,o,none⟩) most most] rfl (Rd.one wr _ _) (by intro u E;simp at E;subst E;rfl) (by simp only [maxLen];omega) (by omega) (by simp;omega) ?_;intro v2 w2 a f O)
   go_roundg (m-most)
   case measure=>have:=V.out;omega
   case rel=>
    refine⟨k+1,m-most,e-most,v2,vals++ [.slice (some ⟨b,o,none⟩) most most],some ⟨b,o+most*2,none⟩,rfl,aa (by have:=s.out;rw [Nat.add_mul];omega),?_,rfl,rfl,by omega,by simp only [maxLen];omega,.inr (by omega),a,N.push (by have:=x.out.1;omega) jO (by simp only [maxLen];omega) (H.take (by omega)),?_,(r.alloc D _).grown f (by simp;omega) (fun q M=>(ah x q M).1)⟩
    ·have h1:=s.out;have P:(k+1)*1<=(k+1)*most:=Nat.mul_le_mul_left _ hm;rw [Nat.add_mul] at P;rw [Nat.add_mul (n:=k)] at P
     omega
    ·have hc:=H.out.cut (k:=most) (cap:=e) (by omega) C;rw [if_neg L,Option.map_some,jr,List.drop_drop] at hc;have X:k*most*2+most*2=(k+1)*most*2:=by rw [Nat.add_mul,Nat.add_mul];omega
     rwa [X] at hc
  ·clear d I p;go_wp2_with (at_builtin;refine af _ rfl (.tmp 20) (.tmp 22) _ rfl w 194 R _ 1 24 underlying265 z S T U rfl (by omega) v k vals rfl (x.alloc _) (From wr) (some ⟨wr,0,none⟩) 1 1 [.slice B m e] rfl (Rd.one wr _ _) (by intro u E;simp at E;subst E;rfl) (by simp only [maxLen];omega) (by omega) (by simp;omega) ?_;intro v2 w2 a f O);have G:=aa ((r.alloc D (.cells #[.slice B m e] 194)).grown f (by simp;omega) (fun q M=>(ah x q M).1));have iG:=aa a;clear a f O;go_ret
   refine⟨k,vals,B,m,e,v2,rfl,iG,by have:=x.out.1;omega,?_,s.out,by omega,J,C,by simp only [maxLen];omega,?_,G⟩
   ·exact N.below G
   ·exact H.below G
end
section
def dJ (w:World) (D:Nat->Prop) (base:Nat) (v:Value) (ks:List (Int×List UInt8)):Prop:=
 ∃us,w.ownsRow base 200 2 v ks.length us/\(∀g,v.ownBlock=some g->D g)/\∀(i:Nat) (k:Int×List UInt8),ks[i]? =some k->us[2*i]? =some (.int .i64 k.1)/\∃u,us[2*i+1]? =some u/\SB w (fun b=>D b/\v.ownBlock≠some b) u k.2
theorem kI {w w':World} {F:Nat->Prop} {mm base size n:Nat} {e:TypeId} {v:Value} {xs:List Value} (h:w.ownsRow base e size v n xs) (c:∀g,v.ownBlock=some g->Off F mm g) (hc:ag (fun b=>F b\/b=mm) w w'):
  w'.ownsRow base e size v n xs/\∀g,v.ownBlock=some g->Off (Grown F w w') mm g:=
 ⟨aB h hc (fun g a h=>h.elim (c g a).1 (c g a).2),fun g a=>off_next (ah h g a).2 (c g a)⟩
def Rest (F:Nat->Prop) (mm:Nat) (o:Value):Nat->Prop:=fun b=>Off F mm b/\o.ownBlock≠some b
section
variable {S D G F:Nat->Prop} {w w':World} {base mm:Nat} {v:Value} {ks:List (Int×List UInt8)}
theorem dJ.chg (h:dJ w D base v ks) (hc:ag S w w') (p:∀b,D b->¬S b):dJ w' D base v ks:=
 let⟨us,e,d,f⟩:=h;⟨us,aB e hc (fun g l=>p g (d g l)),d,fun i k m=>let⟨a,u,b,c⟩:=f i k m;⟨a,u,b,c.chg hc (fun b j=>p b j.1)⟩⟩
theorem dJ.below (h:dJ w D base v ks) (o:Below w w w'):dJ w' D base v ks:=h.chg (S:=Nil) (ag.of_below o) (fun _ _ a=>a)
theorem dJ.off_next (h:dJ w (Off F mm) base v ks) (hc:ag (fun _b=>F _b\/_b=mm) w w'):dJ w' (Off (Grown F w w') mm) base v ks:=
 let⟨us,e,f,g⟩:=h;⟨us,(kI e f hc).1,(kI e f hc).2,fun i k j=>let⟨a,u,_b,c⟩:=g i k j;⟨a,u,_b,(c.lt.chg hc (fun _b d h=>h.elim d.1.1.1 d.1.1.2)).weak (fun _b d=>⟨Go.Proofs.YtepgcjbhabnciaaGreat.off_next d.2 d.1.1,d.1.2⟩)⟩⟩
theorem dJ.nil (w:World) (D:Nat->Prop) (base:Nat):dJ w D base () []:=⟨[],World.ownsRow_nil _ _ _ _,fun g h=>by simp [Value.ownBlock] at h,fun i k a=>by simp at a⟩
theorem dJ.push {D':Nat->Prop} {w2:World} {v2 hv:Value} {us:List Value} {id:Int} {high:List UInt8} (o:w.ownsRow base 200 2 v ks.length us) (p:∀g,v.ownBlock=some g->D g)
  (q:∀(i:Nat) (k:Int×List UInt8),ks[i]? =some k->us[2*i]? =some (.int .i64 k.1)/\∃u,us[2*i+1]? =some u/\SB w (fun b=>D b/\v.ownBlock≠some b) u k.2)
  (t:w2.ownsRow base 200 2 v2 (ks.length+1) (us++ [.int .i64 id,hv])) (r:w.grownBy w2 v.ownBlock) (l:v2.ownBlock=v.ownBlock\/v2.ownBlock=some w)
  (s:SB w (fun b=>D b/\v.ownBlock≠some b) hv high) (n:∀b,D b->D' b) (hn:D' w):dJ w2 D' base v2 (ks++ [(id,high)]):=by
 have hl:us.length=ks.length*2:=o.1;have hc:ag (fun b=>v.ownBlock=some b) w w2:=(ag.refl _ _).grown r (fun _ f _=>f);have up:∀b,((D b/\v.ownBlock≠some b)/\b<w)->D' b/\v2.ownBlock≠some b:=fun b j=>⟨n b j.1.1,fun e=>l.elim (fun m=>j.1.2 (m▸e)) (fun m=>by rw [m] at e;injection e with e;omega)⟩;refine⟨_,by simpa using t,fun g d=>l.elim (fun e=>n g (p g (e▸d))) (fun e=>by rw [e] at d;injection d with d;exact d▸hn),fun i k f=> ?_⟩
 rcases Nat.lt_or_ge i ks.length with hi|hi
 ·rw [qK hi] at f;obtain⟨a,u,b,c⟩:=q i k f
  exact⟨by rw [qK (by omega)];exact a,u,by rw [qK (by omega)];exact b,(c.lt.chg hc (fun b j e=>j.1.2 e)).weak up⟩
 ·rw [q9 hi] at f
  obtain⟨h,rfl⟩:i=ks.length/\k=(id,high):=by
   have:=(nE.1 f).1;have h:i=ks.length:=by simp at this;omega
   subst h;simp at f;exact⟨rfl,f.symm⟩
  subst h;refine⟨by rw [q9 (by omega),hl,show 2*ks.length-ks.length*2=0 by omega];rfl,hv,by rw [q9 (by omega),hl,show 2*ks.length+1-ks.length*2=1 by omega];rfl,(s.lt.chg hc (fun b j e=>j.1.2 e)).weak up⟩
theorem BL {o d:Value} {b:Nat} (f:b<w) (h:Rest F mm o b) (c:d.ownBlock=o.ownBlock\/∃x,w.heap.size<=x/\d.ownBlock=some x):Rest (Grown F w w') mm d b:=
 ⟨Go.Proofs.YtepgcjbhabnciaaGreat.off_next f h.1,fun e=>c.elim (fun a=>h.2 (a▸e)) (fun⟨x,g,a⟩=>by rw [a] at e;injection e with e;omega)⟩
end
structure oV (w:World) (D:Nat->Prop) (base:Nat) (t:TypeId) (gv:Value) (vs:List Value) (fill K m:Nat) (vals:List Value) (A:Option Addr) (c:Nat):Prop where
 own:w.ownsRow base t 1 gv (K+1) (vals++ [.slice A m c])
 blk:∀g,gv.ownBlock=some g->D g
 len:vals.length=K
 parts:mX w D vs fill K vals
 last:Rd w D 2 A m (vs.drop (K*fill*2))
 mc:m<=c
 cm:c<=maxLen
section
variable {S D G F:Nat->Prop} {w w':World} {base mm fill K m c:Nat} {t:TypeId} {gv:Value} {vs vals:List Value} {A:Option Addr}
theorem oV.chg (h:oV w D base t gv vs fill K m vals A c) (hc:ag S w w') (p:∀b,D b->¬S b):oV w' D base t gv vs fill K m vals A c:=
 ⟨aB h.own hc (fun g a=>p g (h.blk g a)),h.blk,h.len,h.parts.chg hc p,h.last.chg hc p,h.mc,h.cm⟩
theorem oV.below (h:oV w D base t gv vs fill K m vals A c) (o:Below w w w'):oV w' D base t gv vs fill K m vals A c:=h.chg (S:=Nil) (ag.of_below o) (fun _ _ a=>a)
theorem oV.at_ (h:oV w D base t gv vs fill K m vals A c) {i:Nat} (hi:i<K+1):∃r f B e d,gv= .slice (some ⟨r,0,none⟩) (K+1) f/\r<w/\D r/\e=(if i<K then fill else m)/\w.cell? ⟨r,i,none⟩=some (.slice B e d)/\e<=d/\d<=maxLen/\Rd w D 2 B e ((vs.drop (i*fill*2)).take (e*2)):=by
 obtain⟨r,f,hv,o,p⟩:=h.own.form (by omega);have a:∀j u,(vals++ [.slice A m c])[j]? =some u->w.cell? ⟨r,j,none⟩=some u:=fun j u q=>by have:=h.own.cells (g:=r) (by rw [hv];rfl) j u q;rw [jr,Nat.zero_add] at this;exact this
 have l:=h.blk r (by rw [hv];rfl);have b:=(ah h.own r (by rw [hv];rfl)).2
 rcases Nat.lt_or_ge i K with k|k
 ·obtain⟨B,d,n,s,v,x⟩:=h.parts i k
  refine⟨r,f,B,fill,d,hv,b,l,by rw [if_pos k],a i _ (by rw [qK (nE.1 n).1];exact n),s,v,x⟩
 ·obtain rfl:i=K:=by omega
  refine⟨r,f,A,m,c,hv,b,l,by rw [if_neg (by omega)],a i _ (by rw [q9 (by have:=h.len;omega),h.len];simp),h.mc,h.cm,?_⟩;have hl:=h.last.1;rw [List.take_of_length_le (by omega)];exact h.last
end
structure Lv (w wr:World) (F F':Nat->Prop) (p mm:Nat) (nodes root:Int) (wW:List aX) (f:Nat->aX) (hi:Nat->List UInt8) (k:Nat) (out:Value):Prop where
 st:fo wr F' p mm nodes root (wW++(List.range k).map f)
 row:dJ wr (Off F' mm) w out ((List.range k).map fun(i:Nat)=>((wW.length:Int)+(i:Int)+1,hi i))
 chg:ag (fun b=>F b\/b=mm) w wr
 sub:∀b,F' b->F b\/w<=b
end
end Go.Proofs.YtepgcjbhabnciaaGreat
