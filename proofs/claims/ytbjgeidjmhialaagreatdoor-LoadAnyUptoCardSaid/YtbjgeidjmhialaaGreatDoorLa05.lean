/- Part 5. -/
import Derived.Test.YtbjgeidjmhialaaGreatDoorLa04
import Derived.Laws.CopyOwn
namespace Go.Proofs.YtbjgeidjmhialaaGreatDoor
set_option maxRecDepth 100000
set_option maxHeartbeats 8000000
section
def ax.pot (c:ax):Nat:=c.src.calls+17*c.src.left.length+(16-c.idle)
structure ax.Fine (K:Nat) (c:ax):Prop where
 idle:c.idle≤15
 pot:c.pot≤K
theorem ax.ask_len (c:ax) (n:Nat):(c.ask n).1.length≤n:=Nat.le_trans (Src.read_len _ _) (Nat.min_le_left _ _)
theorem ax.ask_calls (c:ax) (n:Nat):(c.ask n).2.2.src.calls=c.src.calls+1:=Src.read_calls _ _
theorem ax.ask_left (c:ax) (n:Nat):(c.ask n).1.length+(c.ask n).2.2.src.left.length=c.src.left.length:=Src.read_left _ _
theorem ax.ask_idle (c:ax) (n:Nat):(c.ask n).2.2.idle=if(c.ask n).1≠ []∨(c.ask n).2.1≠0 then 0 else c.idle+1:=rfl
theorem ax.ask_pot {K:Nat} {c:ax} (n:Nat) (h:c.Fine K) (he:(c.ask n).1≠ []∨(c.ask n).2.1=0):(c.ask n).2.2.pot≤K:=by
 have h1:=c.ask_calls n;have h2:=c.ask_left n;have h3:=c.ask_idle n;have h4:=h.idle;have h5:=h.pot;unfold ax.pot at h5⊢
 by_cases h6:(c.ask n).1= []
 ·have h7:(c.ask n).2.1=0:=by rcases he with h|h;exact absurd h6 h;exact h
  rw [if_neg (by simp [h6,h7])] at h3;rw [h6] at h2;simp only [List.length_nil] at h2
  omega
 ·have h8:0<(c.ask n).1.length:=List.length_pos_iff.2 h6;rw [if_pos (.inl h6)] at h3;omega
theorem ax.ask_any {K:Nat} {c:ax} (n:Nat) (h:c.Fine K):(c.ask n).2.2.pot≤K+17∧(c.ask n).2.2.idle≤16:=by
 have h1:=c.ask_calls n;have h2:=c.ask_left n;have h3:=c.ask_idle n;have h4:=h.idle;have h5:=h.pot;unfold ax.pot at h5⊢;split at h3<;>omega
theorem ax.loop_eq (c:ax) (b:List UInt8) (n:Nat):c.loop b n=if n≤b.length then(b,0,c)
 else if n≤(b++(c.ask (n-b.length)).1).length then(b++(c.ask (n-b.length)).1,0,(c.ask (n-b.length)).2.2)
 else if(c.ask (n-b.length)).2.1=31 then([],41,(c.ask (n-b.length)).2.2)
 else if(c.ask (n-b.length)).2.1≠0 then([],(c.ask (n-b.length)).2.1,(c.ask (n-b.length)).2.2)
 else if 16≤(c.ask (n-b.length)).2.2.idle then([],33,(c.ask (n-b.length)).2.2)
 else(c.ask (n-b.length)).2.2.loop (b++(c.ask (n-b.length)).1) n:=by
 conv=>lhs;unfold ax.loop
theorem ax.loop_out {K:Nat} (n:Nat):∀(M:Nat) (c:ax) (b:List UInt8),(n-b.length)*17+(16-c.idle)≤M→c.Fine K→b.length≤n→
  ((c.loop b n).2.1=0→(c.loop b n).1.length=n∧(c.loop b n).2.2.pot≤K∧(c.loop b n).2.2.idle≤15∧(c.loop b n).2.2.src.left.length+n=c.src.left.length+b.length)∧(c.loop b n).2.2.pot≤K+17∧(c.loop b n).2.2.src.left.length≤c.src.left.length∧(c.loop b n).2.2.at_=c.at_∧(c.loop b n).2.2.err=c.err∧(c.loop b n).2.2.held=c.held:=by
 intro M
 induction M with
 |zero=>
  intro c b hM hF hb;have:=hF.idle
  omega
 |succ M ih=>
  intro c b hM hF hb;have h1:=c.ask_left (n-b.length);have h2:=c.ask_len (n-b.length);have h3:=c.ask_idle (n-b.length);have h4:=ax.ask_any (n-b.length) hF;have h5:=hF.idle;have h6:=hF.pot;rw [ax.loop_eq]
  split
  ·rename_i e1;exact⟨fun _=>⟨by simp only [];omega,h6,h5,by simp only [];omega⟩,by simp only [];omega,Nat.le_refl _,rfl,rfl,rfl⟩
  ·rename_i e1
   split
   ·rename_i e2;rw [List.length_append] at e2;have hne:(c.ask (n-b.length)).1≠ []:=fun e=>by rw [e] at e2;simp at e2;omega
    have hp:=ax.ask_pot (n-b.length) hF (.inl hne);rw [if_pos (.inl hne)] at h3
    exact⟨fun _=>⟨by rw [List.length_append];omega,hp,by simp only [];omega,by simp only [];omega⟩,by simp only [];omega,by simp only [];omega,rfl,rfl,rfl⟩
   ·rename_i e2
    split
    ·exact⟨fun h=>by simp at h,h4.1,by simp only [];omega,rfl,rfl,rfl⟩
    ·split
     ·rename_i e4;exact⟨fun h=>absurd h e4,h4.1,by simp only [];omega,rfl,rfl,rfl⟩
     ·rename_i e3 e4;have he:(c.ask (n-b.length)).2.1=0:=Decidable.byContradiction e4
      split
      ·exact⟨fun h=>by simp at h,h4.1,by simp only [];omega,rfl,rfl,rfl⟩
      ·rename_i e5;have hp:=ax.ask_pot (n-b.length) hF (.inr he);rw [List.length_append] at e2
       have hm:(n-(b++(c.ask (n-b.length)).1).length)*17+(16-(c.ask (n-b.length)).2.2.idle)≤M:=by
        rw [List.length_append]
        by_cases h7:(c.ask (n-b.length)).1= []
        ·rw [if_neg (by simp [h7,he])] at h3
         rw [h7];simp only [List.length_nil];omega
        ·have h8:0<(c.ask (n-b.length)).1.length:=List.length_pos_iff.2 h7;omega
       obtain⟨r1,r2,r3,r4,r5,r6⟩:=ih (c.ask (n-b.length)).2.2 (b++(c.ask (n-b.length)).1) hm ⟨by omega,hp⟩ (by rw [List.length_append];omega);refine⟨fun h=> ?_,r2,by omega,r4,r5,r6⟩;obtain⟨s1,s2,s3,s4⟩:=r1 h;exact⟨s1,s2,s3,by rw [List.length_append] at s4;omega⟩
end
section
open Go.Proofs.Tryz
open Go.RowKit
def lK (l:List Int):List Value:=l.map fun z=> .int .i64 z
structure iZ (w:World) (F:Nat→Prop) (q:Nat) (s:Src) (gA lA:Option Addr) (gn gc ln lc:Nat):Prop where
 blk:ai w q 72 #[.slice gA gn gc,.int .i64 s.fail,.int .i64 s.calls,.slice lA ln lc,.bool s.eager]
 gv:Rd w F 1 gA gn (lK s.gives)
 sb:SB w F (.slice lA ln lc) s.left
theorem iZ.chg {S:Nat→Prop} {w w':World} {F:Nat→Prop} {q:Nat} {s:Src} {gA lA:Option Addr} {gn gc ln lc:Nat} (h:iZ w F q s gA lA gn gc ln lc) (hc:ag S w w') (hq:¬S q) (hs:∀b,F b→¬S b):iZ w' F q s gA lA gn gc ln lc:=
 ⟨h.blk.chg hc hq,h.gv.chg hc hs,h.sb.chg hc hs⟩
theorem iZ.drewN {w:World} {F:Nat→Prop} {q:Nat} {s:Src} {gA lA:Option Addr} {gn gc ln lc:Nat} (h:iZ w F q s gA lA gn gc ln lc) (k:Nat):iZ (w.drewN k) F q s gA lA gn gc ln lc:=
 h.chg ((ag.refl Nil w).drewN k) (fun h=>h) (fun _ _ h=>h)
def fU (w:World) (F:Nat→Prop) (q:Nat) (s:Src):Prop:=∃gA lA gn gc ln lc,iZ w F q s gA lA gn gc ln lc
theorem iZ.gn_len {w:World} {F:Nat→Prop} {q:Nat} {s:Src} {gA lA:Option Addr} {gn gc ln lc:Nat} (h:iZ w F q s gA lA gn gc ln lc):gn=s.gives.length:=by
 have:=h.gv.1;simp [lK] at this;omega
theorem fU.chg {S:Nat→Prop} {w w':World} {F:Nat→Prop} {q:Nat} {s:Src} (h:fU w F q s) (hc:ag S w w') (hq:¬S q) (hs:∀b,F b→¬S b):fU w' F q s:=
 let⟨a,b,c,d,e,f,x⟩:=h;⟨a,b,c,d,e,f,x.blk.chg hc hq,x.gv.chg hc hs,x.sb.chg hc hs⟩
theorem fU.below {w w':World} {F:Nat→Prop} {q:Nat} {s:Src} (h:fU w F q s) (hb:Below w.heap.size w w'):fU w' F q s:=h.chg (S:=Nil) (ag.of_below hb) (fun h=>h) (fun _ _ h=>h)
def xO (F:Nat→Prop) (q:Nat) (s:Src) (gA lA:Option Addr) (gn gc ln lc n:Nat) (w:World) (e:Ending) (w':World):Prop:=
 e= .returned (.tuple #[.int .i64 (if 0<s.fail∧s.fail≤(s.calls:Int)+1 then 0 else s.most n:Nat),.bool (!decide (0<s.fail∧s.fail≤(s.calls:Int)+1))])∧iZ w' F q s.asked gA lA gn gc ln lc∧ag (fun b=>b=q) w w'
theorem Co (F:Nat→Prop) (q:Nat) (s:Src) (gA lA:Option Addr) (gn gc ln lc n:Nat) (w:World) (h:iZ w F q s gA lA gn gc ln lc) (hF:¬F q) (hc:s.calls<4611686018427387904) (hn:n≤1152921504606) (hg:gn≤1152921504606) (h0:0<s.fail) (h1:s.fail≤(s.calls:Int)+1):
  Calls prog 203 #[.pointer (some ⟨q,0,none⟩),.int .i64 n] w (xO F q s gA lA gn gc ln lc n w):=by
 refine letter fun R HR=> ?_;have HH:=aa h;have HF:=aa hF;obtain⟨fl,hfl⟩:∃fl,fl=s.fail:=⟨_,rfl⟩;obtain⟨cl,hcl⟩:∃cl,cl=s.calls:=⟨_,rfl⟩;have kZ:=aa hfl;have jy:=aa hcl;have HB:=aa h.blk;have CU:=aa h.gn_len;have z0:w.cell? ⟨q,0,none⟩=some (.slice gA gn gc):=h.blk.cell 0;have z1:w.cell? ⟨q,1,none⟩=some (.int .i64 fl):=by rw [hfl];exact h.blk.cell 1
 have z2:w.cell? ⟨q,2,none⟩=some (.int .i64 cl):=by rw [hcl];exact h.blk.cell 2
 have Do:=h.blk.frozen 2;rw [←hcl] at hc
 (rw [←hfl] at h0 h1;rw [←hcl] at h1;have H0:=aa h0;have H1:=aa h1;clear h0 h1)
 clear h hF hfl hcl;go_enter func203,ntmps203
 go_upto_region 2 with fail
 obtain⟨w1,hw1⟩:∃W,W=w.setCell ⟨q,2,none⟩ (.int .i64 ((cl:Int)+1)):=⟨_,rfl⟩;rw [←hw1]
 have HY:Hid (iZ w1 F q s.asked gA lA gn gc ln lc):=aa (by
  rw [hw1];have hch:=(ag.refl (fun b=>b=q) w).setCell (p:=⟨q,2,none⟩) (fun _=>rfl) (.int .i64 ((cl:Int)+1));have hb:=HB.out.set_ 2 (.int .i64 ((cl:Int)+1));rw [jy.out] at hb hch⊢;exact⟨hb,HH.gv.chg hch (fun b hb e=>HF (e▸hb)),HH.sb.chg hch (fun b hb e=>HF (e▸hb))⟩)
 have ib:Hid (ag (fun b=>b=q) w w1):=aa (by rw [hw1];exact(ag.refl (fun b=>b=q) w).setCell (p:=⟨q,2,none⟩) (fun _=>rfl) _);clear z0 z1 z2 Do hw1;have z0:w1.cell? ⟨q,0,none⟩=some (.slice gA gn gc):=HY.out.blk.cell 0;have z1:w1.cell? ⟨q,1,none⟩=some (.int .i64 fl):=by rw [kZ.out];exact HY.blk.cell 1
 have z2:w1.cell? ⟨q,2,none⟩=some (.int .i64 ((cl:Int)+1)):=by rw [jy.out];exact HY.blk.cell 2
 (have h0:=H0.out;have h1:=H1.out)
 go_wp2;go_quiet (fail)
 go_wp2
 (rw [HR.out];refine⟨?_,HY.drewN _,ib.drewN _⟩;have h0:=H0.out;have h1:=H1.out;rw [kZ.out] at h0 h1;rw [jy.out] at h1;rw [if_pos ⟨h0,h1⟩,decide_eq_true ⟨h0,h1⟩];rfl)
theorem wU (F:Nat→Prop) (q:Nat) (s:Src) (gA lA:Option Addr) (gn gc ln lc n:Nat) (w:World) (h:iZ w F q s gA lA gn gc ln lc) (hF:¬F q) (hc:s.calls<4611686018427387904) (hn:n≤1152921504606) (hg:gn≤1152921504606) (h0:¬0<s.fail) (h1:s.calls<gn):
  Calls prog 203 #[.pointer (some ⟨q,0,none⟩),.int .i64 n] w (xO F q s gA lA gn gc ln lc n w):=by
 refine letter fun R HR=> ?_;have HH:=aa h;have HF:=aa hF;obtain⟨fl,hfl⟩:∃fl,fl=s.fail:=⟨_,rfl⟩;obtain⟨cl,hcl⟩:∃cl,cl=s.calls:=⟨_,rfl⟩;have kZ:=aa hfl;have jy:=aa hcl;have HB:=aa h.blk;have CU:=aa h.gn_len;have z0:w.cell? ⟨q,0,none⟩=some (.slice gA gn gc):=h.blk.cell 0;have z1:w.cell? ⟨q,1,none⟩=some (.int .i64 fl):=by rw [hfl];exact h.blk.cell 1
 have z2:w.cell? ⟨q,2,none⟩=some (.int .i64 cl):=by rw [hcl];exact h.blk.cell 2
 have Do:=h.blk.frozen 2;rw [←hcl] at hc
 (rw [←hfl] at h0;rw [←hcl] at h1;have H0:=aa h0;have H1:=aa h1;clear h0 h1)
 clear h hF hfl hcl;go_enter func203,ntmps203
 go_upto_region 2 with fail
 obtain⟨w1,hw1⟩:∃W,W=w.setCell ⟨q,2,none⟩ (.int .i64 ((cl:Int)+1)):=⟨_,rfl⟩;rw [←hw1]
 have HY:Hid (iZ w1 F q s.asked gA lA gn gc ln lc):=aa (by
  rw [hw1];have hch:=(ag.refl (fun b=>b=q) w).setCell (p:=⟨q,2,none⟩) (fun _=>rfl) (.int .i64 ((cl:Int)+1));have hb:=HB.out.set_ 2 (.int .i64 ((cl:Int)+1));rw [jy.out] at hb hch⊢;exact⟨hb,HH.gv.chg hch (fun b hb e=>HF (e▸hb)),HH.sb.chg hch (fun b hb e=>HF (e▸hb))⟩)
 have ib:Hid (ag (fun b=>b=q) w w1):=aa (by rw [hw1];exact(ag.refl (fun b=>b=q) w).setCell (p:=⟨q,2,none⟩) (fun _=>rfl) _);clear z0 z1 z2 Do hw1;have z0:w1.cell? ⟨q,0,none⟩=some (.slice gA gn gc):=HY.out.blk.cell 0;have z1:w1.cell? ⟨q,1,none⟩=some (.int .i64 fl):=by rw [kZ.out];exact HY.blk.cell 1
 have z2:w1.cell? ⟨q,2,none⟩=some (.int .i64 ((cl:Int)+1)):=by rw [jy.out];exact HY.blk.cell 2
 (have h0:decide (0<fl)=false:=(decide_eq_false H0);have h1:(cl:Int)+1≤(gn:Int):=(by have:=H1.out;omega))
 go_wp2;go_quiet (fail)
 go_wp2
 (obtain⟨b,o,u,rfl,_,hx,hcell'⟩:=HY.out.gv.at_ H1;obtain⟨g,hg,rfl⟩:∃g,s.gives[cl]? =some g∧u= .int .i64 g:=(by simp only [lK,Src.asked,List.getElem?_map,Option.map_eq_some_iff] at hx;obtain⟨g,a,e⟩:=hx;exact⟨g,a,e.symm⟩);have hcell:w1.cell? ⟨b,o+cl,none⟩=some (.int .i64 g):=hcell';have wF:=aa hg;clear hx hg hcell';go_quiet (fail);go_wp2;go_quiet (fail);go_wp2;rw [HR.out];refine⟨?_,(((HY.drewN _).drewN _).drewN _),((ib.drewN _).drewN _).drewN _⟩;(have M8:¬(0<s.fail∧s.fail≤(s.calls:Int)+1):=(fun h=>absurd h.1 (by have:=H0.out;have:=kZ.out;omega));have hdd:=decide_eq_false M8;rw [if_neg M8,hdd]);unfold Src.most;rw [←jy.out,wF.out,show((min n g.toNat:Nat):Int)=max 0 (min (n:Int) g) by omega];rfl)
theorem wV (F:Nat→Prop) (q:Nat) (s:Src) (gA lA:Option Addr) (gn gc ln lc n:Nat) (w:World) (h:iZ w F q s gA lA gn gc ln lc) (hF:¬F q) (hc:s.calls<4611686018427387904) (hn:n≤1152921504606) (hg:gn≤1152921504606) (h0:¬0<s.fail) (h1:¬s.calls<gn):
  Calls prog 203 #[.pointer (some ⟨q,0,none⟩),.int .i64 n] w (xO F q s gA lA gn gc ln lc n w):=by
 refine letter fun R HR=> ?_;have HH:=aa h;have HF:=aa hF;obtain⟨fl,hfl⟩:∃fl,fl=s.fail:=⟨_,rfl⟩;obtain⟨cl,hcl⟩:∃cl,cl=s.calls:=⟨_,rfl⟩;have kZ:=aa hfl;have jy:=aa hcl;have HB:=aa h.blk;have CU:=aa h.gn_len;have z0:w.cell? ⟨q,0,none⟩=some (.slice gA gn gc):=h.blk.cell 0;have z1:w.cell? ⟨q,1,none⟩=some (.int .i64 fl):=by rw [hfl];exact h.blk.cell 1
 have z2:w.cell? ⟨q,2,none⟩=some (.int .i64 cl):=by rw [hcl];exact h.blk.cell 2
 have Do:=h.blk.frozen 2;rw [←hcl] at hc
 (rw [←hfl] at h0;rw [←hcl] at h1;have H0:=aa h0;have H1:=aa h1;clear h0 h1)
 clear h hF hfl hcl;go_enter func203,ntmps203
 go_upto_region 2 with fail
 obtain⟨w1,hw1⟩:∃W,W=w.setCell ⟨q,2,none⟩ (.int .i64 ((cl:Int)+1)):=⟨_,rfl⟩;rw [←hw1]
 have HY:Hid (iZ w1 F q s.asked gA lA gn gc ln lc):=aa (by
  rw [hw1];have hch:=(ag.refl (fun b=>b=q) w).setCell (p:=⟨q,2,none⟩) (fun _=>rfl) (.int .i64 ((cl:Int)+1));have hb:=HB.out.set_ 2 (.int .i64 ((cl:Int)+1));rw [jy.out] at hb hch⊢;exact⟨hb,HH.gv.chg hch (fun b hb e=>HF (e▸hb)),HH.sb.chg hch (fun b hb e=>HF (e▸hb))⟩)
 have ib:Hid (ag (fun b=>b=q) w w1):=aa (by rw [hw1];exact(ag.refl (fun b=>b=q) w).setCell (p:=⟨q,2,none⟩) (fun _=>rfl) _);clear z0 z1 z2 Do hw1;have z0:w1.cell? ⟨q,0,none⟩=some (.slice gA gn gc):=HY.out.blk.cell 0;have z1:w1.cell? ⟨q,1,none⟩=some (.int .i64 fl):=by rw [kZ.out];exact HY.blk.cell 1
 have z2:w1.cell? ⟨q,2,none⟩=some (.int .i64 ((cl:Int)+1)):=by rw [jy.out];exact HY.blk.cell 2
 (have h0:decide (0<fl)=false:=(decide_eq_false H0);have h1:¬((cl:Int)+1≤(gn:Int)):=(by have:=H1.out;omega))
 go_wp2;go_quiet (fail)
 go_wp2
 (go_quiet (fail);go_wp2;rw [HR.out];refine⟨?_,((HY.drewN _).drewN _),(ib.drewN _).drewN _⟩;(have M8:¬(0<s.fail∧s.fail≤(s.calls:Int)+1):=(fun h=>absurd h.1 (by have:=H0.out;have:=kZ.out;omega));have hdd:=decide_eq_false M8;rw [if_neg M8,hdd]);unfold Src.most;rw [←jy.out,List.getElem?_eq_none (by have:=CU.out;have:=H1.out;omega)];rfl)
theorem wW (F:Nat→Prop) (q:Nat) (s:Src) (gA lA:Option Addr) (gn gc ln lc n:Nat) (w:World) (h:iZ w F q s gA lA gn gc ln lc) (hF:¬F q) (hc:s.calls<4611686018427387904) (hn:n≤1152921504606) (hg:gn≤1152921504606) (h0:0<s.fail∧¬s.fail≤(s.calls:Int)+1) (h1:s.calls<gn):
  Calls prog 203 #[.pointer (some ⟨q,0,none⟩),.int .i64 n] w (xO F q s gA lA gn gc ln lc n w):=by
 refine letter fun R HR=> ?_;have HH:=aa h;have HF:=aa hF;obtain⟨fl,hfl⟩:∃fl,fl=s.fail:=⟨_,rfl⟩;obtain⟨cl,hcl⟩:∃cl,cl=s.calls:=⟨_,rfl⟩;have kZ:=aa hfl;have jy:=aa hcl;have HB:=aa h.blk;have CU:=aa h.gn_len;have z0:w.cell? ⟨q,0,none⟩=some (.slice gA gn gc):=h.blk.cell 0;have z1:w.cell? ⟨q,1,none⟩=some (.int .i64 fl):=by rw [hfl];exact h.blk.cell 1
 have z2:w.cell? ⟨q,2,none⟩=some (.int .i64 cl):=by rw [hcl];exact h.blk.cell 2
 have Do:=h.blk.frozen 2;rw [←hcl] at hc
 (rw [←hfl,←hcl] at h0;rw [←hcl] at h1;have H0:=aa h0;have H1:=aa h1;clear h0 h1)
 clear h hF hfl hcl;go_enter func203,ntmps203
 go_upto_region 2 with fail
 obtain⟨w1,hw1⟩:∃W,W=w.setCell ⟨q,2,none⟩ (.int .i64 ((cl:Int)+1)):=⟨_,rfl⟩;rw [←hw1]
 have HY:Hid (iZ w1 F q s.asked gA lA gn gc ln lc):=aa (by
  rw [hw1];have hch:=(ag.refl (fun b=>b=q) w).setCell (p:=⟨q,2,none⟩) (fun _=>rfl) (.int .i64 ((cl:Int)+1));have hb:=HB.out.set_ 2 (.int .i64 ((cl:Int)+1));rw [jy.out] at hb hch⊢;exact⟨hb,HH.gv.chg hch (fun b hb e=>HF (e▸hb)),HH.sb.chg hch (fun b hb e=>HF (e▸hb))⟩)
 have ib:Hid (ag (fun b=>b=q) w w1):=aa (by rw [hw1];exact(ag.refl (fun b=>b=q) w).setCell (p:=⟨q,2,none⟩) (fun _=>rfl) _);clear z0 z1 z2 Do hw1;have z0:w1.cell? ⟨q,0,none⟩=some (.slice gA gn gc):=HY.out.blk.cell 0;have z1:w1.cell? ⟨q,1,none⟩=some (.int .i64 fl):=by rw [kZ.out];exact HY.blk.cell 1
 have z2:w1.cell? ⟨q,2,none⟩=some (.int .i64 ((cl:Int)+1)):=by rw [jy.out];exact HY.blk.cell 2
 (have h0:=H0.out.1;have h01:=H0.out.2;have h1:(cl:Int)+1≤(gn:Int):=(by have:=H1.out;omega))
 go_wp2;go_quiet (fail)
 go_wp2
 (obtain⟨b,o,u,rfl,_,hx,hcell'⟩:=HY.out.gv.at_ H1;obtain⟨g,hg,rfl⟩:∃g,s.gives[cl]? =some g∧u= .int .i64 g:=(by simp only [lK,Src.asked,List.getElem?_map,Option.map_eq_some_iff] at hx;obtain⟨g,a,e⟩:=hx;exact⟨g,a,e.symm⟩);have hcell:w1.cell? ⟨b,o+cl,none⟩=some (.int .i64 g):=hcell';have wF:=aa hg;clear hx hg hcell';go_quiet (fail);go_wp2;go_quiet (fail);go_wp2;rw [HR.out];refine⟨?_,(((HY.drewN _).drewN _).drewN _),((ib.drewN _).drewN _).drewN _⟩;(have M8:¬(0<s.fail∧s.fail≤(s.calls:Int)+1):=(fun h=>absurd h.2 (by have:=H0.out.2;have:=kZ.out;have:=jy.out;omega));have hdd:=decide_eq_false M8;rw [if_neg M8,hdd]);unfold Src.most;rw [←jy.out,wF.out,show((min n g.toNat:Nat):Int)=max 0 (min (n:Int) g) by omega];rfl)
theorem wX (F:Nat→Prop) (q:Nat) (s:Src) (gA lA:Option Addr) (gn gc ln lc n:Nat) (w:World) (h:iZ w F q s gA lA gn gc ln lc) (hF:¬F q) (hc:s.calls<4611686018427387904) (hn:n≤1152921504606) (hg:gn≤1152921504606) (h0:0<s.fail∧¬s.fail≤(s.calls:Int)+1) (h1:¬s.calls<gn):
  Calls prog 203 #[.pointer (some ⟨q,0,none⟩),.int .i64 n] w (xO F q s gA lA gn gc ln lc n w):=by
 refine letter fun R HR=> ?_;have HH:=aa h;have HF:=aa hF;obtain⟨fl,hfl⟩:∃fl,fl=s.fail:=⟨_,rfl⟩;obtain⟨cl,hcl⟩:∃cl,cl=s.calls:=⟨_,rfl⟩;have kZ:=aa hfl;have jy:=aa hcl;have HB:=aa h.blk;have CU:=aa h.gn_len;have z0:w.cell? ⟨q,0,none⟩=some (.slice gA gn gc):=h.blk.cell 0;have z1:w.cell? ⟨q,1,none⟩=some (.int .i64 fl):=by rw [hfl];exact h.blk.cell 1
 have z2:w.cell? ⟨q,2,none⟩=some (.int .i64 cl):=by rw [hcl];exact h.blk.cell 2
 have Do:=h.blk.frozen 2;rw [←hcl] at hc
 (rw [←hfl,←hcl] at h0;rw [←hcl] at h1;have H0:=aa h0;have H1:=aa h1;clear h0 h1)
 clear h hF hfl hcl;go_enter func203,ntmps203
 go_upto_region 2 with fail
 obtain⟨w1,hw1⟩:∃W,W=w.setCell ⟨q,2,none⟩ (.int .i64 ((cl:Int)+1)):=⟨_,rfl⟩;rw [←hw1]
 have HY:Hid (iZ w1 F q s.asked gA lA gn gc ln lc):=aa (by
  rw [hw1];have hch:=(ag.refl (fun b=>b=q) w).setCell (p:=⟨q,2,none⟩) (fun _=>rfl) (.int .i64 ((cl:Int)+1));have hb:=HB.out.set_ 2 (.int .i64 ((cl:Int)+1));rw [jy.out] at hb hch⊢;exact⟨hb,HH.gv.chg hch (fun b hb e=>HF (e▸hb)),HH.sb.chg hch (fun b hb e=>HF (e▸hb))⟩)
 have ib:Hid (ag (fun b=>b=q) w w1):=aa (by rw [hw1];exact(ag.refl (fun b=>b=q) w).setCell (p:=⟨q,2,none⟩) (fun _=>rfl) _);clear z0 z1 z2 Do hw1;have z0:w1.cell? ⟨q,0,none⟩=some (.slice gA gn gc):=HY.out.blk.cell 0;have z1:w1.cell? ⟨q,1,none⟩=some (.int .i64 fl):=by rw [kZ.out];exact HY.blk.cell 1
 have z2:w1.cell? ⟨q,2,none⟩=some (.int .i64 ((cl:Int)+1)):=by rw [jy.out];exact HY.blk.cell 2
 (have h0:=H0.out.1;have h01:=H0.out.2;have h1:¬((cl:Int)+1≤(gn:Int)):=(by have:=H1.out;omega))
 go_wp2;go_quiet (fail)
 go_wp2
 (go_quiet (fail);go_wp2;rw [HR.out];refine⟨?_,((HY.drewN _).drewN _),(ib.drewN _).drewN _⟩;(have M8:¬(0<s.fail∧s.fail≤(s.calls:Int)+1):=(fun h=>absurd h.2 (by have:=H0.out.2;have:=kZ.out;have:=jy.out;omega));have hdd:=decide_eq_false M8;rw [if_neg M8,hdd]);unfold Src.most;rw [←jy.out,List.getElem?_eq_none (by have:=CU.out;have:=H1.out;omega)];rfl)
theorem Cq (F:Nat→Prop) (q:Nat) (s:Src) (gA lA:Option Addr) (gn gc ln lc n:Nat) (w:World) (h:iZ w F q s gA lA gn gc ln lc) (hF:¬F q) (hc:s.calls<4611686018427387904) (hn:n≤1152921504606) (hg:gn≤1152921504606):
  Calls prog 203 #[.pointer (some ⟨q,0,none⟩),.int .i64 n] w (xO F q s gA lA gn gc ln lc n w):=by
 by_cases h0:0<s.fail
 ·by_cases h1:s.fail≤(s.calls:Int)+1
  ·exact Co F q s gA lA gn gc ln lc n w h hF hc hn hg h0 h1
  ·by_cases h2:s.calls<gn
   ·exact wW F q s gA lA gn gc ln lc n w h hF hc hn hg ⟨h0,h1⟩ h2
   ·exact wX F q s gA lA gn gc ln lc n w h hF hc hn hg ⟨h0,h1⟩ h2
 ·by_cases h2:s.calls<gn
  ·exact wU F q s gA lA gn gc ln lc n w h hF hc hn hg h0 h2
  ·exact wV F q s gA lA gn gc ln lc n w h hF hc hn hg h0 h2
end
section
open Go.Proofs.Tryz
open Go.RowKit
noncomputable def ad7:Code:=aP (f202.body.bind (aA 6))
theorem PO (F:Nat→Prop) (q pb n k0 ln lc:Nat) (lA:Option Addr) (l:List UInt8) (cur:List Value) (w:World) {u2 u3 u4 u5 u7 u8 u9 u10 u11 u12 u13 bN bq u16 u17 bC bD u20 u21 u22 u23 u24 u25 u26 u27 u28 u29 u30 u31 u32 u33 u34 u35 u36 u37 u38 dh u40 bX u42 bY u44 u45 u46 di u48 u49 bV u51 u52 u53 bW u55 dz dB u58:Value} (Q:Exit→Act→World→Prop) (nC:Hid (∀c t (a:Act) w,Q (.panic c) ⟨t,a.defers⟩ w→Q (.panic c) a w))
  (S0:w.drew.cell? ⟨q,3,none⟩=some (.slice lA ln lc)) (HL:Hid (SB w F (.slice lA ln lc) l)) (HP:Hid (ai w pb 5 cur.toArray)) (hcn:Hid (cur.length=n)) (hk:k0≤n) (hn:n≤1152921504606) (hq:q<pb)
  (au:∀(v28 v29 v30 v31 v32 v33 v34 v35:Value) (w':World),ai w' pb 5 (splice cur 0 (aK (l.take k0))).toArray→Below pb w w'→Q .normal ⟨(.pointer (some ⟨q,0,none⟩):: .slice (some ⟨pb,0,none⟩) n n::u2::u3::u4::u5:: .int .i64 k0::u7:: .int .i64 (l.take k0).length::u9::u10::u11::u12::u13::bN::bq::u16::u17::bC::bD::u20::u21::u22::u23::u24::u25::u26::u27::v28::v29::v30::v31::v32::v33::v34::v35::u36::u37::u38::dh::u40::bX::u42::bY::u44::u45::u46::di::u48::u49::bV::u51::u52::u53::bW::u55::dz::dB::u58:: []).toArray,[]⟩ w'):
  Code.wp prog ad7 Q ⟨(.pointer (some ⟨q,0,none⟩):: .slice (some ⟨pb,0,none⟩) n n::u2::u3::u4::u5:: .int .i64 k0::u7::u8::u9::u10::u11::u12::u13::bN::bq::u16::u17::bC::bD::u20::u21::u22::u23::u24::u25::u26::u27::u28::u29::u30::u31::u32::u33::u34::u35::u36::u37::u38::dh::u40::bX::u42::bY::u44::u45::u46::di::u48::u49::bV::u51::u52::u53::bW::u55::dz::dB::u58:: []).toArray,[]⟩ w:=by
 have dF:=aa au;have HD:Hid (Below w.heap.size w w.drew):=aa (Below.refl _ _).drew;have Vb:=aa (HL.below HD);have HPD:=aa (HP.below HD)
 have hps:(prog.info? 5).map (·.size)=some 1:=by
  obtain⟨i0,hi0,_,hz1,_⟩:=info_parts dK;rw [hi0];simp [hz1]
 have hki:(k0:Int)≤(n:Int):=by omega
 have S0':=S0;have ek:Hid (Below pb w w.drew):=aa (HD.mono (Nat.le_of_lt HP.lt));clear au;conv=>arg 2;whnf
 refine aX (fun w'=>w'.cell? ⟨q,3,none⟩=some (.slice lA ln lc)) (by kernel_rfl) ?_;refine vT 0 S0 ?_;refine vT 1 S0 ?_;refine vT 2 S0 ?_;refine vT 3 S0 ?_;refine vT 4 S0 ?_;refine vT 5 S0 ?_;refine vT 6 S0 ?_;refine aR (i:=7) (by kernel_rfl) rfl (fun K hK=> ?_);refine step_copy_splice rfl (.tmp 30) (.tmp 34) 24 24 rfl 5 underlying24 hps (some ⟨pb,0,none⟩) lA k0 n ln lc rfl rfl pb 0 cur 5 HPD (aK (l.take k0)) (by have:=Vb.out.parts.2.2.1;rw [dM,List.length_take];show _=min ln k0;omega) (fun h0=>⟨rfl,by{have hp:=Vb.out.parts;have h1:0<ln:=(by rw [dM,List.length_take] at h0;omega);obtain⟨b,o,rfl,_,hc⟩:=hp.2.2.2.2 h1;refine⟨_,rfl,fun j v hj=> ?_⟩;rw [iP];exact hc j v (by rw [←BP] at hj;rw [List.getElem?_take] at hj;split at hj;exact hj;cases hj)}⟩) (by rw [dM,List.length_take];have:=hcn.out;omega) (cO _) pb w ek (Nat.le_refl _) ?_;intro w2 hg2 hb2;have wF:=aa hg2;have HB2:=aa hb2;refine hK.out _ _ (sJ HB2 hq (show w.cell? ⟨q,3,none⟩=some (.slice lA ln lc) from S0')) ?_;clear hK K;try simp only [aL,aN,aZ,aC]
 refine vT 8 (sJ HB2 hq (show w.cell? ⟨q,3,none⟩=some (.slice lA ln lc) from S0')) ?_;refine bP (by kernel_rfl) ?_ _;go_simp
 simp only [dM];exact dF _ _ _ _ _ _ _ _ _ wF.out HB2
end
section
open Go.Proofs.Tryz
open Go.RowKit
theorem nS (l:List UInt8) (k:Nat):l.drop (l.take k).length=l.drop k:=by
 rw [List.length_take]
 rcases Nat.le_total k l.length with h|h
 ·rw [Nat.min_eq_left h]
 ·rw [Nat.min_eq_right h,List.drop_of_length_le (Nat.le_refl _),List.drop_of_length_le h]
theorem Rd.dropn {w:World} {F:Nat→Prop} {b o n m:Nat} {bs:List UInt8} (h:Rd w F 1 (some ⟨b,o,none⟩) n (aK bs)) (hm:m≤n):Rd w F 1 (some ⟨b,o+m,none⟩) (n-m) (aK (bs.drop m)):=by
 refine⟨by have:=h.1;rw [dM] at this⊢;rw [List.length_drop];omega,fun h0=> ?_⟩;obtain⟨b',o',e,hF,hc⟩:=h.2 (by omega);injection e with e;injection e with e1 e2
 subst e1;subst e2;refine⟨b,o+m,rfl,hF,fun j u hj=> ?_⟩;rw [Nat.add_assoc];refine hc (m+j) u ?_;rw [←vJ,List.getElem?_drop] at hj;exact hj
theorem SB.dropn {w:World} {F:Nat→Prop} {b o n c m:Nat} {bs:List UInt8} {nA:Option Addr} (h:SB w F (.slice (some ⟨b,o,none⟩) n c) bs) (hm:m≤n) (hA:n-m=0∨nA=some ⟨b,o+m,none⟩):SB w F (.slice nA (n-m) (c-m)) (bs.drop m):=by
 obtain⟨h1,h2,h3,h4⟩:=h.parts;refine SB.mk (by omega) (by omega) (by rw [List.length_drop];omega) ?_
 rcases hA with hA|rfl
 ·have hd:bs.drop m= []:=List.drop_of_length_le (by omega);rw [hA,hd]
  exact Rd.none_ _ _ _ _
 ·exact h4.dropn hm
def Bf (w:World) (pb n:Nat) (bs:List UInt8):Prop:=∃cur:List Value,ai w pb 5 cur.toArray∧cur.length=n∧cur.take bs.length=aK bs
def Reads (F:Nat→Prop) (q pb n:Nat) (s:Src) (w:World) (e:Ending) (w':World):Prop:=
 e= .returned (.tuple #[.int .i64 ((s.read n).1.length:Nat),.int .i64 (s.read n).2.1])∧fU w' F q (s.read n).2.2∧Bf w' pb n (s.read n).1∧ag (fun b=>b=q∨pb≤b) w w'
theorem Src.read_broken {s:Src} {n:Nat} (h:0<s.fail∧s.fail≤(s.calls:Int)+1):s.read n=([],32,s.asked):=by unfold Src.read;rw [if_pos h]
theorem Src.read_end {s:Src} {n:Nat} (h:¬(0<s.fail∧s.fail≤(s.calls:Int)+1)) (h2:s.left= []):s.read n=([],31,s.asked):=by unfold Src.read;rw [if_neg h,if_pos h2]
theorem Src.read_go {s:Src} {n:Nat} (h:¬(0<s.fail∧s.fail≤(s.calls:Int)+1)) (h2:s.left≠ []):s.read n=(s.left.take (s.most n),if s.eager=true∧s.left.drop (s.most n)= [] then 31 else 0,{s.asked with left:=s.left.drop (s.most n)}):=by unfold Src.read;rw [if_neg h,if_neg h2]
theorem Ha (F:Nat→Prop) (q pb n:Nat) (s:Src) (w:World) (h:fU w F q s) (hF:¬F q) (XC:∀b,F b→b<pb) (hp:Bf w pb n []) (hq:q<pb) (hc:s.calls<4611686018427387904) (hn:n≤1152921504606) (hg:s.gives.length≤1152921504606) (hl:s.left.length≤1152921504606):
  Calls prog 202 #[.pointer (some ⟨q,0,none⟩),.slice (some ⟨pb,0,none⟩) n n] w (Reads F q pb n s w):=by
 refine letter fun R HR=> ?_;obtain⟨gA,lA,gn,gc,ln,lc,hy⟩:=h;obtain⟨cur,hb,hcl,_⟩:=hp;have HY:=aa hy;have HF:=aa hF;have ny:=aa XC;have HB:=aa hb;have jy:=aa hcl;have Rn:=aa hl;have Uw:Hid (gn≤1152921504606):=aa (by have:=hy.gn_len;omega);obtain⟨br,hbr⟩:∃br,br=decide (0<s.fail∧s.fail≤(s.calls:Int)+1):=⟨_,rfl⟩;have uB:=aa hbr;obtain⟨k0,hk0⟩:∃k0:Nat,k0=if 0<s.fail∧s.fail≤(s.calls:Int)+1 then 0 else s.most n:=⟨_,rfl⟩;have HK:=aa hk0;have HQ:=aa hq;have ES:=aa hc;clear hy hF XC hb hcl hl hbr hk0 hg hc
 cases br with
 |true=>
  have jT:Hid (0<s.fail∧s.fail≤(s.calls:Int)+1):=aa (of_decide_eq_true uB.out.symm);go_enter func202,ntmps202
  go_wp2_with (go_at_call 203;go_loud (refine(Cq F q s gA lA gn gc ln lc n w HY HF ES hn Uw).mono ?_);rintro e w1 ⟨rfl,hy1,hc1⟩;rw [←uB.out,←HK.out];have wC:=aa hy1;have ib:=aa hc1;clear hy1 hc1)
  rw [HR.out];unfold Reads;rw [Src.read_broken jT.out]
  exact⟨rfl,⟨gA,lA,gn,gc,ln,lc,wC⟩,⟨cur,HB.chg ib (fun e=>by have:=HQ.out;omega),jy,by simp [aK]⟩,ib.mono (fun b _ e=> .inl e)⟩
 |false=>
  have jT:Hid (¬(0<s.fail∧s.fail≤(s.calls:Int)+1)):=aa (of_decide_eq_false uB.out.symm);have iH:Hid (k0=s.most n):=aa (by rw [HK.out,if_neg jT.out]);go_enter func202,ntmps202
  go_upto_region 2 with(go_at_call 203;go_loud (refine(Cq F q s gA lA gn gc ln lc n w HY HF ES hn Uw).mono ?_);rintro e w1 ⟨rfl,hy1,hc1⟩;rw [←uB.out,←HK.out];have wC:=aa hy1;have ib:=aa hc1;clear hy1 hc1)
  have jv:Hid (ln=s.left.length):=aa wC.sb.parts.2.2.1;have z3:w1.cell? ⟨q,3,none⟩=some (.slice lA ln lc):=wC.out.blk.cell 3;have z4:w1.cell? ⟨q,4,none⟩=some (.bool s.eager):=wC.out.blk.cell 4
  by_cases h0:ln=0
  ·have JA:Hid (s.left= []):=aa (List.eq_nil_of_length_eq_zero (by have:=jv.out;omega));subst h0;go_wp2;rw [HR.out];unfold Reads;rw [Src.read_end jT.out JA.out]
   exact⟨rfl,⟨gA,lA,gn,gc,0,lc,wC⟩,⟨cur,HB.chg ib (fun e=>by have:=HQ.out;omega),jy,by simp [aK]⟩,ib.mono (fun b _ e=> .inl e)⟩
  ·have JA:Hid (s.left≠ []):=aa (fun e=>h0 (by rw [jv.out,e];rfl));have h0':¬((ln:Int)=0):=by omega
   go_upto_region 6 with fail
   refine PO F q pb n k0 ln lc lA s.left cur w1 _ (by exact aa (fun _ _ _ _ h=>h)) z3 (aa wC.sb) (aa (HB.chg ib (fun e=>by have:=HQ.out;omega))) jy (by have:=iH.out;have:=s.most_le n;omega) hn HQ ?_;intro v28 v29 v30 v31 v32 v33 v34 v35 w2 hb2 Ta;have HB2:=aa hb2;have q8:=aa Ta
   have yL:Hid (iZ w2 F q s.asked gA lA gn gc ln lc):=aa (by
    have hch:ag (fun b=>pb≤b) w1 w2:=ag.of_below_ Ta (fun b _ hb=>hb);exact wC.chg hch (fun e=>by have:=HQ.out;omega) (fun b hb e=>by have:=ny.out b hb;omega))
   obtain⟨m,hm⟩:∃m,m=(s.left.take k0).length:=⟨_,rfl⟩;rw [←hm];have HM:=aa hm;have jw:Hid (k0≤n):=aa (by have:=iH.out;have:=s.most_le n;omega);have Ng:m≤ln:=by rw [hm,List.length_take,jv.out];omega
   obtain⟨b,o,rfl,AB,_⟩:=yL.out.sb.parts.2.2.2.2 (by omega);have hlc:ln≤lc:=yL.out.sb.parts.1;have y3:w2.cell? ⟨q,3,none⟩=some (.slice (some ⟨b,o,none⟩) ln lc):=yL.out.blk.cell 3;have XH:=yL.out.blk.frozen 3;obtain⟨eg,Vm⟩:∃eg,eg=s.eager:=⟨_,rfl⟩;have Uo:=aa Vm;have Nh:(m:Int)≤(ln:Int):=by omega
   have hln:ln≤1152921504606:=by have:=Rn.out;have:=jv.out;omega
   clear hb2 Ta hm z3 z4 Vm
   by_cases hck:lc=m
   ·have hlm:ln=m:=by omega
    go_upto_region 8 with fail
    obtain⟨w3,hw3⟩:∃W,W=w2.setCell ⟨q,3,none⟩ (.slice (some ⟨b,o,none⟩) 0 0):=⟨_,rfl⟩;rw [←hw3]
    have xw:Hid (iZ w3 F q {s.asked with left:=s.left.drop (s.most n)} gA (some ⟨b,o,none⟩) gn gc 0 0):=aa (by
     rw [hw3];have hch:=(ag.refl (fun b=>b=q) w2).setCell (p:=⟨q,3,none⟩) (fun _=>rfl) (.slice (some ⟨b,o,none⟩) 0 0);refine⟨yL.blk.set_ 3 _,yL.gv.chg hch (fun b hb e=>HF (e▸hb)),?_⟩;rw [←iH.out,←nS,←HM.out];have hsd:=SB.dropn (nA:=(some ⟨b,o,none⟩)) yL.sb Ng (.inl (by omega))
     (rw [show ln-m=0 by omega,show lc-m=0 by omega] at hsd)
     exact hsd.chg hch (fun b hb e=>HF (e▸hb)))
    have HB3:Hid (ai w3 pb 5 (splice cur 0 (aK (s.left.take k0))).toArray):=aa (by rw [hw3];exact HB2.far (p:=⟨q,3,none⟩) (fun e=>by have e:pb=q:=e;have:=HQ.out;omega) _)
    have gN:Hid (ag (fun b=>b=q∨pb≤b) w w3):=aa (by
     rw [hw3];refine(((ib.mono (fun b _ e=> .inl e)).trans (?_:ag (fun b=>b=q∨pb≤b) w1 w2) (fun _ _ h=>h))).setCell (p:=⟨q,3,none⟩) (fun _=> .inl rfl) _;exact ag.of_below_ q8 (fun b _ hb=> .inr hb))
    have z3:w3.cell? ⟨q,3,none⟩=some (.slice (some ⟨b,o,none⟩) 0 0):=xw.out.blk.cell 3;have z4:w3.cell? ⟨q,4,none⟩=some (.bool eg):=(xw.out.blk.cell 4).trans (by rw [Uo.out];rfl);clear hw3
    have Qr:Hid (Bf w3 pb n (s.left.take k0)):=aa ⟨_,HB3,by rw [length_splice _ _ _ (by rw [dM,jy.out];have:=HM.out;have:=jw.out;rw [List.length_take];omega)];exact jy,by
     unfold splice;simp [dM]⟩
    have NA:Hid (0=(s.left.drop (s.most n)).length):=aa xw.sb.parts.2.2.1
    cases eg with
    |true=>
     by_cases hz:(0:Nat)=0
     ·have hz':((0:Nat):Int)=0:=by omega
      have PP:Hid (s.eager=true∧s.left.drop (s.most n)= []):=aa ⟨Uo.out.symm,List.eq_nil_of_length_eq_zero (by have:=NA.out;omega)⟩;go_wp2;rw [HR.out];unfold Reads;rw [Src.read_go jT.out JA.out,if_pos PP.out]
      exact⟨by rw [HM.out,iH.out],⟨gA,_,gn,gc,_,_,xw⟩,by have:=Qr.out;rw [iH.out] at this;exact this,gN⟩
     ·exact absurd rfl hz
    |false=>
     have PP:Hid (¬(s.eager=true∧s.left.drop (s.most n)= [])):=aa (fun h=>by have h1:=h.1;rw [←Uo.out] at h1;cases h1);go_wp2;rw [HR.out];unfold Reads;rw [Src.read_go jT.out JA.out,if_neg PP.out]
     exact⟨by rw [HM.out,iH.out],⟨gA,_,gn,gc,_,_,xw⟩,by have:=Qr.out;rw [iH.out] at this;exact this,gN⟩
   ·go_upto_region 8 with fail
    obtain⟨w3,hw3⟩:∃W,W=w2.setCell ⟨q,3,none⟩ (.slice (some ⟨b,o+m,none⟩) (ln-m) (lc-m)):=⟨_,rfl⟩;rw [←hw3]
    have xw:Hid (iZ w3 F q {s.asked with left:=s.left.drop (s.most n)} gA (some ⟨b,o+m,none⟩) gn gc (ln-m) (lc-m)):=aa (by
     rw [hw3];have hch:=(ag.refl (fun b=>b=q) w2).setCell (p:=⟨q,3,none⟩) (fun _=>rfl) (.slice (some ⟨b,o+m,none⟩) (ln-m) (lc-m));refine⟨yL.blk.set_ 3 _,yL.gv.chg hch (fun b hb e=>HF (e▸hb)),?_⟩;rw [←iH.out,←nS,←HM.out];have hsd:=SB.dropn (nA:=(some ⟨b,o+m,none⟩)) yL.sb Ng (.inr rfl)
     skip
     exact hsd.chg hch (fun b hb e=>HF (e▸hb)))
    have HB3:Hid (ai w3 pb 5 (splice cur 0 (aK (s.left.take k0))).toArray):=aa (by rw [hw3];exact HB2.far (p:=⟨q,3,none⟩) (fun e=>by have e:pb=q:=e;have:=HQ.out;omega) _)
    have gN:Hid (ag (fun b=>b=q∨pb≤b) w w3):=aa (by
     rw [hw3];refine(((ib.mono (fun b _ e=> .inl e)).trans (?_:ag (fun b=>b=q∨pb≤b) w1 w2) (fun _ _ h=>h))).setCell (p:=⟨q,3,none⟩) (fun _=> .inl rfl) _;exact ag.of_below_ q8 (fun b _ hb=> .inr hb))
    have z3:w3.cell? ⟨q,3,none⟩=some (.slice (some ⟨b,o+m,none⟩) (ln-m) (lc-m)):=xw.out.blk.cell 3;have z4:w3.cell? ⟨q,4,none⟩=some (.bool eg):=(xw.out.blk.cell 4).trans (by rw [Uo.out];rfl);clear hw3
    have Qr:Hid (Bf w3 pb n (s.left.take k0)):=aa ⟨_,HB3,by rw [length_splice _ _ _ (by rw [dM,jy.out];have:=HM.out;have:=jw.out;rw [List.length_take];omega)];exact jy,by
     unfold splice;simp [dM]⟩
    have NA:Hid ((ln-m)=(s.left.drop (s.most n)).length):=aa xw.sb.parts.2.2.1
    cases eg with
    |true=>
     by_cases hz:((ln-m):Nat)=0
     ·have hz':(((ln-m):Nat):Int)=0:=by omega
      have PP:Hid (s.eager=true∧s.left.drop (s.most n)= []):=aa ⟨Uo.out.symm,List.eq_nil_of_length_eq_zero (by have:=NA.out;omega)⟩;go_wp2;rw [HR.out];unfold Reads;rw [Src.read_go jT.out JA.out,if_pos PP.out]
      exact⟨by rw [HM.out,iH.out],⟨gA,_,gn,gc,_,_,xw⟩,by have:=Qr.out;rw [iH.out] at this;exact this,gN⟩
     ·(have hz':¬(((ln-m:Nat):Int)=0):=by omega);(have PP:Hid (¬(s.eager=true∧s.left.drop (s.most n)= [])):=aa (fun h=>hz (by rw [NA.out,h.2];rfl)));go_wp2;rw [HR.out];unfold Reads;rw [Src.read_go jT.out JA.out,if_neg PP.out];exact⟨by rw [HM.out,iH.out],⟨gA,_,gn,gc,_,_,xw⟩,by have:=Qr.out;rw [iH.out] at this;exact this,gN⟩
    |false=>
     have PP:Hid (¬(s.eager=true∧s.left.drop (s.most n)= [])):=aa (fun h=>by have h1:=h.1;rw [←Uo.out] at h1;cases h1);go_wp2;rw [HR.out];unfold Reads;rw [Src.read_go jT.out JA.out,if_neg PP.out];exact⟨by rw [HM.out,iH.out],⟨gA,_,gn,gc,_,_,xw⟩,by have:=Qr.out;rw [iH.out] at this;exact this,gN⟩
end
end Go.Proofs.YtbjgeidjmhialaaGreatDoor
