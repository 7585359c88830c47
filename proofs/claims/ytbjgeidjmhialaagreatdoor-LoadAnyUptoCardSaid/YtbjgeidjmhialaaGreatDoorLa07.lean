/- Part 7. -/
import Derived.Test.YtbjgeidjmhialaaGreatDoorLa06
namespace Go.Proofs.YtbjgeidjmhialaaGreatDoor
set_option maxRecDepth 100000
set_option maxHeartbeats 8000000
section
open Go.Proofs.Tryz
open Go.RowKit
theorem uU (F:Nat→Prop) (q p hv n K:Nat) (c:ax) (w:World) (h:kP w F q p c hv) (hf:c.Fine K) (hF:¬F p) (Jz:p<w.heap.size) (hne:q≠p) (Hd:¬F q) (AB:∀b,F b→b<w.heap.size) (hK:K≤1152921504606846976) (hn:n≤1152921504606) (hn0:0<n) (hg:c.src.gives.length≤1152921504606) (hl:c.src.left.length≤1152921504606):
  Calls prog 98 #[.pointer (some ⟨q,0,none⟩),.int .i64 n] w (nK F q p hv n c w):=by
 cases hh:c.held with
 |none=>exact Hf F q p hv n K c w h hf hF Jz hne Hd AB hK hn hn0 hg hl hh
 |some x=>exact Hg F q p hv n K x c w h hf hF Jz hne Hd AB hK hn hn0 hg hl hh
def Hl (F:Nat→Prop) (q p n:Nat) (c:ax) (w:World) (e:Ending) (w':World):Prop:=
 ∃v hv,e= .returned (.tuple #[v,.int .i64 (c.bytes n).2.1])∧((c.bytes n).2.1=0→Ow w' w.heap.size v (c.bytes n).1)∧kP w' F q p (c.bytes n).2.2 hv∧ag (Cs q p w.heap.size) w w'
theorem bytes_err (F:Nat→Prop) (q p hv n:Nat) (c:ax) (w:World) (h:kP w F q p c hv) (he:c.err≠0):
  Calls prog 73 #[.pointer (some ⟨q,0,none⟩),.int .i64 n] w (Hl F q p n c w):=by
 refine letter fun R HR=> ?_;obtain⟨er,jf⟩:∃er,er=c.err:=⟨_,rfl⟩;have jR:=aa jf;have z1:w.cell? ⟨q,1,none⟩=some (.int .i64 er):=(h.blk.cell 1).trans (by rw [jf];rfl);have HH:=aa h;rw [←jf] at he;have HE:=aa he;have h1':(er==0)=false:=by rw [beq_eq_false_iff_ne];exact he
 have FD:Hid (c.bytes n=([],er,c)):=aa (by unfold ax.bytes;rw [jf] at he;rw [if_pos he,jf]);clear h jf;go_enter func73,ntmps73
 go_wp2;go_quiet (fail)
 go_wp2;rw [HR.out]
 unfold Hl;rw [FD.out];exact⟨_,hv,rfl,fun h=>absurd h HE,⟨HH.blk.chg ((ag.refl Nil w).drewN _) (fun h=>h),HH.src.chg ((ag.refl Nil w).drewN _) (fun h=>h) (fun _ _ h=>h),HH.hl⟩,(ag.refl _ _).drewN _⟩
theorem bytes_ok (F:Nat→Prop) (q p hv n K:Nat) (c:ax) (w:World) (h:kP w F q p c hv) (he:c.err=0) (hat:c.at_≤1152921504606) (hf:c.Fine K) (hF:¬F p) (Jz:p<w.heap.size) (hne:q≠p) (Hd:¬F q) (AB:∀b,F b→b<w.heap.size) (hK:K≤1152921504606846976) (hn:n≤1152921504606) (hn0:0<n) (hg:c.src.gives.length≤1152921504606) (hl:c.src.left.length≤1152921504606):
  Calls prog 73 #[.pointer (some ⟨q,0,none⟩),.int .i64 n] w (Hl F q p n c w):=by
 refine letter fun R HR=> ?_;obtain⟨L,hL⟩:∃L,L=ax.loop {c with held:=none} c.held.toList n:=⟨_,rfl⟩;have FD:Hid (c.bytes n=if L.2.1=0 then(L.1,0,{L.2.2 with at_:=c.at_+n}) else([],L.2.1,{L.2.2 with err:=L.2.1})):=aa (by unfold ax.bytes;rw [if_neg (fun h=>h he),if_neg (by omega),hL]);have hrw:(w.drewN 0)=w.drewN 0:=rfl;obtain⟨ca,Qk⟩:∃ca,ca=c.at_:=⟨_,rfl⟩;have JW:=aa Qk;rw [←Qk] at hat;have z0:w.cell? ⟨q,0,none⟩=some (.int .i64 ca):=(h.blk.cell 0).trans (by rw [Qk];rfl);have z1:w.cell? ⟨q,1,none⟩=some (.int .i64 0):=(h.blk.cell 1).trans (by rw [he];rfl);have z4:w.cell? ⟨q,4,none⟩=some (.int .i64 9223372036854775807):=h.blk.cell 4;have HH:=aa h;have HT:Hid (∀k,Calls prog 98 #[.pointer (some ⟨q,0,none⟩),.int .i64 n] (w.drewN k) (nK F q p hv n c (w.drewN k))):=aa (fun k=>uU F q p hv n K c _ ⟨h.blk.chg ((ag.refl Nil w).drewN k) (fun h=>h),h.src.chg ((ag.refl Nil w).drewN k) (fun h=>h) (fun _ _ h=>h),h.hl⟩ hf hF Jz hne Hd AB hK hn hn0 hg hl);have Vw:=aa hL
 have HAT:Hid (L.2.2.at_=ca):=aa (by
  rw [hL,Qk];exact(ax.loop_out (K:=K) n _ {c with held:=none} c.held.toList (Nat.le_refl _) ⟨hf.idle,hf.pot⟩ (by cases c.held<;>simp;omega)).2.2.2.1)
 have hwr:IntKind.i64.wrap ((9223372036854775807:Int)-ca)=9223372036854775807-ca:=IntWalk.i64_in _ (by omega);have hnl:¬((9223372036854775807:Int)-ca<n):=by omega
 clear h he hL Qk hrw;go_enter func73,ntmps73
 go_wp2;go_quiet (fail)
 go_upto_region 8 with(go_at_call 98;go_loud (refine(HT _).mono ?_);rintro e w2 ⟨v,rfl,ho,hi,hc⟩;rw [←Vw.out] at ho hi⊢;have HO:=aa ho;have HI:=aa hi;have HC:Hid (ag (Cs q p w.heap.size) w w2):=aa (((ag.refl (Cs q p w.heap.size) w).drewN _).trans hc (fun _ _ h=>h));clear ho hi hc)
 obtain⟨er,jf⟩:∃er,er=L.2.1:=⟨_,rfl⟩;rw [←jf];have jR:=aa jf;clear jf z0 z1 z4 hwr hnl
 by_cases h0:er=0
 ·have H0:Hid (L.2.1=0):=aa (by rw [←jR.out];exact h0);have z0:w2.cell? ⟨q,0,none⟩=some (.int .i64 ca):=(HI.out.blk.cell 0).trans (by rw [HAT.out];rfl);have Nn:=HI.out.blk.frozen 0;subst h0;go_wp2;rw [HR.out];unfold Hl;rw [FD.out,if_pos H0.out];have hch:=(ag.refl (fun b=>b=q) w2).setCell (p:=⟨q,0,none⟩) (fun _=>rfl) (.int .i64 ((ca:Int)+n))
  refine⟨v,hv,rfl,fun _=> ?_,⟨?_,HI.src.chg hch (fun e=>hne e.symm) (fun b hb e=>Hd (e▸hb)),HI.hl⟩,HC.setCell (p:=⟨q,0,none⟩) (fun _=> .inl rfl) _⟩
  ·exact(HO H0).chg hch (fun g hg e=>by have h1:=(ah (HO H0) g hg).1;have h2:=HH.out.blk.lt;have e:g=q:=e;have h3:w.heap.size≤g:=h1;omega)
  ·have hb:=HI.out.blk.set_ 0 (.int .i64 ((ca:Int)+n));rw [JW.out] at hb⊢
   exact hb
 ·have H0:Hid (¬L.2.1=0):=aa (by rw [←jR.out];exact h0);have hsz:1<(#[Value.int .i64 L.2.2.at_,.int .i64 L.2.2.err,.int .i64 L.2.2.idle,.iface 35 (.pointer (some ⟨p,0,none⟩)),.int .i64 9223372036854775807,.int .u8 hv,.bool L.2.2.held.isSome]).size:=by simp
  go_wp2_with (go_at_call 97;go_loud (refine(uS q _ _ er w2 HI.blk hsz).mono ?_);rintro e w3 ⟨rfl,rfl⟩)
  rw [HR.out];unfold Hl;rw [FD.out,if_neg H0.out];have hch:=(ag.refl (fun b=>b=q) w2).setCell (p:=⟨q,1,none⟩) (fun _=>rfl) (.int .i64 er);refine⟨_,hv,by{rw [jR.out];rfl},fun h=>absurd h H0,⟨?_,HI.src.chg hch (fun e=>hne e.symm) (fun b hb e=>Hd (e▸hb)),HI.hl⟩,HC.setCell (p:=⟨q,1,none⟩) (fun _=> .inl rfl) _⟩;have hb:=HI.out.blk.set_ 1 (.int .i64 er);rw [jR.out] at hb⊢;exact hb
end
section
structure ax.Ok (K:Nat) (c:ax):Prop where
 fine:c.err=0→c.Fine K
 sum:c.at_+c.held.toList.length+c.src.left.length≤1152921504606
 gives:c.src.gives.length≤1152921504606
theorem Src.read_gives (s:Src) (n:Nat):(s.read n).2.2.gives=s.gives:=by
 unfold Src.read
 split
 ·rfl
 ·split<;>rfl
theorem ax.loop_gives (n:Nat):∀(M:Nat) (c:ax) (b:List UInt8),(n-b.length)*17+(16-c.idle)≤M→(c.loop b n).2.2.src.gives=c.src.gives:=by
 intro M
 induction M with
 |zero=>
  intro c b hM
  rw [ax.loop_eq,if_pos (by omega)]
 |succ M ih=>
  intro c b hM;have h2:(c.ask (n-b.length)).2.2.src.gives=c.src.gives:=Src.read_gives _ _;have h3:=c.ask_idle (n-b.length);rw [ax.loop_eq]
  split
  ·rfl
  ·split
   ·exact h2
   ·rename_i e1 e2
    split
    ·exact h2
    ·split
     ·exact h2
     ·rename_i e3 e4;have he:(c.ask (n-b.length)).2.1=0:=Decidable.byContradiction e4
      split
      ·exact h2
      ·rename_i e5;rw [ih _ _ ?_,h2];rw [List.length_append] at e2⊢
       by_cases h7:(c.ask (n-b.length)).1= []
       ·rw [if_neg (by simp [h7,he])] at h3
        rw [h7];simp only [List.length_nil];omega
       ·have h8:0<(c.ask (n-b.length)).1.length:=List.length_pos_iff.2 h7;rw [if_pos (.inl h7)] at h3;omega
theorem ax.held_len (c:ax):c.held.toList.length≤1:=by cases c.held<;>simp
theorem ax.bytes_len {K:Nat} {c:ax} (h:c.Ok K) (n:Nat) (hn:0<n) (h0:(c.bytes n).2.1=0):(c.bytes n).1.length=n:=by
 unfold ax.bytes at h0⊢
 by_cases he:c.err=0
 ·rw [if_neg (fun h=>h he),if_neg (by omega)] at h0⊢
  split at h0
  ·rename_i h1;rw [if_pos h1]
   exact((ax.loop_out (K:=K) n _ {c with held:=none} c.held.toList (Nat.le_refl _) ⟨(h.fine he).idle,(h.fine he).pot⟩ (by have:=c.held_len;omega)).1 h1).1
  ·rename_i h1;exact absurd h0 h1
 ·rw [if_pos he] at h0;exact absurd h0 he
theorem ax.bytes_err (c:ax) (n:Nat) (h:(c.bytes n).2.1≠0):(c.bytes n).1= []:=by
 unfold ax.bytes at h⊢
 split
 ·rfl
 ·rename_i h1;rw [if_neg h1] at h
  split
  ·rfl
  ·rename_i h2;rw [if_neg h2] at h
   split
   ·rename_i h3;rw [if_pos h3] at h;exact absurd rfl h
   ·rfl
theorem ax.bytes_ok {K:Nat} {c:ax} (h:c.Ok K) (n:Nat):(c.bytes n).2.2.Ok K:=by
 unfold ax.bytes
 split
 ·exact h
 ·rename_i he;have he:c.err=0:=Decidable.byContradiction he
  split
  ·exact h
  ·rename_i hn;obtain⟨h1,h2,h3,h4,h5,h6⟩:=ax.loop_out (K:=K) n _ {c with held:=none} c.held.toList (Nat.le_refl _) ⟨(h.fine he).idle,(h.fine he).pot⟩ (by have:=c.held_len;omega);have hg:=ax.loop_gives n _ {c with held:=none} c.held.toList (Nat.le_refl _);have hs:=h.sum;have hgl:=h.gives;simp only [] at h1 h3 h4 h5 h6 hg
   split
   ·rename_i h0;obtain⟨a1,a2,a3,a4⟩:=h1 h0
    refine⟨fun _=>⟨a3,a2⟩,?_,?_⟩
    ·simp only [h6,Option.toList_none,List.length_nil];omega
    ·simp only [hg];exact hgl
   ·rename_i h0
    refine⟨fun h=>absurd h h0,?_,?_⟩
    ·simp only [h6,h4,Option.toList_none,List.length_nil];omega
    ·simp only [hg];exact hgl
theorem ax.bytes_same {K:Nat} {c:ax} (h:c.Ok K) (n:Nat):(c.bytes n).2.2.err=(c.bytes n).2.1:=by
 unfold ax.bytes
 split
 ·rfl
 ·rename_i he;have he:c.err=0:=Decidable.byContradiction he
  split
  ·exact he
  ·rename_i hn;obtain⟨h1,h2,h3,h4,h5,h6⟩:=ax.loop_out (K:=K) n _ {c with held:=none} c.held.toList (Nat.le_refl _) ⟨(h.fine he).idle,(h.fine he).pot⟩ (by have:=c.held_len;omega)
   split
   ·exact h5.trans he
   ·rfl
theorem ax.err_ok {K:Nat} {c:ax} (h:c.Ok K) {e:Int} (he:e≠0):({c with err:=e}:ax).Ok K:=⟨fun h=>absurd h he,h.sum,h.gives⟩
theorem ax.numL_eq (k v:Nat) (c:ax) (hk:k<10):c.numL k v=if(c.bytes 1).2.1≠0 then(0,(c.bytes 1).2.1,(c.bytes 1).2.2)
 else if k=9∧1<((c.bytes 1).1.headD 0).toNat then(0,12,{(c.bytes 1).2.2 with err:=12})
 else if 0<k∧((c.bytes 1).1.headD 0).toNat=0 then(0,13,{(c.bytes 1).2.2 with err:=13})
 else if((c.bytes 1).1.headD 0).toNat<128 then(v+((c.bytes 1).1.headD 0).toNat%128*128^k,0,(c.bytes 1).2.2)
 else(c.bytes 1).2.2.numL (k+1) (v+((c.bytes 1).1.headD 0).toNat%128*128^k):=by
 conv=>lhs;unfold ax.numL
 rw [if_neg (by omega)]
theorem ax.numL_ok {K:Nat}:∀(m k v:Nat) (c:ax),k+m=10→c.Ok K→(c.numL k v).2.2.Ok K∧(c.numL k v).2.2.err=(c.numL k v).2.1:=by
 intro m
 induction m with
 |zero=>
  intro k v c hk h;have:10≤k:=by omega
  unfold ax.numL;rw [if_pos this]
  exact⟨ax.err_ok (ax.bytes_ok h 1) (by decide),rfl⟩
 |succ m ih=>
  intro k v c hk h;have h1:=ax.bytes_ok h 1;have h2:=ax.bytes_same h 1;rw [ax.numL_eq _ _ _ (by omega)]
  split
  ·exact⟨h1,h2⟩
  ·rename_i h0;have h0:(c.bytes 1).2.1=0:=Decidable.byContradiction h0
   split
   ·exact⟨ax.err_ok h1 (by decide),rfl⟩
   ·split
    ·exact⟨ax.err_ok h1 (by decide),rfl⟩
    ·split
     ·exact⟨h1,h2.trans h0⟩
     ·exact ih _ _ _ (by omega) h1
theorem ax.bytes_at' {K:Nat} {c:ax} (h:c.Ok K) (n:Nat):c.at_≤(c.bytes n).2.2.at_:=by
 unfold ax.bytes
 split
 ·exact Nat.le_refl _
 ·rename_i he;have he:c.err=0:=Decidable.byContradiction he
  split
  ·exact Nat.le_refl _
  ·rename_i hn;obtain⟨h1,h2,h3,h4,h5,h6⟩:=ax.loop_out (K:=K) n _ {c with held:=none} c.held.toList (Nat.le_refl _) ⟨(h.fine he).idle,(h.fine he).pot⟩ (by have:=c.held_len;omega)
   split
   ·exact Nat.le_add_right _ _
   ·exact Nat.le_of_eq h4.symm
theorem ax.number_ok {K:Nat} {c:ax} (h:c.Ok K):c.number.2.2.Ok K∧c.number.2.2.err=c.number.2.1:=by
 obtain⟨h1,h2⟩:=ax.numL_ok (K:=K) 10 0 0 c rfl h;unfold ax.number
 split
 ·exact⟨h1,h2⟩
 ·rename_i h0
  have hl:∀(m k v:Nat) (c:ax),k+m=10→c.Ok K→c.at_≤(c.numL k v).2.2.at_:=by
   intro m
   induction m with
   |zero=>
    intro k v c hk hc;have:10≤k:=by omega
    unfold ax.numL;rw [if_pos this]
    exact ax.bytes_at' hc 1
   |succ m ih=>
    intro k v c hk hc;have h3:=ax.bytes_at' hc 1;rw [ax.numL_eq _ _ _ (by omega)]
    split
    ·exact h3
    ·split
     ·exact h3
     ·split
      ·exact h3
      ·split
       ·exact h3
       ·exact Nat.le_trans h3 (ih _ _ _ (by omega) (ax.bytes_ok hc 1))
  have h4:=hl 10 0 0 c rfl h;have h5:=h1.sum;exact⟨⟨fun e=>absurd (h2.symm.trans e) h0,by simp only [];omega,h1.gives⟩,h2⟩
end
section
open Go.Proofs.Tryz
open Go.RowKit
structure Sit (F:Nat→Prop) (q p B:Nat):Prop where
 nFp:¬F p
 nFq:¬F q
 ne:q≠p
 lt:∀b,F b→b<B
 pB:p<B
 qB:q<B
theorem Sit.up {F:Nat→Prop} {q p B B':Nat} (s:Sit F q p B) (h:B≤B'):Sit F q p B':=⟨s.nFp,s.nFq,s.ne,fun b hb=>Nat.lt_of_lt_of_le (s.lt b hb) h,Nat.lt_of_lt_of_le s.pB h,Nat.lt_of_lt_of_le s.qB h⟩
theorem j5 (F:Nat→Prop) (q p hv n K:Nat) (c:ax) (w:World) (s:Sit F q p w.heap.size) (h:kP w F q p c hv) (ho:c.Ok K) (hK:K≤1152921504606846976) (hn:n≤1152921504606) (hn0:0<n):
  Calls prog 73 #[.pointer (some ⟨q,0,none⟩),.int .i64 n] w (Hl F q p n c w):=by
 by_cases he:c.err=0
 ·have hs:=ho.sum
  exact bytes_ok F q p hv n K c w h he (by omega) (ho.fine he) s.nFp s.pB s.ne s.nFq s.lt hK hn hn0 ho.gives (by omega)
 ·exact bytes_err F q p hv n c w h he
def Ls (F:Nat→Prop) (q p:Nat) (c:ax) (w:World) (e:Ending) (w':World):Prop:=
 ∃hv,e= .returned (.tuple #[.int .u8 ((c.bytes 1).1.headD 0).toNat,.int .i64 (c.bytes 1).2.1])∧kP w' F q p (c.bytes 1).2.2 hv∧ag (Cs q p w.heap.size) w w'
theorem Bq (F:Nat→Prop) (q p hv K:Nat) (c:ax) (w:World) (s:Sit F q p w.heap.size) (h:kP w F q p c hv) (ho:c.Ok K) (hK:K≤1152921504606846976):
  Calls prog 101 #[.pointer (some ⟨q,0,none⟩)] w (Ls F q p c w):=by
 refine letter fun R HR=> ?_;have HT:=aa (j5 F q p hv 1 K c w s h ho hK (by omega) (by omega));obtain⟨L,hL⟩:∃L,L=c.bytes 1:=⟨_,rfl⟩;have HL:=aa hL;have HE:Hid (L.2.1≠0→L.1= []):=aa (by rw [hL];exact c.bytes_err 1);have HN:Hid (L.2.1=0→L.1.length=1):=aa (by rw [hL];exact ax.bytes_len ho 1 (by omega));clear h ho hL s;go_enter func101,ntmps101
 go_upto_region 2 with(go_at_call 73;go_loud (refine HT.mono ?_);rintro e w2 ⟨v,hv2,rfl,hO,hI,hC⟩;rw [←HL.out] at hO hI⊢;have HO:=aa hO;have HI:=aa hI;have HC:=aa hC;clear hO hI hC)
 obtain⟨er,jf⟩:∃er,er=L.2.1:=⟨_,rfl⟩;rw [←jf];have jR:=aa jf;clear jf
 by_cases h0:er=0
 ·have H0:Hid (L.2.1=0):=aa (by rw [←jR.out];exact h0);obtain⟨A,nn,cc,rfl,h1,h2,h3,h4⟩:=(HO.out H0).sb;have hn1:=HN.out H0;obtain⟨b,o,u,rfl,_,hu,hcell⟩:=h4.at_ (k:=0) (by omega);obtain⟨x,hx,rfl⟩:=gH hu
  have hx0:L.1.headD 0=x:=by
   cases hl:L.1 with
   |nil=>rw [hl] at hx;cases hx
   |cons y r=>rw [hl] at hx;simpa using hx
  have HX:=aa hx0;have hnn:0<nn:=by omega
  have Zm:(0:Int)<(nn:Int):=by omega
  unfold bv at hcell;rw [Nat.add_zero] at hcell;clear hx0 hu hx h4 hn1 h3;subst h0;go_wp2;rw [HR.out];unfold Ls;rw [←HL.out];refine⟨hv2,?_,HI,HC⟩;rw [HX.out,H0.out]
  rfl
 ·have H0:=aa h0;have H0':Hid (L.1= []):=aa (HE (by rw [←jR.out];exact h0));go_wp2;rw [HR.out];unfold Ls;rw [←HL.out];refine⟨hv2,?_,HI,HC⟩;rw [jR.out,H0'.out];rfl
end
section
open Go.Proofs.Tryz
open Go.RowKit
theorem kP.chg {S:Nat→Prop} {w w':World} {F:Nat→Prop} {q p hv:Nat} {c:ax} (h:kP w F q p c hv) (hc:ag S w w') (h1:¬S q) (h2:¬S p) (h3:∀b,F b→¬S b):kP w' F q p c hv:=⟨h.blk.chg hc h1,h.src.chg hc h2 h3,h.hl⟩
def FE (F:Nat→Prop) (q p:Nat) (c:ax) (w:World) (e:Ending) (w':World):Prop:=
 ∃hv,e= .returned (.tuple #[.int .u64 c.number.1,.int .i64 c.number.2.1])∧kP w' F q p c.number.2.2 hv∧ag (Cs q p w.heap.size) w w'
structure Vz (F:Nat→Prop) (q p t K:Nat) (c0:ax) (w0:World) (c:ax) (k v hv:Nat) (w:World):Prop where
 iny:kP w F q p c hv
 tk:tT w t v k 0
 k9:k≤9
 vlt:v<128^k
 ok:c.Ok K
 eq:c0.numL 0 0=c.numL k v
 chg:ag (Cs q p w0.heap.size) w0 w
theorem Lt {k v x:Nat} (hv:v<128^k):v+x%128*128^k<128^(k+1):=by
 have h1:x%128*128^k≤127*128^k:=Nat.mul_le_mul_right _ (by omega);rw [Nat.pow_succ];omega
theorem uV (F:Nat→Prop) (q p hv K:Nat) (c:ax) (w:World) (s:Sit F q p w.heap.size) (h:kP w F q p c hv) (ho:c.Ok K) (hK:K≤1152921504606846976):
  Calls prog 103 #[.pointer (some ⟨q,0,none⟩)] w (FE F q p c w):=by
 refine letter fun R HR=> ?_;obtain⟨a0,ha0⟩:∃a0,a0=c.at_:=⟨_,rfl⟩;have HA:=aa ha0;have z0:w.cell? ⟨q,0,none⟩=some (.int .i64 a0):=(h.blk.cell 0).trans (by rw [ha0];rfl);have HH:=aa h;have HO:=aa ho;have HS:=aa s;clear h ho s ha0;go_enter func103,ntmps103
 go_upto_region 3 with(go_at_call 130;go_loud (refine(Lu w).mono ?_);rintro e w1 ⟨rfl,ht,hb⟩;have HT:=aa ht;have HB:=aa hb;clear ht hb)
 obtain⟨t,ht⟩:∃t,t=w.heap.size:=⟨_,rfl⟩;rw [←ht];have Zn:=aa ht;have Ud:Hid (t≠q∧t≠p):=aa (by have h1:=HS.out.qB;have h2:=HS.out.pB;omega);clear z0 ht
 go_loopg [] 10 (fun g' wz=>∃(c':ax) (k v hv':Nat),g'=10-k∧Vz F q p t K c w c' k v hv' wz)
 case atStart=>exact⟨c,0,0,hv,rfl,HH.chg (ag.of_below (S:=Nil) HB) (fun h=>h) (fun h=>h) (fun _ _ h=>h),by rw [Zn.out];exact HT,by omega,by simp,HO,rfl,ag.of_below HB⟩
 case round=>
  obtain⟨c',k,v,hv',hg,hm⟩:=hrel;have HG:=aa hg;have HM:=aa hm;have xW:Hid (w.heap.size≤wr.heap.size):=aa hm.chg.size;have Jy:Hid (t<wr.heap.size):=aa hm.tk.lt;clear hg hm;obtain⟨L,hL⟩:∃L,L=c'.bytes 1:=⟨_,rfl⟩;obtain⟨x,hx⟩:∃x,x=L.1.headD 0:=⟨_,rfl⟩;obtain⟨er,jf⟩:∃er,er=L.2.1:=⟨_,rfl⟩;have HL:=aa hL;have HX:=aa hx;have jR:=aa jf;have FD:=aa (Bq F q p hv' K c' wr (HS.up xW) HM.iny HM.ok hK)
  have Lx:Hid (c.numL 0 0=if er≠0 then(0,er,L.2.2)
   else if k=9∧1<x.toNat then(0,12,{L.2.2 with err:=12})
   else if 0<k∧x.toNat=0 then(0,13,{L.2.2 with err:=13})
   else if x.toNat<128 then(v+x.toNat%128*128^k,0,L.2.2)
   else L.2.2.numL (k+1) (v+x.toNat%128*128^k)):=aa (by rw [HM.out.eq,ax.numL_eq _ _ _ (by have:=HM.out.k9;omega),jf,hx,hL])
  have AM:Hid (L.2.2.Ok K):=aa (by rw [hL];exact ax.bytes_ok HM.ok 1);clear hL hx jf;go_upto_region 4 with(go_at_call 101;go_loud (refine FD.mono ?_);rintro e w2 ⟨hv2,rfl,hI,hC⟩;rw [←HL.out] at hI⊢;rw [←HX.out,←jR.out];have HI:=aa hI;have HC:=aa hC;clear hI hC)
  have bI:Hid (ag (Cs q p w.heap.size) w w2):=aa (HM.chg.trans (HC.mono (fun b _ e=>by rcases e with e|e|e;exact .inl e;exact .inr (.inl e);exact .inr (.inr (Nat.le_trans xW e)))) (fun _ _ h=>h));have HT2:Hid (tT w2 t v k 0):=aa (HM.tk.chg HC (fun e=>by have h1:=Ud.out;have h2:=Jy.out;rcases e with e|e|e<;>omega));have z0:w2.cell? ⟨q,0,none⟩=some (.int .i64 L.2.2.at_):=HI.out.blk.cell 0;have Nn:=HI.out.blk.frozen 0
  by_cases h0:er=0
  ·subst h0;have PY:=aa (pX t v k x w2 HT2 HM.k9 HM.vlt);obtain⟨te,hte⟩:∃te,te=dD k x:=⟨_,rfl⟩;obtain⟨tb,htb⟩:∃tb,tb=decide (dD k x=0∧x.toNat<128):=⟨_,rfl⟩;have RQ:=aa hte;have Hm:=aa htb;clear hte htb z0 Nn;go_upto_region 8 with(go_at_call 131;go_loud (refine PY.mono ?_);rintro e w3 ⟨rfl,Vk,hT3⟩;rw [←Hm.out,←RQ.out];have gN:=aa Vk;have HT3:=aa hT3;clear Vk hT3)
   have HI3:Hid (kP w3 F q p L.2.2 hv2):=aa (HI.chg gN (fun e=>Ud.1 e.symm) (fun e=>Ud.2 e.symm) (fun b hb e=>by have h1:=HS.out.lt b hb;have h2:=Zn.out;have e:b=t:=e;omega));have ES:Hid (ag (Cs q p w.heap.size) w w3):=aa (bI.out.trans (gN.mono (fun b _ e=>by have e:b=t:=e;have:=Zn.out;exact .inr (.inr (by omega)))) (fun _ _ h=>h))
   by_cases h1:te=0
   ·have XE:Hid (dD k x=0):=aa (by rw [←RQ.out];exact h1)
    have VA:Hid (¬(k=9∧1<x.toNat)∧¬(0<k∧x.toNat=0)):=aa (by
     have:=XE.out;unfold dD at this
     split at this
     ·exact absurd this (by decide)
     ·rename_i n1
      split at this
      ·exact absurd this (by decide)
      ·rename_i n2;exact⟨n1,n2⟩)
    subst h1
    by_cases h2:x.toNat<128
    ·have h3:tb=true:=by rw [Hm.out,decide_eq_true_iff];exact⟨XE,h2⟩
     subst h3;have NN:Hid (tT w3 t (v+x.toNat%128*128^k) (k+1) 1):=aa (by have:=HT3.out XE;rwa [if_pos h2] at this);have H2:=aa h2;obtain⟨vv,hvv⟩:∃vv,vv=v+x.toNat%128*128^k:=⟨_,rfl⟩;rw [←hvv] at NN;have HVV:=aa hvv;clear h2 hvv;go_wp2_with (go_at_call 132;go_loud (refine(LA t vv (k+1) w3 NN).mono ?_);rintro e w4 ⟨rfl,rfl⟩)
     rw [HR.out];unfold FE;have hn:=Lx.out;rw [if_neg (fun h=>h rfl),if_neg VA.out.1,if_neg VA.out.2,if_pos H2.out,←HVV.out] at hn;have hnn:c.number=(vv,0,L.2.2):=by unfold ax.number;rw [hn,if_pos rfl]
     rw [hnn]
     exact⟨hv2,rfl,HI3,ES⟩
    ·have h3:tb=false:=by rw [Hm.out,decide_eq_false_iff_not];exact fun h=>h2 h.2
     subst h3;have NN:Hid (tT w3 t (v+x.toNat%128*128^k) (k+1) 0):=aa (by have:=HT3.out XE;rwa [if_neg h2] at this);have HK8:Hid (k+1≤9):=aa (by have:=HM.out.k9;have:=VA.out;omega);have H2:=aa h2;clear h2;go_wp2
     go_roundg (10-(k+1))
     case measure=>have:=HG.out;have:=HK8.out;omega
     case rel=>
      refine⟨L.2.2,k+1,v+x.toNat%128*128^k,hv2,rfl,HI3,NN,HK8,Lt HM.vlt,AM,?_,ES⟩
      rw [Lx.out,if_neg (fun h=>h rfl),if_neg VA.out.1,if_neg VA.out.2,if_neg H2.out]
   ·have RB:=aa h1;have z0:w3.cell? ⟨q,0,none⟩=some (.int .i64 L.2.2.at_):=HI3.out.blk.cell 0;have Nn:=HI3.out.blk.frozen 0;have hb4:ai (w3.setCell ⟨q,0,none⟩ (.int .i64 a0)) q 194 _:=HI3.out.blk.set_ 0 (.int .i64 a0);have dN:=aa hb4;clear hb4;go_wp2_with (go_at_call 97;go_loud (refine(uS q _ _ te _ dN (by simp)).mono ?_);rintro e w4 ⟨rfl,rfl⟩)
    rw [HR.out];unfold FE
    have hn:c.numL 0 0=(0,te,{L.2.2 with err:=te}):=by
     rw [Lx.out,if_neg (fun h=>h rfl)];have h9:=RQ.out;unfold dD at h9
     by_cases n1:k=9∧1<x.toNat
     ·rw [if_pos n1] at h9⊢;rw [h9]
     ·rw [if_neg n1] at h9⊢
      by_cases n2:0<k∧x.toNat=0
      ·rw [if_pos n2] at h9⊢;rw [h9]
      ·rw [if_neg n2] at h9;exact absurd h9 RB
    have hnn:c.number=(0,te,{L.2.2 with err:=te,at_:=c.at_}):=by unfold ax.number;rw [hn,if_neg RB.out]
    rw [hnn];have hch:ag (fun b=>b=q) w3 ((w3.setCell ⟨q,0,none⟩ (.int .i64 a0)).setCell ⟨q,1,none⟩ (.int .i64 te)):=((ag.refl (fun b=>b=q) w3).setCell (p:=⟨q,0,none⟩) (fun _=>rfl) _).setCell (p:=⟨q,1,none⟩) (fun _=>rfl) _;refine⟨hv2,rfl,⟨?_,HI3.src.chg hch (fun e=>HS.ne e.symm) (fun b hb e=>HS.nFq (e▸hb)),HI3.hl⟩,ES.out.trans (hch.mono (fun b _ e=> .inl e)) (fun _ _ h=>h)⟩;have:=(HI3.out.blk.set_ 0 (.int .i64 a0)).set_ 1 (.int .i64 te);rw [HA.out] at this⊢
    exact this
  ·have H0:=aa h0;go_wp2;rw [HR.out];unfold FE;have hnn:c.number=(0,er,{L.2.2 with at_:=c.at_}):=by unfold ax.number;rw [Lx.out,if_pos H0.out,if_neg H0.out]
   rw [hnn];have hch:ag (fun b=>b=q) w2 (w2.setCell ⟨q,0,none⟩ (.int .i64 a0)):=(ag.refl (fun b=>b=q) w2).setCell (p:=⟨q,0,none⟩) (fun _=>rfl) _;refine⟨hv2,rfl,⟨?_,HI.src.chg hch (fun e=>HS.ne e.symm) (fun b hb e=>HS.nFq (e▸hb)),HI.hl⟩,bI.out.trans (hch.mono (fun b _ e=> .inl e)) (fun _ _ h=>h)⟩;have:=HI.out.blk.set_ 0 (.int .i64 a0);rw [HA.out] at this⊢;exact this
end
section
open Go.Proofs.Tryz
open Go.RowKit
def Br (F:Nat→Prop) (q p:Nat) (c:ax) (w:World) (e:Ending) (w':World):Prop:=
 e= .returned (.tuple #[.bool c.end_.1,.int .i64 c.end_.2.1])∧fU w' F p c.end_.2.2.src∧ag (Cs q p w.heap.size) w w'
theorem OX (F:Nat→Prop) (q p hv K:Nat) (c:ax) (w:World) (s:Sit F q p w.heap.size) (h:kP w F q p c hv) (ho:c.Ok K) (hh:c.held=none) (hK:K≤1152921504606846976):
  Calls prog 129 #[.pointer (some ⟨q,0,none⟩)] w (Br F q p c w):=by
 refine letter fun R HR=> ?_;obtain⟨er,jf⟩:∃er,er=c.err:=⟨_,rfl⟩;have jR:=aa jf;have z1:w.cell? ⟨q,1,none⟩=some (.int .i64 er):=(h.blk.cell 1).trans (by rw [jf];rfl);have z6:w.cell? ⟨q,6,none⟩=some (.bool false):=(h.blk.cell 6).trans (by rw [hh];rfl);have HH:=aa h;have HO:=aa ho;have HS:=aa s;have KJ:=aa hh
 by_cases he:er=0
 ·have HE:Hid (c.err=0):=aa (by rw [←jR.out];exact he);obtain⟨L,hL⟩:∃L,L=c.loop [] 1:=⟨_,rfl⟩;have HL:=aa hL;have hco:({c with held:=none}:ax)=c:=by cases c;simp only at hh;subst hh;rfl
  have HT:Hid (∀k,Calls prog 98 #[.pointer (some ⟨q,0,none⟩),.int .i64 (1:Nat)] (w.drewN k) (nK F q p hv 1 c (w.drewN k))):=aa (fun k=>uU F q p hv 1 K c _ (h.chg ((ag.refl Nil w).drewN k) (fun h=>h) (fun h=>h) (fun _ _ h=>h)) (ho.fine HE) s.nFp s.pB s.ne s.nFq s.lt hK (by omega) (by omega) ho.gives (by have:=ho.sum;omega))
  have HT2:Hid (∀k e w',nK F q p hv 1 c (w.drewN k) e w'→∃v,e= .returned (.tuple #[v,.int .i64 L.2.1])∧(L.2.1=0→Ow w' w.heap.size v L.1)∧kP w' F q p L.2.2 hv∧ag (Cs q p w.heap.size) w w'):=aa (by
   intro k e w' h;obtain⟨v,h1,h2,h3,h4⟩:=h;rw [hco,KJ.out,show(none:Option UInt8).toList= [] from rfl,←HL.out] at h1 h2 h3;exact⟨v,h1,h2,h3,((ag.refl (Cs q p w.heap.size) w).drewN k).trans h4 (fun _ _ h=>h)⟩)
  have jv:Hid (L.2.1=0→L.1.length=1):=aa (fun h0=>by
   rw [hL] at h0⊢;exact((ax.loop_out (K:=K) 1 _ c [] (Nat.le_refl _) (HO.fine HE) (by simp)).1 h0).1)
  have wH:Hid (c.end_=if L.2.1=0 then(false,0,{L.2.2 with held:=L.1.head?}) else if L.2.1=41 then(true,0,L.2.2) else(false,L.2.1,{L.2.2 with err:=L.2.1})):=aa (by
   unfold ax.end_;rw [if_neg (fun h=>by rcases h with h|h;exact h HE.out;rw [KJ.out] at h;cases h),hL])
  clear h ho s hh jf hL hco;subst he;go_enter func129,ntmps129
  go_upto_region 4 with(go_at_call 98;go_loud (refine(HT 0).mono ?_);rintro e w2 hq;obtain⟨v,rfl,hO2,hI2,hC2⟩:=HT2.out 0 _ _ hq;clear hq;have iV:=aa hO2;have HI2:=aa hI2;have bI:=aa hC2;clear hO2 hI2 hC2)
  obtain⟨e2,he2⟩:∃e2,e2=L.2.1:=⟨_,rfl⟩;rw [←he2] at iV jv wH⊢;have HE2:=aa he2;clear he2 z1 z6
  by_cases h0:e2=0
  ·subst h0;obtain⟨A,nn,cc,rfl,h1,h2,h3,h4⟩:=(iV.out rfl).sb;have hn1:=jv.out rfl;obtain⟨b,o,u,rfl,_,hu,hcell⟩:=h4.at_ (k:=0) (by omega);obtain⟨x,hx,rfl⟩:=gH hu;have hnn:0<nn:=by omega
   have Zm:(0:Int)<(nn:Int):=by omega
   unfold bv at hcell;rw [Nat.add_zero] at hcell;have z5:w2.cell? ⟨q,5,none⟩=some (.int .u8 hv):=HI2.out.blk.cell 5;have z6:w2.cell? ⟨q,6,none⟩=some (.bool L.2.2.held.isSome):=HI2.out.blk.cell 6;have zf5:=HI2.out.blk.frozen 5;have zf6:=HI2.out.blk.frozen 6;clear hu hx h4 hn1 h3;go_wp2;rw [HR.out];unfold Br;rw [wH.out,if_pos trivial];have hch:ag (fun b=>b=q) w2 ((w2.setCell ⟨q,5,none⟩ (.int .u8 x.toNat)).setCell ⟨q,6,none⟩ (.bool true)):=((ag.refl (fun b=>b=q) w2).setCell (p:=⟨q,5,none⟩) (fun _=>rfl) _).setCell (p:=⟨q,6,none⟩) (fun _=>rfl) _
   exact⟨rfl,HI2.src.chg hch (fun e=>HS.ne e.symm) (fun b hb e=>HS.nFq (e▸hb)),bI.out.trans (hch.mono (fun b _ e=> .inl e)) (fun _ _ h=>h)⟩
  ·have H0:=aa h0
   by_cases VB:e2=41
   ·subst VB;go_wp2;rw [HR.out];unfold Br;rw [wH.out,if_neg H0.out,if_pos trivial]
    exact⟨rfl,HI2.src,bI⟩
   ·have H41:=aa VB;have hsz:1<(#[Value.int .i64 L.2.2.at_,.int .i64 L.2.2.err,.int .i64 L.2.2.idle,.iface 35 (.pointer (some ⟨p,0,none⟩)),.int .i64 9223372036854775807,.int .u8 hv,.bool L.2.2.held.isSome]).size:=by simp
    go_wp2_with (go_at_call 97;go_loud (refine(uS q _ _ e2 w2 HI2.blk hsz).mono ?_);rintro e w3 ⟨rfl,rfl⟩)
    rw [HR.out];unfold Br;rw [wH.out,if_neg H0.out,if_neg H41.out];have hch:=(ag.refl (fun b=>b=q) w2).setCell (p:=⟨q,1,none⟩) (fun _=>rfl) (.int .i64 e2)
    exact⟨rfl,HI2.src.chg hch (fun e=>HS.ne e.symm) (fun b hb e=>HS.nFq (e▸hb)),bI.out.trans (hch.mono (fun b _ e=> .inl e)) (fun _ _ h=>h)⟩
 ·have HE:Hid (c.err≠0):=aa (by rw [←jR.out];exact he);have h1':(er !=0)=true:=by rw [bne_iff_ne];exact he
  have aj1:(er==0)=false:=by rw [beq_eq_false_iff_ne];exact he
  clear h ho s hh jf;go_enter func129,ntmps129
  go_wp2;go_quiet (fail)
  go_wp2;rw [HR.out]
  unfold Br;have hn:c.end_=(false,er,c):=by unfold ax.end_;rw [if_pos (.inl HE.out),jR.out]
  rw [hn];have hc:ag Nil w (w.drewN nq):=(ag.refl Nil w).drewN _;exact⟨rfl,HH.src.chg hc (fun h=>h) (fun _ _ h=>h),hc.mono (fun _ _ h=>h.elim)⟩
theorem Ho (p:Nat) (w:World):Calls prog 45 #[.iface 35 (.pointer (some ⟨p,0,none⟩)),.int .i64 9223372036854775807] w fun e w'=>e= .returned (.pointer (some ⟨w.heap.size,0,none⟩))∧ai w' w.heap.size 194 #[.int .i64 0,.int .i64 0,.int .i64 0,.iface 35 (.pointer (some ⟨p,0,none⟩)),.int .i64 9223372036854775807,.int .u8 0,.bool false]∧Below w.heap.size w w':=by
 go_enter func45,ntmps45
 go_wp2;go_ret
 exact⟨rfl,ai.new _ _ _,(Below.refl _ _).alloc (Nat.le_refl _) _⟩
end
section
open Go.RowKit
def Bt (w:World) (F:Nat→Prop) (A:Option Addr) (n c:Nat) (bs:List UInt8):Prop:=n≤c∧c≤maxLen∧Hid (n=bs.length)∧Rd w F 1 A n (aK bs)
def Tx (w:World) (F:Nat→Prop) (A:Option Addr) (n c:Nat) (ts:List (List UInt8)):Prop:=
 n≤c∧c≤maxLen∧Hid (n=ts.length)∧∃vs,Rd w F 1 A n vs∧∀(i:Nat) (t:List UInt8),ts[i]? =some t→∃v,vs[i]? =some v∧SB w F v t
def It (w:World) (F:Nat→Prop) (A:Option Addr) (n c:Nat) (ks:List Int):Prop:=n≤c∧c≤maxLen∧Hid (n=ks.length)∧Rd w F 1 A n (ks.map (Value.int .i64))
section
variable {S F G:Nat→Prop} {w w':World} {A:Option Addr} {n c:Nat} {bs:List UInt8} {ts:List (List UInt8)} {ks:List Int}
theorem Bt.nil (w:World) (F:Nat→Prop):Bt w F none 0 0 []:=⟨Nat.le_refl _,by simp [maxLen],rfl,Rd.none_ _ _ _ _⟩
theorem Tx.nil (w:World) (F:Nat→Prop):Tx w F none 0 0 []:=⟨Nat.le_refl _,by simp [maxLen],rfl,[],Rd.none_ _ _ _ _,fun i t h=>by simp at h⟩
theorem It.nil (w:World) (F:Nat→Prop):It w F none 0 0 []:=⟨Nat.le_refl _,by simp [maxLen],rfl,Rd.none_ _ _ _ _⟩
theorem Bt.sb (h:Bt w F A n c bs):SB w F (.slice A n c) bs:=⟨A,n,c,rfl,h.1,h.2.1,h.2.2.1,h.2.2.2⟩
theorem SB.bt (h:SB w F (.slice A n c) bs):Bt w F A n c bs:=by
 obtain⟨A',n',c',e,h1,h2,h3,h4⟩:=h;injection e with e1 e2 e3
 subst e1;subst e2;subst e3;exact⟨h1,h2,h3,h4⟩
theorem Bt.len (h:Bt w F A n c bs):n=bs.length:=h.2.2.1
theorem Tx.len (h:Tx w F A n c ts):n=ts.length:=h.2.2.1
theorem It.len (h:It w F A n c ks):n=ks.length:=h.2.2.1
theorem Bt.weak (h:Bt w F A n c bs) (hF:∀b,F b→G b):Bt w G A n c bs:=⟨h.1,h.2.1,h.2.2.1,h.2.2.2.weak hF⟩
theorem Bt.chg (h:Bt w F A n c bs) (hc:ag S w w') (hs:∀b,F b→¬S b):Bt w' F A n c bs:=⟨h.1,h.2.1,h.2.2.1,h.2.2.2.chg hc hs⟩
theorem Bt.below (h:Bt w F A n c bs) (hb:Below w.heap.size w w'):Bt w' F A n c bs:=⟨h.1,h.2.1,h.2.2.1,h.2.2.2.below hb⟩
theorem Tx.weak (h:Tx w F A n c ts) (hF:∀b,F b→G b):Tx w G A n c ts:=
 let⟨h1,h2,h3,vs,h4,h5⟩:=h;⟨h1,h2,h3,vs,h4.weak hF,fun i t ht=>let⟨v,a,b⟩:=h5 i t ht;⟨v,a,b.weak hF⟩⟩
theorem Tx.chg (h:Tx w F A n c ts) (hc:ag S w w') (hs:∀b,F b→¬S b):Tx w' F A n c ts:=
 let⟨h1,h2,h3,vs,h4,h5⟩:=h;⟨h1,h2,h3,vs,h4.chg hc hs,fun i t ht=>let⟨v,a,b⟩:=h5 i t ht;⟨v,a,b.chg hc hs⟩⟩
theorem Tx.below (h:Tx w F A n c ts) (hb:Below w.heap.size w w'):Tx w' F A n c ts:=h.chg (ag.of_below (S:=Nil) hb) (fun _ _ hf=>hf)
theorem It.weak (h:It w F A n c ks) (hF:∀b,F b→G b):It w G A n c ks:=⟨h.1,h.2.1,h.2.2.1,h.2.2.2.weak hF⟩
theorem It.chg (h:It w F A n c ks) (hc:ag S w w') (hs:∀b,F b→¬S b):It w' F A n c ks:=⟨h.1,h.2.1,h.2.2.1,h.2.2.2.chg hc hs⟩
theorem It.below (h:It w F A n c ks) (hb:Below w.heap.size w w'):It w' F A n c ks:=⟨h.1,h.2.1,h.2.2.1,h.2.2.2.below hb⟩
theorem Tx.at_ {k:Nat} (h:Tx w F A n c ts) (hk:k<n):∃b o Ak nk ck t,A=some ⟨b,o,none⟩∧F b∧ts[k]? =some t∧w.cell? ⟨b,o+k,none⟩=some (.slice Ak nk ck)∧nk≤ck∧ck≤maxLen∧Hid (nk=t.length)∧Rd w F 1 Ak nk (aK t):=by
 obtain⟨h1,h2,h3,vs,h4,h5⟩:=h;have hl:k<ts.length:=by have:n=ts.length:=h3;omega
 obtain⟨b,o,u,hA,hF,e1,c1⟩:=h4.at_ hk;obtain⟨v,e2,s1⟩:=h5 k ts[k] (List.getElem?_eq_getElem hl);rw [e1] at e2;injection e2 with e2
 subst e2;obtain⟨Ak,nk,ck,rfl,k1,k2,k3,k4⟩:=s1;exact⟨b,o,Ak,nk,ck,ts[k],hA,hF,List.getElem?_eq_getElem hl,c1,k1,k2,k3,k4⟩
theorem It.at_ {k:Nat} (h:It w F A n c ks) (hk:k<n):∃b o x,A=some ⟨b,o,none⟩∧F b∧ks[k]? =some x∧w.cell? ⟨b,o+k,none⟩=some (.int .i64 x):=by
 obtain⟨b,o,u,hA,hF,e1,c1⟩:=h.2.2.2.at_ hk;rw [List.getElem?_map,Option.map_eq_some_iff] at e1;obtain⟨x,e2,rfl⟩:=e1;exact⟨b,o,x,hA,hF,e2,c1⟩
theorem MI (ks:List Int):∀u∈ks.map (Value.int .i64),u.oneCell'=true:=by
 intro u hu;rw [List.mem_map] at hu;obtain⟨c,_,rfl⟩:=hu;rfl
end
def EZ (w:World) (g hi:Nat) (A:Option Addr) (n c:Nat) (ts:List (List UInt8)):Prop:=
 n≤c∧c≤maxLen∧Hid (n=ts.length)∧A=some ⟨g,0,none⟩∧g<hi∧∃vs,Rd w (fF (jK g) w) 1 A n vs∧∀(i:Nat) (t:List UInt8),ts[i]? =some t→∃v,vs[i]? =some v∧SB w (fF (fun b=>g<b∧b<hi) w) v t
section
variable {S:Nat→Prop} {w w':World} {A:Option Addr} {n c g hi:Nat} {bs:List UInt8} {ts:List (List UInt8)} {ks:List Int}
theorem EZ.chg (h:EZ w g hi A n c ts) (hc:ag S w w') (hs:∀b,g≤b→b<hi→¬S b):EZ w' g hi A n c ts:=
 let⟨h1,h2,h3,h4,h5,vs,h6,h7⟩:=h
 ⟨h1,h2,h3,h4,h5,vs,h6.soft_chg Nat.zero_lt_one hc (fun b hb=>by have hb:b=g:=hb;exact hs b (by omega) (by omega)),fun i t ht=>let⟨v,a,b⟩:=h7 i t ht;⟨v,a,b.soft_chg hc (fun b hb=>hs b (by omega) hb.2)⟩⟩
theorem EZ.below (h:EZ w g hi A n c ts) (hb:Below w.heap.size w w'):EZ w' g hi A n c ts:=h.chg (ag.of_below (S:=Nil) hb) (fun _ _ _ hf=>hf)
theorem EZ.tx {B:Nat} (h:EZ w g hi A n c ts) (hB:B≤g):Tx w (From B) A n c ts:=
 let⟨h1,h2,h3,_,_,vs,h6,h7⟩:=h
 ⟨h1,h2,h3,vs,h6.weak (fun b hb=>by have hb:b=g:=hb.1;show B≤b;omega),fun i t ht=>let⟨v,a,b⟩:=h7 i t ht;⟨v,a,b.weak (fun b hb=>by have hb:=hb.1.1;show B≤b;omega)⟩⟩
theorem Bt.soft_chg {F:Nat→Prop} (h:Bt w (fF F w) A n c bs) (hc:ag S w w') (hs:∀b,F b→¬S b):Bt w' (fF F w') A n c bs:=⟨h.1,h.2.1,h.2.2.1,h.2.2.2.soft_chg Nat.zero_lt_one hc hs⟩
theorem It.soft_chg {F:Nat→Prop} (h:It w (fF F w) A n c ks) (hc:ag S w w') (hs:∀b,F b→¬S b):It w' (fF F w') A n c ks:=⟨h.1,h.2.1,h.2.2.1,h.2.2.2.soft_chg Nat.zero_lt_one hc hs⟩
theorem Bt.soft_below {F:Nat→Prop} (h:Bt w (fF F w) A n c bs) (hb:Below w.heap.size w w'):Bt w' (fF F w') A n c bs:=h.soft_chg (ag.of_below (S:=Nil) hb) (fun _ _ hf=>hf)
end
structure Nd where
 lev:Int
 high:List UInt8
 right:Int
 keys:List (List UInt8)
 vals:List (List UInt8)
 kids:List Int
def Nd.zero:Nd:=⟨0,[],0,[],[],[]⟩
section
variable {S F G:Nat→Prop} {w w':World} {vs:List Value} {lev right:Int} {high:List UInt8} {keys vals:List (List UInt8)} {kids:List Int}
end
end
section
open Go.RowKit
section
variable {P:Program} (w:World)
end
theorem J7 (w:World) (e:TypeId) (size c:Nat) (cs:Array Value) (hs:cs.size=c*size) (hc:c≤maxLen):(w.alloc (.cells cs e)).ownsRow w.heap.size e size (.slice (some ⟨w.heap.size,0,none⟩) 0 c) 0 []:=
 ⟨by simp,.inr ⟨w.heap.size,c,cs,rfl,Nat.le_refl _,heap_alloc_new w _,Nat.zero_le _,hc,hs,by simp⟩⟩
end
end Go.Proofs.YtbjgeidjmhialaaGreatDoor
