/- Part 4. -/
import Derived.Test.YtbjgeidjmhialaaGreatDoorLa03
namespace Go.Proofs.YtbjgeidjmhialaaGreatDoor
set_option maxRecDepth 100000
set_option maxHeartbeats 8000000
section
def dY:Nat→List UInt8→Int×Nat
 |k,[]=>(11,k)
 |k,c::r=>if k=9∧1<c.toNat then(12,k) else if 0<k∧c.toNat=0 then(13,k) else if c.toNat<128 then(0,k+1) else dY (k+1) r
def pg:List UInt8→Nat
 | []=>0
 |c::r=>c.toNat%128+128*pg r
def aj (b:List UInt8) (p:Nat):Nat×Nat×Int:=
 if(dY 0 (b.drop p)).1=0 then(pg ((b.drop p).take (dY 0 (b.drop p)).2),p+(dY 0 (b.drop p)).2,0) else(0,p+(dY 0 (b.drop p)).2,(dY 0 (b.drop p)).1)
def aG (n:Nat):List UInt8:=if n<128 then [UInt8.ofNat n] else UInt8.ofNat (n%128+128)::aG (n/128)
theorem xU:∀(l:List UInt8) (c:UInt8),pg (l++ [c])=pg l+c.toNat%128*128^l.length
 | [],c=>by simp [pg]
 |x::r,c=>by
  rw [List.cons_append,pg,pg,xU r c,List.length_cons,Nat.pow_succ,Nat.mul_add,Nat.add_assoc];congr 2
  rw [Nat.mul_left_comm,Nat.mul_comm 128]
theorem ww:∀(l:List UInt8) (k:Nat),k≤(dY k l).2∧(dY k l).2≤k+l.length
 | [],k=>by simp [dY]
 |c::r,k=>by
  unfold dY;have h:=ww r (k+1);rw [List.length_cons]
  split
  ·exact⟨Nat.le_refl _,by simp⟩
  ·split
   ·exact⟨Nat.le_refl _,by simp⟩
   ·split
    ·exact⟨Nat.le_succ _,by simp only [];omega⟩
    ·omega
theorem Jo:∀(l:List UInt8) (k:Nat),k≤9→(dY k l).1=0→(dY k l).2≤10
 | [],k,hk,h=>by simp [dY] at h
 |c::r,k,hk,h=>by
  unfold dY at h⊢
  split at h
  ·simp at h
  ·rename_i h1
   split at h
   ·simp at h
   ·rename_i h2
    split at h
    ·rename_i h3;rw [if_neg h1,if_neg h2,if_pos h3];simp only [];omega
    ·rename_i h3;rw [if_neg h1,if_neg h2,if_neg h3];refine Jo r (k+1) (by omega) h
theorem wB:∀(l:List UInt8) (k:Nat),k≤9→(dY k l).1=0→pg (l.take ((dY k l).2-k))*128^k<18446744073709551616
 | [],k,hk,h=>by simp [dY] at h
 |c::r,k,hk,h=>by
  have hle:=ww r (k+1);unfold dY at h⊢
  split at h
  ·simp at h
  ·rename_i h1
   split at h
   ·simp at h
   ·rename_i h2
    split at h
    ·rename_i h3;rw [if_neg h1,if_neg h2,if_pos h3];have e:k+1-k=1:=by omega
     simp only [e,List.take_succ_cons,List.take_zero,pg,Nat.mul_zero,Nat.add_zero];rw [Nat.mod_eq_of_lt h3]
     rcases Nat.lt_or_ge k 9 with MO|MO
     ·have h4:128^k≤128^8:=Nat.pow_le_pow_right (by omega) (by omega);have h5:c.toNat*128^k≤127*128^8:=Nat.mul_le_mul (by omega) h4
      omega
     ·have h6:k=9:=by omega
      subst h6;have h7:c.toNat≤1:=by omega
      have h5:c.toNat*128^9≤1*128^9:=Nat.mul_le_mul h7 (Nat.le_refl _)
      omega
    ·rename_i h3;rw [if_neg h1,if_neg h2,if_neg h3]
     by_cases MO:k=9
     ·have:=c.toNat_lt;omega
     ·have ih:=wB r (k+1) (by omega) h;have e:(dY (k+1) r).2-k=((dY (k+1) r).2-(k+1))+1:=by omega
      rw [e,List.take_succ_cons,pg,Nat.add_mul];rw [Nat.pow_succ,←Nat.mul_assoc,Nat.mul_comm _ 128,←Nat.mul_assoc] at ih;have h8:c.toNat%128*128^k<128*128^k:=Nat.mul_lt_mul_of_pos_right (Nat.mod_lt _ (by omega)) (Nat.pow_pos (by omega))
      --both are Ut of 128^(k+1) at their ai1
      obtain⟨V,hV⟩:∃V,V=pg (r.take ((dY (k+1) r).2-(k+1))):=⟨_,rfl⟩;rw [←hV] at ih⊢
      have h9:128*V*128^k+128*128^k≤18446744073709551616:=by
       have hp:(18446744073709551616:Nat)=128*128^k*(2^(64-7*(k+1))):=by
        have:k<9:=by omega
        match k,this with
        |0,_=>decide
        |1,_=>decide
        |2,_=>decide
        |3,_=>decide
        |4,_=>decide
        |5,_=>decide
        |6,_=>decide
        |7,_=>decide
        |8,_=>decide
       have h10:128*V*128^k=128*128^k*V:=by rw [Nat.mul_assoc,Nat.mul_comm V,←Nat.mul_assoc]
       rw [h10] at ih⊢;rw [hp] at ih⊢;have h11:V<2^(64-7*(k+1)):=Nat.lt_of_mul_lt_mul_left ih;rw [←Nat.mul_succ];exact Nat.mul_le_mul_left _ h11
      omega
theorem Ep (b:List UInt8) (p:Nat):(aj b p).1<18446744073709551616:=by
 unfold aj
 split
 ·rename_i h;have:=wB (b.drop p) 0 (by omega) h
  simpa using this
 ·simp
theorem fV (b:List UInt8) (p:Nat) (hp:p≤b.length):p≤(aj b p).2.1∧(aj b p).2.1≤b.length:=by
 have h:=ww (b.drop p) 0;rw [List.length_drop] at h;unfold aj;split<;>(simp only [];omega)
theorem kQ (n:Nat):∀k,n<128^(k+1)→(aG n).length≤k+1:=by
 intro k
 induction k generalizing n with
 |zero=>intro h;unfold aG;rw [if_pos (by omega)];simp
 |succ k ih=>
  intro h;unfold aG
  split
  ·simp
  ·rw [List.length_cons];have:=ih (n/128) (by rw [Nat.pow_succ] at h;omega);omega
end
section
open Go.Proofs.Tryz
open Go.RowKit
theorem my {v x k:Nat} (hv:v<2^(7*k)) (hx:x<128) (h64:x*2^(7*k)+v<18446744073709551616):bits .or .u64 (v:Int) ((x*2^(7*k):Nat):Int)=((v+x*2^(7*k):Nat):Int):=by
 rw [bits_or_u64_nat _ _ (by omega) (by omega),Nat.or_comm,Nat.mul_comm x,←Nat.two_pow_add_eq_or_of_lt hv,Nat.add_comm]
theorem PU (c:UInt8):bits .and .u8 (c.toNat:Int) 127=((c.toNat%128:Nat):Int):=by
 have hc:=c.toNat_lt;have h:=bits_mask .u8 8 (by decide) wraps_u8 7 (by omega) (c.toNat:Int) (by omega) (by omega);rw [show((2:Int)^7-1)=127 by decide] at h;rw [h];simp
def dD (k:Nat) (c:UInt8):Int:=if k=9∧1<c.toNat then 12 else if 0<k∧c.toNat=0 then 13 else 0
def tT (w:World) (q v k:Nat) (st:Int):Prop:=ai w q 281 #[.int .u64 v,.int .i64 k,.int .i64 st]
def Cu (q v k:Nat) (c:UInt8) (w:World) (e:Ending) (w':World):Prop:=
 e= .returned (.tuple #[.bool (decide (dD k c=0∧c.toNat<128)),.int .i64 (dD k c)])∧ag (fun b=>b=q) w w'∧
 (dD k c=0→tT w' q (v+c.toNat%128*128^k) (k+1) (if c.toNat<128 then 1 else 0))
theorem Jk (q v k:Nat) (c:UInt8) (w:World) (hB:tT w q v k 0) (hk:k≤9) (h9:k=9) (h1:1<c.toNat):
  Calls prog 131 #[.pointer (some ⟨q,0,none⟩),.int .u8 c.toNat] w (Cu q v k c w):=by
 unfold tT at hB;have HB:=aa hB;have x0:w.cell? ⟨q,0,none⟩=some (.int .u64 v):=hB.cell 0;have x1:w.cell? ⟨q,1,none⟩=some (.int .i64 k):=hB.cell 1;have x2:w.cell? ⟨q,2,none⟩=some (.int .i64 0):=hB.cell 2;have Uq:=hB.frozen 0;have Ur:=hB.frozen 1;have Us:=hB.frozen 2;clear hB;refine letter fun R HR=> ?_
 (subst h9;have HE:Hid (dD 9 c=12):=aa (by unfold dD;rw [if_pos ⟨rfl,h1⟩]);have h1':(1:Int)<(c.toNat:Int):=by omega)
 go_enter func131,ntmps131
 go_wp2
 all_goals
  rw [HR.out];have hE:=HE.out;exact⟨by rw [hE];simp,((ag.refl (fun b=>b=q) _).setCell (p:=⟨q,1,none⟩) (fun _=>rfl) _).setCell (p:=⟨q,2,none⟩) (fun _=>rfl) _,fun h=>by rw [hE] at h;cases h⟩
theorem xR (q v k:Nat) (c:UInt8) (w:World) (hB:tT w q v k 0) (hk:k≤9) (h0:0<k) (h1:c.toNat=0):
  Calls prog 131 #[.pointer (some ⟨q,0,none⟩),.int .u8 c.toNat] w (Cu q v k c w):=by
 unfold tT at hB;have HB:=aa hB;have x0:w.cell? ⟨q,0,none⟩=some (.int .u64 v):=hB.cell 0;have x1:w.cell? ⟨q,1,none⟩=some (.int .i64 k):=hB.cell 1;have x2:w.cell? ⟨q,2,none⟩=some (.int .i64 0):=hB.cell 2;have Uq:=hB.frozen 0;have Ur:=hB.frozen 1;have Us:=hB.frozen 2;clear hB;refine letter fun R HR=> ?_
 (have HE:Hid (dD k c=13):=aa (by unfold dD;rw [if_neg (by omega),if_pos ⟨h0,h1⟩]);have h1':(c.toNat:Int)=0:=by omega)
 go_enter func131,ntmps131
 go_wp2
 all_goals
  rw [HR.out];have hE:=HE.out;exact⟨by rw [hE];simp,((ag.refl (fun b=>b=q) _).setCell (p:=⟨q,1,none⟩) (fun _=>rfl) _).setCell (p:=⟨q,2,none⟩) (fun _=>rfl) _,fun h=>by rw [hE] at h;cases h⟩
theorem EI (q v k:Nat) (c:UInt8) (w:World) (hB:tT w q v k 0) (hk:k≤9) (h0:0<k) (h9:k<9) (h2:c.toNat≠0) (h1:c.toNat<128) (hv:v<128^k) (h64:c.toNat%128*128^k+v<18446744073709551616):
  Calls prog 131 #[.pointer (some ⟨q,0,none⟩),.int .u8 c.toNat] w (Cu q v k c w):=by
 unfold tT at hB;have HB:=aa hB;have x0:w.cell? ⟨q,0,none⟩=some (.int .u64 v):=hB.cell 0;have x1:w.cell? ⟨q,1,none⟩=some (.int .i64 k):=hB.cell 1;have x2:w.cell? ⟨q,2,none⟩=some (.int .i64 0):=hB.cell 2;have Uq:=hB.frozen 0;have Ur:=hB.frozen 1;have Us:=hB.frozen 2;clear hB;refine letter fun R HR=> ?_
 (have HE:Hid (dD k c=0):=aa (by unfold dD;rw [if_neg (by omega),if_neg (by omega)]);have HV:=aa hv;have EH:=aa h64;clear hv h64;have h2':¬((c.toNat:Int)=0):=(by omega);have h1':(c.toNat:Int)<128:=(by omega))
 go_enter func131,ntmps131
 go_upto_region 10 with fail
 go_region
 all_goals go_wp2
 all_goals
  rw [HR.out];have hE:=HE.out;have hp:(128:Nat)^k=2^(7*k):=by rw [Nat.pow_mul]
  have hl:=HV.out;have h64:=EH.out;rw [hp] at hl h64;have hm:c.toNat%128<128:=Nat.mod_lt _ (by omega);have hj:=my hl hm (by omega);rw [←hp] at hj;have hx:IntKind.u64.wrap ((c.toNat%128:Nat):Int)=((c.toNat%128:Nat):Int):=by rw [IntKind.wrap_u64];omega
  (have hw:IntKind.u64.wrap (((c.toNat%128:Nat):Int)*2^(7*k))=((c.toNat%128*128^k:Nat):Int):=by{rw [hp,show(((c.toNat%128:Nat):Int)*2^(7*k))=((c.toNat%128*2^(7*k):Nat):Int) by push_cast;rfl];rw [IntKind.wrap_u64];omega});rw [PU,hx,hw,hj]
  refine⟨by rw [hE,decide_eq_true ⟨rfl,h1⟩];try rfl,?_,fun _=> ?_⟩
  ·exact((((ag.refl (fun b=>b=q) w).setCell (p:=⟨q,1,none⟩) (fun _=>rfl) _).setCell (p:=⟨q,0,none⟩) (fun _=>rfl) _).drew).setCell (p:=⟨q,2,none⟩) (fun _=>rfl) _
  ·(rw [if_pos h1];exact(((HB.set_ 1 (.int .i64 ((k:Int)+1))).set_ 0 (.int .u64 ((v+c.toNat%128*128^k:Nat):Int))).drew.set_ 2 (.int .i64 1)))
theorem EJ (q v k:Nat) (c:UInt8) (w:World) (hB:tT w q v k 0) (hk:k≤9) (h0:0<k) (h9:k<9) (h2:c.toNat≠0) (h1:¬c.toNat<128) (hv:v<128^k) (h64:c.toNat%128*128^k+v<18446744073709551616):
  Calls prog 131 #[.pointer (some ⟨q,0,none⟩),.int .u8 c.toNat] w (Cu q v k c w):=by
 unfold tT at hB;have HB:=aa hB;have x0:w.cell? ⟨q,0,none⟩=some (.int .u64 v):=hB.cell 0;have x1:w.cell? ⟨q,1,none⟩=some (.int .i64 k):=hB.cell 1;have x2:w.cell? ⟨q,2,none⟩=some (.int .i64 0):=hB.cell 2;have Uq:=hB.frozen 0;have Ur:=hB.frozen 1;have Us:=hB.frozen 2;clear hB;refine letter fun R HR=> ?_
 (have HE:Hid (dD k c=0):=aa (by unfold dD;rw [if_neg (by omega),if_neg (by omega)]);have HV:=aa hv;have EH:=aa h64;clear hv h64;have h2':¬((c.toNat:Int)=0):=(by omega);have h1':¬((c.toNat:Int)<128):=(by omega))
 go_enter func131,ntmps131
 go_upto_region 10 with fail
 go_region
 all_goals go_wp2
 all_goals
  rw [HR.out];have hE:=HE.out;have hp:(128:Nat)^k=2^(7*k):=by rw [Nat.pow_mul]
  have hl:=HV.out;have h64:=EH.out;rw [hp] at hl h64;have hm:c.toNat%128<128:=Nat.mod_lt _ (by omega);have hj:=my hl hm (by omega);rw [←hp] at hj;have hx:IntKind.u64.wrap ((c.toNat%128:Nat):Int)=((c.toNat%128:Nat):Int):=by rw [IntKind.wrap_u64];omega
  (have hw:IntKind.u64.wrap (((c.toNat%128:Nat):Int)*2^(7*k))=((c.toNat%128*128^k:Nat):Int):=by{rw [hp,show(((c.toNat%128:Nat):Int)*2^(7*k))=((c.toNat%128*2^(7*k):Nat):Int) by push_cast;rfl];rw [IntKind.wrap_u64];omega});rw [PU,hx,hw,hj]
  refine⟨by rw [hE,decide_eq_false (fun h=>h1 h.2)];try rfl,?_,fun _=> ?_⟩
  ·exact((((ag.refl (fun b=>b=q) w).setCell (p:=⟨q,1,none⟩) (fun _=>rfl) _).setCell (p:=⟨q,0,none⟩) (fun _=>rfl) _).drew)
  ·(rw [if_neg h1];exact(((HB.set_ 1 (.int .i64 ((k:Int)+1))).set_ 0 (.int .u64 ((v+c.toNat%128*128^k:Nat):Int))).drew))
theorem yZ (q v k:Nat) (c:UInt8) (w:World) (hB:tT w q v k 0) (hk:k≤9) (h0:k=0) (h1:c.toNat<128) (hv:v<128^k) (h64:c.toNat%128*128^k+v<18446744073709551616):
  Calls prog 131 #[.pointer (some ⟨q,0,none⟩),.int .u8 c.toNat] w (Cu q v k c w):=by
 unfold tT at hB;have HB:=aa hB;have x0:w.cell? ⟨q,0,none⟩=some (.int .u64 v):=hB.cell 0;have x1:w.cell? ⟨q,1,none⟩=some (.int .i64 k):=hB.cell 1;have x2:w.cell? ⟨q,2,none⟩=some (.int .i64 0):=hB.cell 2;have Uq:=hB.frozen 0;have Ur:=hB.frozen 1;have Us:=hB.frozen 2;clear hB;refine letter fun R HR=> ?_
 (have HE:Hid (dD k c=0):=aa (by unfold dD;rw [if_neg (by omega),if_neg (by omega)]);have HV:=aa hv;have EH:=aa h64;clear hv h64;skip;have h1':(c.toNat:Int)<128:=(by omega))
 go_enter func131,ntmps131
 go_upto_region 10 with fail
 go_region
 all_goals go_wp2
 all_goals
  rw [HR.out];have hE:=HE.out;have hp:(128:Nat)^k=2^(7*k):=by rw [Nat.pow_mul]
  have hl:=HV.out;have h64:=EH.out;rw [hp] at hl h64;have hm:c.toNat%128<128:=Nat.mod_lt _ (by omega);have hj:=my hl hm (by omega);rw [←hp] at hj;have hx:IntKind.u64.wrap ((c.toNat%128:Nat):Int)=((c.toNat%128:Nat):Int):=by rw [IntKind.wrap_u64];omega
  (have e0:c.toNat%128*128^k=c.toNat%128:=by{rw [h0];simp});rw [e0] at hj;rw [PU,hx,hx,hj,←e0]
  refine⟨by rw [hE,decide_eq_true ⟨rfl,h1⟩];try rfl,?_,fun _=> ?_⟩
  ·exact((((ag.refl (fun b=>b=q) w).setCell (p:=⟨q,1,none⟩) (fun _=>rfl) _).setCell (p:=⟨q,0,none⟩) (fun _=>rfl) _).drew).setCell (p:=⟨q,2,none⟩) (fun _=>rfl) _
  ·(rw [if_pos h1];subst h0;exact(((HB.set_ 1 _).set_ 0 _).drew.set_ 2 (.int .i64 1)))
theorem y9 (q v k:Nat) (c:UInt8) (w:World) (hB:tT w q v k 0) (hk:k≤9) (h0:k=0) (h1:¬c.toNat<128) (hv:v<128^k) (h64:c.toNat%128*128^k+v<18446744073709551616):
  Calls prog 131 #[.pointer (some ⟨q,0,none⟩),.int .u8 c.toNat] w (Cu q v k c w):=by
 unfold tT at hB;have HB:=aa hB;have x0:w.cell? ⟨q,0,none⟩=some (.int .u64 v):=hB.cell 0;have x1:w.cell? ⟨q,1,none⟩=some (.int .i64 k):=hB.cell 1;have x2:w.cell? ⟨q,2,none⟩=some (.int .i64 0):=hB.cell 2;have Uq:=hB.frozen 0;have Ur:=hB.frozen 1;have Us:=hB.frozen 2;clear hB;refine letter fun R HR=> ?_
 (have HE:Hid (dD k c=0):=aa (by unfold dD;rw [if_neg (by omega),if_neg (by omega)]);have HV:=aa hv;have EH:=aa h64;clear hv h64;skip;have h1':¬((c.toNat:Int)<128):=(by omega))
 go_enter func131,ntmps131
 go_upto_region 10 with fail
 go_region
 all_goals go_wp2
 all_goals
  rw [HR.out];have hE:=HE.out;have hp:(128:Nat)^k=2^(7*k):=by rw [Nat.pow_mul]
  have hl:=HV.out;have h64:=EH.out;rw [hp] at hl h64;have hm:c.toNat%128<128:=Nat.mod_lt _ (by omega);have hj:=my hl hm (by omega);rw [←hp] at hj;have hx:IntKind.u64.wrap ((c.toNat%128:Nat):Int)=((c.toNat%128:Nat):Int):=by rw [IntKind.wrap_u64];omega
  (have e0:c.toNat%128*128^k=c.toNat%128:=by{rw [h0];simp});rw [e0] at hj;rw [PU,hx,hx,hj,←e0]
  refine⟨by rw [hE,decide_eq_false (fun h=>h1 h.2)];try rfl,?_,fun _=> ?_⟩
  ·exact((((ag.refl (fun b=>b=q) w).setCell (p:=⟨q,1,none⟩) (fun _=>rfl) _).setCell (p:=⟨q,0,none⟩) (fun _=>rfl) _).drew)
  ·(rw [if_neg h1];subst h0;exact(((HB.set_ 1 _).set_ 0 _).drew))
theorem za (q v k:Nat) (c:UInt8) (w:World) (hB:tT w q v k 0) (hk:k≤9) (h9:k=9) (h2:c.toNat=1) (h1:c.toNat<128) (hv:v<128^k) (h64:c.toNat%128*128^k+v<18446744073709551616):
  Calls prog 131 #[.pointer (some ⟨q,0,none⟩),.int .u8 c.toNat] w (Cu q v k c w):=by
 unfold tT at hB;have HB:=aa hB;have x0:w.cell? ⟨q,0,none⟩=some (.int .u64 v):=hB.cell 0;have x1:w.cell? ⟨q,1,none⟩=some (.int .i64 k):=hB.cell 1;have x2:w.cell? ⟨q,2,none⟩=some (.int .i64 0):=hB.cell 2;have Uq:=hB.frozen 0;have Ur:=hB.frozen 1;have Us:=hB.frozen 2;clear hB;refine letter fun R HR=> ?_
 (have HE:Hid (dD k c=0):=aa (by unfold dD;rw [if_neg (by omega),if_neg (by omega)]);have HV:=aa hv;have EH:=aa h64;clear hv h64;have h2':((c.toNat:Int)=1):=(by omega);have h1':(c.toNat:Int)<128:=(by omega))
 go_enter func131,ntmps131
 go_upto_region 10 with fail
 go_region
 all_goals go_wp2
 all_goals
  rw [HR.out];have hE:=HE.out;have hp:(128:Nat)^k=2^(7*k):=by rw [Nat.pow_mul]
  have hl:=HV.out;have h64:=EH.out;rw [hp] at hl h64;have hm:c.toNat%128<128:=Nat.mod_lt _ (by omega);have hj:=my hl hm (by omega);rw [←hp] at hj;have hx:IntKind.u64.wrap ((c.toNat%128:Nat):Int)=((c.toNat%128:Nat):Int):=by rw [IntKind.wrap_u64];omega
  (have e0:c.toNat%128*128^k=9223372036854775808:=by{rw [h9,h2]});rw [e0] at hj;(have hcl:IntKind.u64.wrap (IntKind.u64.wrap (bits .and .u8 1 127)*9223372036854775808)=((9223372036854775808:Nat):Int):=by decide);rw [hcl,hj,←e0]
  refine⟨by rw [hE,decide_eq_true ⟨rfl,h1⟩];try rfl,?_,fun _=> ?_⟩
  ·exact((((ag.refl (fun b=>b=q) w).setCell (p:=⟨q,1,none⟩) (fun _=>rfl) _).setCell (p:=⟨q,0,none⟩) (fun _=>rfl) _).drew).setCell (p:=⟨q,2,none⟩) (fun _=>rfl) _
  ·(rw [if_pos h1];subst h9;exact(((HB.set_ 1 _).set_ 0 _).drew.set_ 2 (.int .i64 1)))
theorem pX (q v k:Nat) (c:UInt8) (w:World) (hB:tT w q v k 0) (hk:k≤9) (hv:v<128^k):Calls prog 131 #[.pointer (some ⟨q,0,none⟩),.int .u8 c.toNat] w (Cu q v k c w):=by
 have hm:c.toNat%128<128:=Nat.mod_lt _ (by omega)
 rcases Nat.lt_or_ge k 9 with h9|h9
 ·have h8:128^(k+1)≤128^9:=Nat.pow_le_pow_right (by omega) (by omega);have h7:c.toNat%128*128^k≤127*128^k:=Nat.mul_le_mul_right _ (by omega);rw [Nat.pow_succ] at h8;have h64:c.toNat%128*128^k+v<18446744073709551616:=by omega
  by_cases h1:c.toNat<128
  ·by_cases h0:k=0
   ·exact yZ q v k c w hB hk h0 h1 hv h64
   ·by_cases h2:c.toNat=0
    ·exact xR q v k c w hB hk (by omega) h2
    ·exact EI q v k c w hB hk (by omega) h9 h2 h1 hv h64
  ·by_cases h0:k=0
   ·exact y9 q v k c w hB hk h0 h1 hv h64
   ·exact EJ q v k c w hB hk (by omega) h9 (by omega) h1 hv h64
 ·have h9:k=9:=by omega
  by_cases h1:1<c.toNat
  ·exact Jk q v k c w hB hk h9 h1
  ·by_cases h2:c.toNat=0
   ·exact xR q v k c w hB hk (by omega) h2
   ·refine za q v k c w hB hk h9 (by omega) (by omega) hv ?_;rw [h9] at hv⊢;rw [show c.toNat=1 by omega];omega
end
section
open Go.Proofs.Tryz
open Go.RowKit
theorem ag.of_grown {w w2:World} {v:Value} (hg:w.grownBy w2 v.ownBlock):ag (fun b=>v.ownBlock=some b) w w2:=(ag.refl _ _).grown hg (fun _ hk _=>hk)
def Ow (w:World) (base:Nat) (v:Value) (bs:List UInt8):Prop:=w.ownsRow base 5 1 v bs.length (aK bs)
theorem Ow.nil (w:World) (base:Nat):Ow w base (.slice none 0 0) []:=World.ownsRow_nil _ _ _ _
theorem Ow.sb {w:World} {base:Nat} {v:Value} {bs:List UInt8} (h:Ow w base v bs):SB w (From base) v bs:=J6 h
theorem Ow.below {w w':World} {base:Nat} {v:Value} {bs:List UInt8} (h:Ow w base v bs) (hb:Below w.heap.size w w'):Ow w' base v bs:=own_below h hb
theorem Ow.chg {S:Nat→Prop} {w w':World} {base:Nat} {v:Value} {bs:List UInt8} (h:Ow w base v bs) (hc:ag S w w') (hs:∀g,v.ownBlock=some g→¬S g):Ow w' base v bs:=aF h hc hs
theorem Ow.snoc {w:World} {base:Nat} {v:Value} {bs:List UInt8} {c:UInt8} {u:Value} (h:w.ownsRow base 5 1 v (bs.length+1) (aK bs++ [u])) (hu:u=bv c):Ow w base v (bs++ [c]):=by
 subst hu;unfold Ow;simpa [aK] using h
def AX (w:World) (base:Nat) (bs:List UInt8) (e:Ending) (w':World):Prop:=∃v,e= .returned v∧Ow w' base v bs∧ag (From base) w w'
theorem Xh:∀x:Nat,x<256→x|||128=x%128+128:=by decide
theorem hi8 (m:Nat):bits .or .u8 ((m:Int)%256) 128=((m%128+128:Nat):Int):=by
 have h:=(bits_nat .u8 8 (by decide) wraps_u8 (m%256) 128 (by omega) (by omega)).2;rw [Xh _ (by omega),show m%256%128=m%128 by omega] at h;exact h
theorem QN (m:Nat):Value.int .u8 ((m%128+128:Nat):Int)=bv (UInt8.ofNat (m%128+128)):=by
 unfold bv;congr 1;rw [UInt8.toNat_ofNat'];omega
theorem QO {m:Nat} (h:m<128):Value.int .u8 (m:Int)=bv (UInt8.ofNat m):=by
 unfold bv;congr 1;rw [UInt8.toNat_ofNat'];omega
theorem xS {m:Nat} (h:¬m<128):aG m=UInt8.ofNat (m%128+128)::aG (m/128):=by rw [aG,if_neg h]
theorem mW {m:Nat} (h:m<128):aG m= [UInt8.ofNat m]:=by rw [aG,if_pos h]
theorem Cv (base n:Nat) (v:Value) (b0:List UInt8) (w:World) (ho:Ow w base v b0) (hl0:b0.length≤1152921504606) (hn:n<18446744073709551616) (hb:base≤w.heap.size):
  Calls prog 170 #[v,.int .u64 n] w (AX w base (b0++aG n)):=by
 obtain⟨i0,hi0,hz0,hz1,hz2⟩:=info_parts dK;obtain⟨N,hN⟩:∃N,N=b0++aG n:=⟨_,rfl⟩;have Xi:N.length≤1152921504616:=by have:=kQ n 9 (by omega);rw [hN];rw [List.length_append];omega
 obtain⟨R,hR⟩:∃R,R=AX w base N:=⟨_,rfl⟩;have HRR:=aa hR;rw [←hN,←hR];have HN:=aa hN;have HB:=aa hb;have Lx:=aa Xi;have HOW:=aa ho;clear ho;clear hR hN hb Xi;go_enter func170,ntmps170
 go_wp2
 go_loopg [0,1] n (fun g' RN mv wz=>∃(m:Nat) (bs:List UInt8),g'=m∧mv= .int .u64 m∧m<18446744073709551616∧bs++aG m=N∧Ow wz base RN bs∧ag (From base) w wz)
 case atStart=>exact⟨n,b0,rfl,rfl,hn,HN.out.symm,HOW,ag.refl _ _⟩
 case round=>
  obtain⟨m,bs,hg,rfl,hm,EM,how,hc⟩:=hrel;have HG:=aa hg;have HC:=aa EM;have HO:=aa how;have oL:=aa hc;have hbl:bs.length≤1152921504616:=by have:=Lx.out;rw [←EM] at this;rw [List.length_append] at this;omega
  have q8:=aa hbl;have uB:Hid (base≤wr.heap.size):=aa (Nat.le_trans HB hc.size);clear hg EM how hc hbl
  by_cases hlt:m<128
  ·have hlt':¬((128:Int)≤(m:Int)):=by omega
   have hmm:(m:Int)%256=(m:Int):=by omega
   go_wp2_with (at_builtin;go_loud (refine af _ rfl (.tmp 15) (.tmp 18) _ rfl base 5 i0 _ 1 1 underlying24 hi0 hz0 hz1 hz2 rfl (by omega) u0 _ (aK bs) rfl (own_below HO ((Below.refl _ _).alloc (Nat.le_refl _) _)) (From wr.heap.size) (some ⟨wr.heap.size,0,none⟩) 1 1 [.int .u8 m] rfl (Rd.one wr _ _) (by simp [Value.oneCell']) (by have:=q8.out;simp only [maxLen];omega) (by have:=q8.out;omega) (by have:=uB.out;simp;omega) ?_);intro v6 w6 hown6 jS iR;have uJ:=aa hown6;have qC:=aa jS;clear hown6 jS iR)
   rw [HRR.out];have h1:=Ow.snoc uJ (QO hlt);have h2:=HC.out;rw [mW hlt] at h2;rw [h2] at h1
   exact⟨v6,rfl,h1,(oL.then ((Below.refl _ _).alloc (Nat.le_refl _) _)).trans (ag.of_grown qC) (fun g _ e=>(ah HO g e).1)⟩
  ·have hlt':(128:Int)≤(m:Int):=by omega
   have e1:=hi8 m;go_wp2_with (at_builtin;go_loud (refine af _ rfl (.tmp 9) (.tmp 13) _ rfl base 5 i0 _ 1 1 underlying24 hi0 hz0 hz1 hz2 rfl (by omega) u0 _ (aK bs) rfl (own_below HO ((Below.refl _ _).alloc (Nat.le_refl _) _)) (From wr.heap.size) (some ⟨wr.heap.size,0,none⟩) 1 1 [.int .u8 ((m%128+128:Nat):Int)] rfl (Rd.one wr _ _) (by simp [Value.oneCell']) (by have:=q8.out;simp only [maxLen];omega) (by have:=q8.out;omega) (by have:=uB.out;simp;omega) ?_);intro v6 w6 hown6 jS iR;have uJ:=aa hown6;have qC:=aa jS;clear hown6 jS iR)
   go_roundg (m/128)
   case measure=>have:=HG.out;omega
   case rel=>
    have h1:=Ow.snoc (c:=UInt8.ofNat (m%128+128)) uJ (by rw [←QN]);have h2:=HC.out;rw [xS hlt] at h2;exact⟨m/128,bs++ [UInt8.ofNat (m%128+128)],rfl,by congr 1,by omega,by simpa using h2,h1,(oL.then ((Below.refl _ _).alloc (Nat.le_refl _) _)).trans (ag.of_grown qC) (fun g _ e=>(ah HO g e).1)⟩
theorem fH (base n:Nat) (w:World) (hn:n<18446744073709551616) (hb:base≤w.heap.size):
  Calls prog 114 #[.int .u64 n] w (AX w base (aG n)):=by
 obtain⟨i0,hi0,hz0,hz1,hz2⟩:=info_parts dK;obtain⟨N,hN⟩:∃N,N=aG n:=⟨_,rfl⟩;have Xi:N.length≤1152921504616:=by have:=kQ n 9 (by omega);rw [hN];omega
 obtain⟨R,hR⟩:∃R,R=AX w base N:=⟨_,rfl⟩;have HRR:=aa hR;rw [←hN,←hR];have HN:=aa hN;have HB:=aa hb;have Lx:=aa Xi
 skip
 clear hR hN hb Xi;go_enter func114,ntmps114
 go_wp2
 go_loopg [3,0] n (fun g' RN mv wz=>∃(m:Nat) (bs:List UInt8),g'=m∧mv= .int .u64 m∧m<18446744073709551616∧bs++aG m=N∧Ow wz base RN bs∧ag (From base) w wz)
 case atStart=>exact⟨n,[],rfl,rfl,hn,HN.out.symm,Ow.nil _ _,ag.refl _ _⟩
 case round=>
  obtain⟨m,bs,hg,rfl,hm,EM,how,hc⟩:=hrel;have HG:=aa hg;have HC:=aa EM;have HO:=aa how;have oL:=aa hc;have hbl:bs.length≤1152921504616:=by have:=Lx.out;rw [←EM] at this;rw [List.length_append] at this;omega
  have q8:=aa hbl;have uB:Hid (base≤wr.heap.size):=aa (Nat.le_trans HB hc.size);clear hg EM how hc hbl
  by_cases hlt:m<128
  ·have hlt':¬((128:Int)≤(m:Int)):=by omega
   have hmm:(m:Int)%256=(m:Int):=by omega
   go_wp2_with (at_builtin;go_loud (refine af _ rfl (.tmp 15) (.tmp 18) _ rfl base 5 i0 _ 1 1 underlying24 hi0 hz0 hz1 hz2 rfl (by omega) u3 _ (aK bs) rfl (own_below HO ((Below.refl _ _).alloc (Nat.le_refl _) _)) (From wr.heap.size) (some ⟨wr.heap.size,0,none⟩) 1 1 [.int .u8 m] rfl (Rd.one wr _ _) (by simp [Value.oneCell']) (by have:=q8.out;simp only [maxLen];omega) (by have:=q8.out;omega) (by have:=uB.out;simp;omega) ?_);intro v6 w6 hown6 jS iR;have uJ:=aa hown6;have qC:=aa jS;clear hown6 jS iR)
   rw [HRR.out];have h1:=Ow.snoc uJ (QO hlt);have h2:=HC.out;rw [mW hlt] at h2;rw [h2] at h1
   exact⟨v6,rfl,h1,(oL.then ((Below.refl _ _).alloc (Nat.le_refl _) _)).trans (ag.of_grown qC) (fun g _ e=>(ah HO g e).1)⟩
  ·have hlt':(128:Int)≤(m:Int):=by omega
   have e1:=hi8 m;go_wp2_with (at_builtin;go_loud (refine af _ rfl (.tmp 6) (.tmp 11) _ rfl base 5 i0 _ 1 1 underlying24 hi0 hz0 hz1 hz2 rfl (by omega) u3 _ (aK bs) rfl (own_below HO ((Below.refl _ _).alloc (Nat.le_refl _) _)) (From wr.heap.size) (some ⟨wr.heap.size,0,none⟩) 1 1 [.int .u8 ((m%128+128:Nat):Int)] rfl (Rd.one wr _ _) (by simp [Value.oneCell']) (by have:=q8.out;simp only [maxLen];omega) (by have:=q8.out;omega) (by have:=uB.out;simp;omega) ?_);intro v6 w6 hown6 jS iR;have uJ:=aa hown6;have qC:=aa jS;clear hown6 jS iR)
   go_roundg (m/128)
   case measure=>have:=HG.out;omega
   case rel=>
    have h1:=Ow.snoc (c:=UInt8.ofNat (m%128+128)) uJ (by rw [←QN]);have h2:=HC.out;rw [xS hlt] at h2;exact⟨m/128,bs++ [UInt8.ofNat (m%128+128)],rfl,by congr 1,by omega,by simpa using h2,h1,(oL.then ((Below.refl _ _).alloc (Nat.le_refl _) _)).trans (ag.of_grown qC) (fun g _ e=>(ah HO g e).1)⟩
theorem oU (base n:Nat) (w:World) (hn:n<18446744073709551616) (hb:base≤w.heap.size):Calls prog 153 #[.int .u64 n] w (AX w base (aG n)):=by
 have HH:=aa (Cv base n (.slice none 0 0) [] w (Ow.nil _ _) (by simp) hn hb);refine letter fun R HRR=> ?_;go_enter func153,ntmps153
 go_wp2_with (go_at_call 170;refine HH.mono ?_;rintro e w2 ⟨v,rfl,ho,hc⟩)
 rw [HRR.out];exact⟨v,rfl,by simpa using ho,hc⟩
theorem Lu (w:World):Calls prog 130 #[] w fun e w'=>e= .returned (.pointer (some ⟨w.heap.size,0,none⟩))∧tT w' w.heap.size 0 0 0∧Below w.heap.size w w':=by
 go_enter func130,ntmps130
 go_wp2;go_ret
 exact⟨rfl,ai.new _ _ _,(Below.refl _ _).alloc (Nat.le_refl _) _⟩
theorem LA (q v k:Nat) (w:World) (h:tT w q v k 1):Calls prog 132 #[.pointer (some ⟨q,0,none⟩)] w fun e w'=>e= .returned (.tuple #[.int .u64 v,.bool true])∧w=w':=by
 have x0:w.cell? ⟨q,0,none⟩=some (.int .u64 v):=h.cell 0;have x2:w.cell? ⟨q,2,none⟩=some (.int .i64 1):=h.cell 2;go_enter func132,ntmps132
 go_wp2;go_ret2
 exact⟨rfl,rfl⟩
end
section
open Go.Proofs.Tryz
open Go.RowKit
theorem I5 (s:Nat) (hs:s<4294967296): [Value.int .u8 ((s:Int)%256),Value.int .u8 ((s:Int)/256%256),Value.int .u8 ((s:Int)/65536%256),Value.int .u8 ((s:Int)/16777216)]=aK (four s):=by
 simp only [four,aK,List.map_cons,List.map_nil,bv,UInt8.toNat_ofNat'];congr 2
 congr 2
 congr 2
 congr 2
 omega
theorem I6 (s:Nat) (w:World) (hs:s<4294967296):Calls prog 142 #[.int .u32 s] w fun e w'=>e= .returned (.slice (some ⟨w.heap.size,0,none⟩) 4 4)∧SB w' (From w.heap.size) (.slice (some ⟨w.heap.size,0,none⟩) 4 4) (four s)∧Below w.heap.size w w':=by
 have HF:=aa (I5 s hs);refine letter fun R HR=> ?_;go_enter func142,ntmps142
 go_wp2;rw [HR.out]
 refine⟨rfl,SB.mk (Nat.le_refl _) (by simp [maxLen]) rfl ?_,(Below.refl _ _).alloc (Nat.le_refl _) _⟩;have h:=Rd.lit1 w #[Value.int .u8 ((s:Int)%256),Value.int .u8 ((s:Int)/256%256),Value.int .u8 ((s:Int)/65536%256),Value.int .u8 ((s:Int)/16777216)] 5;rw [←HF.out];exact h
theorem Ih (F:Nat→Prop) (A:Option Addr) (n c:Nat) (bs:List UInt8) (w:World) (h:Rd w F 1 A n (aK bs)) (hn:n=bs.length) (hn2:n≤1152921504606):
  Calls prog 117 #[.slice A n c] w fun e w'=>∃v,e= .returned v∧Ow w' w.heap.size v (bs++four (bz bs))∧Below w.heap.size w w':=by
 obtain⟨i0,hi0,hz0,hz1,hz2⟩:=info_parts dK;have HR:=aa h;have HN:=aa hn;obtain⟨fr,hfr⟩:∃fr,fr=four (bz bs):=⟨_,rfl⟩;obtain⟨sv,hsv⟩:∃sv,sv=bz bs:=⟨_,rfl⟩;have Dv:Hid (fr=four sv):=aa (by rw [hfr,hsv]);have XA:=aa hsv;have hsl:sv<4294967296:=by rw [hsv];exact AF _
 have hfl:fr.length=4:=by rw [hfr];rfl
 have kZ:=aa hfl;rw [←hfr];clear h hn hfr hsv hfl;obtain⟨R,hR⟩:∃R:Ending→World→Prop,R=fun e w'=>∃v,e= .returned v∧Ow w' w.heap.size v (bs++fr)∧Below w.heap.size w w':=⟨_,rfl⟩;have HRR:=aa hR;rw [←hR];clear hR;go_enter func117,ntmps117
 go_wp2_with (first|(at_builtin;(refine af _ rfl (.tmp 3) (.tmp 4) _ rfl w.heap.size 5 i0 _ 1 1 underlying24 hi0 hz0 hz1 hz2 rfl (by omega) (.slice (some ⟨w.heap.size,0,none⟩) 0 0) 0 [] rfl (lU w _ 1) F A n c (aK bs) rfl (HR.alloc _) (cO _) (by simp only [maxLen];omega) (by omega) (by simp) ?_);intro v1 w1 hown1 hg1 iX;have mH:Hid (w1.ownsRow w.heap.size 5 1 v1 n (aK bs)):=aa (by simpa using hown1);have HB1:Hid (Below w.heap.size w w1):=aa (((Below.refl _ _).alloc (Nat.le_refl _) _).grown hg1 (by simp) (fun k hk=>by simp [Value.ownBlock] at hk;omega));clear hown1 hg1 iX)|(go_at_call 143;go_loud (refine(MY A n c F bs w1 (HR.below HB1) HN hn2).mono ?_);rintro e w2 ⟨rfl,rfl⟩;rw [←XA.out])|(go_at_call 142;go_loud (refine(I6 sv w1 hsl).mono ?_);rintro e w2 ⟨rfl,hs2,hb2⟩;rw [←Dv.out] at hs2;have HS2:=aa hs2;have HB2:=aa hb2;have iV:=aa (own_below mH hb2);clear hs2 hb2)|(at_builtin;go_loud (refine af _ rfl (.tmp 5) (.tmp 8) _ rfl w.heap.size 5 i0 _ 1 1 underlying24 hi0 hz0 hz1 hz2 rfl (by omega) v1 n (aK bs) rfl iV (From w1.heap.size) (some ⟨w1.heap.size,0,none⟩) 4 4 (aK fr) rfl HS2.parts.2.2.2 (cO _) (by simp only [maxLen];omega) (by omega) (by have h1:=HB1.out.size;have h2:=HB2.out.size;omega) ?_);intro v3 w3 hown3 hg3 wG;have nD:=aa hown3;have JI:=aa hg3;clear hown3 hg3 wG))
 rw [HRR.out];refine⟨v3,rfl,?_,(HB1.out.trans (HB2.mono HB1.size)).grown JI (by have h1:=HB1.out.size;have h2:=HB2.out.size;omega) (fun k hk=>(ah mH k hk).1)⟩;have h1:=nD.out;unfold Ow;rw [List.length_append,kZ.out,←HN.out];simpa [aK] using h1
end
section
open Go.RowKit
section
variable {P:Program} {ops:Array Oper} {Q:Exit→Act→World→Prop} {md:Region.Mode} {S:World→Prop}
theorem NY {i j:Nat} {oi oj:Oper} {f:Nat} {listed:Array Bool} {a:Act} {w:World} (hr:Region.ready md ops listed= [i,j]) (hoi:ops[i]? =some oi) (hoj:ops[j]? =some oj)
  (hi:∀K':Act→World→Prop,Hid (∀a w,S w→zG P md ops Q S f (listed.setIfInBounds i true) a w→K' a w)→
   if Region.wanted oi (yielded ops a.tmps)=true then Oper.wp P oi a w K' Q else K' (a.put oi.dst undef) w)
  (hj:∀K':Act→World→Prop,Hid (∀a w,S w→zG P md ops Q S f (listed.setIfInBounds j true) a w→K' a w)→
   if Region.wanted oj (yielded ops a.tmps)=true then Oper.wp P oj a w K' Q else K' (a.put oj.dst undef) w):zG P md ops Q S (f+1) listed a w:=by
 refine⟨fun h0=>(by rw [hr] at h0;cases h0),fun k hk=> ?_⟩;rw [hr] at hk
 rcases List.mem_cons.1 hk with rfl|hk
 ·exact wpOp_step hoi (fun K' hK=>hi K' (fun a w hS hW=>hK a w ⟨hS,hW⟩))
 ·obtain rfl:k=j:=by simpa using hk
  exact wpOp_step hoj (fun K' hK=>hj K' (fun a w hS hW=>hK a w ⟨hS,hW⟩))
end
end
section
open Go.RowKit
end
section
structure Src where
 left:List UInt8
 gives:List Int
 fail:Int
 eager:Bool
 calls:Nat
def Src.most (s:Src) (n:Nat):Nat:=match s.gives[s.calls]? with
 |some g=>min n g.toNat
 |none=>n
def Src.asked (s:Src):Src:={s with calls:=s.calls+1}
def Src.read (s:Src) (n:Nat):List UInt8×Int×Src:=
 if 0<s.fail∧s.fail≤(s.calls:Int)+1 then([],32,s.asked)
 else if s.left= [] then([],31,s.asked)
 else(s.left.take (s.most n),if s.eager=true∧s.left.drop (s.most n)= [] then 31 else 0,{s.asked with left:=s.left.drop (s.most n)})
theorem Src.most_le (s:Src) (n:Nat):s.most n≤n:=by unfold Src.most;split<;>omega
theorem Src.read_len (s:Src) (n:Nat):(s.read n).1.length≤n:=by
 unfold Src.read;have:=s.most_le n
 split
 ·simp
 ·split
  ·simp
  ·simp only [List.length_take];omega
theorem Src.read_calls (s:Src) (n:Nat):(s.read n).2.2.calls=s.calls+1:=by
 unfold Src.read
 split
 ·rfl
 ·split<;>rfl
theorem Src.read_left (s:Src) (n:Nat):(s.read n).1.length+(s.read n).2.2.left.length=s.left.length:=by
 unfold Src.read
 split
 ·simp [Src.asked]
 ·split
  ·simp [Src.asked]
  ·simp only [List.length_take,List.length_drop];omega
structure ax where
 src:Src
 at_:Nat
 err:Int
 idle:Nat
 held:Option UInt8
def ax.ask (c:ax) (n:Nat):List UInt8×Int×ax:=
 ((c.src.read (min n 4096)).1,(c.src.read (min n 4096)).2.1,{c with src:=(c.src.read (min n 4096)).2.2,idle:=if(c.src.read (min n 4096)).1≠ []∨(c.src.read (min n 4096)).2.1≠0 then 0 else c.idle+1})
def ax.loop (c:ax) (b:List UInt8) (n:Nat):List UInt8×Int×ax:=
 if n≤b.length then(b,0,c)
 else if n≤(b++(c.ask (n-b.length)).1).length then(b++(c.ask (n-b.length)).1,0,(c.ask (n-b.length)).2.2)
 else if(c.ask (n-b.length)).2.1=31 then([],41,(c.ask (n-b.length)).2.2)
 else if(c.ask (n-b.length)).2.1≠0 then([],(c.ask (n-b.length)).2.1,(c.ask (n-b.length)).2.2)
 else if 16≤(c.ask (n-b.length)).2.2.idle then([],33,(c.ask (n-b.length)).2.2)
 else(c.ask (n-b.length)).2.2.loop (b++(c.ask (n-b.length)).1) n
termination_by (n-b.length)*17+(16-c.idle)
decreasing_by
 rename_i h1 h2 h3 h4 h5;simp only [List.length_append] at h2⊢;have h6:(c.ask (n-b.length)).2.2.idle=if(c.ask (n-b.length)).1≠ []∨(c.ask (n-b.length)).2.1≠0 then 0 else c.idle+1:=rfl
 by_cases h7:(c.ask (n-b.length)).1= []
 ·rw [h6,if_neg (by simp [h7,h4])];rw [h6,if_neg (by simp [h7,h4])] at h5;rw [h7];simp only [List.length_nil]
  omega
 ·have h8:0<(c.ask (n-b.length)).1.length:=List.length_pos_iff.2 h7;rw [h6,if_pos (.inl h7)];omega
def ax.bytes (c:ax) (n:Nat):List UInt8×Int×ax:=
 if c.err≠0 then([],c.err,c)
 else if n=0 then([],0,c)
 else if(ax.loop {c with held:=none} c.held.toList n).2.1=0 then((ax.loop {c with held:=none} c.held.toList n).1,0,{(ax.loop {c with held:=none} c.held.toList n).2.2 with at_:=c.at_+n})
 else([],(ax.loop {c with held:=none} c.held.toList n).2.1,{(ax.loop {c with held:=none} c.held.toList n).2.2 with err:=(ax.loop {c with held:=none} c.held.toList n).2.1})
def ax.numL (k:Nat) (v:Nat) (c:ax):Nat×Int×ax:=
 if 10≤k then(0,12,{(c.bytes 1).2.2 with err:=12})
 else if(c.bytes 1).2.1≠0 then(0,(c.bytes 1).2.1,(c.bytes 1).2.2)
 else if k=9∧1<((c.bytes 1).1.headD 0).toNat then(0,12,{(c.bytes 1).2.2 with err:=12})
 else if 0<k∧((c.bytes 1).1.headD 0).toNat=0 then(0,13,{(c.bytes 1).2.2 with err:=13})
 else if((c.bytes 1).1.headD 0).toNat<128 then(v+((c.bytes 1).1.headD 0).toNat%128*128^k,0,(c.bytes 1).2.2)
 else ax.numL (k+1) (v+((c.bytes 1).1.headD 0).toNat%128*128^k) (c.bytes 1).2.2
termination_by 10-k
def ax.number (c:ax):Nat×Int×ax:=
 if(c.numL 0 0).2.1=0 then c.numL 0 0 else(0,(c.numL 0 0).2.1,{(c.numL 0 0).2.2 with at_:=c.at_})
def ax.end_ (c:ax):Bool×Int×ax:=
 if c.err≠0∨c.held.isSome=true then(false,c.err,c)
 else if(c.loop [] 1).2.1=0 then(false,0,{(c.loop [] 1).2.2 with held:=(c.loop [] 1).1.head?})
 else if(c.loop [] 1).2.1=41 then(true,0,(c.loop [] 1).2.2)
 else(false,(c.loop [] 1).2.1,{(c.loop [] 1).2.2 with err:=(c.loop [] 1).2.1})
end
end Go.Proofs.YtbjgeidjmhialaaGreatDoor
