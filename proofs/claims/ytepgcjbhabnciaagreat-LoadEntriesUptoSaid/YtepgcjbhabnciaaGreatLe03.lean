/- Part 3. -/
import Derived.Test.YtepgcjbhabnciaaGreatLe01
namespace Go.Proofs.YtepgcjbhabnciaaGreat
set_option maxRecDepth 100000
set_option maxHeartbeats 8000000
def dG:Nat->List UInt8->Int×Nat
 |k,[]=>(11,k)
 |k,c::r=>if k=9/\1<c.toNat then(12,k) else if 0<k/\c.toNat=0 then(13,k) else if c.toNat<128 then(0,k+1) else dG (k+1) r
def fM:List UInt8->Nat
 | []=>0
 |c::r=>c.toNat%128+128*fM r
def ai (b:List UInt8) (p:Nat):Nat×Nat×Int:=
 if(dG 0 (b.drop p)).1=0 then(fM ((b.drop p).take (dG 0 (b.drop p)).2),p+(dG 0 (b.drop p)).2,0) else(0,p+(dG 0 (b.drop p)).2,(dG 0 (b.drop p)).1)
def aM (n:Nat):List UInt8:=if n<128 then [UInt8.ofNat n] else UInt8.ofNat (n%128+128)::aM (n/128)
theorem oq:∀(l:List UInt8) (c:UInt8),fM (l++ [c])=fM l+c.toNat%128*128^l.length
 | [],c=>by simp [fM]
 |x::r,c=>by
  rw [List.cons_append,fM,fM,oq r c,List.length_cons,Nat.pow_succ,Nat.mul_add,Nat.add_assoc];congr 2
  rw [Nat.mul_left_comm,Nat.mul_comm 128]
theorem xy:∀(l:List UInt8) (k:Nat),k<=(dG k l).2/\(dG k l).2<=k+l.length
 | [],k=>by simp [dG]
 |c::r,k=>by
  unfold dG;have h:=xy r (k+1);rw [List.length_cons]
  split
  ·exact⟨Nat.le_refl _,by simp⟩
  ·split
   ·exact⟨Nat.le_refl _,by simp⟩
   ·split
    ·exact⟨Nat.le_succ _,by simp only [];omega⟩
    ·omega
theorem Ll:∀(l:List UInt8) (k:Nat),k<=9->(dG k l).1=0->(dG k l).2<=10
 | [],k,e,h=>by simp [dG] at h
 |c::r,k,e,h=>by
  unfold dG at h|-
  split at h
  ·simp at h
  ·rename_i b
   split at h
   ·simp at h
   ·rename_i d
    split at h
    ·rename_i a;rw [if_neg b,if_neg d,if_pos a];simp only [];omega
    ·rename_i a;rw [if_neg b,if_neg d,if_neg a];refine Ll r (k+1) (by omega) h
theorem xz:∀(l:List UInt8) (k:Nat),k<=9->(dG k l).1=0->fM (l.take ((dG k l).2-k))*128^k<18446744073709551616
 | [],k,s,h=>by simp [dG] at h
 |c::r,k,s,h=>by
  have t:=xy r (k+1);unfold dG at h|-
  split at h
  ·simp at h
  ·rename_i i
   split at h
   ·simp at h
   ·rename_i j
    split at h
    ·rename_i b;rw [if_neg i,if_neg j,if_pos b];have e:k+1-k=1:=by omega
     simp only [e,List.take_succ_cons,List.take_zero,fM,Nat.mul_zero,Nat.add_zero];rw [Nat.mod_eq_of_lt b]
     rcases Nat.lt_or_ge k 9 with g|g
     ·have m:128^k<=128^8:=Nat.pow_le_pow_right (by omega) (by omega);have n:c.toNat*128^k<=127*128^8:=Nat.mul_le_mul (by omega) m
      omega
     ·have o:k=9:=by omega
      subst o;have p:c.toNat<=1:=by omega
      have n:c.toNat*128^9<=1*128^9:=Nat.mul_le_mul p (Nat.le_refl _)
      omega
    ·rename_i b;rw [if_neg i,if_neg j,if_neg b]
     by_cases g:k=9
     ·have:=c.toNat_lt;omega
     ·have a:=xz r (k+1) (by omega) h;have e:(dG (k+1) r).2-k=((dG (k+1) r).2-(k+1))+1:=by omega
      rw [e,List.take_succ_cons,fM,Nat.add_mul];rw [Nat.pow_succ,<-Nat.mul_assoc,Nat.mul_comm _ 128,<-Nat.mul_assoc] at a;have v:c.toNat%128*128^k<128*128^k:=Nat.mul_lt_mul_of_pos_right (Nat.mod_lt _ (by omega)) (Nat.pow_pos (by omega))
      --both are Yq of 128^(k+1) at their ap7
      obtain⟨V,q⟩:∃V,V=fM (r.take ((dG (k+1) r).2-(k+1))):=⟨_,rfl⟩;rw [<-q] at a|-
      have w:128*V*128^k+128*128^k<=18446744073709551616:=by
       have u:(18446744073709551616:Nat)=128*128^k*(2^(64-7*(k+1))):=by
        have:k<9:=by omega
        match k,this with
        |0,_=>decide
        |1,_=>decide
        |2,_=>decide
        |3,_=>decide
        |4,_=>decide
        |5,_=>decide
        |6,_=>decide
        |7,_=>decide
        |8,_=>decide
       have d:128*V*128^k=128*128^k*V:=by rw [Nat.mul_assoc,Nat.mul_comm V,<-Nat.mul_assoc]
       rw [d] at a|-;rw [u] at a|-;have f:V<2^(64-7*(k+1)):=Nat.lt_of_mul_lt_mul_left a;rw [<-Nat.mul_succ];exact Nat.mul_le_mul_left _ f
      omega
theorem wG (b:List UInt8) (p:Nat):(ai b p).1<18446744073709551616:=by
 unfold ai
 split
 ·rename_i h;have:=xz (b.drop p) 0 (by omega) h
  simpa using this
 ·simp
theorem fe (b:List UInt8) (p:Nat) (a:p<=b.length):p<=(ai b p).2.1/\(ai b p).2.1<=b.length:=by
 have h:=xy (b.drop p) 0;rw [List.length_drop] at h;unfold ai;split<;>(simp only [];omega)
theorem lX (n:Nat):∀k,n<128^(k+1)->(aM n).length<=k+1:=by
 intro k
 induction k generalizing n with
 |zero=>intro h;unfold aM;rw [if_pos (by omega)];simp
 |succ k a=>
  intro h;unfold aM
  split
  ·simp
  ·rw [List.length_cons];have:=a (n/128) (by rw [Nat.pow_succ] at h;omega);omega
end Go.Proofs.YtepgcjbhabnciaaGreat
