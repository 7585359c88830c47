/- Part 8. -/
import Derived.Test.YtepgcjbhabnciaaGreatLe07
namespace Go.Proofs.YtepgcjbhabnciaaGreat
set_option maxRecDepth 100000
set_option maxHeartbeats 8000000
open Go.Proofs.Tryz Go.RowKit
open Go.Lib (compareBytes)
variable {p K a s m:Nat} {prev b:List UInt8} {l:List aK} {e:aK} {c:ay}
structure WZ where
 key:List UInt8
 val:List UInt8
 next:Nat
 err:Int
def bI (prev b:List UInt8) (at_ s m l p:Nat):WZ:=
 if prev.length<s then⟨[],[],at_,52⟩
 else if 64<m\/256<l\/s+m=0\/64<s+m then⟨[],[],at_,3⟩
 else if b.length-p<m+l then⟨[],[],b.length,53⟩
 else if comm prev (prev.take s++(b.drop p).take m)≠s then⟨[],[],at_,52⟩
 else if 0<prev.length/\0<=compareBytes prev (prev.take s++(b.drop p).take m) then⟨[],[],at_,51⟩
 else⟨prev.take s++(b.drop p).take m,(b.drop (p+m)).take l,p+m+l,0⟩
def pread (prev b:List UInt8) (at_:Nat):WZ:=
 if(ai b at_).2.2≠0 then⟨[],[],(ai b at_).2.1,(ai b at_).2.2⟩
 else if(ai b (ai b at_).2.1).2.2≠0 then⟨[],[],(ai b (ai b at_).2.1).2.1,(ai b (ai b at_).2.1).2.2⟩
 else if(ai b (ai b (ai b at_).2.1).2.1).2.2≠0 then⟨[],[],(ai b (ai b (ai b at_).2.1).2.1).2.1,(ai b (ai b (ai b at_).2.1).2.1).2.2⟩
 else bI prev b at_ (ai b at_).1 (ai b (ai b at_).2.1).1 (ai b (ai b (ai b at_).2.1).2.1).1 (ai b (ai b (ai b at_).2.1).2.1).2.1
def az (l:List aK):List UInt8:=(l.getLast?.getD ([],[])).1
def aP (l:List aK):List UInt8:=if l.length%8=0 then [] else az l
structure Jb where
 ents:List aK
 ats:List Nat
 at_:Nat
 err:Int
 place:Nat
def bq (b:List UInt8):Nat->List aK->List Nat->Nat->Jb
 |0,l,ats,p=>⟨l,ats,p,0,0⟩
 |m+1,l,ats,p=>
  if(pread (aP l) b p).err≠0 then⟨l,ats,p,(pread (aP l) b p).err,(pread (aP l) b p).next⟩
  else if 0<l.length/\0<=compareBytes (az l) (pread (aP l) b p).key then⟨l,ats,p,51,p⟩
  else bq b m (l++ [((pread (aP l) b p).key,(pread (aP l) b p).val)]) (ats++ [p]) (pread (aP l) b p).next
def eighth:List Nat->List Nat
 | []=> []
 |a::r=>a::eighth (r.drop 7)
termination_by l=>l.length
decreasing_by simp;omega
def two (a:Nat):List UInt8:= [UInt8.ofNat a,UInt8.ofNat (a/256)]
def stand (b:List UInt8):List UInt8->Nat->Nat
 | [],_=>0
 |c::r,p=>if b[p]? =some c then stand b r (p+1)+1 else 0
def aB (b:List UInt8):List aK×Int×Nat:=
 if(ai b 0).2.2≠0 then([],(ai b 0).2.2,(ai b 0).2.1)
 else if(ai b 0).1=0\/64<(ai b 0).1 then([],61,0)
 else if(bq b (ai b 0).1 [] [] (ai b 0).2.1).err≠0 then([],(bq b (ai b 0).1 [] [] (ai b 0).2.1).err,(bq b (ai b 0).1 [] [] (ai b 0).2.1).place)
 else if stand b ((eighth (bq b (ai b 0).1 [] [] (ai b 0).2.1).ats).flatMap two) (bq b (ai b 0).1 [] [] (ai b 0).2.1).at_<((eighth (bq b (ai b 0).1 [] [] (ai b 0).2.1).ats).flatMap two).length
  then([],62,(bq b (ai b 0).1 [] [] (ai b 0).2.1).at_+stand b ((eighth (bq b (ai b 0).1 [] [] (ai b 0).2.1).ats).flatMap two) (bq b (ai b 0).1 [] [] (ai b 0).2.1).at_)
 else if(bq b (ai b 0).1 [] [] (ai b 0).2.1).at_+((eighth (bq b (ai b 0).1 [] [] (ai b 0).2.1).ats).flatMap two).length<b.length
  then([],63,(bq b (ai b 0).1 [] [] (ai b 0).2.1).at_+((eighth (bq b (ai b 0).1 [] [] (ai b 0).2.1).ats).flatMap two).length)
 else((bq b (ai b 0).1 [] [] (ai b 0).2.1).ents,0,0)
structure Row where
 last:List UInt8
 at_:Nat
 len:Nat
 ents:Nat
def Row.bytes (x:Row):List UInt8:=aM x.last.length++x.last++aM x.at_++aM x.len++aM x.ents
def bi (l:List Row):Nat:=(l.map Row.ents).foldl (·+·) 0
def aG (l:List Row):List UInt8:=aM l.length++l.flatMap Row.bytes++aM (bi l)
def bV (l:List Row):Nat:=match l.getLast? with
 |some x=>x.at_+x.len
 |none=>8
structure gD (l:List Row):Prop where
 many:l.length<=8388608
 key:∀x∈l,1<=x.last.length/\x.last.length<=64
 rise:∀(i:Nat) (x y:Row),l[i]? =some x->l[i+1]? =some y->compareBytes x.last y.last<0
 place:∀(i:Nat) (x:Row),l[i]? =some x->x.at_=bV (l.take i)
 len:∀x∈l,1<=x.len/\x.len<=131072
 count:∀x∈l,1<=x.ents/\x.ents<=64
structure bg where
 cur:ay
 st:Nat
 rows:List Row
 err:Int
 bad:Nat
def bg.fail (r:bg) (c:ay) (e:Int) (p:Nat):bg:={r with cur:=c,st:=2,err:=e,bad:=p}
def fq:List UInt8:= [99,111,112,112,105,99,101,1]
def dw (n:Nat):List UInt8:=(List.range 8).map (fun i=>UInt8.ofNat (n/256^i))++ [101,110,100,46]
structure Body where
 body:List UInt8
 err:Int
 place:Nat
 cur:ay
def ay.body (c:ay) (n:Nat):Body:=
 if(c.bytes n).2.1≠0 then⟨[],(c.bytes n).2.1,c.at_,(c.bytes n).2.2⟩
 else if((c.bytes n).2.2.bytes 4).2.1≠0 then⟨[],((c.bytes n).2.2.bytes 4).2.1,(c.bytes n).2.2.at_,((c.bytes n).2.2.bytes 4).2.2⟩
 else if((c.bytes n).2.2.bytes 4).1≠four (aW (c.bytes n).1) then⟨[],22,(c.bytes n).2.2.at_,((c.bytes n).2.2.bytes 4).2.2⟩
 else⟨(c.bytes n).1,0,0,((c.bytes n).2.2.bytes 4).2.2⟩
def bg.block (r:bg) (c:ay) (at_:Nat):Option (List aK)×bg:=
 if r.rows.length=8388608 then(none,r.fail c 71 at_)
 else if c.number.2.1≠0 then(none,r.fail c.number.2.2 c.number.2.1 c.at_)
 else if c.number.1<1\/65535<c.number.1 then(none,r.fail c.number.2.2 83 c.at_)
 else if(c.number.2.2.body c.number.1).err≠0 then(none,r.fail (c.number.2.2.body c.number.1).cur (c.number.2.2.body c.number.1).err (c.number.2.2.body c.number.1).place)
 else if(aB (c.number.2.2.body c.number.1).body).2.1≠0 then(none,r.fail (c.number.2.2.body c.number.1).cur (aB (c.number.2.2.body c.number.1).body).2.1 (c.number.2.2.at_+(aB (c.number.2.2.body c.number.1).body).2.2))
 else if 0<r.rows.length/\0<=compareBytes (r.rows.getLast?.getD ⟨[],0,0,0⟩).last (((aB (c.number.2.2.body c.number.1).body).1.headD ([],[])).1) then(none,r.fail (c.number.2.2.body c.number.1).cur 51 c.number.2.2.at_)
 else(some (aB (c.number.2.2.body c.number.1).body).1,{r with cur:=(c.number.2.2.body c.number.1).cur,rows:=r.rows++ [⟨az (aB (c.number.2.2.body c.number.1).body).1,at_,(c.number.2.2.body c.number.1).cur.at_-at_,(aB (c.number.2.2.body c.number.1).body).1.length⟩]})
def bg.footR (r:bg) (c:ay) (at_:Nat):bg:=
 if c.number.2.1≠0 then r.fail c.number.2.2 c.number.2.1 c.at_
 else if c.number.1≠(aG r.rows).length then r.fail c.number.2.2 84 c.at_
 else if(c.number.2.2.body (aG r.rows).length).err≠0 then r.fail (c.number.2.2.body (aG r.rows).length).cur (c.number.2.2.body (aG r.rows).length).err (c.number.2.2.body (aG r.rows).length).place
 else if comm (c.number.2.2.body (aG r.rows).length).body (aG r.rows)<(aG r.rows).length then r.fail (c.number.2.2.body (aG r.rows).length).cur 84 (c.number.2.2.at_+comm (c.number.2.2.body (aG r.rows).length).body (aG r.rows))
 else if((c.number.2.2.body (aG r.rows).length).cur.bytes 12).2.1≠0 then r.fail ((c.number.2.2.body (aG r.rows).length).cur.bytes 12).2.2 ((c.number.2.2.body (aG r.rows).length).cur.bytes 12).2.1 (c.number.2.2.body (aG r.rows).length).cur.at_
 else if((c.number.2.2.body (aG r.rows).length).cur.bytes 12).1≠dw at_ then r.fail ((c.number.2.2.body (aG r.rows).length).cur.bytes 12).2.2 85 (c.number.2.2.body (aG r.rows).length).cur.at_
 else if((c.number.2.2.body (aG r.rows).length).cur.bytes 12).2.2.end_.2.1≠0 then r.fail ((c.number.2.2.body (aG r.rows).length).cur.bytes 12).2.2.end_.2.2 ((c.number.2.2.body (aG r.rows).length).cur.bytes 12).2.2.end_.2.1 ((c.number.2.2.body (aG r.rows).length).cur.bytes 12).2.2.at_
 else if((c.number.2.2.body (aG r.rows).length).cur.bytes 12).2.2.end_.1=false then r.fail ((c.number.2.2.body (aG r.rows).length).cur.bytes 12).2.2.end_.2.2 86 ((c.number.2.2.body (aG r.rows).length).cur.bytes 12).2.2.at_
 else{r with cur:=((c.number.2.2.body (aG r.rows).length).cur.bytes 12).2.2.end_.2.2,st:=2}
def bg.frame (r:bg):Option (List aK)×bg:=
 if(r.cur.bytes 1).2.1≠0 then(none,r.fail (r.cur.bytes 1).2.2 (r.cur.bytes 1).2.1 r.cur.at_)
 else if((r.cur.bytes 1).1.headD 0)=70 then(none,r.footR (r.cur.bytes 1).2.2 r.cur.at_)
 else if((r.cur.bytes 1).1.headD 0)≠66 then(none,r.fail (r.cur.bytes 1).2.2 82 r.cur.at_)
 else r.block (r.cur.bytes 1).2.2 r.cur.at_
def bg.next (r:bg):Option (List aK)×bg:=
 if r.st=2 then(none,r)
 else if r.st=1 then r.frame
 else if(r.cur.bytes 8).2.1≠0 then(none,r.fail (r.cur.bytes 8).2.2 (r.cur.bytes 8).2.1 0)
 else if(r.cur.bytes 8).1≠fq then(none,r.fail (r.cur.bytes 8).2.2 81 0)
 else({r with cur:=(r.cur.bytes 8).2.2,st:=1}:bg).frame
section
theorem lC (w:World):(sizeOf (prog.elem 24)).run prog w= .ok 1 w:=by kernel_rfl
theorem rG:prog.underlying 24=some (.slice (prog.elem 24)):=by kernel_rfl
section
variable {F:Nat->Prop} {w:World} {A:Option Addr} {n c:Nat} {bs:List UInt8}
theorem UZ {p:Nat} (h:Rd w F 1 A n (aF bs)) (hp:p<=n) (Q:n<=c):
  ∃a,(∀w',(Instr.slice 24 (.slice A n c) (some (.int .i64 p)) none none).run prog w'= .ok (.slice a (n-p) (c-p)) w')/\Rd w F 1 a (n-p) (aF (bs.drop p)):=by
 refine⟨if c=p then A else A.map (·.add p),fun w'=> ?_,?_⟩
 ·rw [run_slice_l w' _ A n c rG .i64 p (by omega) (by omega),lC]
  simp [Result.andThen,sliced]
 ·have:=h.cut (k:=p) (cap:=c) hp Q;rw [Nat.mul_one,wC] at this;exact this
theorem U1 {p:Nat} (h:Rd w F 1 A n (aF bs)) (hp:p<=n) (Q:n<=c):
  ∃a,(∀w',(Instr.slice 24 (.slice A n c) none (some (.int .i64 p)) none).run prog w'= .ok (.slice a p c) w')/\Rd w F 1 a p (aF (bs.take p)):=by
 refine⟨if c=0 then A else A.map (·.add 0),fun w'=> ?_,?_⟩
 ·rw [run_slice_h w' _ A n c rG .i64 p (by omega) (by omega),lC]
  simp [Result.andThen,sliced]
 ·have b:=h.cut (k:=0) (cap:=c) (by omega) Q;rw [Nat.zero_mul,List.drop_zero] at b;exact b.take1 (k:=p) (by omega)
theorem Rf {p:Nat} (h:Rd w F 1 A n (aF bs)) (hp:p<=n) (Q:n<=c):
  ∃a,(∀w',(Instr.slice 24 (.slice A n c) none (some (.int .u64 p)) none).run prog w'= .ok (.slice a p c) w')/\Rd w F 1 a p (aF (bs.take p)):=by
 refine⟨if c=0 then A else A.map (·.add 0),fun w'=> ?_,?_⟩
 ·rw [run_slice_h w' _ A n c rG .u64 p (by omega) (by omega),lC]
  simp [Result.andThen,sliced]
 ·have b:=h.cut (k:=0) (cap:=c) (by omega) Q;rw [Nat.zero_mul,List.drop_zero] at b;exact b.take1 (k:=p) (by omega)
theorem F9 {p q:Nat} (h:Rd w F 1 A n (aF bs)) (d:p<=q) (e:q<=n) (Q:n<=c):
  ∃a,(∀w',(Instr.slice 24 (.slice A n c) (some (.int .i64 p)) (some (.int .i64 q)) none).run prog w'= .ok (.slice a (q-p) (c-p)) w')/\Rd w F 1 a (q-p) (aF ((bs.drop p).take (q-p))):=by
 refine⟨if c=p then A else A.map (·.add p),fun w'=> ?_,?_⟩
 ·rw [run_slice_lh w' _ A n c rG .i64 .i64 p q (by omega) (by omega) (by omega),lC]
  simp [Result.andThen,sliced]
 ·have b:=h.cut (k:=p) (cap:=c) (by omega) Q;rw [Nat.mul_one,wC] at b;exact b.take1 (k:=q-p) (by omega)
theorem Q6 {p:Nat} (h:Rd w F 1 A n (aF bs)) (Q:p<=n) (hnc:n<=c):
  ∃b,(∀w',(Instr.slice 24 (.slice A n c) none (some (.int .u64 p)) (some (.int .u64 p))).run prog w'= .ok (.slice b p p) w')/\Rd w F 1 b p (aF (bs.take p)):=by
 refine⟨if p=0 then A else A.map (·.add 0),fun w'=> ?_,?_⟩
 ·rw [run_slice_hm w' _ A n c rG .u64 .u64 p p (by omega) (by omega) (by omega),lC]
  simp [Result.andThen,sliced]
 ·have d:=h.take1 Q
  by_cases a:p=0
  ·subst a;rw [if_pos rfl];exact d
  ·have e:=d.cut (k:=0) (cap:=p) (by omega) (Nat.le_refl _);rw [Nat.zero_mul,List.drop_zero,if_neg a] at e;rw [if_neg a];exact e
end
end
theorem KY {l:Nat} (k:p<=b.length) (h:(bI prev b a s m l p).err=0):
  (bI prev b a s m l p).key=prev.take s++(b.drop p).take m/\(bI prev b a s m l p).val=(b.drop (p+m)).take l/\(bI prev b a s m l p).next=p+m+l/\s<=prev.length/\m<=64/\l<=256/\1<=s+m/\s+m<=64/\p+m+l<=b.length/\(0<prev.length->compareBytes prev (prev.take s++(b.drop p).take m)<0):=by
 unfold bI at h|-
 split at h
 ·exact absurd h (by simp)
 ·rename_i f
  split at h
  ·exact absurd h (by simp)
  ·rename_i g
   split at h
   ·exact absurd h (by simp)
   ·rename_i i
    split at h
    ·exact absurd h (by simp)
    ·rename_i j
     split at h
     ·exact absurd h (by simp)
     ·rename_i d;rw [if_neg f,if_neg g,if_neg i,if_neg j,if_neg d]
      exact⟨rfl,rfl,rfl,by omega,by omega,by omega,by omega,by omega,by omega,fun e=>by
       rcases Int.lt_or_le (compareBytes prev (prev.take s++(b.drop p).take m)) 0 with c|c
       ·exact c
       ·exact absurd ⟨e,c⟩ d⟩
theorem G9 (h:(pread prev b p).err=0):
  (ai b p).2.2=0/\(ai b (ai b p).2.1).2.2=0/\(ai b (ai b (ai b p).2.1).2.1).2.2=0/\pread prev b p=bI prev b p (ai b p).1 (ai b (ai b p).2.1).1 (ai b (ai b (ai b p).2.1).2.1).1 (ai b (ai b (ai b p).2.1).2.1).2.1:=by
 unfold pread at h|-
 split at h
 ·rename_i a;exact absurd h a
 ·rename_i a
  split at h
  ·rename_i c;exact absurd h c
  ·rename_i c
   split at h
   ·rename_i d;exact absurd h d
   ·rename_i d;rw [if_neg a,if_neg c,if_neg d];exact⟨Decidable.byContradiction a,Decidable.byContradiction c,Decidable.byContradiction d,rfl⟩
structure uu (prev b:List UInt8) (r:WZ):Prop where
 k1:1<=r.key.length
 k2:r.key.length<=64
 v:r.val.length<=256
 next:r.next<=b.length
 lt:0<prev.length->compareBytes prev r.key<0
theorem jq (j:p<=b.length) (h:(pread prev b p).err=0):uu prev b (pread prev b p):=by
 obtain⟨t,u,v,i⟩:=G9 h;have k:=(fe b p j).2;have l:=(fe b _ k).2;have m:=(fe b _ l).2;rw [i] at h|-;obtain⟨a,d,e,n,o,q,r,s,f,c⟩:=KY m h
 refine⟨?_,?_,?_,by rw [e];exact f,fun g=>by rw [a];exact c g⟩
 ·rw [a,List.length_append,List.length_take,List.length_take,List.length_drop];omega
 ·rw [a,List.length_append,List.length_take,List.length_take,List.length_drop];omega
 ·rw [d,List.length_take];omega
theorem gN (l:List aK) (e:aK):az (l++ [e])=e.1:=by simp [az]
theorem gH (h:l[l.length-1]? =some e):az l=e.1:=by
 unfold az;rw [List.getLast?_eq_getElem?,h];rfl
theorem nW (a:1<=e.1.length) (b:e.1.length<=64) (c:e.2.length<=256):ic e=0:=by unfold ic;rw [if_pos ⟨a,b,c⟩]
theorem fH:bH []:=fun j a=>by simp at a
theorem Ha (l:List aK) (e:aK) (j:Nat) (c:j<l.length):eP (l++ [e]) j=eP l j:=by
 unfold eP;have a:(l++ [e]).getD j ([],[])=l.getD j ([],[]):=by simp [List.getD,List.getElem?_append_left c]
 have b:(l++ [e]).getD (j-1) ([],[])=l.getD (j-1) ([],[]):=by simp [List.getD,List.getElem?_append_left (show j-1<l.length by omega)]
 rw [a,b]
theorem lQ (h:bH l) (g:ic e=0) (i:0<l.length->compareBytes (az l) e.1<0):bH (l++ [e]):=by
 intro j c;rw [List.length_append,List.length_singleton] at c
 rcases Nat.lt_or_ge j l.length with b|b
 ·rw [Ha l e j b];exact h j b
 ·have c:j=l.length:=by omega
  subst c
  rcases Nat.eq_zero_or_pos l.length with a|a
  ·have:l= []:=List.eq_nil_of_length_eq_zero a;subst this
   exact tJ (e:=e) rfl g
  ·have f:l[l.length-1]? =some l[l.length-1]:=List.getElem?_eq_getElem (by omega);refine wP (d:=l[l.length-1]) (e:=e) (by simp) (by rw [List.getElem?_append_left (by omega)];exact f) g ?_;have:=i a;rwa [gH f] at this
theorem cK (h:bH l) (g:e∈l):1<=e.1.length/\e.1.length<=64/\e.2.length<=256:=by
 obtain⟨j,d,rfl⟩:=List.mem_iff_getElem.1 g;have b:=h j d;have f:l.getD j ([],[])=l[j]:=by simp [List.getD,d]
 have c:ic l[j]=0:=by
  rcases o9 l[j] with a|a
  ·exact a
  ·unfold eP at b;rw [f,if_pos (by rw [a];decide),a] at b;exact absurd b (by decide)
 unfold ic at c
 split at c
 ·assumption
 ·exact absurd c (by decide)
structure SV (b:List UInt8) (l:List aK) (m:Nat) (r:Jb):Prop where
 rise:bH r.ents
 len:r.err=0->r.ents.length=l.length+m
 ats:r.ats.length=r.ents.length
 le:r.at_<=b.length
 most:r.ents.length<=l.length+m
theorem ry (b:List UInt8):∀(m:Nat) (l:List aK) (ats:List Nat) (p:Nat),p<=b.length->bH l->ats.length=l.length->SV b l m (bq b m l ats p)
 |0,l,ats,p,c,hl,a=>⟨hl,fun _=>rfl,a,c,Nat.le_refl _⟩
 |m+1,l,ats,p,c,hl,a=>by
  unfold bq
  split
  ·rename_i f;exact⟨hl,fun h=>absurd h f,a,c,Nat.le_add_right _ _⟩
  ·rename_i f;have e:=jq c (Decidable.byContradiction f)
   split
   ·exact⟨hl,fun h=>absurd h (by simp),a,c,Nat.le_add_right _ _⟩
   ·rename_i j
    have d:=ry b m (l++ [((pread (aP l) b p).key,(pread (aP l) b p).val)]) (ats++ [p]) (pread (aP l) b p).next e.next (lQ hl (nW e.k1 e.k2 e.v) (fun i=>by
     rcases Int.lt_or_le (compareBytes (az l) (pread (aP l) b p).key) 0 with g|g
     ·exact g
     ·exact absurd ⟨i,g⟩ j)) (by rw [List.length_append,List.length_append,a];rfl)
    refine⟨d.rise,fun h=> ?_,d.ats,d.le,?_⟩
    ·rw [d.len h,List.length_append,List.length_singleton];omega
    ·have:=d.most;rw [List.length_append,List.length_singleton] at this;omega
theorem xg (h:(aB b).2.1=0):bH (aB b).1/\1<=(aB b).1.length/\(aB b).1.length<=64:=by
 have hv:=(fe b 0 (Nat.zero_le _)).2;have d:=ry b (ai b 0).1 [] [] (ai b 0).2.1 hv fH rfl;unfold aB at h|-
 split at h
 ·rename_i c;exact absurd h c
 ·rename_i c
  split at h
  ·exact absurd h (by simp)
  ·rename_i e
   split at h
   ·rename_i a;exact absurd h a
   ·rename_i a
    split at h
    ·exact absurd h (by simp)
    ·rename_i f
     split at h
     ·exact absurd h (by simp)
     ·rename_i g;rw [if_neg c,if_neg e,if_neg a,if_neg f,if_neg g];have:=d.len (Decidable.byContradiction a);rw [List.length_nil] at this;exact⟨d.rise,by simp only [];omega,by simp only [];omega⟩
theorem Jk (h:(aB b).2.1≠0):(aB b).1= []:=by
 unfold aB at h|-
 split
 ·rfl
 ·rename_i a;rw [if_neg a] at h
  split
  ·rfl
  ·rename_i c;rw [if_neg c] at h
   split
   ·rfl
   ·rename_i d;rw [if_neg d] at h
    split
    ·rfl
    ·rename_i e;rw [if_neg e] at h
     split
     ·rfl
     ·rename_i f;rw [if_neg f] at h;exact absurd rfl h
theorem ay.bytes_step (_h:c.Ok K) (n:Nat) (a:(c.bytes n).2.1=0):(c.bytes n).2.2.at_=c.at_+n:=by
 unfold ay.bytes at a|-
 split
 ·rename_i b;rw [if_pos b] at a;exact absurd a b
 ·rename_i b;rw [if_neg b] at a
  split
  ·rename_i d;simp only [];omega
  ·rename_i d;rw [if_neg d] at a
   split
   ·rfl
   ·rename_i e;rw [if_neg e] at a;exact absurd a e
theorem ay.bytes_held (h:c.Ok K) (n:Nat) (i:c.held=none):(c.bytes n).2.2.held=none:=by
 unfold ay.bytes
 split
 ·exact i
 ·rename_i a;have a:c.err=0:=Decidable.byContradiction a
  split
  ·exact i
  ·obtain⟨d,e,f,g,j,b⟩:=ay.loop_out (K:=K) n _ {c with held:=none} c.held.toList (Nat.le_refl _) ⟨(h.fine a).idle,(h.fine a).pot⟩ (by have:=c.held_len;omega)
   split
   ·exact b
   ·exact b
theorem ay.numL_step:∀(m k v:Nat) (c:ay),k+m=10->c.Ok K->c.held=none->(c.numL k v).2.2.held=none/\((c.numL k v).2.1=0->c.at_<(c.numL k v).2.2.at_/\(c.numL k v).2.2.at_<=c.at_+m):=by
 intro m
 induction m with
 |zero=>
  intro k v c j h d;have:10<=k:=by omega
  unfold ay.numL;rw [if_pos this]
  exact⟨ay.bytes_held h 1 d,fun h=>absurd h (by simp)⟩
 |succ m l=>
  intro k v c j h d;have i:=ay.bytes_ok h 1;have a:=ay.bytes_held h 1 d;have e:=ay.bytes_step h 1;rw [ay.numL_eq _ _ _ (by omega)]
  split
  ·rename_i b;exact⟨a,fun h=>absurd h b⟩
  ·rename_i b;have e:=e (Decidable.byContradiction b)
   split
   ·exact⟨a,fun h=>absurd h (by simp)⟩
   ·split
    ·exact⟨a,fun h=>absurd h (by simp)⟩
    ·split
     ·exact⟨a,fun _=>⟨by simp only [];omega,by simp only [];omega⟩⟩
     ·obtain⟨f,g⟩:=l (k+1) (v+((c.bytes 1).1.headD 0).toNat%128*128^k) (c.bytes 1).2.2 (by omega) i a;exact⟨f,fun h=>by have:=g h;omega⟩
theorem ay.number_step (h:c.Ok K) (i:c.held=none):c.number.2.2.held=none/\(c.number.2.1=0->c.at_<c.number.2.2.at_/\c.number.2.2.at_<=c.at_+10):=by
 obtain⟨a,b⟩:=ay.numL_step (K:=K) 10 0 0 c rfl h i;unfold ay.number
 split
 ·exact⟨a,b⟩
 ·rename_i d;exact⟨a,fun h=>absurd h d⟩
structure W9 (K n:Nat) (c:ay) (x:Body):Prop where
 ok:x.cur.Ok K
 held:x.cur.held=none
 at_:x.err=0->x.cur.at_=c.at_+n+4
 len:x.err=0->x.body.length=n
theorem ay.body_ok (h:c.Ok K) (i:c.held=none) (n:Nat) (g:0<n):W9 K n c (c.body n):=by
 have d:=ay.bytes_ok h n;have e:=ay.bytes_held h n i;have f:=ay.bytes_step h n;have k1:=ay.bytes_ok d 4;have k2:=ay.bytes_held d 4 e;have j:=ay.bytes_step d 4;unfold ay.body
 split
 ·rename_i a;exact⟨d,e,fun h=>absurd h a,fun h=>absurd h a⟩
 ·rename_i a;have a:=Decidable.byContradiction a
  split
  ·rename_i b;exact⟨k1,k2,fun h=>absurd h b,fun h=>absurd h b⟩
  ·rename_i b;have b:=Decidable.byContradiction b
   split
   ·exact⟨k1,k2,fun h=>absurd h (by simp),fun h=>absurd h (by simp)⟩
   ·exact⟨k1,k2,fun _=>by have:=f a;have:=j b;simp only [];omega,fun _=>ay.bytes_len h n g a⟩
theorem rC (l:List Row) (x:Row):bV (l++ [x])=x.at_+x.len:=by simp [bV]
theorem NG:gD []:=⟨by simp,fun x a=>by simp at a,fun i x y h=>by simp at h,fun i x h=>by simp at h,fun x a=>by simp at a,fun x a=>by simp at a⟩
theorem KZ {l:List Row} {x:Row} (h:gD l) (q:l.length<8388608) (f:1<=x.last.length) (g:x.last.length<=64) (j:0<l.length->compareBytes (l.getLast?.getD ⟨[],0,0,0⟩).last x.last<0) (k:x.at_=bV l) (m:1<=x.len) (n:x.len<=131072) (o:1<=x.ents) (p:x.ents<=64):gD (l++ [x]):=by
 refine⟨by simp;omega,?_,?_,?_,?_,?_⟩
 ·intro y a
  rcases List.mem_append.1 a with a|a
  ·exact h.key y a
  ·rw [List.mem_singleton] at a;subst a;exact⟨f,g⟩
 ·intro i y z a d
  rcases Nat.lt_or_ge (i+1) l.length with hi|hi
  ·rw [List.getElem?_append_left (by omega)] at a;rw [List.getElem?_append_left hi] at d
   exact h.rise i y z a d
  ·have c:i+1<(l++ [x]).length:=(List.getElem?_eq_some_iff.1 d).1;rw [List.length_append,List.length_singleton] at c;have b:i+1=l.length:=by omega
   rw [List.getElem?_append_right (by omega),b,Nat.sub_self] at d;simp only [List.getElem?_cons_zero,Option.some.injEq] at d;subst d;rw [List.getElem?_append_left (by omega)] at a;have e:=j (by omega)
   rwa [List.getLast?_eq_getElem?,<-b,Nat.add_sub_cancel,a] at e
 ·intro i y a
  rcases Nat.lt_or_ge i l.length with hi|hi
  ·rw [List.getElem?_append_left hi] at a
   rw [h.place i y a,List.take_append_of_le_length (by omega)]
  ·have c:i<(l++ [x]).length:=(List.getElem?_eq_some_iff.1 a).1;rw [List.length_append,List.length_singleton] at c;have b:i=l.length:=by omega
   subst b;rw [List.getElem?_append_right (Nat.le_refl _),Nat.sub_self] at a;simp only [List.getElem?_cons_zero,Option.some.injEq] at a;subst a
   rw [k,List.take_append_of_le_length (Nat.le_refl _),List.take_length]
 ·intro y a
  rcases List.mem_append.1 a with a|a
  ·exact h.len y a
  ·rw [List.mem_singleton] at a;subst a;exact⟨m,n⟩
 ·intro y a
  rcases List.mem_append.1 a with a|a
  ·exact h.count y a
  ·rw [List.mem_singleton] at a;subst a;exact⟨o,p⟩
def fP (prev b:List UInt8) (p:Nat) (w:World) (e:Ending) (w':World):Prop:=
 ∃K c a V f d,e= .returned (.tuple #[.agg #[.slice K c a,.slice V f d],.int .i64 (pread prev b p).next,.int .i64 (pread prev b p).err])/\((pread prev b p).err=0->SB w' (From w.heap.size) (.slice K c a) (pread prev b p).key/\SB w' (From w.heap.size) (.slice V f d) (pread prev b p).val)/\Below w.heap.size w w'
def oU (b:List UInt8) (p:Nat):Nat->Nat
 |0=>p
 |i+1=>(ai b (oU b p i)).2.1
def BP (b:List UInt8) (p i:Nat):Nat:=(ai b (oU b p i)).1
def wF (b:List UInt8) (p i:Nat):Int:=(ai b (oU b p i)).2.2
theorem sw (b:List UInt8) (p:Nat) (a:p<=b.length):∀i,oU b p i<=b.length
 |0=>a
 |i+1=>(fe b _ (sw b p a i)).2
theorem sD (b:List UInt8) (p i:Nat):BP b p i<18446744073709551616:=wG _ _
def sF (b:List UInt8) (p i:Nat):Array Value:= #[.int .u64 ((if 0<i then BP b p 0 else 0:Nat)),.int .u64 ((if 1<i then BP b p 1 else 0:Nat)),.int .u64 ((if 2<i then BP b p 2 else 0:Nat))]
theorem F6 (b:List UInt8) (p i:Nat) (hi:i<3):(sF b p i).setIfInBounds i (.int .u64 (BP b p i))=sF b p (i+1):=by
 match i,hi with
 |0,_=>rfl
 |1,_=>rfl
 |2,_=>rfl
theorem Ki (b:List UInt8) (p i:Nat) (hi:i<3):∃x,(sF b p i)[i]? =some x:=by
 match i,hi with
 |0,_=>exact⟨_,rfl⟩
 |1,_=>exact⟨_,rfl⟩
 |2,_=>exact⟨_,rfl⟩
theorem wH (prev b:List UInt8) (p:Nat):pread prev b p=if wF b p 0≠0 then⟨[],[],oU b p 1,wF b p 0⟩ else if wF b p 1≠0 then⟨[],[],oU b p 2,wF b p 1⟩ else if wF b p 2≠0 then⟨[],[],oU b p 3,wF b p 2⟩ else bI prev b p (BP b p 0) (BP b p 1) (BP b p 2) (oU b p 3):=rfl
theorem Kj (prev b:List UInt8) (p i:Nat) (hi:i<3) (h:∀j,j<i->wF b p j=0) (a:wF b p i≠0):pread prev b p=⟨[],[],oU b p (i+1),wF b p i⟩:=by
 rw [wH]
 match i,hi with
 |0,_=>rw [if_pos a]
 |1,_=>rw [if_neg (fun e=>e (h 0 (by omega))),if_pos a]
 |2,_=>rw [if_neg (fun e=>e (h 0 (by omega))),if_neg (fun e=>e (h 1 (by omega))),if_pos a]
noncomputable def x9:Code:=aV (f195.body.bind (fB 0))
theorem UX (F:Nat->Prop) (q Y K m d p:Nat) (B:Option Addr) (b:List UInt8) (w:World) {u0 u2 u3 u4 u5 u7 u8 bO bX bY bQ u16 O f C u20 u21 u22 u23 u24 u25 u26 u27 u28 u29 u31 u32 u33 u34 u35 u36 u37 u38 dK u40 dM u42 dN u44 u45 u46 ed u48 u49 z u51 o u53 n u55 a t u58 u59 u60 gJ l u63 u64 J u66 R u68 u69 u70 H u72 u73 G u75 A mF mG mH mI mJ mV mW mX Z nT rM T qD wu ww wB u93 xM D xO xP wI wJ jC jD I jF U u105 jR jS jT jU L jW V jY g v kV s c u119 u kZ lg M u124 N W u127 qF qG qH u131 qI qJ qK qL qM qN u138 u139 qO qP qQ qR S r y qW k qY qZ rq u152 ru u154:Value} (Q:Exit->Act->World->Prop)
  (hB:Hid (Rd w F 1 B m (aF b))) (hm:Hid (m=b.length)) (hp:p<=m) (hm2:m<=1152921504606)
  (H6:Hid (aj w q 69 #[.slice none 0 0,.slice none 0 0])) (H9:Hid (aj w Y 69 #[.slice none 0 0,.slice none 0 0])) (Y1:Hid (aj w K 328 #[.int .u64 0,.int .u64 0,.int .u64 0])) (hF:Hid (∀b,F b->b<q/\b<Y/\b<K)) (hq:q≠Y/\q≠K/\Y≠K)
  (ax:∀(v7 v8 ae al am an ao ap aq ar aw aA aE a0 a1 a2 a3 a4 a5 a6 a7 a8 a9 ba bb be:Value) (w':World),(∀j,j<3->wF b p j=0)->aj w' q 69 #[.slice none 0 0,.slice none 0 0]->aj w' Y 69 #[.slice none 0 0,.slice none 0 0]->aj w' K 328 (sF b p 3)->ag (fun b=>b=K) w w'->Q (.exit 0) ⟨(u0:: .slice B m d::u2::u3::u4::u5:: .pointer (some ⟨q,0,none⟩)::v7::v8:: .pointer (some ⟨Y,0,none⟩):: .pointer (some ⟨K,0,none⟩):: .int .i64 (oU b p 3:Nat)::ae::al::am::an::u16::O::f::C::u20::u21::u22::u23::u24::u25::u26::u27::u28::u29::ao::ap::aq::ar::aw::aA::aE::a0::a1::a2::a3::a4::a5::a6::a7::a8::a9::ba::bb::be::z::u51::o::u53::n::u55::a::t::u58::u59::u60::gJ::l::u63::u64::J::u66::R::u68::u69::u70::H::u72::u73::G::u75::A::mF::mG::mH::mI::mJ::mV::mW::mX::Z::nT::rM::T::qD::wu::ww::wB::u93::xM::D::xO::xP::wI::wJ::jC::jD::I::jF::U::u105::jR::jS::jT::jU::L::jW::V::jY::g::v::kV::s::c::u119::u::kZ::lg::M::u124::N::W::u127::qF::qG::qH::u131::qI::qJ::qK::qL::qM::qN::u138::u139::qO::qP::qQ::qR::S::r::y::qW::k::qY::qZ::rq::u152::ru::u154:: []).toArray,[]⟩ w')
  (ab:∀(bp ae al am an ao ap aq ar aw aA aE a0 a1 a2 a3 a4 a5 a6 a7 a8 a9 ba bb be:Value) (i:Nat) (xn:Nat) (xe:Int) (w':World),i<3->(∀j,j<i->wF b p j=0)->wF b p i≠0->xn=oU b p (i+1)->xe=wF b p i->aj w' q 69 #[.slice none 0 0,.slice none 0 0]->ag (fun b=>b=K\/b=q) w w'->Q .ret ⟨(u0:: .slice B m d::u2::u3::u4::u5:: .pointer (some ⟨q,0,none⟩):: .int .i64 xn:: .int .i64 xe:: .pointer (some ⟨Y,0,none⟩):: .pointer (some ⟨K,0,none⟩)::bp::ae::al::am::an::u16::O::f::C::u20::u21::u22::u23::u24::u25::u26::u27::u28::u29::ao::ap::aq::ar::aw::aA::aE::a0::a1::a2::a3::a4::a5::a6::a7::a8::a9::ba::bb::be::z::u51::o::u53::n::u55::a::t::u58::u59::u60::gJ::l::u63::u64::J::u66::R::u68::u69::u70::H::u72::u73::G::u75::A::mF::mG::mH::mI::mJ::mV::mW::mX::Z::nT::rM::T::qD::wu::ww::wB::u93::xM::D::xO::xP::wI::wJ::jC::jD::I::jF::U::u105::jR::jS::jT::jU::L::jW::V::jY::g::v::kV::s::c::u119::u::kZ::lg::M::u124::N::W::u127::qF::qG::qH::u131::qI::qJ::qK::qL::qM::qN::u138::u139::qO::qP::qQ::qR::S::r::y::qW::k::qY::qZ::rq::u152::ru::u154:: []).toArray,[]⟩ w'):
  Code.wp prog x9 Q ⟨(u0:: .slice B m d::u2::u3::u4::u5:: .pointer (some ⟨q,0,none⟩)::u7::u8:: .pointer (some ⟨Y,0,none⟩):: .pointer (some ⟨K,0,none⟩):: .int .i64 p::bO::bX::bY::bQ::u16::O::f::C::u20::u21::u22::u23::u24::u25::u26::u27::u28::u29:: .int .i64 0::u31::u32::u33::u34::u35::u36::u37::u38::dK::u40::dM::u42::dN::u44::u45::u46::ed::u48::u49::z::u51::o::u53::n::u55::a::t::u58::u59::u60::gJ::l::u63::u64::J::u66::R::u68::u69::u70::H::u72::u73::G::u75::A::mF::mG::mH::mI::mJ::mV::mW::mX::Z::nT::rM::T::qD::wu::ww::wB::u93::xM::D::xO::xP::wI::wJ::jC::jD::I::jF::U::u105::jR::jS::jT::jU::L::jW::V::jY::g::v::kV::s::c::u119::u::kZ::lg::M::u124::N::W::u127::qF::qG::qH::u131::qI::qJ::qK::qL::qM::qN::u138::u139::qO::qP::qQ::qR::S::r::y::qW::k::qY::qZ::rq::u152::ru::u154:: []).toArray,[]⟩ w:=by
 have dP:=aa ax;have Zb:=aa ab;have HQ:=aa hq;clear ax ab hq;conv=>arg 2;whnf
 go_loopg [11,30] 3 (fun g' pv iv wz=>∃i:Nat,g'=3-i/\i<=3/\pv= .int .i64 (oU b p i)/\iv= .int .i64 i/\Hid (∀j,j<i->wF b p j=0)/\Hid (aj wz K 328 (sF b p i))/\Hid (ag (fun b=>b=K) w wz))
 case atStart=>exact⟨0,rfl,Nat.zero_le _,rfl,rfl,aa (fun j hj=>absurd hj (by omega)),aa (by have:=Y1.out;exact this),aa (ag.refl _ _)⟩
 case round=>
  obtain⟨i,hg,hi,rfl,rfl,HE,ZA,HC⟩:=hrel;have HG:=aa hg;clear hg
  by_cases ad:i<3
  ·obtain⟨P,hP⟩:∃P,P=oU b p i:=⟨_,rfl⟩;have HP:=aa hP;have bo:P<=m:=by rw [hP,hm.out];exact sw b p (by have:=hm.out;omega) i
   rw [<-hP];have uf:Hid (Rd wr F 1 B m (aF b)):=aa (hB.out.chg HC (fun b hb e=>by have:=(hF.out b hb).2.2;omega));have HV:=aa (kL F B m d P b wr uf hm.out bo hm2);obtain⟨X,hX⟩:∃X,X=(ai b P).1:=⟨_,rfl⟩;obtain⟨P2,ac⟩:∃P2,P2=(ai b P).2.1:=⟨_,rfl⟩;obtain⟨E,hE⟩:∃E,E=(ai b P).2.2:=⟨_,rfl⟩;have HX:Hid (X=BP b p i):=aa (by rw [hX,hP];rfl);have bh:Hid (P2=oU b p (i+1)):=aa (by rw [ac,hP];rfl);have JR:Hid (E=wF b p i):=aa (by rw [hE,hP];rfl);rw [<-hX,<-ac,<-hE] at HV;have fT:Hid (aj wr q 69 #[.slice none 0 0,.slice none 0 0]):=aa (H6.chg HC (fun e=>HQ.2.1 e));have Ie:Hid (aj wr Y 69 #[.slice none 0 0,.slice none 0 0]):=aa (H9.chg HC (fun e=>HQ.2.2 e));clear hP hX ac hE;go_upto_region 10 with(go_at_call 194;go_loud (refine HV.mono ?_);rintro e w2 ⟨rfl,bj⟩;have bB:=aa bj;clear bj)
   have Og:Hid (aj w2 q 69 #[.slice none 0 0,.slice none 0 0]):=aa (fT.below bB);have ZB:Hid (aj w2 Y 69 #[.slice none 0 0,.slice none 0 0]):=aa (Ie.below bB);have Oh:Hid (aj w2 K 328 (sF b p i)):=aa (ZA.below bB)
   by_cases h0:E=0
   ·have H0:Hid (wF b p i=0):=aa (by rw [<-JR.out];exact h0);subst h0;obtain⟨x,hx⟩:=Ki b p i ad;have bZ:w2.cell? ⟨K,i,none⟩=some x:=(Oh.out.cell i).trans hx;have bx:=Oh.out.frozen i;have bk:(i:Int)<3:=by omega
    clear hx;go_wp2
    go_roundg (3-(i+1))
    case measure=>have:=HG.out;omega
    case rel=>
     refine⟨i+1,rfl,by omega,by rw [bh.out],by go_num,aa (fun j hj=> ?_),aa ?_,aa ?_⟩
     ·rcases Nat.lt_or_ge j i with h|h
      ·exact HE j h
      ·have:j=i:=by omega
       subst this;exact H0
     ·have:=Oh.out.set_ i (.int .u64 X);rw [HX.out,F6 b p i ad] at this;rw [HX.out]
      exact this
     ·exact(HC.then bB).setCell (p:=⟨K,i,none⟩) (fun _=>rfl) _
   ·have H0:Hid (wF b p i≠0):=aa (by rw [<-JR.out];exact h0);have bL:(E==0)=false:=by rw [beq_eq_false_iff_ne];exact h0
    have b2:w2.cell? ⟨Y,0,none⟩=some (.slice none 0 0):=ZB.out.cell 0;have b3:w2.cell? ⟨Y,1,none⟩=some (.slice none 0 0):=ZB.out.cell 1;have b0:w2.cell? ⟨q,0,none⟩=some (.slice none 0 0):=Og.out.cell 0;have b1:w2.cell? ⟨q,1,none⟩=some (.slice none 0 0):=Og.out.cell 1;have bE:=Og.out.frozen 0;have bK:=Og.out.frozen 1;go_wp2;refine Zb _ _ _ _ _ _ _ _ _ _ _ _ _ _ _ _ _ _ _ _ _ _ _ _ _ i P2 E _ ad HE H0 bh JR ((Og.set_ 0 (.slice none 0 0)).set_ 1 (.slice none 0 0)) ?_
    exact(((HC.mono (fun b _ e=> .inl e)).then bB).setCell (p:=⟨q,0,none⟩) (fun _=> .inr rfl) _).setCell (p:=⟨q,1,none⟩) (fun _=> .inr rfl) _
  ·have bk:¬((i:Int)<3):=by omega
   have bm:i=3:=by omega
   subst bm;go_wp2;exact dP _ _ _ _ _ _ _ _ _ _ _ _ _ _ _ _ _ _ _ _ _ _ _ _ _ _ _ HE (H6.chg HC (fun e=>HQ.2.1 e)) (H9.chg HC (fun e=>HQ.2.2 e)) ZA HC
end Go.Proofs.YtepgcjbhabnciaaGreat
