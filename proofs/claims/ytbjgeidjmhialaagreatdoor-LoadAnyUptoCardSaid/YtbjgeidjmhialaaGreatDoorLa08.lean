/- Part 8. -/
import Derived.Test.YtbjgeidjmhialaaGreatDoorLa07
import Derived.Lib.AppendZerosOnto
import Derived.Deep.CutBlock
import Derived.Laws.EntriesVeiled
namespace Go.Proofs.YtbjgeidjmhialaaGreatDoor
set_option maxRecDepth 100000
set_option maxHeartbeats 8000000
section
open Go.Proofs.Tryz
open Go.RowKit
def YT (w:World) (e:Ending) (w':World):Prop:=∃v,e= .returned v∧Ow w' w.heap.size v []∧Below w.heap.size w w'
theorem KS (n:Nat) (w:World) (hn:n≤1152921504606):Calls prog 158 #[.slice none 0 0,.int .i64 n] w (YT w):=by
 obtain⟨i0,hi0,hz0,hz1,hz2⟩:=info_parts dK;refine letter fun R HR=> ?_
 by_cases h0:n=0
 ·subst h0;go_enter func158,ntmps158
  go_wp2;rw [HR.out]
  exact⟨_,rfl,Ow.nil _ _,Below.refl _ _⟩
 ·have hp:0<n:=by omega
  have h1:¬((n:Int)<0):=by omega
  have h4:(n:Int)>0:=by omega
  have hrz:=fun ty=>Lib.run_append_grow_zeros (P:=prog) w 24 3 ty 5 i0 _ .i64 .i64 underlying24 underlying3 hi0 hz0 none 0 0 [] (run_firstCells_none w.drew i0.size 0 0 0) n hp (by rw [hz1];omega) (by omega) (by omega) (by rw [hz2];omega) (growslice_fits (by omega) (by rw [hz2];omega));have HG:Hid (0≤grownCap w (0+n) 0 5∧n≤grownCap w (0+n) 0 5∧grownCap w (0+n) 0 5≤maxLen):=aa ⟨Nat.zero_le _,by have:=grownCap_ge w (0+n) 0 5;omega,grownCap_le_maxLen w _ _ _ (by unfold maxLen;omega)⟩;obtain⟨G,hG⟩:∃G,G=grownCap w (0+n) 0 5:=⟨_,rfl⟩;rw [←hG] at hrz HG;have hnG:n≤G:=HG.out.2.1;have YU:G≤9223372036854775807:=by have:=HG.out.2.2;unfold maxLen at this;exact this
  obtain⟨cs,hcs⟩:∃cs:Array Value,cs=(([]:List Value).toArray++Builtin.zeroCells (Value.int IntKind.u8 0).cells n++Builtin.zeroCells (Value.int IntKind.u8 0).cells (G-(0+n))):=⟨_,rfl⟩
  have CX:Hid (cs.size=G*1):=aa (by
   rw [hcs];have h9:∀m,(Builtin.zeroCells (Value.int IntKind.u8 0).cells m).size=m:=fun m=>by rw [size_zeroCells];simp [Value.cells]
   simp only [Array.size_append,h9];simp;omega)
  have RA:=hrz 24;rw [←hcs,Nat.zero_add] at RA;have Om:=aa RA;clear hrz hG hcs RA;go_enter func158,ntmps158
  go_wp2_with (at_builtin;go_loud (refine Lib.wpList_append_run _ rfl _ _ _ _ rfl _ _ rfl rfl _ _ Om ?_))
  rw [HR.out];exact⟨_,rfl,J7 w.drew 5 1 G cs CX HG.2.2,((Below.refl _ _).drew).alloc (Nat.le_refl _) _⟩
theorem xz {ts:List (List UInt8)} {i:Nat} {t:List UInt8} (h:ts[i]? =some t):(ts.take (i+1)).flatten=(ts.take i).flatten++t:=by
 rw [List.take_add_one,h];simp
theorem Fw (ts:List (List UInt8)) (i:Nat):(ts.take i).flatten.length≤ts.flatten.length:=by
 conv=>rhs;rw [←List.take_append_drop i ts,List.flatten_append,List.length_append]
 omega
theorem uL (F:Nat→Prop) (A:Option Addr) (n c:Nat) (ts:List (List UInt8)) (w:World) (h:Tx w F A n c ts) (hF:∀b,F b→b<w.heap.size) (hn:n≤1152921504606) (hl:ts.flatten.length≤1152921504606):
  Calls prog 134 #[.slice A n c] w (fun e w'=>∃v,e= .returned v∧Ow w' w.heap.size v ts.flatten∧Below w.heap.size w w'):=by
 obtain⟨i0,hi0,hz0,hz1,hz2⟩:=info_parts dK;refine letter fun R HR=> ?_;have HH:=aa h;have HF:=aa hF;have RB:Hid (n=ts.length):=h.len;have HL:=aa hl;clear h hF hl;go_enter func134,ntmps134
 go_wp2
 go_loop [3,11] (fun s i=>∃k:Nat,k≤n∧i= .int .i64 k∧s= .int .i64 ((ts.take k).flatten.length:Nat)) (fun _ i=>n-(intOf i).toNat)
 case atStart=>exact⟨0,Nat.zero_le _,rfl,by simp⟩
 case round=>
  obtain⟨k,hk,rfl,rfl⟩:=hrel
  by_cases hlt:k<n
  ·obtain⟨b,o,Ak,nk,ck,t,rfl,_,ht,hcell,hk1,hk2,hk3,hk4⟩:=HH.out.at_ hlt;have zK:Hid ((ts.take (k+1)).flatten.length=(ts.take k).flatten.length+nk):=aa (by rw [xz ht,List.length_append,hk3.out]);have hle:=Fw ts (k+1);have hb:=HL.out;rw [zK.out] at hle;obtain⟨S,hS⟩:∃S,S=(ts.take k).flatten.length:=⟨_,rfl⟩;rw [←hS] at hle zK⊢;have HS:=aa hS;have hs:S+nk≤1152921504606:=by omega
   have hnn:¬((S:Int)+(nk:Int)<0):=by omega
   clear hle hb hS ht hk3 hk4;go_wp2
   go_round
   case rel=>exact⟨k+1,by omega,by go_num,by rw [zK.out];go_num⟩
   case measure=>simp [intOf];omega
  ·have hke:k=n:=by omega
   have HT:Hid ((ts.take k).flatten=ts.flatten):=aa (by rw [hke,RB.out,List.take_length]);obtain⟨S,hS⟩:∃S,S=(ts.take k).flatten.length:=⟨_,rfl⟩;rw [←hS];have hSl:S≤1152921504606:=by rw [hS,HT.out];exact HL
   have hd:decide ((k:Int)<(n:Int))=false:=decide_eq_false (by omega);have hd2:decide (k<n)=false:=decide_eq_false (by omega);have HG:=aa (KS S w hSl);clear hke hS;go_wp2_with (go_at_call 158;go_loud (refine HG.mono ?_);rintro e w1 ⟨v0,rfl,hO,hB⟩;have HO:=aa hO;have HB:=aa hB;clear hO hB)
   go_loopw [6,27] (fun v i wz=>∃j:Nat,j≤n∧i= .int .i64 j∧Ow wz w.heap.size v (ts.take j).flatten∧Below w.heap.size w wz) (fun _ i _=>n-(intOf i).toNat)
   case atStart=>exact⟨0,Nat.zero_le _,rfl,HO,HB⟩
   case round=>
    obtain⟨j,hj,rfl,hO2,hB2⟩:=hrel;have iV:=aa hO2;have HB2:=aa hB2;obtain⟨A2,c2,hv2,hc21,hc22⟩:=ay hO2;subst hv2;have xW:=aa hB2.size;clear hO2 hB2
    by_cases hjt:j<n
    ·obtain⟨b,o,Ak,nk,ck,t,rfl,AB,ht,hcell0,hk1,hk2,hk3,hk4⟩:=HH.out.at_ hjt;have hcell:wr.cell? ⟨b,o+j,none⟩=some (.slice Ak nk ck):=ak HB2 hcell0;have Dt:Hid (Rd wr F 1 Ak nk (aK t)):=aa (hk4.below HB2);have hle:=Fw ts (j+1);have hb:=HL.out;have zK:Hid ((ts.take (j+1)).flatten=(ts.take j).flatten++t):=aa (xz ht);rw [zK.out,List.length_append] at hle;have Jy:Hid ((ts.take j).flatten.length+nk≤1152921504606):=aa (by have:=hk3.out;omega);obtain⟨xs,hxs⟩:∃xs,xs=(ts.take j).flatten:=⟨_,rfl⟩;rw [←hxs] at iV zK Jy⊢;have On:=aa hxs;clear hle hb hxs ht hcell0 hk4;go_wp2_with (at_builtin;go_loud (refine af _ rfl (.tmp 31) (.tmp 32) _ rfl w.heap.size 5 i0 _ 1 1 underlying24 hi0 hz0 hz1 hz2 rfl (by omega) _ _ (aK xs) rfl iV F Ak nk ck (aK t) rfl Dt (cO _) (by have:=Jy.out;simp only [maxLen];omega) (by have:=Jy.out;omega) xW ?_);intro v6 w6 hown6 jS iR;have uJ:=aa hown6;have qC:=aa jS;clear hown6 jS iR)
     go_roundw
     case rel=>
      refine⟨j+1,by omega,by go_num,?_,HB2.grown qC xW (fun g hg=>(ah iV g hg).1)⟩;rw [zK.out];have h1:=uJ.out
      unfold Ow;rw [List.length_append,←hk3.out];simpa [aK] using h1
     case measure=>simp [intOf];omega
    ·have hje:j=n:=by omega
     have hd3:decide ((j:Int)<(n:Int))=false:=decide_eq_false (by omega);have HTJ:Hid ((ts.take j).flatten=ts.flatten):=aa (by rw [hje,RB.out,List.take_length]);clear hje;go_wp2;rw [HR.out];exact⟨_,rfl,by rw [←HTJ.out];exact iV,HB2⟩
end
section
open Go.Lib (compareBytes)
structure SI where
 key:List UInt8
 val:List UInt8
 next:Nat
 err:Int
def cZ (prev b:List UInt8) (at_ s m l p:Nat):SI:=
 if prev.length<s then⟨[],[],at_,52⟩
 else if 64<m∨256<l∨s+m=0∨64<s+m then⟨[],[],at_,3⟩
 else if b.length-p<m+l then⟨[],[],b.length,53⟩
 else if comm prev (prev.take s++(b.drop p).take m)≠s then⟨[],[],at_,52⟩
 else if 0<prev.length∧0≤compareBytes prev (prev.take s++(b.drop p).take m) then⟨[],[],at_,51⟩
 else⟨prev.take s++(b.drop p).take m,(b.drop (p+m)).take l,p+m+l,0⟩
def pread (prev b:List UInt8) (at_:Nat):SI:=
 if(aj b at_).2.2≠0 then⟨[],[],(aj b at_).2.1,(aj b at_).2.2⟩
 else if(aj b (aj b at_).2.1).2.2≠0 then⟨[],[],(aj b (aj b at_).2.1).2.1,(aj b (aj b at_).2.1).2.2⟩
 else if(aj b (aj b (aj b at_).2.1).2.1).2.2≠0 then⟨[],[],(aj b (aj b (aj b at_).2.1).2.1).2.1,(aj b (aj b (aj b at_).2.1).2.1).2.2⟩
 else cZ prev b at_ (aj b at_).1 (aj b (aj b at_).2.1).1 (aj b (aj b (aj b at_).2.1).2.1).1 (aj b (aj b (aj b at_).2.1).2.1).2.1
def aD (l:List aH):List UInt8:=(l.getLast?.getD ([],[])).1
def aQ (l:List aH):List UInt8:=if l.length%8=0 then [] else aD l
structure NU where
 ents:List aH
 ats:List Nat
 at_:Nat
 err:Int
 place:Nat
def bM (b:List UInt8):Nat→List aH→List Nat→Nat→NU
 |0,l,ats,p=>⟨l,ats,p,0,0⟩
 |m+1,l,ats,p=>
  if(pread (aQ l) b p).err≠0 then⟨l,ats,p,(pread (aQ l) b p).err,(pread (aQ l) b p).next⟩
  else if 0<l.length∧0≤compareBytes (aD l) (pread (aQ l) b p).key then⟨l,ats,p,51,p⟩
  else bM b m (l++ [((pread (aQ l) b p).key,(pread (aQ l) b p).val)]) (ats++ [p]) (pread (aQ l) b p).next
def eighth:List Nat→List Nat
 | []=> []
 |a::r=>a::eighth (r.drop 7)
termination_by l=>l.length
decreasing_by simp;omega
def two (a:Nat):List UInt8:= [UInt8.ofNat a,UInt8.ofNat (a/256)]
def stand (b:List UInt8):List UInt8→Nat→Nat
 | [],_=>0
 |c::r,p=>if b[p]? =some c then stand b r (p+1)+1 else 0
def aB (b:List UInt8):List aH×Int×Nat:=
 if(aj b 0).2.2≠0 then([],(aj b 0).2.2,(aj b 0).2.1)
 else if(aj b 0).1=0∨64<(aj b 0).1 then([],61,0)
 else if(bM b (aj b 0).1 [] [] (aj b 0).2.1).err≠0 then([],(bM b (aj b 0).1 [] [] (aj b 0).2.1).err,(bM b (aj b 0).1 [] [] (aj b 0).2.1).place)
 else if stand b ((eighth (bM b (aj b 0).1 [] [] (aj b 0).2.1).ats).flatMap two) (bM b (aj b 0).1 [] [] (aj b 0).2.1).at_<((eighth (bM b (aj b 0).1 [] [] (aj b 0).2.1).ats).flatMap two).length
  then([],62,(bM b (aj b 0).1 [] [] (aj b 0).2.1).at_+stand b ((eighth (bM b (aj b 0).1 [] [] (aj b 0).2.1).ats).flatMap two) (bM b (aj b 0).1 [] [] (aj b 0).2.1).at_)
 else if(bM b (aj b 0).1 [] [] (aj b 0).2.1).at_+((eighth (bM b (aj b 0).1 [] [] (aj b 0).2.1).ats).flatMap two).length<b.length
  then([],63,(bM b (aj b 0).1 [] [] (aj b 0).2.1).at_+((eighth (bM b (aj b 0).1 [] [] (aj b 0).2.1).ats).flatMap two).length)
 else((bM b (aj b 0).1 [] [] (aj b 0).2.1).ents,0,0)
structure Row where
 last:List UInt8
 at_:Nat
 len:Nat
 ents:Nat
def Row.bytes (x:Row):List UInt8:=aG x.last.length++x.last++aG x.at_++aG x.len++aG x.ents
def aW (l:List Row):Nat:=(l.map Row.ents).foldl (·+·) 0
def aT (l:List Row):List UInt8:=aG l.length++l.flatMap Row.bytes++aG (aW l)
def bK (l:List Row):Nat:=match l.getLast? with
 |some x=>x.at_+x.len
 |none=>8
structure gu (l:List Row):Prop where
 many:l.length≤8388608
 key:∀x∈l,1≤x.last.length∧x.last.length≤64
 rise:∀(i:Nat) (x y:Row),l[i]? =some x→l[i+1]? =some y→compareBytes x.last y.last<0
 place:∀(i:Nat) (x:Row),l[i]? =some x→x.at_=bK (l.take i)
 len:∀x∈l,1≤x.len∧x.len≤131072
 count:∀x∈l,1≤x.ents∧x.ents≤64
structure aU where
 cur:ax
 st:Nat
 rows:List Row
 err:Int
 bad:Nat
def aU.fail (r:aU) (c:ax) (e:Int) (p:Nat):aU:={r with cur:=c,st:=2,err:=e,bad:=p}
def gX:List UInt8:= [99,111,112,112,105,99,101,1]
def dX (n:Nat):List UInt8:=(List.range 8).map (fun i=>UInt8.ofNat (n/256^i))++ [101,110,100,46]
structure Body where
 body:List UInt8
 err:Int
 place:Nat
 cur:ax
def ax.body (c:ax) (n:Nat):Body:=
 if(c.bytes n).2.1≠0 then⟨[],(c.bytes n).2.1,c.at_,(c.bytes n).2.2⟩
 else if((c.bytes n).2.2.bytes 4).2.1≠0 then⟨[],((c.bytes n).2.2.bytes 4).2.1,(c.bytes n).2.2.at_,((c.bytes n).2.2.bytes 4).2.2⟩
 else if((c.bytes n).2.2.bytes 4).1≠four (bz (c.bytes n).1) then⟨[],22,(c.bytes n).2.2.at_,((c.bytes n).2.2.bytes 4).2.2⟩
 else⟨(c.bytes n).1,0,0,((c.bytes n).2.2.bytes 4).2.2⟩
def aU.block (r:aU) (c:ax) (at_:Nat):Option (List aH)×aU:=
 if r.rows.length=8388608 then(none,r.fail c 71 at_)
 else if c.number.2.1≠0 then(none,r.fail c.number.2.2 c.number.2.1 c.at_)
 else if c.number.1<1∨65535<c.number.1 then(none,r.fail c.number.2.2 83 c.at_)
 else if(c.number.2.2.body c.number.1).err≠0 then(none,r.fail (c.number.2.2.body c.number.1).cur (c.number.2.2.body c.number.1).err (c.number.2.2.body c.number.1).place)
 else if(aB (c.number.2.2.body c.number.1).body).2.1≠0 then(none,r.fail (c.number.2.2.body c.number.1).cur (aB (c.number.2.2.body c.number.1).body).2.1 (c.number.2.2.at_+(aB (c.number.2.2.body c.number.1).body).2.2))
 else if 0<r.rows.length∧0≤compareBytes (r.rows.getLast?.getD ⟨[],0,0,0⟩).last (((aB (c.number.2.2.body c.number.1).body).1.headD ([],[])).1) then(none,r.fail (c.number.2.2.body c.number.1).cur 51 c.number.2.2.at_)
 else(some (aB (c.number.2.2.body c.number.1).body).1,{r with cur:=(c.number.2.2.body c.number.1).cur,rows:=r.rows++ [⟨aD (aB (c.number.2.2.body c.number.1).body).1,at_,(c.number.2.2.body c.number.1).cur.at_-at_,(aB (c.number.2.2.body c.number.1).body).1.length⟩]})
def aU.footR (r:aU) (c:ax) (at_:Nat):aU:=
 if c.number.2.1≠0 then r.fail c.number.2.2 c.number.2.1 c.at_
 else if c.number.1≠(aT r.rows).length then r.fail c.number.2.2 84 c.at_
 else if(c.number.2.2.body (aT r.rows).length).err≠0 then r.fail (c.number.2.2.body (aT r.rows).length).cur (c.number.2.2.body (aT r.rows).length).err (c.number.2.2.body (aT r.rows).length).place
 else if comm (c.number.2.2.body (aT r.rows).length).body (aT r.rows)<(aT r.rows).length then r.fail (c.number.2.2.body (aT r.rows).length).cur 84 (c.number.2.2.at_+comm (c.number.2.2.body (aT r.rows).length).body (aT r.rows))
 else if((c.number.2.2.body (aT r.rows).length).cur.bytes 12).2.1≠0 then r.fail ((c.number.2.2.body (aT r.rows).length).cur.bytes 12).2.2 ((c.number.2.2.body (aT r.rows).length).cur.bytes 12).2.1 (c.number.2.2.body (aT r.rows).length).cur.at_
 else if((c.number.2.2.body (aT r.rows).length).cur.bytes 12).1≠dX at_ then r.fail ((c.number.2.2.body (aT r.rows).length).cur.bytes 12).2.2 85 (c.number.2.2.body (aT r.rows).length).cur.at_
 else if((c.number.2.2.body (aT r.rows).length).cur.bytes 12).2.2.end_.2.1≠0 then r.fail ((c.number.2.2.body (aT r.rows).length).cur.bytes 12).2.2.end_.2.2 ((c.number.2.2.body (aT r.rows).length).cur.bytes 12).2.2.end_.2.1 ((c.number.2.2.body (aT r.rows).length).cur.bytes 12).2.2.at_
 else if((c.number.2.2.body (aT r.rows).length).cur.bytes 12).2.2.end_.1=false then r.fail ((c.number.2.2.body (aT r.rows).length).cur.bytes 12).2.2.end_.2.2 86 ((c.number.2.2.body (aT r.rows).length).cur.bytes 12).2.2.at_
 else{r with cur:=((c.number.2.2.body (aT r.rows).length).cur.bytes 12).2.2.end_.2.2,st:=2}
def aU.frame (r:aU):Option (List aH)×aU:=
 if(r.cur.bytes 1).2.1≠0 then(none,r.fail (r.cur.bytes 1).2.2 (r.cur.bytes 1).2.1 r.cur.at_)
 else if((r.cur.bytes 1).1.headD 0)=70 then(none,r.footR (r.cur.bytes 1).2.2 r.cur.at_)
 else if((r.cur.bytes 1).1.headD 0)≠66 then(none,r.fail (r.cur.bytes 1).2.2 82 r.cur.at_)
 else r.block (r.cur.bytes 1).2.2 r.cur.at_
def aU.next (r:aU):Option (List aH)×aU:=
 if r.st=2 then(none,r)
 else if r.st=1 then r.frame
 else if(r.cur.bytes 8).2.1≠0 then(none,r.fail (r.cur.bytes 8).2.2 (r.cur.bytes 8).2.1 0)
 else if(r.cur.bytes 8).1≠gX then(none,r.fail (r.cur.bytes 8).2.2 81 0)
 else({r with cur:=(r.cur.bytes 8).2.2,st:=1}:aU).frame
end
section
open Go.Lib (compareBytes)
theorem I7 {prev b:List UInt8} {a s m l p:Nat} (hp:p≤b.length) (h:(cZ prev b a s m l p).err=0):
  (cZ prev b a s m l p).key=prev.take s++(b.drop p).take m∧(cZ prev b a s m l p).val=(b.drop (p+m)).take l∧(cZ prev b a s m l p).next=p+m+l∧s≤prev.length∧m≤64∧l≤256∧1≤s+m∧s+m≤64∧p+m+l≤b.length∧(0<prev.length→compareBytes prev (prev.take s++(b.drop p).take m)<0):=by
 unfold cZ at h⊢
 split at h
 ·exact absurd h (by simp)
 ·rename_i h1
  split at h
  ·exact absurd h (by simp)
  ·rename_i h2
   split at h
   ·exact absurd h (by simp)
   ·rename_i h3
    split at h
    ·exact absurd h (by simp)
    ·rename_i h4
     split at h
     ·exact absurd h (by simp)
     ·rename_i h5;rw [if_neg h1,if_neg h2,if_neg h3,if_neg h4,if_neg h5]
      exact⟨rfl,rfl,rfl,by omega,by omega,by omega,by omega,by omega,by omega,fun h0=>by
       rcases Int.lt_or_le (compareBytes prev (prev.take s++(b.drop p).take m)) 0 with h6|h6
       ·exact h6
       ·exact absurd ⟨h0,h6⟩ h5⟩
theorem Ey {prev b:List UInt8} {p:Nat} (h:(pread prev b p).err=0):
  (aj b p).2.2=0∧(aj b (aj b p).2.1).2.2=0∧(aj b (aj b (aj b p).2.1).2.1).2.2=0∧pread prev b p=cZ prev b p (aj b p).1 (aj b (aj b p).2.1).1 (aj b (aj b (aj b p).2.1).2.1).1 (aj b (aj b (aj b p).2.1).2.1).2.1:=by
 unfold pread at h⊢
 split at h
 ·rename_i h1;exact absurd h h1
 ·rename_i h1
  split at h
  ·rename_i h2;exact absurd h h2
  ·rename_i h2
   split at h
   ·rename_i h3;exact absurd h h3
   ·rename_i h3;rw [if_neg h1,if_neg h2,if_neg h3];exact⟨Decidable.byContradiction h1,Decidable.byContradiction h2,Decidable.byContradiction h3,rfl⟩
structure yo (prev b:List UInt8) (r:SI):Prop where
 k1:1≤r.key.length
 k2:r.key.length≤64
 v:r.val.length≤256
 next:r.next≤b.length
 lt:0<prev.length→compareBytes prev r.key<0
theorem lY {prev b:List UInt8} {p:Nat} (hp:p≤b.length) (h:(pread prev b p).err=0):yo prev b (pread prev b p):=by
 obtain⟨h1,h2,h3,h4⟩:=Ey h;have p1:=(fV b p hp).2;have p2:=(fV b _ p1).2;have p3:=(fV b _ p2).2;rw [h4] at h⊢;obtain⟨a1,a2,a3,a4,a5,a6,a7,a8,a9,a10⟩:=I7 p3 h
 refine⟨?_,?_,?_,by rw [a3];exact a9,fun h0=>by rw [a1];exact a10 h0⟩
 ·rw [a1,List.length_append,List.length_take,List.length_take,List.length_drop];omega
 ·rw [a1,List.length_append,List.length_take,List.length_take,List.length_drop];omega
 ·rw [a2,List.length_take];omega
theorem gG (l:List aH) (e:aH):aD (l++ [e])=e.1:=by simp [aD]
theorem jq {l:List aH} {e:aH} (h:l[l.length-1]? =some e):aD l=e.1:=by
 unfold aD;rw [List.getLast?_eq_getElem?,h];rfl
theorem mJ {e:aH} (h1:1≤e.1.length) (h2:e.1.length≤64) (h3:e.2.length≤256):gT e=0:=by unfold gT;rw [if_pos ⟨h1,h2,h3⟩]
theorem lX:bu []:=fun j hj=>by simp at hj
theorem Ez (l:List aH) (e:aH) (j:Nat) (hj:j<l.length):dQ (l++ [e]) j=dQ l j:=by
 unfold dQ;have e1:(l++ [e]).getD j ([],[])=l.getD j ([],[]):=by simp [List.getD,List.getElem?_append_left hj]
 have e2:(l++ [e]).getD (j-1) ([],[])=l.getD (j-1) ([],[]):=by simp [List.getD,List.getElem?_append_left (show j-1<l.length by omega)]
 rw [e1,e2]
theorem uC {l:List aH} {e:aH} (h:bu l) (he:gT e=0) (hc:0<l.length→compareBytes (aD l) e.1<0):bu (l++ [e]):=by
 intro j hj;rw [List.length_append,List.length_singleton] at hj
 rcases Nat.lt_or_ge j l.length with h1|h1
 ·rw [Ez l e j h1];exact h j h1
 ·have hj:j=l.length:=by omega
  subst hj
  rcases Nat.eq_zero_or_pos l.length with h0|h0
  ·have:l= []:=List.eq_nil_of_length_eq_zero h0;subst this
   exact sN (e:=e) rfl he
  ·have h2:l[l.length-1]? =some l[l.length-1]:=List.getElem?_eq_getElem (by omega);refine vS (d:=l[l.length-1]) (e:=e) (by simp) (by rw [List.getElem?_append_left (by omega)];exact h2) he ?_;have:=hc h0;rwa [jq h2] at this
theorem dC {l:List aH} (h:bu l) {e:aH} (he:e∈l):1≤e.1.length∧e.1.length≤64∧e.2.length≤256:=by
 obtain⟨j,hj,rfl⟩:=List.mem_iff_getElem.1 he;have h1:=h j hj;have h2:l.getD j ([],[])=l[j]:=by simp [List.getD,hj]
 have h3:gT l[j]=0:=by
  rcases nX l[j] with h4|h4
  ·exact h4
  ·unfold dQ at h1;rw [h2,if_pos (by rw [h4];decide),h4] at h1;exact absurd h1 (by decide)
 unfold gT at h3
 split at h3
 ·assumption
 ·exact absurd h3 (by decide)
structure PG (b:List UInt8) (l:List aH) (m:Nat) (r:NU):Prop where
 rise:bu r.ents
 len:r.err=0→r.ents.length=l.length+m
 ats:r.ats.length=r.ents.length
 le:r.at_≤b.length
 most:r.ents.length≤l.length+m
theorem vX (b:List UInt8):∀(m:Nat) (l:List aH) (ats:List Nat) (p:Nat),p≤b.length→bu l→ats.length=l.length→PG b l m (bM b m l ats p)
 |0,l,ats,p,hp,hl,ha=>⟨hl,fun _=>rfl,ha,hp,Nat.le_refl _⟩
 |m+1,l,ats,p,hp,hl,ha=>by
  unfold bM
  split
  ·rename_i h1;exact⟨hl,fun h=>absurd h h1,ha,hp,Nat.le_add_right _ _⟩
  ·rename_i h1;have hk:=lY hp (Decidable.byContradiction h1)
   split
   ·exact⟨hl,fun h=>absurd h (by simp),ha,hp,Nat.le_add_right _ _⟩
   ·rename_i h2
    have ih:=vX b m (l++ [((pread (aQ l) b p).key,(pread (aQ l) b p).val)]) (ats++ [p]) (pread (aQ l) b p).next hk.next (uC hl (mJ hk.k1 hk.k2 hk.v) (fun h0=>by
     rcases Int.lt_or_le (compareBytes (aD l) (pread (aQ l) b p).key) 0 with h6|h6
     ·exact h6
     ·exact absurd ⟨h0,h6⟩ h2)) (by rw [List.length_append,List.length_append,ha];rfl)
    refine⟨ih.rise,fun h=> ?_,ih.ats,ih.le,?_⟩
    ·rw [ih.len h,List.length_append,List.length_singleton];omega
    ·have:=ih.most;rw [List.length_append,List.length_singleton] at this;omega
theorem Cg {b:List UInt8} (h:(aB b).2.1=0):bu (aB b).1∧1≤(aB b).1.length∧(aB b).1.length≤64:=by
 have hv:=(fV b 0 (Nat.zero_le _)).2;have hk:=vX b (aj b 0).1 [] [] (aj b 0).2.1 hv lX rfl;unfold aB at h⊢
 split at h
 ·rename_i h1;exact absurd h h1
 ·rename_i h1
  split at h
  ·exact absurd h (by simp)
  ·rename_i h2
   split at h
   ·rename_i h3;exact absurd h h3
   ·rename_i h3
    split at h
    ·exact absurd h (by simp)
    ·rename_i h4
     split at h
     ·exact absurd h (by simp)
     ·rename_i h5;rw [if_neg h1,if_neg h2,if_neg h3,if_neg h4,if_neg h5];have:=hk.len (Decidable.byContradiction h3);rw [List.length_nil] at this;exact⟨hk.rise,by simp only [];omega,by simp only [];omega⟩
theorem Gl {b:List UInt8} (h:(aB b).2.1≠0):(aB b).1= []:=by
 unfold aB at h⊢
 split
 ·rfl
 ·rename_i h1;rw [if_neg h1] at h
  split
  ·rfl
  ·rename_i h2;rw [if_neg h2] at h
   split
   ·rfl
   ·rename_i h3;rw [if_neg h3] at h
    split
    ·rfl
    ·rename_i h4;rw [if_neg h4] at h
     split
     ·rfl
     ·rename_i h5;rw [if_neg h5] at h;exact absurd rfl h
theorem ax.bytes_step {K:Nat} {c:ax} (h:c.Ok K) (n:Nat) (h0:(c.bytes n).2.1=0):(c.bytes n).2.2.at_=c.at_+n:=by
 unfold ax.bytes at h0⊢
 split
 ·rename_i h1;rw [if_pos h1] at h0;exact absurd h0 h1
 ·rename_i h1;rw [if_neg h1] at h0
  split
  ·rename_i h2;simp only [];omega
  ·rename_i h2;rw [if_neg h2] at h0
   split
   ·rfl
   ·rename_i h3;rw [if_neg h3] at h0;exact absurd h0 h3
theorem ax.bytes_held {K:Nat} {c:ax} (h:c.Ok K) (n:Nat) (hh:c.held=none):(c.bytes n).2.2.held=none:=by
 unfold ax.bytes
 split
 ·exact hh
 ·rename_i he;have he:c.err=0:=Decidable.byContradiction he
  split
  ·exact hh
  ·obtain⟨h1,h2,h3,h4,h5,h6⟩:=ax.loop_out (K:=K) n _ {c with held:=none} c.held.toList (Nat.le_refl _) ⟨(h.fine he).idle,(h.fine he).pot⟩ (by have:=c.held_len;omega)
   split
   ·exact h6
   ·exact h6
theorem ax.numL_step {K:Nat}:∀(m k v:Nat) (c:ax),k+m=10→c.Ok K→c.held=none→(c.numL k v).2.2.held=none∧((c.numL k v).2.1=0→c.at_<(c.numL k v).2.2.at_∧(c.numL k v).2.2.at_≤c.at_+m):=by
 intro m
 induction m with
 |zero=>
  intro k v c hk h hh;have:10≤k:=by omega
  unfold ax.numL;rw [if_pos this]
  exact⟨ax.bytes_held h 1 hh,fun h=>absurd h (by simp)⟩
 |succ m ih=>
  intro k v c hk h hh;have h1:=ax.bytes_ok h 1;have h2:=ax.bytes_held h 1 hh;have h3:=ax.bytes_step h 1;rw [ax.numL_eq _ _ _ (by omega)]
  split
  ·rename_i h0;exact⟨h2,fun h=>absurd h h0⟩
  ·rename_i h0;have h3:=h3 (Decidable.byContradiction h0)
   split
   ·exact⟨h2,fun h=>absurd h (by simp)⟩
   ·split
    ·exact⟨h2,fun h=>absurd h (by simp)⟩
    ·split
     ·exact⟨h2,fun _=>⟨by simp only [];omega,by simp only [];omega⟩⟩
     ·obtain⟨a1,a2⟩:=ih (k+1) (v+((c.bytes 1).1.headD 0).toNat%128*128^k) (c.bytes 1).2.2 (by omega) h1 h2;exact⟨a1,fun h=>by have:=a2 h;omega⟩
theorem ax.number_step {K:Nat} {c:ax} (h:c.Ok K) (hh:c.held=none):c.number.2.2.held=none∧(c.number.2.1=0→c.at_<c.number.2.2.at_∧c.number.2.2.at_≤c.at_+10):=by
 obtain⟨a1,a2⟩:=ax.numL_step (K:=K) 10 0 0 c rfl h hh;unfold ax.number
 split
 ·exact⟨a1,a2⟩
 ·rename_i h0;exact⟨a1,fun h=>absurd h h0⟩
structure SK (K n:Nat) (c:ax) (x:Body):Prop where
 ok:x.cur.Ok K
 held:x.cur.held=none
 at_:x.err=0→x.cur.at_=c.at_+n+4
 len:x.err=0→x.body.length=n
theorem ax.body_ok {K:Nat} {c:ax} (h:c.Ok K) (hh:c.held=none) (n:Nat) (hn:0<n):SK K n c (c.body n):=by
 have h1:=ax.bytes_ok h n;have h2:=ax.bytes_held h n hh;have h3:=ax.bytes_step h n;have k1:=ax.bytes_ok h1 4;have k2:=ax.bytes_held h1 4 h2;have k3:=ax.bytes_step h1 4;unfold ax.body
 split
 ·rename_i h0;exact⟨h1,h2,fun h=>absurd h h0,fun h=>absurd h h0⟩
 ·rename_i h0;have h0:=Decidable.byContradiction h0
  split
  ·rename_i h4;exact⟨k1,k2,fun h=>absurd h h4,fun h=>absurd h h4⟩
  ·rename_i h4;have h4:=Decidable.byContradiction h4
   split
   ·exact⟨k1,k2,fun h=>absurd h (by simp),fun h=>absurd h (by simp)⟩
   ·exact⟨k1,k2,fun _=>by have:=h3 h0;have:=k3 h4;simp only [];omega,fun _=>ax.bytes_len h n hn h0⟩
theorem qh (l:List Row) (x:Row):bK (l++ [x])=x.at_+x.len:=by simp [bK]
theorem LP:gu []:=⟨by simp,fun x hx=>by simp at hx,fun i x y h=>by simp at h,fun i x h=>by simp at h,fun x hx=>by simp at hx,fun x hx=>by simp at hx⟩
theorem I8 {l:List Row} {x:Row} (h:gu l) (h1:l.length<8388608) (h2:1≤x.last.length) (h3:x.last.length≤64) (h4:0<l.length→compareBytes (l.getLast?.getD ⟨[],0,0,0⟩).last x.last<0) (h5:x.at_=bK l) (h6:1≤x.len) (h7:x.len≤131072) (h8:1≤x.ents) (h9:x.ents≤64):gu (l++ [x]):=by
 refine⟨by simp;omega,?_,?_,?_,?_,?_⟩
 ·intro y hy
  rcases List.mem_append.1 hy with hy|hy
  ·exact h.key y hy
  ·rw [List.mem_singleton] at hy;subst hy;exact⟨h2,h3⟩
 ·intro i y z hy hz
  rcases Nat.lt_or_ge (i+1) l.length with hi|hi
  ·rw [List.getElem?_append_left (by omega)] at hy;rw [List.getElem?_append_left hi] at hz
   exact h.rise i y z hy hz
  ·have hz2:i+1<(l++ [x]).length:=(List.getElem?_eq_some_iff.1 hz).1;rw [List.length_append,List.length_singleton] at hz2;have hi2:i+1=l.length:=by omega
   rw [List.getElem?_append_right (by omega),hi2,Nat.sub_self] at hz;simp only [List.getElem?_cons_zero,Option.some.injEq] at hz;subst hz;rw [List.getElem?_append_left (by omega)] at hy;have h0:=h4 (by omega)
   rwa [List.getLast?_eq_getElem?,←hi2,Nat.add_sub_cancel,hy] at h0
 ·intro i y hy
  rcases Nat.lt_or_ge i l.length with hi|hi
  ·rw [List.getElem?_append_left hi] at hy
   rw [h.place i y hy,List.take_append_of_le_length (by omega)]
  ·have hz2:i<(l++ [x]).length:=(List.getElem?_eq_some_iff.1 hy).1;rw [List.length_append,List.length_singleton] at hz2;have hi2:i=l.length:=by omega
   subst hi2;rw [List.getElem?_append_right (Nat.le_refl _),Nat.sub_self] at hy;simp only [List.getElem?_cons_zero,Option.some.injEq] at hy;subst hy
   rw [h5,List.take_append_of_le_length (Nat.le_refl _),List.take_length]
 ·intro y hy
  rcases List.mem_append.1 hy with hy|hy
  ·exact h.len y hy
  ·rw [List.mem_singleton] at hy;subst hy;exact⟨h6,h7⟩
 ·intro y hy
  rcases List.mem_append.1 hy with hy|hy
  ·exact h.count y hy
  ·rw [List.mem_singleton] at hy;subst hy;exact⟨h8,h9⟩
end
section
open Go.Proofs.Tryz
open Go.RowKit
theorem iF (q:Nat) (a:Int) (w:World) (h:w.cell? ⟨q,0,none⟩=some (.int .i64 a)):Calls prog 100 #[.pointer (some ⟨q,0,none⟩)] w fun e w'=>e= .returned (.int .i64 a)∧w=w':=by
 refine letter fun R HR=> ?_;go_enter func100,ntmps100
 go_wp2;rw [HR.out]
 exact⟨rfl,rfl⟩
def FU (z:Nat) (v0 v2 v3:Value) (e a:Int) (w:World) (en:Ending) (w':World):Prop:=
 en= .returned (.tuple #[.slice none 0 0,.bool false])∧ai w' z 150 #[v0,.func (.func 99) #[.pointer (some ⟨z,0,none⟩)] #[],v2,v3,.int .i64 e,.int .i64 a]∧ag (fun b=>b=z) w w'
theorem bf (z:Nat) (v0 v1 v2 v3:Value) (e0 a0 e a:Int) (w:World) (h:ai w z 150 #[v0,v1,v2,v3,.int .i64 e0,.int .i64 a0]):
  Calls prog 74 #[.pointer (some ⟨z,0,none⟩),.int .i64 e,.int .i64 a] w (FU z v0 v2 v3 e a w):=by
 refine letter fun R HR=> ?_;have HH:=aa h;have z1:w.cell? ⟨z,1,none⟩=some v1:=h.cell 1;have z4:w.cell? ⟨z,4,none⟩=some (.int .i64 e0):=h.cell 4;have z5:w.cell? ⟨z,5,none⟩=some (.int .i64 a0):=h.cell 5;have f1:=h.frozen 1;have f4:=h.frozen 4;have f5:=h.frozen 5;clear h;go_enter func74,ntmps74
 go_wp2;rw [HR.out]
 exact⟨rfl,((HH.set_ 4 (.int .i64 e)).set_ 5 (.int .i64 a)).set_ 1 (.func (.func 99) #[.pointer (some ⟨z,0,none⟩)] #[]),
  (((ag.refl (fun b=>b=z) w).setCell (p:=⟨z,4,none⟩) (fun _=>rfl) _).setCell (p:=⟨z,5,none⟩) (fun _=>rfl) _).setCell (p:=⟨z,1,none⟩) (fun _=>rfl) _⟩
def Ct (F:Nat→Prop) (q p n:Nat) (c:ax) (w:World) (e:Ending) (w':World):Prop:=
 ∃v hv,e= .returned (.tuple #[v,.int .i64 (c.body n).err,.int .i64 ((c.body n).place:Nat)])∧((c.body n).err=0→Ow w' w.heap.size v (c.body n).body)∧kP w' F q p (c.body n).cur hv∧ag (Cs q p w.heap.size) w w'
theorem xP (F:Nat→Prop) (z q p hv n K:Nat) (c:ax) (w:World) (s:Sit F q p w.heap.size) (hz0:w.cell? ⟨z,0,none⟩=some (.pointer (some ⟨q,0,none⟩))) (hzl:z<w.heap.size) (hzq:z≠q) (hzp:z≠p) (h:kP w F q p c hv) (ho:c.Ok K) (hh:c.held=none) (hK:K≤1152921504606846976) (hn:n≤4294967296) (hn0:0<n):
  Calls prog 104 #[.pointer (some ⟨z,0,none⟩),.int .i64 n] w (Ct F q p n c w):=by
 refine letter fun R HR=> ?_;have HT:=aa (j5 F q p hv n K c w s h ho hK (by omega) hn0);obtain⟨L,hL⟩:∃L,L=c.bytes n:=⟨_,rfl⟩;have HL:=aa hL;have AM:Hid (L.2.2.Ok K):=aa (by rw [hL];exact ax.bytes_ok ho n);have jv:Hid (L.2.1=0→L.1.length=n):=aa (by rw [hL];exact ax.bytes_len ho n hn0);have HS:=aa s;have HH:=aa h;have c0:w.cell? ⟨q,0,none⟩=some (.int .i64 (c.at_:Nat)):=h.blk.cell 0;have HZ:Hid (¬Cs q p w.heap.size z):=aa (fun e=>by rcases e with e|e|e;exact hzq e;exact hzp e;omega);have JW:=aa (iF q (c.at_:Nat) w c0);have HB1:Hid (L.2.1≠0→c.body n=⟨[],L.2.1,c.at_,L.2.2⟩):=aa (fun h0=>by unfold ax.body;rw [←hL,if_pos h0]);obtain⟨M,hM⟩:∃M,M=L.2.2.bytes 4:=⟨_,rfl⟩;have Fy:=aa hM;have TU:Hid (M.2.1=0→M.1.length=4):=aa (by rw [hM];exact ax.bytes_len AM 4 (by omega));have HB2:Hid (L.2.1=0→M.2.1≠0→c.body n=⟨[],M.2.1,L.2.2.at_,M.2.2⟩):=aa (fun h0 h1=>by unfold ax.body;rw [←hL,if_neg (fun h=>h h0),←hM,if_pos h1]);have HB3:Hid (L.2.1=0→M.2.1=0→M.1≠four (bz L.1)→c.body n=⟨[],22,L.2.2.at_,M.2.2⟩):=aa (fun h0 h1 h2=>by unfold ax.body;rw [←hL,if_neg (fun h=>h h0),←hM,if_neg (fun h=>h h1),if_pos h2]);have dN:Hid (L.2.1=0→M.2.1=0→M.1=four (bz L.1)→c.body n=⟨L.1,0,0,M.2.2⟩):=aa (fun h0 h1 h2=>by unfold ax.body;rw [←hL,if_neg (fun h=>h h0),←hM,if_neg (fun h=>h h1),if_neg (fun h=>h h2)]);have ZY:=aa hzl;clear s h ho hh hL hzq hzp hM hzl;go_enter func104,ntmps104
 go_upto_region 2 with(go_at_call 100;go_loud (refine JW.mono ?_);rintro e w2 ⟨rfl,rfl⟩)
 go_upto_region 3 with(go_at_call 73;go_loud (refine HT.mono ?_);rintro e w2 ⟨v,hv2,rfl,hO,hI,hC⟩;rw [←HL.out] at hO hI⊢;have HO:=aa hO;have HI:=aa hI;have HC:=aa hC;clear hO hI hC)
 have hz2:w2.cell? ⟨z,0,none⟩=some (.pointer (some ⟨q,0,none⟩)):=HC.out.cell HZ hz0;obtain⟨er,jf⟩:∃er,er=L.2.1:=⟨_,rfl⟩;rw [←jf] at HB1 HB2 HB3 dN HO jv⊢;clear jf hz0 c0
 by_cases e0:er=0
 ·subst e0;have c1:w2.cell? ⟨q,0,none⟩=some (.int .i64 (L.2.2.at_:Nat)):=HI.out.blk.cell 0;have ah1:=aa (iF q (L.2.2.at_:Nat) w2 c1);have HT2:=aa (j5 F q p hv2 4 K L.2.2 w2 (HS.up HC.size) HI AM hK (by omega) (by omega));have HZ2:Hid (¬Cs q p w2.heap.size z):=aa (fun e=>by rcases e with e|e|e;exact HZ (.inl e);exact HZ (.inr (.inl e));exact absurd ZY.out (by have:=HC.out.size;omega));obtain⟨A,m,cc,rfl,q1,q2,q3,q4⟩:=(HO.out rfl).sb;have HQ3:=aa q3;have hmn:m=n:=by rw [q3];exact jv rfl
  subst hmn;clear q1 q2 q3 q4;go_upto_region 6 with(go_at_call 100;go_loud (refine ah1.mono ?_);rintro e w3 ⟨rfl,rfl⟩)
  go_upto_region 7 with(go_at_call 73;go_loud (refine HT2.mono ?_);rintro e w3 ⟨v3,hv3,rfl,hO,hI,hC⟩;rw [←Fy.out] at hO hI⊢;have nD:=aa hO;have HI3:=aa hI;have gN:=aa hC;clear hO hI hC)
  have HW3:Hid (ag (Cs q p w.heap.size) w w3):=aa (HC.out.trans gN (fun b hb e=>by rcases e with e|e|e;exact .inl e;exact .inr (.inl e);exact .inr (.inr (Nat.le_trans HC.size e))))
  have Jg:Hid (Ow w3 w.heap.size (.slice A m cc) L.1):=aa ((HO (by trivial)).chg gN (fun g hg e=>by
   obtain⟨h1,h2⟩:=ah (HO (by trivial)) g hg;have h3:=HS.out.pB;have h4:=HS.out.qB
   rcases e with e|e|e
   ·omega
   ·omega
   ·omega))
  obtain⟨e2,he2⟩:∃e2,e2=M.2.1:=⟨_,rfl⟩;rw [←he2] at HB2 HB3 dN nD TU⊢;clear he2 hz2 c1
  by_cases e20:e2=0
  ·subst e20;obtain⟨A3,m3,c3,rfl,q1,q2,q3,q4⟩:=(nD.out (by trivial)).sb;have Nr:m3=4:=by rw [q3];exact TU (by trivial)
   subst Nr;have mM:=aa q3;obtain⟨x5,hx5⟩:∃x,x=w3.heap.size:=⟨_,rfl⟩;obtain⟨w4,hw4⟩:∃W,W=w3.alloc (.cells #[.slice A m cc,.slice A3 4 c3] 24):=⟨_,rfl⟩;have Bh:Hid (Below w3.heap.size w3 w4):=aa (by rw [hw4];exact(Below.refl _ _).alloc (Nat.le_refl _) _);have hs1:SB w4 (fun b=>b<w4.heap.size) (.slice A m cc) L.1:=((Jg.below Bh).sb.lt).weak (fun b h=>h.2);have hs2:SB w4 (fun b=>b<w4.heap.size) (.slice A3 4 c3) M.1:=(((nD (by trivial)).below Bh).sb.lt).weak (fun b h=>h.2)
   have htx:Tx w4 (fun b=>b<w4.heap.size) (some ⟨x5,0,none⟩) 2 2 [L.1,M.1]:=by
    refine⟨Nat.le_refl _,by simp [maxLen],aa rfl,[.slice A m cc,.slice A3 4 c3],⟨rfl,fun _=>⟨x5,0,rfl,by rw [hx5,hw4,World.size_alloc];exact Nat.lt_succ_self _,fun j u hj=> ?_⟩⟩,fun i t ht=> ?_⟩
    ·rw [hx5,hw4,(ai.new w3 _ _).cell];simpa using hj
    ·rcases i with _|_|i
     ·simp at ht;subst ht;exact⟨_,rfl,hs1⟩
     ·simp at ht;subst ht;exact⟨_,rfl,hs2⟩
     ·simp at ht
   have Qy:=aa (uL (fun b=>b<w4.heap.size) (some ⟨x5,0,none⟩) 2 2 [L.1,M.1] w4 htx (fun _ h=>h) (by omega) (by have h1:=HQ3.out;have h2:=mM.out;simp;omega));rw [show [L.1,M.1].flatten=L.1++M.1 by simp] at Qy;clear q1 q2 q3 q4 hs1 hs2 htx;go_upto_region 10 with(first|(go_at_call 134;rw [←hw4,←hx5];go_loud (refine Qy.mono ?_);rintro e w5 ⟨v5,rfl,hO5,T9⟩;have fO:=aa T9;obtain⟨A5,m5,c5,rfl,q1,q2,q3,q4⟩:=hO5.sb;have Ng:m5=m+4:=(by have h1:=HQ3.out;have h2:=mM.out;rw [q3,List.length_append];omega);subst Ng;obtain⟨b5,o5,rfl,_,_⟩:=q4.2 (by omega);have HOP:=aa (Gx _ b5 o5 m c5 L.1 M.1 w5 q4 HQ3 mM.out.symm q1 q2 (by omega));clear hO5 T9 q1 q2 q3 q4)|(go_at_call 133;go_loud (refine HOP.mono ?_);rintro e w6 ⟨v6,rfl,Ua⟩;have lg:=aa Ua;clear Ua))
   have HW6:Hid (Below w3.heap.size w3 w6):=aa ((Bh.out.trans (fO.mono Bh.size)).trans (lg.mono (Nat.le_trans Bh.size fO.size)));have HI6:Hid (kP w6 F q p M.2.2 hv3):=aa (HI3.chg (S:=Nil) (ag.of_below HW6) (fun h=>h) (fun h=>h) (fun _ _ h=>h));have iW:Hid (ag (Cs q p w.heap.size) w w6):=aa (HW3.then HW6);have uJ:Hid (Ow w6 w.heap.size (.slice A m cc) L.1):=aa (Jg.below HW6);clear hw4 hx5
   by_cases hsum:four (bz L.1)=M.1
   ·rw [if_pos hsum];have HSU:Hid (M.1=four (bz L.1)):=aa hsum.symm;clear hsum;go_wp2;go_ret3
    rw [HR.out];unfold Ct;rw [dN.out (by trivial) (by trivial) HSU.out]
    exact⟨_,hv3,rfl,fun _=>uJ,HI6,iW⟩
   ·rw [if_neg hsum];have HSU:Hid (M.1≠four (bz L.1)):=aa (fun e=>hsum e.symm);clear hsum;go_wp2;go_ret3
    rw [HR.out];unfold Ct;rw [HB3.out (by trivial) (by trivial) HSU.out]
    exact⟨_,hv3,rfl,fun h=>absurd h (show¬((22:Int)=0) by decide),HI6,iW⟩
  ·have al5:(e2==0)=false:=by rw [beq_eq_false_iff_ne];exact e20
   have Xe:=aa e20;go_wp2;go_ret3
   rw [HR.out];unfold Ct;rw [HB2.out (by trivial) Xe.out]
   exact⟨_,hv3,rfl,fun h=>absurd h Xe,HI3,HW3⟩
 ·have YG:(er==0)=false:=by rw [beq_eq_false_iff_ne];exact e0
  have pI:=aa e0;go_wp2;go_ret3
  rw [HR.out];unfold Ct;rw [HB1.out pI.out];exact⟨_,hv2,rfl,fun h=>absurd h pI,HI,HC⟩
end
end Go.Proofs.YtbjgeidjmhialaaGreatDoor
