/- Part 9. -/
import Derived.Test.YtbjgeidjmhialaaGreatDoorLa08
import Derived.Lib.AppendStr
namespace Go.Proofs.YtbjgeidjmhialaaGreatDoor
set_option maxRecDepth 100000
set_option maxHeartbeats 8000000
section
open Go.Proofs.Tryz
open Go.RowKit
def tb (a k:Nat):Value:=bv (UInt8.ofNat (a/256^k))
def yY (a k:Nat):Array Value:= #[if 0<k then tb a 0 else .int .u8 0,if 1<k then tb a 1 else .int .u8 0,if 2<k then tb a 2 else .int .u8 0,if 3<k then tb a 3 else .int .u8 0,if 4<k then tb a 4 else .int .u8 0,if 5<k then tb a 5 else .int .u8 0,if 6<k then tb a 6 else .int .u8 0,if 7<k then tb a 7 else .int .u8 0,.int .u8 0,.int .u8 0,.int .u8 0,.int .u8 0]
theorem fP (a k:Nat) (d:Int) (h:((256^k:Nat):Int)=d):tb a k= .int .u8 ((a:Int)/d%256):=by
 unfold tb bv;rw [UInt8.toNat_ofNat',←h];congr 1
theorem Jh (a:Nat) (w:World) (ha:a<9223372036854775808):Calls prog 128 #[.int .i64 a] w fun e w'=>∃v,e= .returned v∧Ow w' w.heap.size v (dX a)∧Below w.heap.size w w':=by
 obtain⟨i0,hi0,hz0,hz1,hz2⟩:=info_parts dK;refine letter fun R HR=> ?_;have hw:IntKind.u64.wrap (a:Int)=(a:Int):=IntWalk.u64_in _ (by omega)
 have hmk:(Instr.makeSlice 24 (.int .i64 8) (.int .i64 12)).run prog w= .ok (.slice (some ⟨w.heap.size,0,none⟩) 8 12) (w.alloc (.cells #[.int .u8 0,.int .u8 0,.int .u8 0,.int .u8 0,.int .u8 0,.int .u8 0,.int .u8 0,.int .u8 0,.int .u8 0,.int .u8 0,.int .u8 0,.int .u8 0] 5)):=by
  have h9:=nJ (P:=prog) 24 5 i0 _ underlying24 hi0 hz0 .i64 .i64 8 12 (by omega) (by rw [hz2];omega) (by omega) w;have hmc:madeCells (Value.int .u8 0).cells (12*1)= #[.int .u8 0,.int .u8 0,.int .u8 0,.int .u8 0,.int .u8 0,.int .u8 0,.int .u8 0,.int .u8 0,.int .u8 0,.int .u8 0,.int .u8 0,.int .u8 0]:=by kernel_rfl
  rw [hz1,hmc] at h9;exact h9
 go_enter func128,ntmps128
 go_upto_region 2 with fail
 obtain⟨x,hx⟩:∃x,x=w.heap.size:=⟨_,rfl⟩;obtain⟨w1,hw1⟩:∃W,W=w.alloc (.cells #[.int .u8 0,.int .u8 0,.int .u8 0,.int .u8 0,.int .u8 0,.int .u8 0,.int .u8 0,.int .u8 0,.int .u8 0,.int .u8 0,.int .u8 0,.int .u8 0] 5):=⟨_,rfl⟩;rw [←hw1,←hx];have HB1:Hid (ai w1 x 5 (yY a 0)):=aa (by rw [hw1,hx];exact ai.new _ _ _);have HX:=aa hx;have HW1:Hid (Below w.heap.size w w1):=aa (by rw [hw1];exact(Below.refl _ _).alloc (Nat.le_refl _) _);clear hw1 hx;go_wp2
 go_loopw [8] (fun iv wz=>∃k:Nat,k≤8∧iv= .int .i64 k∧Hid (ai wz x 5 (yY a k))∧Hid (Below w.heap.size w wz)) (fun iv _=>8-(intOf iv).toNat)
 case atStart=>exact⟨0,by omega,rfl,HB1,HW1⟩
 case round=>
  obtain⟨k,hk,rfl,HB,HW⟩:=hrel;have MO:k=0∨k=1∨k=2∨k=3∨k=4∨k=5∨k=6∨k=7∨k=8:=by omega
  rcases MO with rfl|rfl|rfl|rfl|rfl|rfl|rfl|rfl|rfl
  ·show Code.wp _ _ _ _ _;have HS:Hid ((yY a 0).setIfInBounds 0 (tb a 0)=yY a (0+1)):=aa rfl;have zf:=HB.out.frozen 0;have z:wr.cell? ⟨x,0,none⟩=some (.int .u8 0):=HB.out.cell 0;go_wp2;refine⟨⟨0+1,by omega,by go_num,aa ?_,aa (HW.setCell (p:=⟨x,0,none⟩) (by rw [HX.out];exact Nat.le_refl _) _)⟩,by simp [intOf]⟩;have h9:=HB.out.set_ 0 (tb a 0);rw [HS.out] at h9;rw [show Value.int IntKind.u8 ((a:Int)%256)=tb a 0 from(by rw [fP a 0 1 rfl,Int.ediv_one])]
   exact h9
  ·show Code.wp _ _ _ _ _;have HS:Hid ((yY a 1).setIfInBounds 1 (tb a 1)=yY a (1+1)):=aa rfl;have zf:=HB.out.frozen 1;have z:wr.cell? ⟨x,1,none⟩=some (.int .u8 0):=HB.out.cell 1;go_wp2;refine⟨⟨1+1,by omega,by go_num,aa ?_,aa (HW.setCell (p:=⟨x,1,none⟩) (by rw [HX.out];exact Nat.le_refl _) _)⟩,by simp [intOf]⟩;have h9:=HB.out.set_ 1 (tb a 1);rw [HS.out] at h9;rw [show Value.int IntKind.u8 ((a:Int)/256%256)=tb a 1 from(fP a 1 _ rfl).symm]
   exact h9
  ·show Code.wp _ _ _ _ _;have HS:Hid ((yY a 2).setIfInBounds 2 (tb a 2)=yY a (2+1)):=aa rfl;have zf:=HB.out.frozen 2;have z:wr.cell? ⟨x,2,none⟩=some (.int .u8 0):=HB.out.cell 2;go_wp2;refine⟨⟨2+1,by omega,by go_num,aa ?_,aa (HW.setCell (p:=⟨x,2,none⟩) (by rw [HX.out];exact Nat.le_refl _) _)⟩,by simp [intOf]⟩;have h9:=HB.out.set_ 2 (tb a 2);rw [HS.out] at h9;rw [show Value.int IntKind.u8 ((a:Int)/65536%256)=tb a 2 from(fP a 2 _ rfl).symm]
   exact h9
  ·show Code.wp _ _ _ _ _;have HS:Hid ((yY a 3).setIfInBounds 3 (tb a 3)=yY a (3+1)):=aa rfl;have zf:=HB.out.frozen 3;have z:wr.cell? ⟨x,3,none⟩=some (.int .u8 0):=HB.out.cell 3;go_wp2;refine⟨⟨3+1,by omega,by go_num,aa ?_,aa (HW.setCell (p:=⟨x,3,none⟩) (by rw [HX.out];exact Nat.le_refl _) _)⟩,by simp [intOf]⟩;have h9:=HB.out.set_ 3 (tb a 3);rw [HS.out] at h9;rw [show Value.int IntKind.u8 ((a:Int)/16777216%256)=tb a 3 from(fP a 3 _ rfl).symm]
   exact h9
  ·show Code.wp _ _ _ _ _;have HS:Hid ((yY a 4).setIfInBounds 4 (tb a 4)=yY a (4+1)):=aa rfl;have zf:=HB.out.frozen 4;have z:wr.cell? ⟨x,4,none⟩=some (.int .u8 0):=HB.out.cell 4;go_wp2;refine⟨⟨4+1,by omega,by go_num,aa ?_,aa (HW.setCell (p:=⟨x,4,none⟩) (by rw [HX.out];exact Nat.le_refl _) _)⟩,by simp [intOf]⟩;have h9:=HB.out.set_ 4 (tb a 4);rw [HS.out] at h9;rw [show Value.int IntKind.u8 ((a:Int)/4294967296%256)=tb a 4 from(fP a 4 _ rfl).symm]
   exact h9
  ·show Code.wp _ _ _ _ _;have HS:Hid ((yY a 5).setIfInBounds 5 (tb a 5)=yY a (5+1)):=aa rfl;have zf:=HB.out.frozen 5;have z:wr.cell? ⟨x,5,none⟩=some (.int .u8 0):=HB.out.cell 5;go_wp2;refine⟨⟨5+1,by omega,by go_num,aa ?_,aa (HW.setCell (p:=⟨x,5,none⟩) (by rw [HX.out];exact Nat.le_refl _) _)⟩,by simp [intOf]⟩;have h9:=HB.out.set_ 5 (tb a 5);rw [HS.out] at h9;rw [show Value.int IntKind.u8 ((a:Int)/1099511627776%256)=tb a 5 from(fP a 5 _ rfl).symm]
   exact h9
  ·show Code.wp _ _ _ _ _;have HS:Hid ((yY a 6).setIfInBounds 6 (tb a 6)=yY a (6+1)):=aa rfl;have zf:=HB.out.frozen 6;have z:wr.cell? ⟨x,6,none⟩=some (.int .u8 0):=HB.out.cell 6;go_wp2;refine⟨⟨6+1,by omega,by go_num,aa ?_,aa (HW.setCell (p:=⟨x,6,none⟩) (by rw [HX.out];exact Nat.le_refl _) _)⟩,by simp [intOf]⟩;have h9:=HB.out.set_ 6 (tb a 6);rw [HS.out] at h9;rw [show Value.int IntKind.u8 ((a:Int)/281474976710656%256)=tb a 6 from(fP a 6 _ rfl).symm]
   exact h9
  ·show Code.wp _ _ _ _ _;have HS:Hid ((yY a 7).setIfInBounds 7 (tb a 7)=yY a (7+1)):=aa rfl;have zf:=HB.out.frozen 7;have z:wr.cell? ⟨x,7,none⟩=some (.int .u8 0):=HB.out.cell 7;go_wp2;refine⟨⟨7+1,by omega,by go_num,aa ?_,aa (HW.setCell (p:=⟨x,7,none⟩) (by rw [HX.out];exact Nat.le_refl _) _)⟩,by simp [intOf]⟩;have h9:=HB.out.set_ 7 (tb a 7);rw [HS.out] at h9;rw [show Value.int IntKind.u8 ((a:Int)/72057594037927936)=tb a 7 from(by rw [fP a 7 72057594037927936 rfl,Int.emod_eq_of_lt (by omega) (by omega)])]
   exact h9
  ·have z8:wr.cell? ⟨x,8,none⟩=some (.int .u8 0):=HB.out.cell 8;have z9:wr.cell? ⟨x,9,none⟩=some (.int .u8 0):=HB.out.cell 9;have z10:wr.cell? ⟨x,10,none⟩=some (.int .u8 0):=HB.out.cell 10;have z11:wr.cell? ⟨x,11,none⟩=some (.int .u8 0):=HB.out.cell 11;have f8:=HB.out.frozen 8;have f9:=HB.out.frozen 9;have f10:=HB.out.frozen 10;have f11:=HB.out.frozen 11;go_wp2;rw [HR.out];have h9:=(((HB.set_ 8 (.int .u8 101)).set_ 9 (.int .u8 110)).set_ 10 (.int .u8 100)).set_ 11 (.int .u8 46);have hz:w.heap.size≤x:=by rw [HX.out];exact Nat.le_refl _
   refine⟨_,rfl,⟨by rw [dM,Nat.mul_one],.inr ⟨x,12,_,rfl,hz,h9,by simp [dX],by simp [maxLen],by simp [yY],?_⟩⟩,?_⟩
   ·kernel_rfl
   ·exact(((HW.setCell (p:=⟨x,8,none⟩) hz _).setCell (p:=⟨x,9,none⟩) hz _).setCell (p:=⟨x,10,none⟩) hz _).setCell (p:=⟨x,11,none⟩) hz _
def FW (a k:Nat):List Value:=(List.range k).map (tb a)
theorem iM (a k:Nat):FW a k++ [tb a k]=FW a (k+1):=by simp [FW,List.range_succ]
theorem Jj (a:Nat):FW a 8++ [.int .u8 101,.int .u8 110,.int .u8 100,.int .u8 46]=aK (dX a):=by kernel_rfl
theorem Ii (a:Nat) (w:World) (ha:a<9223372036854775808):Calls prog 88 #[.int .i64 a] w fun e w'=>∃v,e= .returned v∧Ow w' w.heap.size v (dX a)∧Below w.heap.size w w':=by
 obtain⟨i0,hi0,hz0,hz1,hz2⟩:=info_parts dK;refine letter fun R HR=> ?_;have hw:IntKind.u64.wrap (a:Int)=(a:Int):=IntWalk.u64_in _ (by omega);go_enter func88,ntmps88
 go_wp2
 go_loopw [3,4] (fun ov iv wz=>∃k:Nat,k≤8∧iv= .int .i64 k∧Hid (wz.ownsRow w.heap.size 5 1 ov k (FW a k))∧Hid (Below w.heap.size w wz)) (fun _ iv _=>8-(intOf iv).toNat)
 case atStart=>exact⟨0,by omega,rfl,aa (World.ownsRow_nil _ _ _ _),aa (Below.refl _ _)⟩
 case round=>
  obtain⟨k,hk,rfl,HO,HB⟩:=hrel;obtain⟨A,c,rfl,q1,q2⟩:=ay HO;clear q1 q2;have MO:k=0∨k=1∨k=2∨k=3∨k=4∨k=5∨k=6∨k=7∨k=8:=by omega
  rcases MO with rfl|rfl|rfl|rfl|rfl|rfl|rfl|rfl|rfl
  ·have he:Value.int IntKind.u8 ((a:Int)%256)=tb a 0:=(by rw [fP a 0 1 rfl,Int.ediv_one]);have HE:=aa he;clear he;go_wp2_with (at_builtin;go_loud (refine af _ rfl (.tmp 9) (.tmp 16) _ rfl w.heap.size 5 i0 _ 1 1 underlying24 hi0 hz0 hz1 hz2 rfl (by omega) (.slice A 0 c) 0 (FW a 0) rfl (own_below HO ((Below.refl _ _).alloc (Nat.le_refl _) _)) (From wr.heap.size) (some ⟨wr.heap.size,0,none⟩) 1 1 [tb a 0] rfl (by rw [←HE.out];exact Rd.lit1 wr #[.int .u8 ((a:Int)%256)] 5) (by intro u hu;simp at hu;subst hu;rfl) (by simp only [maxLen];omega) (by omega) (by have h1:=HB.out.size;simp;omega) ?_);intro v1 w1 hown1 hg1 iX;have mH:=aa hown1;have yC:=aa hg1;clear hown1 hg1 iX)
   refine⟨⟨0+1,by omega,by go_num,aa ?_,aa ?_⟩,by simp [intOf]⟩
   ·have h9:=mH.out;rw [iM] at h9
    exact h9
   ·exact(HB.alloc HB.size _).grown yC (by have h1:=HB.out.size;simp;omega) (fun k hk=>(ah HO k hk).1)
  ·have he:Value.int IntKind.u8 ((a:Int)/256%256)=tb a 1:=(fP a 1 _ rfl).symm;have HE:=aa he;clear he;go_wp2_with (at_builtin;go_loud (refine af _ rfl (.tmp 9) (.tmp 16) _ rfl w.heap.size 5 i0 _ 1 1 underlying24 hi0 hz0 hz1 hz2 rfl (by omega) (.slice A 1 c) 1 (FW a 1) rfl (own_below HO ((Below.refl _ _).alloc (Nat.le_refl _) _)) (From wr.heap.size) (some ⟨wr.heap.size,0,none⟩) 1 1 [tb a 1] rfl (by rw [←HE.out];exact Rd.lit1 wr #[.int .u8 ((a:Int)/256%256)] 5) (by intro u hu;simp at hu;subst hu;rfl) (by simp only [maxLen];omega) (by omega) (by have h1:=HB.out.size;simp;omega) ?_);intro v1 w1 hown1 hg1 iX;have mH:=aa hown1;have yC:=aa hg1;clear hown1 hg1 iX)
   refine⟨⟨1+1,by omega,by go_num,aa ?_,aa ?_⟩,by simp [intOf]⟩
   ·have h9:=mH.out;rw [iM] at h9
    exact h9
   ·exact(HB.alloc HB.size _).grown yC (by have h1:=HB.out.size;simp;omega) (fun k hk=>(ah HO k hk).1)
  ·have he:Value.int IntKind.u8 ((a:Int)/65536%256)=tb a 2:=(fP a 2 _ rfl).symm;have HE:=aa he;clear he;go_wp2_with (at_builtin;go_loud (refine af _ rfl (.tmp 9) (.tmp 16) _ rfl w.heap.size 5 i0 _ 1 1 underlying24 hi0 hz0 hz1 hz2 rfl (by omega) (.slice A 2 c) 2 (FW a 2) rfl (own_below HO ((Below.refl _ _).alloc (Nat.le_refl _) _)) (From wr.heap.size) (some ⟨wr.heap.size,0,none⟩) 1 1 [tb a 2] rfl (by rw [←HE.out];exact Rd.lit1 wr #[.int .u8 ((a:Int)/65536%256)] 5) (by intro u hu;simp at hu;subst hu;rfl) (by simp only [maxLen];omega) (by omega) (by have h1:=HB.out.size;simp;omega) ?_);intro v1 w1 hown1 hg1 iX;have mH:=aa hown1;have yC:=aa hg1;clear hown1 hg1 iX)
   refine⟨⟨2+1,by omega,by go_num,aa ?_,aa ?_⟩,by simp [intOf]⟩
   ·have h9:=mH.out;rw [iM] at h9
    exact h9
   ·exact(HB.alloc HB.size _).grown yC (by have h1:=HB.out.size;simp;omega) (fun k hk=>(ah HO k hk).1)
  ·have he:Value.int IntKind.u8 ((a:Int)/16777216%256)=tb a 3:=(fP a 3 _ rfl).symm;have HE:=aa he;clear he;go_wp2_with (at_builtin;go_loud (refine af _ rfl (.tmp 9) (.tmp 16) _ rfl w.heap.size 5 i0 _ 1 1 underlying24 hi0 hz0 hz1 hz2 rfl (by omega) (.slice A 3 c) 3 (FW a 3) rfl (own_below HO ((Below.refl _ _).alloc (Nat.le_refl _) _)) (From wr.heap.size) (some ⟨wr.heap.size,0,none⟩) 1 1 [tb a 3] rfl (by rw [←HE.out];exact Rd.lit1 wr #[.int .u8 ((a:Int)/16777216%256)] 5) (by intro u hu;simp at hu;subst hu;rfl) (by simp only [maxLen];omega) (by omega) (by have h1:=HB.out.size;simp;omega) ?_);intro v1 w1 hown1 hg1 iX;have mH:=aa hown1;have yC:=aa hg1;clear hown1 hg1 iX)
   refine⟨⟨3+1,by omega,by go_num,aa ?_,aa ?_⟩,by simp [intOf]⟩
   ·have h9:=mH.out;rw [iM] at h9
    exact h9
   ·exact(HB.alloc HB.size _).grown yC (by have h1:=HB.out.size;simp;omega) (fun k hk=>(ah HO k hk).1)
  ·have he:Value.int IntKind.u8 ((a:Int)/4294967296%256)=tb a 4:=(fP a 4 _ rfl).symm;have HE:=aa he;clear he;go_wp2_with (at_builtin;go_loud (refine af _ rfl (.tmp 9) (.tmp 16) _ rfl w.heap.size 5 i0 _ 1 1 underlying24 hi0 hz0 hz1 hz2 rfl (by omega) (.slice A 4 c) 4 (FW a 4) rfl (own_below HO ((Below.refl _ _).alloc (Nat.le_refl _) _)) (From wr.heap.size) (some ⟨wr.heap.size,0,none⟩) 1 1 [tb a 4] rfl (by rw [←HE.out];exact Rd.lit1 wr #[.int .u8 ((a:Int)/4294967296%256)] 5) (by intro u hu;simp at hu;subst hu;rfl) (by simp only [maxLen];omega) (by omega) (by have h1:=HB.out.size;simp;omega) ?_);intro v1 w1 hown1 hg1 iX;have mH:=aa hown1;have yC:=aa hg1;clear hown1 hg1 iX)
   refine⟨⟨4+1,by omega,by go_num,aa ?_,aa ?_⟩,by simp [intOf]⟩
   ·have h9:=mH.out;rw [iM] at h9
    exact h9
   ·exact(HB.alloc HB.size _).grown yC (by have h1:=HB.out.size;simp;omega) (fun k hk=>(ah HO k hk).1)
  ·have he:Value.int IntKind.u8 ((a:Int)/1099511627776%256)=tb a 5:=(fP a 5 _ rfl).symm;have HE:=aa he;clear he;go_wp2_with (at_builtin;go_loud (refine af _ rfl (.tmp 9) (.tmp 16) _ rfl w.heap.size 5 i0 _ 1 1 underlying24 hi0 hz0 hz1 hz2 rfl (by omega) (.slice A 5 c) 5 (FW a 5) rfl (own_below HO ((Below.refl _ _).alloc (Nat.le_refl _) _)) (From wr.heap.size) (some ⟨wr.heap.size,0,none⟩) 1 1 [tb a 5] rfl (by rw [←HE.out];exact Rd.lit1 wr #[.int .u8 ((a:Int)/1099511627776%256)] 5) (by intro u hu;simp at hu;subst hu;rfl) (by simp only [maxLen];omega) (by omega) (by have h1:=HB.out.size;simp;omega) ?_);intro v1 w1 hown1 hg1 iX;have mH:=aa hown1;have yC:=aa hg1;clear hown1 hg1 iX)
   refine⟨⟨5+1,by omega,by go_num,aa ?_,aa ?_⟩,by simp [intOf]⟩
   ·have h9:=mH.out;rw [iM] at h9
    exact h9
   ·exact(HB.alloc HB.size _).grown yC (by have h1:=HB.out.size;simp;omega) (fun k hk=>(ah HO k hk).1)
  ·have he:Value.int IntKind.u8 ((a:Int)/281474976710656%256)=tb a 6:=(fP a 6 _ rfl).symm;have HE:=aa he;clear he;go_wp2_with (at_builtin;go_loud (refine af _ rfl (.tmp 9) (.tmp 16) _ rfl w.heap.size 5 i0 _ 1 1 underlying24 hi0 hz0 hz1 hz2 rfl (by omega) (.slice A 6 c) 6 (FW a 6) rfl (own_below HO ((Below.refl _ _).alloc (Nat.le_refl _) _)) (From wr.heap.size) (some ⟨wr.heap.size,0,none⟩) 1 1 [tb a 6] rfl (by rw [←HE.out];exact Rd.lit1 wr #[.int .u8 ((a:Int)/281474976710656%256)] 5) (by intro u hu;simp at hu;subst hu;rfl) (by simp only [maxLen];omega) (by omega) (by have h1:=HB.out.size;simp;omega) ?_);intro v1 w1 hown1 hg1 iX;have mH:=aa hown1;have yC:=aa hg1;clear hown1 hg1 iX)
   refine⟨⟨6+1,by omega,by go_num,aa ?_,aa ?_⟩,by simp [intOf]⟩
   ·have h9:=mH.out;rw [iM] at h9
    exact h9
   ·exact(HB.alloc HB.size _).grown yC (by have h1:=HB.out.size;simp;omega) (fun k hk=>(ah HO k hk).1)
  ·have he:Value.int IntKind.u8 ((a:Int)/72057594037927936)=tb a 7:=(by rw [fP a 7 72057594037927936 rfl,Int.emod_eq_of_lt (by omega) (by omega)]);have HE:=aa he;clear he;go_wp2_with (at_builtin;go_loud (refine af _ rfl (.tmp 9) (.tmp 16) _ rfl w.heap.size 5 i0 _ 1 1 underlying24 hi0 hz0 hz1 hz2 rfl (by omega) (.slice A 7 c) 7 (FW a 7) rfl (own_below HO ((Below.refl _ _).alloc (Nat.le_refl _) _)) (From wr.heap.size) (some ⟨wr.heap.size,0,none⟩) 1 1 [tb a 7] rfl (by rw [←HE.out];exact Rd.lit1 wr #[.int .u8 ((a:Int)/72057594037927936)] 5) (by intro u hu;simp at hu;subst hu;rfl) (by simp only [maxLen];omega) (by omega) (by have h1:=HB.out.size;simp;omega) ?_);intro v1 w1 hown1 hg1 iX;have mH:=aa hown1;have yC:=aa hg1;clear hown1 hg1 iX)
   refine⟨⟨7+1,by omega,by go_num,aa ?_,aa ?_⟩,by simp [intOf]⟩
   ·have h9:=mH.out;rw [iM] at h9
    exact h9
   ·exact(HB.alloc HB.size _).grown yC (by have h1:=HB.out.size;simp;omega) (fun k hk=>(ah HO k hk).1)
  ·go_wp2_with (at_builtin;go_loud (refine af _ rfl (.tmp 18) (.tmp 19) _ rfl w.heap.size 5 i0 _ 1 1 underlying24 hi0 hz0 hz1 hz2 rfl (by omega) (.slice A 8 c) 8 (FW a 8) rfl (own_below HO ((Below.refl _ _).alloc (Nat.le_refl _) _)) (From wr.heap.size) (some ⟨wr.heap.size,0,none⟩) 4 4 [.int .u8 101,.int .u8 110,.int .u8 100,.int .u8 46] rfl (Rd.lit1 wr #[.int .u8 101,.int .u8 110,.int .u8 100,.int .u8 46] 5) (by intro u hu;simp at hu;rcases hu with rfl|rfl|rfl|rfl<;>rfl) (by simp only [maxLen];omega) (by omega) (by have h1:=HB.out.size;simp;omega) ?_);intro v1 w1 hown1 hg1 iX;have mH:=aa hown1;have yC:=aa hg1;clear hown1 hg1 iX)
   rw [HR.out];have h9:=mH.out;rw [Jj] at h9;exact⟨_,rfl,h9,(HB.alloc HB.size _).grown yC (by have h1:=HB.out.size;simp;omega) (fun k hk=>(ah HO k hk).1)⟩
end
section
open Go.Proofs.Tryz
open Go.RowKit
theorem mX (w:World):(sizeOf (prog.elem 24)).run prog w= .ok 1 w:=by kernel_rfl
theorem tX:prog.underlying 24=some (.slice (prog.elem 24)):=by kernel_rfl
section
variable {F:Nat→Prop} {w:World} {A:Option Addr} {n c:Nat} {bs:List UInt8}
theorem Sm {p:Nat} (h:Rd w F 1 A n (aK bs)) (hp:p≤n) (hnc:n≤c):
  ∃A',(∀w',(Instr.slice 24 (.slice A n c) (some (.int .i64 p)) none none).run prog w'= .ok (.slice A' (n-p) (c-p)) w')∧Rd w F 1 A' (n-p) (aK (bs.drop p)):=by
 refine⟨if c=p then A else A.map (·.add p),fun w'=> ?_,?_⟩
 ·rw [run_slice_l w' _ A n c tX .i64 p (by omega) (by omega),mX]
  simp [Result.andThen,sliced]
 ·have:=h.cut (k:=p) (cap:=c) hp hnc;rw [Nat.mul_one,vJ] at this;exact this
theorem Sn {p:Nat} (h:Rd w F 1 A n (aK bs)) (hp:p≤n) (hnc:n≤c):
  ∃A',(∀w',(Instr.slice 24 (.slice A n c) none (some (.int .i64 p)) none).run prog w'= .ok (.slice A' p c) w')∧Rd w F 1 A' p (aK (bs.take p)):=by
 refine⟨if c=0 then A else A.map (·.add 0),fun w'=> ?_,?_⟩
 ·rw [run_slice_h w' _ A n c tX .i64 p (by omega) (by omega),mX]
  simp [Result.andThen,sliced]
 ·have h1:=h.cut (k:=0) (cap:=c) (by omega) hnc;rw [Nat.zero_mul,List.drop_zero] at h1;exact h1.take1 (k:=p) (by omega)
theorem Sv {p q:Nat} (h:Rd w F 1 A n (aK bs)) (hp:p≤q) (hq:q≤n) (hnc:n≤c):
  ∃A',(∀w',(Instr.slice 24 (.slice A n c) (some (.int .i64 p)) (some (.int .i64 q)) none).run prog w'= .ok (.slice A' (q-p) (c-p)) w')∧Rd w F 1 A' (q-p) (aK ((bs.drop p).take (q-p))):=by
 refine⟨if c=p then A else A.map (·.add p),fun w'=> ?_,?_⟩
 ·rw [run_slice_lh w' _ A n c tX .i64 .i64 p q (by omega) (by omega) (by omega),mX]
  simp [Result.andThen,sliced]
 ·have h1:=h.cut (k:=p) (cap:=c) (by omega) hnc;rw [Nat.mul_one,vJ] at h1;exact h1.take1 (k:=q-p) (by omega)
theorem Pq {p:Nat} (h:Rd w F 1 A n (aK bs)) (hp:p≤n) (hnc:n≤c):
  ∃A',(∀w',(Instr.slice 24 (.slice A n c) none (some (.int .u64 p)) (some (.int .u64 p))).run prog w'= .ok (.slice A' p p) w')∧Rd w F 1 A' p (aK (bs.take p)):=by
 refine⟨if p=0 then A else A.map (·.add 0),fun w'=> ?_,?_⟩
 ·rw [run_slice_hm w' _ A n c tX .u64 .u64 p p (by omega) (by omega) (by omega),mX]
  simp [Result.andThen,sliced]
 ·have h1:=h.take1 hp
  by_cases h0:p=0
  ·subst h0;rw [if_pos rfl];exact h1
  ·have h2:=h1.cut (k:=0) (cap:=p) (by omega) (Nat.le_refl _);rw [Nat.zero_mul,List.drop_zero,if_neg h0] at h2;rw [if_neg h0];exact h2
end
end
section
open Go.Proofs.Tryz
open Go.RowKit
theorem rW {b:List UInt8} {i:Nat} {c:UInt8} (h:b[i]? =some c):b.drop i=c::b.drop (i+1):=by
 obtain⟨hi,rfl⟩:=List.getElem?_eq_some_iff.1 h;exact List.drop_eq_getElem_cons hi
theorem o9 (k:Nat) (c:UInt8) (r:List UInt8):dY k (c::r)=if k=9∧1<c.toNat then(12,k) else if 0<k∧c.toNat=0 then(13,k) else if c.toNat<128 then(0,k+1) else dY (k+1) r:=rfl
structure EN (b:List UInt8) (p i v:Nat):Prop where
 le:p≤i
 k9:i-p≤9
 sc:dY 0 (b.drop p)=dY (i-p) (b.drop i)
 vl:v=pg ((b.drop p).take (i-p))
 ltv:v<128^(i-p)
theorem EN.start (b:List UInt8) (p:Nat):EN b p p 0:=⟨Nat.le_refl _,by omega,by simp,by simp [pg],by simp⟩
section
variable {b:List UInt8} {p i v:Nat} {c:UInt8}
theorem EN.taken (h:EN b p i v) (hc:b[i]? =some c):pg ((b.drop p).take (i+1-p))=v+c.toNat%128*128^(i-p):=by
 have hl:=h.le;have hg:(b.drop p)[i-p]? =some c:=by rw [List.getElem?_drop,show p+(i-p)=i by omega];exact hc
 have hi:=(List.getElem?_eq_some_iff.1 hg).1;rw [show i+1-p=(i-p)+1 by omega,List.take_add_one,hg];show pg ((b.drop p).take (i-p)++ [c])=_;rw [xU,←h.vl,List.length_take,Nat.min_eq_left (by omega)]
theorem EN.bad (h:EN b p i v) (hc:b[i]? =some c) (he:dD (i-p) c≠0):aj b p=(0,i,dD (i-p) c):=by
 have hl:=h.le;have hs:=h.sc;rw [rW hc] at hs;unfold dD at he⊢;unfold aj;rw [hs,o9]
 split
 ·rename_i h1;simp [h1];omega
 ·rename_i h1
  split
  ·rename_i h2;simp [h2];omega
  ·rename_i h2;exact absurd (by rw [if_neg h1,if_neg h2]) he
theorem EN.whole (h:EN b p i v) (hc:b[i]? =some c) (he:dD (i-p) c=0) (hw:c.toNat<128):aj b p=(v+c.toNat%128*128^(i-p),i+1,0):=by
 have hl:=h.le;have hs:=h.sc;rw [rW hc] at hs;have ht:=h.taken hc;unfold dD at he
 split at he
 ·cases he
 ·rename_i h1
  split at he
  ·cases he
  ·rename_i h2;rw [o9,if_neg h1,if_neg h2,if_pos hw] at hs;unfold aj;rw [hs];simp only [if_true];rw [show i-p+1=i+1-p by omega,ht,show p+(i+1-p)=i+1 by omega]
theorem EN.next (h:EN b p i v) (hc:b[i]? =some c) (he:dD (i-p) c=0) (hw:¬c.toNat<128):EN b p (i+1) (v+c.toNat%128*128^(i-p)):=by
 have hl:=h.le;have h9:=h.k9;have hs:=h.sc;rw [rW hc] at hs;have ht:=h.taken hc;have hm:c.toNat%128<128:=Nat.mod_lt _ (by omega);unfold dD at he
 split at he
 ·cases he
 ·rename_i h1
  split at he
  ·cases he
  ·rename_i h2;rw [o9,if_neg h1,if_neg h2,if_neg hw] at hs;refine⟨by omega,by omega,by rw [hs,show i-p+1=i+1-p by omega],ht.symm,?_⟩;have hv:=h.ltv;rw [show i+1-p=(i-p)+1 by omega,Nat.pow_succ];have h7:c.toNat%128*128^(i-p)≤127*128^(i-p):=Nat.mul_le_mul_right _ (by omega);omega
theorem EN.short (h:EN b p i v) (hi:i=b.length):aj b p=(0,i,11):=by
 have hl:=h.le;have hs:=h.sc;rw [List.drop_of_length_le (i:=i) (by omega)] at hs;unfold aj;rw [hs,show dY (i-p) []=(11,i-p) from rfl];rw [if_neg (by simp),show p+(i-p)=i by omega]
end
theorem jU (F:Nat→Prop) (A:Option Addr) (n c p:Nat) (b:List UInt8) (w:World) (h:Rd w F 1 A n (aK b)) (hn:n=b.length) (hp:p≤n) (hn2:n≤1152921504606):
  Calls prog 160 #[.slice A n c,.int .i64 p] w fun e w'=>e= .returned (.tuple #[.int .u64 (aj b p).1,.int .i64 (aj b p).2.1,.int .i64 (aj b p).2.2])∧Below w.heap.size w w':=by
 have HR:=aa h;have HN:=aa hn;clear h hn;refine letter fun vr HV=> ?_;refine letter fun R HRR=> ?_;have hpn:¬((n:Int)<(p:Int)):=by omega
 have hnp:decide (n<p)=false:=decide_eq_false (by omega);go_enter func160,ntmps160
 go_wp2;go_step3
 go_wp2;go_step3
 obtain⟨w1,hw1⟩:∃W,W=w.alloc (.cells #[.int .u64 0,.int .i64 0,.int .i64 0] 281):=⟨_,rfl⟩;rw [←hw1];have HT0:Hid (tT w1 w.heap.size 0 0 0):=aa (by rw [hw1];exact ai.new _ _ _);have HB1:Hid (Below w.heap.size w w1):=aa (by rw [hw1];exact(Below.refl _ _).alloc (Nat.le_refl _) _);clear hw1;go_wp2
 go_loopg [8] (n-p) (fun g' iv wz=>∃(i v:Nat),g'=n-i∧i≤n∧iv= .int .i64 i∧EN b p i v∧tT wz w.heap.size v (i-p) 0∧ag (fun g=>g=w.heap.size) w1 wz)
 case atStart=>exact⟨p,0,rfl,hp,rfl,EN.start _ _,by rw [Nat.sub_self];exact HT0,ag.refl _ _⟩
 case round=>
  obtain⟨i,v,hg,hi,rfl,hat,htk,hc⟩:=hrel;have HG:=aa hg;have HA:=aa hat;have HK:=aa htk;have HC:=aa hc;have uB:Hid (Below w.heap.size w wr):=aa (HB1.out.trans (hc.below_of HB1.size (fun g hg e=>by have e:g=w.heap.size:=e;omega)));clear hg hat htk hc
  by_cases hlt:i<n
  ·have hlt':(i:Int)<(n:Int):=by omega
   have hin:¬((i:Int)=(n:Int)):=by omega
   obtain⟨bb,o,u,rfl,_,hx,hcell⟩:=(HR.out.below uB).at_ hlt;obtain⟨x,hx2,rfl⟩:=gH hx;have HX:=aa hx2;simp only [bv] at hcell;clear hx hx2;obtain⟨eE,WC⟩:∃eE,eE=dD (i-p) x:=⟨_,rfl⟩;obtain⟨wb,hwb⟩:∃wb,wb=decide (dD (i-p) x=0∧x.toNat<128):=⟨_,rfl⟩;have HE:=aa WC;have HW:=aa hwb;clear WC hwb
   by_cases he:eE=0
   ·subst he
    cases wb with
    |true=>
     have X9:Hid (x.toNat<128):=aa (of_decide_eq_true HW.out.symm).2;obtain⟨v2,hv2⟩:∃v2,v2=v+x.toNat%128*128^(i-p):=⟨_,rfl⟩;have CE:=aa hv2;clear hv2;go_wp2_with (go_at_call 131;go_loud (refine(pX w.heap.size v (i-p) x wr HK HA.k9 HA.ltv).mono ?_);rintro e w2 ⟨rfl,hc2,ht2⟩;rw [←HW.out,←HE.out];have z0:w2.cell? ⟨w.heap.size,0,none⟩=some (.int .u64 v2):=(by rw [CE.out];exact(ht2 HE.out.symm).cell 0);have bI:=aa hc2;clear hc2 ht2)
     simp only [Exit.noGoto];go_ret3
     rw [HRR.out];rw [HV.out,HA.out.whole HX.out HE.out.symm X9.out,←CE.out]
     exact⟨rfl,uB.out.trans (bI.below_of uB.size (fun g hg e=>by have e:g=w.heap.size:=e;omega))⟩
    |false=>
     have X9:Hid (¬x.toNat<128):=aa (fun h=>of_decide_eq_false HW.out.symm ⟨HE.out.symm,h⟩);go_wp2_with (go_at_call 131;go_loud (refine(pX w.heap.size v (i-p) x wr HK HA.k9 HA.ltv).mono ?_);rintro e w2 ⟨rfl,hc2,ht2⟩;rw [←HW.out,←HE.out];have bI:=aa hc2;have HT2:=aa (ht2 HE.out.symm);clear hc2 ht2)
     go_roundg (n-(i+1))
     case measure=>have:=HG.out;omega
     case rel=>
      have hl:=HA.out.le;have ht:=HT2.out;rw [if_neg X9.out,show i-p+1=i+1-p by omega] at ht
      exact⟨i+1,_,rfl,by omega,by go_num,HA.next HX HE.out.symm X9,ht,HC.out.trans bI (fun _ _ h=>h)⟩
   ·have hwf:wb=false:=by rw [HW.out];exact decide_eq_false (fun h=>he (by rw [HE.out];exact h.1))
    subst hwf;go_wp2_with (go_at_call 131;go_loud (refine(pX w.heap.size v (i-p) x wr HK HA.k9 HA.ltv).mono ?_);rintro e w2 ⟨rfl,hc2,ht2⟩;rw [←HW.out,←HE.out];have bI:=aa hc2;clear hc2 ht2)
    simp only [Exit.noGoto];go_ret3
    rw [HRR.out];rw [HV.out,HA.out.bad HX.out (by rw [←HE.out];exact he),←HE.out]
    exact⟨rfl,uB.out.trans (bI.below_of uB.size (fun g hg e=>by have e:g=w.heap.size:=e;omega))⟩
  ·have hin:i=n:=by omega
   subst hin;go_wp2;simp only [Exit.noGoto];go_ret3
   rw [HRR.out];rw [HV.out,HA.out.short HN.out];exact⟨rfl,uB⟩
end
section
open Go.Proofs.Tryz
open Go.RowKit
def kK (prev b:List UInt8) (p:Nat) (w:World) (e:Ending) (w':World):Prop:=
 ∃K kn kc V vn vc,e= .returned (.tuple #[.agg #[.slice K kn kc,.slice V vn vc],.int .i64 (pread prev b p).next,.int .i64 (pread prev b p).err])∧((pread prev b p).err=0→SB w' (From w.heap.size) (.slice K kn kc) (pread prev b p).key∧SB w' (From w.heap.size) (.slice V vn vc) (pread prev b p).val)∧Below w.heap.size w w'
def Em (b:List UInt8) (p:Nat):Nat→Nat
 |0=>p
 |i+1=>(aj b (Em b p i)).2.1
def JD (b:List UInt8) (p i:Nat):Nat:=(aj b (Em b p i)).1
def BX (b:List UInt8) (p i:Nat):Int:=(aj b (Em b p i)).2.2
theorem En (b:List UInt8) (p:Nat) (hp:p≤b.length):∀i,Em b p i≤b.length
 |0=>hp
 |i+1=>(fV b _ (En b p hp i)).2
theorem Eo (b:List UInt8) (p i:Nat):JD b p i<18446744073709551616:=Ep _ _
def rP (b:List UInt8) (p i:Nat):Array Value:= #[.int .u64 ((if 0<i then JD b p 0 else 0:Nat)),.int .u64 ((if 1<i then JD b p 1 else 0:Nat)),.int .u64 ((if 2<i then JD b p 2 else 0:Nat))]
theorem Es (b:List UInt8) (p i:Nat) (hi:i<3):(rP b p i).setIfInBounds i (.int .u64 (JD b p i))=rP b p (i+1):=by
 match i,hi with
 |0,_=>rfl
 |1,_=>rfl
 |2,_=>rfl
theorem Io (b:List UInt8) (p i:Nat) (hi:i<3):∃x,(rP b p i)[i]? =some x:=by
 match i,hi with
 |0,_=>exact⟨_,rfl⟩
 |1,_=>exact⟨_,rfl⟩
 |2,_=>exact⟨_,rfl⟩
theorem BZ (prev b:List UInt8) (p:Nat):pread prev b p=if BX b p 0≠0 then⟨[],[],Em b p 1,BX b p 0⟩ else if BX b p 1≠0 then⟨[],[],Em b p 2,BX b p 1⟩ else if BX b p 2≠0 then⟨[],[],Em b p 3,BX b p 2⟩ else cZ prev b p (JD b p 0) (JD b p 1) (JD b p 2) (Em b p 3):=rfl
theorem Ip (prev b:List UInt8) (p i:Nat) (hi:i<3) (h:∀j,j<i→BX b p j=0) (he:BX b p i≠0):pread prev b p=⟨[],[],Em b p (i+1),BX b p i⟩:=by
 rw [BZ]
 match i,hi with
 |0,_=>rw [if_pos he]
 |1,_=>rw [if_neg (fun e=>e (h 0 (by omega))),if_pos he]
 |2,_=>rw [if_neg (fun e=>e (h 0 (by omega))),if_neg (fun e=>e (h 1 (by omega))),if_pos he]
noncomputable def Z9:Code:=aP (f161.body.bind (fC 0))
theorem Sk (F:Nat→Prop) (q q9 Et m d p:Nat) (B:Option Addr) (b:List UInt8) (w:World) {u0 u2 u3 u4 u5 u7 u8 u12 u13 bN bq u16 u17 bC bD u20 u21 u22 u23 u24 u25 u26 u27 u28 u29 u31 u32 u33 u34 u35 u36 u37 u38 dh u40 bX u42 bY u44 u45 u46 di u48 u49 bV u51 u52 u53 bW u55 dz dB u58 u59 u60 dH dG u63 u64 dO u66 dU u68 u69 u70 dV u72 u73 dP u75 eQ eU eX eY eZ fo fq fu fw fE iO jM jC jD lN lQ lS u93 qp qw qy qz qE qF ig ik il iq gQ u105 qG qH qI qJ qK qL qM qN qO qP qQ qR qT u119 qU qV qW qX u124 qY qZ u127 og oh ol u131 om oq ou ow oz oC u138 u139 oD oF oG oH oI oJ oK yc Iq Ir Iu Iv u152 Iw u154:Value} (Q:Exit→Act→World→Prop)
  (hB:Hid (Rd w F 1 B m (aK b))) (hm:Hid (m=b.length)) (hp:p≤m) (hm2:m≤1152921504606)
  (H6:Hid (ai w q 57 #[.slice none 0 0,.slice none 0 0])) (H9:Hid (ai w q9 57 #[.slice none 0 0,.slice none 0 0])) (H10:Hid (ai w Et 306 #[.int .u64 0,.int .u64 0,.int .u64 0])) (hF:Hid (∀b,F b→b<q∧b<q9∧b<Et)) (hq:q≠q9∧q≠Et∧q9≠Et)
  (au:∀(v7 v8 v12 v13 v14 v15 v30 v31 v32 v33 v34 v35 v36 v37 v38 v39 v40 v41 v42 v43 v44 v45 v46 v47 v48 v49:Value) (w':World),(∀j,j<3→BX b p j=0)→ai w' q 57 #[.slice none 0 0,.slice none 0 0]→ai w' q9 57 #[.slice none 0 0,.slice none 0 0]→ai w' Et 306 (rP b p 3)→ag (fun b=>b=Et) w w'→Q (.exit 0) ⟨(u0:: .slice B m d::u2::u3::u4::u5:: .pointer (some ⟨q,0,none⟩)::v7::v8:: .pointer (some ⟨q9,0,none⟩):: .pointer (some ⟨Et,0,none⟩):: .int .i64 (Em b p 3:Nat)::v12::v13::v14::v15::u16::u17::bC::bD::u20::u21::u22::u23::u24::u25::u26::u27::u28::u29::v30::v31::v32::v33::v34::v35::v36::v37::v38::v39::v40::v41::v42::v43::v44::v45::v46::v47::v48::v49::bV::u51::u52::u53::bW::u55::dz::dB::u58::u59::u60::dH::dG::u63::u64::dO::u66::dU::u68::u69::u70::dV::u72::u73::dP::u75::eQ::eU::eX::eY::eZ::fo::fq::fu::fw::fE::iO::jM::jC::jD::lN::lQ::lS::u93::qp::qw::qy::qz::qE::qF::ig::ik::il::iq::gQ::u105::qG::qH::qI::qJ::qK::qL::qM::qN::qO::qP::qQ::qR::qT::u119::qU::qV::qW::qX::u124::qY::qZ::u127::og::oh::ol::u131::om::oq::ou::ow::oz::oC::u138::u139::oD::oF::oG::oH::oI::oJ::oK::yc::Iq::Ir::Iu::Iv::u152::Iw::u154:: []).toArray,[]⟩ w')
  (hret:∀(v11 v12 v13 v14 v15 v30 v31 v32 v33 v34 v35 v36 v37 v38 v39 v40 v41 v42 v43 v44 v45 v46 v47 v48 v49:Value) (i:Nat) (xn:Nat) (xe:Int) (w':World),i<3→(∀j,j<i→BX b p j=0)→BX b p i≠0→xn=Em b p (i+1)→xe=BX b p i→ai w' q 57 #[.slice none 0 0,.slice none 0 0]→ag (fun b=>b=Et∨b=q) w w'→Q .ret ⟨(u0:: .slice B m d::u2::u3::u4::u5:: .pointer (some ⟨q,0,none⟩):: .int .i64 xn:: .int .i64 xe:: .pointer (some ⟨q9,0,none⟩):: .pointer (some ⟨Et,0,none⟩)::v11::v12::v13::v14::v15::u16::u17::bC::bD::u20::u21::u22::u23::u24::u25::u26::u27::u28::u29::v30::v31::v32::v33::v34::v35::v36::v37::v38::v39::v40::v41::v42::v43::v44::v45::v46::v47::v48::v49::bV::u51::u52::u53::bW::u55::dz::dB::u58::u59::u60::dH::dG::u63::u64::dO::u66::dU::u68::u69::u70::dV::u72::u73::dP::u75::eQ::eU::eX::eY::eZ::fo::fq::fu::fw::fE::iO::jM::jC::jD::lN::lQ::lS::u93::qp::qw::qy::qz::qE::qF::ig::ik::il::iq::gQ::u105::qG::qH::qI::qJ::qK::qL::qM::qN::qO::qP::qQ::qR::qT::u119::qU::qV::qW::qX::u124::qY::qZ::u127::og::oh::ol::u131::om::oq::ou::ow::oz::oC::u138::u139::oD::oF::oG::oH::oI::oJ::oK::yc::Iq::Ir::Iu::Iv::u152::Iw::u154:: []).toArray,[]⟩ w'):
  Code.wp prog Z9 Q ⟨(u0:: .slice B m d::u2::u3::u4::u5:: .pointer (some ⟨q,0,none⟩)::u7::u8:: .pointer (some ⟨q9,0,none⟩):: .pointer (some ⟨Et,0,none⟩):: .int .i64 p::u12::u13::bN::bq::u16::u17::bC::bD::u20::u21::u22::u23::u24::u25::u26::u27::u28::u29:: .int .i64 0::u31::u32::u33::u34::u35::u36::u37::u38::dh::u40::bX::u42::bY::u44::u45::u46::di::u48::u49::bV::u51::u52::u53::bW::u55::dz::dB::u58::u59::u60::dH::dG::u63::u64::dO::u66::dU::u68::u69::u70::dV::u72::u73::dP::u75::eQ::eU::eX::eY::eZ::fo::fq::fu::fw::fE::iO::jM::jC::jD::lN::lQ::lS::u93::qp::qw::qy::qz::qE::qF::ig::ik::il::iq::gQ::u105::qG::qH::qI::qJ::qK::qL::qM::qN::qO::qP::qQ::qR::qT::u119::qU::qV::qW::qX::u124::qY::qZ::u127::og::oh::ol::u131::om::oq::ou::ow::oz::oC::u138::u139::oD::oF::oG::oH::oI::oJ::oK::yc::Iq::Ir::Iu::Iv::u152::Iw::u154:: []).toArray,[]⟩ w:=by
 have dF:=aa au;have Vs:=aa hret;have HQ:=aa hq;clear au hret hq;conv=>arg 2;whnf
 go_loopg [11,30] 3 (fun g' pv iv wz=>∃i:Nat,g'=3-i∧i≤3∧pv= .int .i64 (Em b p i)∧iv= .int .i64 i∧Hid (∀j,j<i→BX b p j=0)∧Hid (ai wz Et 306 (rP b p i))∧Hid (ag (fun b=>b=Et) w wz))
 case atStart=>exact⟨0,rfl,Nat.zero_le _,rfl,rfl,aa (fun j hj=>absurd hj (by omega)),aa (by have:=H10.out;exact this),aa (ag.refl _ _)⟩
 case round=>
  obtain⟨i,hg,hi,rfl,rfl,HE,VX,HC⟩:=hrel;have HG:=aa hg;clear hg
  by_cases hi3:i<3
  ·obtain⟨P,hP⟩:∃P,P=Em b p i:=⟨_,rfl⟩;have HP:=aa hP;have hPm:P≤m:=by rw [hP,hm.out];exact En b p (by have:=hm.out;omega) i
   rw [←hP];have Dt:Hid (Rd wr F 1 B m (aK b)):=aa (hB.out.chg HC (fun b hb e=>by have:=(hF.out b hb).2.2;omega));have HV:=aa (jU F B m d P b wr Dt hm.out hPm hm2);obtain⟨X,hX⟩:∃X,X=(aj b P).1:=⟨_,rfl⟩;obtain⟨P2,hP2⟩:∃P2,P2=(aj b P).2.1:=⟨_,rfl⟩;obtain⟨E,hE⟩:∃E,E=(aj b P).2.2:=⟨_,rfl⟩;have HX:Hid (X=JD b p i):=aa (by rw [hX,hP];rfl);have HP2:Hid (P2=Em b p (i+1)):=aa (by rw [hP2,hP];rfl);have Ub:Hid (E=BX b p i):=aa (by rw [hE,hP];rfl);rw [←hX,←hP2,←hE] at HV;have lg:Hid (ai wr q 57 #[.slice none 0 0,.slice none 0 0]):=aa (H6.chg HC (fun e=>HQ.2.1 e));have xm:Hid (ai wr q9 57 #[.slice none 0 0,.slice none 0 0]):=aa (H9.chg HC (fun e=>HQ.2.2 e));clear hP hX hP2 hE;go_upto_region 10 with(go_at_call 160;go_loud (refine HV.mono ?_);rintro e w2 ⟨rfl,hC2⟩;have bI:=aa hC2;clear hC2)
   have MM:Hid (ai w2 q 57 #[.slice none 0 0,.slice none 0 0]):=aa (lg.below bI);have VY:Hid (ai w2 q9 57 #[.slice none 0 0,.slice none 0 0]):=aa (xm.below bI);have MN:Hid (ai w2 Et 306 (rP b p i)):=aa (VX.below bI)
   by_cases h0:E=0
   ·have H0:Hid (BX b p i=0):=aa (by rw [←Ub.out];exact h0);subst h0;obtain⟨x,hx⟩:=Io b p i hi3;have z10:w2.cell? ⟨Et,i,none⟩=some x:=(MN.out.cell i).trans hx;have ak0:=MN.out.frozen i;have aa0:(i:Int)<3:=by omega
    clear hx;go_wp2
    go_roundg (3-(i+1))
    case measure=>have:=HG.out;omega
    case rel=>
     refine⟨i+1,rfl,by omega,by rw [HP2.out],by go_num,aa (fun j hj=> ?_),aa ?_,aa ?_⟩
     ·rcases Nat.lt_or_ge j i with h|h
      ·exact HE j h
      ·have:j=i:=by omega
       subst this;exact H0
     ·have:=MN.out.set_ i (.int .u64 X);rw [HX.out,Es b p i hi3] at this;rw [HX.out]
      exact this
     ·exact(HC.then bI).setCell (p:=⟨Et,i,none⟩) (fun _=>rfl) _
   ·have H0:Hid (BX b p i≠0):=aa (by rw [←Ub.out];exact h0);have h0':(E==0)=false:=by rw [beq_eq_false_iff_ne];exact h0
    have z90:w2.cell? ⟨q9,0,none⟩=some (.slice none 0 0):=VY.out.cell 0;have z91:w2.cell? ⟨q9,1,none⟩=some (.slice none 0 0):=VY.out.cell 1;have z60:w2.cell? ⟨q,0,none⟩=some (.slice none 0 0):=MM.out.cell 0;have z61:w2.cell? ⟨q,1,none⟩=some (.slice none 0 0):=MM.out.cell 1;have ak1:=MM.out.frozen 0;have ak2:=MM.out.frozen 1;go_wp2;refine Vs _ _ _ _ _ _ _ _ _ _ _ _ _ _ _ _ _ _ _ _ _ _ _ _ _ i P2 E _ hi3 HE H0 HP2 Ub ((MM.set_ 0 (.slice none 0 0)).set_ 1 (.slice none 0 0)) ?_
    exact(((HC.mono (fun b _ e=> .inl e)).then bI).setCell (p:=⟨q,0,none⟩) (fun _=> .inr rfl) _).setCell (p:=⟨q,1,none⟩) (fun _=> .inr rfl) _
  ·have aa0:¬((i:Int)<3):=by omega
   have aa1:i=3:=by omega
   subst aa1;go_wp2;exact dF _ _ _ _ _ _ _ _ _ _ _ _ _ _ _ _ _ _ _ _ _ _ _ _ _ _ _ HE (H6.chg HC (fun e=>HQ.2.1 e)) (H9.chg HC (fun e=>HQ.2.2 e)) VX HC
end
end Go.Proofs.YtbjgeidjmhialaaGreatDoor
