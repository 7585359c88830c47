/- Part 20. -/
import Derived.Test.YtbjgeidjmhialaaGreatDoorLa19
namespace Go.Proofs.YtbjgeidjmhialaaGreatDoor
set_option maxRecDepth 100000
set_option maxHeartbeats 8000000
section
open Go.Proofs.Tryz
open Go.RowKit
open Go.Lib (compareBytes)
def kz (w:World) (F:Nat→Prop) (A:Option Addr) (n:Nat) (l:List Row):Prop:=
 Hid (n=l.length)∧∃vs,Rd w F 4 A n vs∧∀(i:Nat) (x:Row),l[i]? =some x→∃u,vs[i*4]? =some u∧vs[i*4+1]? =some (.int .i64 x.at_)∧vs[i*4+2]? =some (.int .i64 x.len)∧vs[i*4+3]? =some (.int .i64 x.ents)∧SB w F u x.last
section
variable {S F G:Nat→Prop} {w w':World} {A:Option Addr} {n:Nat} {l:List Row}
theorem kz.len (h:kz w F A n l):n=l.length:=h.1
theorem kz.weak (h:kz w F A n l) (hF:∀b,F b→G b):kz w G A n l:=
 let⟨h1,vs,h2,h3⟩:=h;⟨h1,vs,h2.weak hF,fun i e he=>let⟨u,a,b,c,d,s⟩:=h3 i e he;⟨u,a,b,c,d,s.weak hF⟩⟩
theorem kz.chg (h:kz w F A n l) (hc:ag S w w') (hs:∀b,F b→¬S b):kz w' F A n l:=
 let⟨h1,vs,h2,h3⟩:=h;⟨h1,vs,h2.chg hc hs,fun i e he=>let⟨u,a,b,c,d,s⟩:=h3 i e he;⟨u,a,b,c,d,s.chg hc hs⟩⟩
theorem kz.below (h:kz w F A n l) (hb:Below w.heap.size w w'):kz w' F A n l:=h.chg (ag.of_below (S:=Nil) hb) (fun _ _ hf=>hf)
theorem kz.drewN (h:kz w F A n l) (k:Nat):kz (w.drewN k) F A n l:=h.chg ((ag.refl Nil w).drewN k) (fun _ _ hf=>hf)
theorem kz.at_ {k:Nat} (h:kz w F A n l) (hk:k<n):∃b o L ln lc x,A=some ⟨b,o,none⟩∧F b∧l[k]? =some x∧w.cell? ⟨b,o+k*4,none⟩=some (.slice L ln lc)∧w.cell? ⟨b,o+k*4+1,none⟩=some (.int .i64 x.at_)∧w.cell? ⟨b,o+k*4+2,none⟩=some (.int .i64 x.len)∧w.cell? ⟨b,o+k*4+3,none⟩=some (.int .i64 x.ents)∧SB w F (.slice L ln lc) x.last:=by
 obtain⟨h1,vs,h2,h3⟩:=h;have hl:k<l.length:=by have:n=l.length:=h1;omega
 obtain⟨b,o,hA,hF,hc⟩:=h2.2 (by omega);obtain⟨u,a0,a1,a2,a3,s⟩:=h3 k l[k] (List.getElem?_eq_getElem hl);obtain⟨L,ln,lc,rfl,s1⟩:=s;have c0:=hc _ _ a0;have c1:=hc _ _ a1;have c2:=hc _ _ a2;have c3:=hc _ _ a3;rw [←Nat.add_assoc] at c1 c2 c3;exact⟨b,o,L,ln,lc,l[k],hA,hF,List.getElem?_eq_getElem hl,c0,c1,c2,c3,⟨L,ln,lc,rfl,s1⟩⟩
end
theorem o8 {l:List Row} {i:Nat} {x:Row} (h:l[i]? =some x):aW (l.take (i+1))=aW (l.take i)+x.ents:=by
 unfold aW;rw [List.take_add_one,h];simp
theorem j3 {l:List Row} (h:∀x∈l,x.ents≤64):∀i,aW (l.take i)≤64*i
 |0=>by simp [aW]
 |i+1=>by
  have ih:=j3 h i
  cases hx:l[i]? with
  |none=>rw [List.take_add_one,hx];simp;omega
  |some x=>rw [o8 hx];have:=h x (List.mem_of_getElem? hx);omega
theorem DF (F:Nat→Prop) (A:Option Addr) (n c:Nat) (l:List Row) (w:World) (h:kz w F A n l) (hn:n≤8388608) (he:∀x∈l,x.ents≤64):
  Calls prog 155 #[.slice A n c] w fun e w'=>e= .returned (.int .i64 (aW l))∧Below w.heap.size w w':=by
 refine letter fun R HR=> ?_;have HH:=aa h;have HN:Hid (n=l.length):=h.len;have HE:=aa he;clear h he;go_enter func155,ntmps155
 go_wp2
 go_loopw [3,8] (fun sv iv wz=>∃i:Nat,i≤n∧iv= .int .i64 i∧sv= .int .i64 (aW (l.take i))∧Hid (Below w.heap.size w wz)) (fun _ iv _=>n-(intOf iv).toNat)
 case atStart=>exact⟨0,Nat.zero_le _,rfl,by simp [aW],aa (Below.refl _ _)⟩
 case round=>
  obtain⟨i,hi,rfl,rfl,HB⟩:=hrel
  by_cases hlt:i<n
  ·have hlt':(i:Int)<(n:Int):=by omega
   obtain⟨b,o,L,ln,lc,x,rfl,_,hx,c0,c1,c2,c3,s⟩:=(HH.out.below HB).at_ hlt;have HT:Hid (aW (l.take (i+1))=aW (l.take i)+x.ents):=aa (o8 hx);obtain⟨t,ht⟩:∃t,t=aW (l.take i):=⟨_,rfl⟩;have htl:t≤64*i:=by rw [ht];exact j3 HE i
   have hxe:x.ents≤64:=HE.out x (List.mem_of_getElem? hx);rw [←ht] at HT⊢;clear ht hx s;go_wp2
   go_roundw
   case rel=>exact⟨i+1,by omega,by go_num,by rw [HT.out];go_num,aa (HB.alloc HB.size _)⟩
   case measure=>simp [intOf];omega
  ·have hlt':¬((i:Int)<(n:Int)):=by omega
   have hie:i=n:=by omega
   have HT:Hid (aW (l.take i)=aW l):=aa (by rw [hie,HN.out,List.take_length]);clear hie;go_wp2;rw [HR.out];exact⟨by rw [HT.out],HB⟩
theorem Ce (F:Nat→Prop) (A:Option Addr) (n c:Nat) (l:List Row) (w:World) (h:kz w F A n l) (hn:n≤8388608) (he:∀x∈l,x.ents≤64):
  Calls prog 119 #[.slice A n c] w fun e w'=>e= .returned (.int .i64 (aW l))∧w=w':=by
 refine letter fun R HR=> ?_;have HH:=aa h;have HN:Hid (n=l.length):=h.len;have HE:=aa he;clear h he;go_enter func119,ntmps119
 go_wp2
 go_loop [3,4] (fun sv iv=>∃i:Nat,i≤n∧iv= .int .i64 i∧sv= .int .i64 (aW (l.take i))) (fun _ iv=>n-(intOf iv).toNat)
 case atStart=>exact⟨0,Nat.zero_le _,rfl,by simp [aW]⟩
 case round=>
  obtain⟨i,hi,rfl,rfl⟩:=hrel
  by_cases hlt:i<n
  ·have hlt':(i:Int)<(n:Int):=by omega
   obtain⟨b,o,L,ln,lc,x,rfl,_,hx,c0,c1,c2,c3,s⟩:=HH.out.at_ hlt;have HT:Hid (aW (l.take (i+1))=aW (l.take i)+x.ents):=aa (o8 hx);obtain⟨t,ht⟩:∃t,t=aW (l.take i):=⟨_,rfl⟩;have htl:t≤64*i:=by rw [ht];exact j3 HE i
   have hxe:x.ents≤64:=HE.out x (List.mem_of_getElem? hx);rw [←ht] at HT⊢;clear ht hx s;go_wp2
   go_round
   case rel=>exact⟨i+1,by omega,by go_num,by rw [HT.out];go_num⟩
   case measure=>simp [intOf];omega
  ·have hlt':¬((i:Int)<(n:Int)):=by omega
   have hie:i=n:=by omega
   have HT:Hid (aW (l.take i)=aW l):=aa (by rw [hie,HN.out,List.take_length]);clear hie;go_wp2;rw [HR.out];exact⟨by rw [HT.out],rfl⟩
end
section
open Go.Proofs.Tryz
open Go.RowKit
theorem aJ {n:Nat} (h:n<18446744073709551616):(aG n).length≤10:=kQ n 9 (by omega)
theorem OA {x:Row} (hk:x.last.length≤64) (h1:x.at_<18446744073709551616) (h2:x.len<18446744073709551616) (h3:x.ents<18446744073709551616):x.bytes.length≤104:=by
 unfold Row.bytes;simp only [List.length_append];have a1:=aJ (n:=x.last.length) (by omega);have a2:=aJ h1;have a3:=aJ h2;have a4:=aJ h3;omega
theorem ru {l:List Row} {i:Nat} {x:Row} (h:l[i]? =some x):(l.take (i+1)).flatMap Row.bytes=(l.take i).flatMap Row.bytes++x.bytes:=by
 rw [List.take_add_one,h];simp
theorem tQ {l:List Row} (h:∀x∈l,x.bytes.length≤104):∀i,((l.take i).flatMap Row.bytes).length≤104*i
 |0=>by simp
 |i+1=>by
  have ih:=tQ h i
  cases hx:l[i]? with
  |none=>rw [List.take_add_one,hx];simp only [Option.toList_none,List.append_nil];omega
  |some x=>rw [ru hx,List.length_append];have:=h x (List.mem_of_getElem? hx);omega
structure mO (l:List Row):Prop where
 many:l.length≤8388608
 key:∀x∈l,x.last.length≤64
 at_:∀x∈l,x.at_≤1152921504606
 len:∀x∈l,x.len≤131072
 ents:∀x∈l,x.ents≤64
theorem mO.bytes {l:List Row} (h:mO l):∀x∈l,x.bytes.length≤104:=fun x hx=>OA (h.key x hx) (by have:=h.at_ x hx;omega) (by have:=h.len x hx;omega) (by have:=h.ents x hx;omega)
def TY (l:List Row) (w:World) (e:Ending) (w':World):Prop:=∃v,e= .returned (.tuple #[v,.int .i64 0,.int .i64 0])∧Ow w' w.heap.size v (aT l)∧Below w.heap.size w w'
theorem AX.below {w w':World} {bs:List UInt8} {e:Ending} (h:AX w w.heap.size bs e w'):∃A n c,e= .returned (.slice A n c)∧n≤c∧c≤maxLen∧n=bs.length∧Ow w' w.heap.size (.slice A n c) bs∧Below w.heap.size w w':=by
 obtain⟨v,rfl,ho,hc⟩:=h;obtain⟨A,n,c,rfl,h1,h2,h3,_⟩:=ho.sb;exact⟨A,n,c,rfl,h1,h2,h3,ho,hc.below_of (Nat.le_refl _) (fun b hb e=>by have e:w.heap.size≤b:=e;omega)⟩
theorem DD (F:Nat→Prop) (A:Option Addr) (n c:Nat) (l:List Row) (w:World) (h:kz w F A n l) (hf:mO l) (hF:∀b,F b→b<w.heap.size)
  (hc:Calls prog 152 #[.slice A n c] w fun e w'=>e= .returned (.tuple #[.int .i64 0,.int .i64 0])∧Below w.heap.size w w'):
  Calls prog 127 #[.slice A n c] w (TY l w):=by
 obtain⟨i0,hi0,hz0,hz1,hz2⟩:=info_parts dK;refine letter fun R HR=> ?_;have HH:=aa h;have HN:Hid (n=l.length):=h.len;have HF:=aa hf;have Nw:=aa hF;have Rj:=aa hc;have hn:n≤8388608:=by have:=HN.out;have:=hf.many;omega
 clear h hf hc hF;go_enter func127,ntmps127
 go_upto_region 4 with(go_at_call 152;go_loud (refine Rj.mono ?_);rintro e w1 ⟨rfl,hb1⟩;have HB1:=aa hb1;clear hb1)
 have Vo:=aa (oU w1.heap.size n w1 (by omega) (Nat.le_refl _));go_wp2_with (go_at_call 153;go_loud (refine Vo.mono ?_);intro e w2 hE;obtain⟨V,vn,vc,rfl,q1,q2,q3,q4,q5⟩:=hE.below;have HV:=aa q4;have HB2:=aa q5;clear hE q1 q2 q3 q4 q5)
 go_loopw [7,25] (fun bv iv wz=>∃i:Nat,i≤n∧iv= .int .i64 i∧Hid (Ow wz w.heap.size bv (aG n++(l.take i).flatMap Row.bytes))∧Hid (Below w.heap.size w wz)) (fun _ iv _=>n-(intOf iv).toNat)
 case atStart=>exact⟨0,Nat.zero_le _,rfl,aa (by have h9:=lV HV HB1.size;unfold Ow;simpa using h9),aa (HB1.out.trans (HB2.mono HB1.size))⟩
 case round=>
  obtain⟨i,hi,rfl,HO,HB⟩:=hrel;obtain⟨bA,bc,hbv,hb1,hb2⟩:=ay HO;obtain⟨B0,hB0⟩:∃B0,B0=aG n++(l.take i).flatMap Row.bytes:=⟨_,rfl⟩;have HB0:=aa hB0
  have hbl:B0.length≤10+104*i:=by
   rw [hB0,List.length_append];have h1:=aJ (n:=n) (by omega);have h2:=tQ HF.bytes i;omega
  rw [←hB0] at HO hbv;obtain⟨bn,hbn⟩:∃bn,bn=B0.length:=⟨_,rfl⟩;rw [←hbn] at hbv hbl;have xk:=aa hbn;subst hbv;clear hB0 hb1 hb2 hbn
  by_cases hlt:i<n
  ·have hlt':(i:Int)<(n:Int):=by omega
   obtain⟨g,o,L,ln,lc,x,rfl,_,hx,c0,c1,c2,c3,s⟩:=(HH.out.below HB).at_ hlt;have hxm:=List.mem_of_getElem? hx;have HT:Hid ((l.take (i+1)).flatMap Row.bytes=(l.take i).flatMap Row.bytes++x.bytes):=aa (ru hx);obtain⟨s1,s2,s3,s4⟩:=s.parts;have HS:=aa s;have jv:=aa s3;have Y4:ln≤64:=by have:=HF.out.key x hxm;omega
   have hat:x.at_≤1152921504606:=HF.out.at_ x hxm;have hle:x.len≤131072:=HF.out.len x hxm;have hen:x.ents≤64:=HF.out.ents x hxm;obtain⟨x9,Ql⟩:∃x9,x9=wr.heap.size:=⟨_,rfl⟩;clear hx hxm s s1 s2 s3 s4;go_upto_region 8 with fail
   obtain⟨w3,hw3⟩:∃W,W=wr.alloc (.cells #[.slice L ln lc,.int .i64 x.at_,.int .i64 x.len,.int .i64 x.ents] 146):=⟨_,rfl⟩;rw [←hw3,←Ql];have HX9:=aa Ql;have HB3:Hid (Below wr.heap.size wr w3):=aa (by rw [hw3];exact(Below.refl _ _).alloc (Nat.le_refl _) _);have jw:Hid (ai w3 x9 146 #[.slice L ln lc,.int .i64 x.at_,.int .i64 x.len,.int .i64 x.ents]):=aa (by rw [hw3,Ql];exact ai.new _ _ _);have ek:=aa HB.size;have y0:w3.cell? ⟨x9,0,none⟩=some (.slice L ln lc):=jw.out.cell 0;have HV8:=aa (oU w3.heap.size ln w3 (by omega) (Nat.le_refl _));have nD:=aa (own_below HO HB3);have ai7:=aJ (n:=ln) (by omega);clear hw3 Ql c0 c1 c2 c3;go_upto_region 9 with(first|(go_at_call 153;go_loud (refine HV8.mono ?_);intro e w4 hE;obtain⟨V4,GK,Vp,rfl,q1,q2,q3,q4,q5⟩:=hE.below;have KN:=aa q4;have dN:=aa q5;have Xk:=aa q3;have h4l:GK≤10:=(by omega);clear hE q1 q2 q3 q4 q5)|(at_builtin;go_loud (refine af _ rfl (.tmp 29) (.tmp 34) _ rfl w.heap.size 5 i0 _ 1 1 underlying24 hi0 hz0 hz1 hz2 rfl (by omega) _ _ (aK B0) rfl (by have h9:=own_below nD dN;rw [←xk.out] at h9;exact h9) (From w3.heap.size) V4 GK Vp (aK (aG ln)) rfl KN.sb.parts.2.2.2 (cO _) (by simp only [maxLen];omega) (by omega) (by have h1:=ek.out;have h2:=HB3.out.size;have h3:=dN.out.size;omega) ?_);intro v5 w5 hown5 hg5 GL;have AY:=aa hown5;have Gu:=aa hg5;have Y5:=aa GL;clear hown5 hg5 GL))
   have yu:ag (fun g=>(Value.slice bA bn bc).ownBlock=some g) wr w5:=((ag.of_below HB3).then dN).trans (ag.of_grown Gu) (fun _ _ h=>h);have zA:Hid (∀g,(Value.slice bA bn bc).ownBlock=some g→w.heap.size≤g∧g<wr.heap.size):=aa (fun g hg=>ah HO g hg);have fQ:=aa yu;have kw:Hid (ai w5 x9 146 #[.slice L ln lc,.int .i64 x.at_,.int .i64 x.len,.int .i64 x.ents]):=aa (((jw.below dN)).chg (ag.of_grown Gu) (fun e=>by have h1:=zA.out x9 e;have h2:=HX9.out;omega));have HR5:Hid (Rd w5 F 1 L ln (aK x.last)):=aa ((HS.chg fQ (fun b hb e=>by have h1:=zA.out b e;have h2:=Nw.out b hb;omega)).parts.2.2.2);have TZ:Hid (w.heap.size≤w5.heap.size):=aa (Nat.le_trans ek yu.size);obtain⟨B5,T9⟩:∃B5,B5=B0++aG ln:=⟨_,rfl⟩;have Y6:=aa T9;have RG:Hid (w5.ownsRow w.heap.size 5 1 v5 (bn+GK) (aK B5)):=aa (by have h9:=AY.out;rw [T9];simpa [aK] using h9)
   have oN:Hid (v5.ownBlock≠some x9):=aa (fun e=>by
    rcases Y5.out with h|h
    ·have h1:=zA.out x9 (h▸e);have h2:=HX9.out;omega
    ·rw [h] at e;injection e with e;have h1:=jw.out.lt;have h2:=dN.out.size;omega)
   obtain⟨A5,c5,hv5,_,_⟩:=ay RG;subst hv5;have y0:w5.cell? ⟨x9,0,none⟩=some (.slice L ln lc):=kw.out.cell 0;clear T9 yu;go_upto_region 10 with((at_builtin;go_loud (refine af _ rfl (.tmp 36) (.tmp 38) _ rfl w.heap.size 5 i0 _ 1 1 underlying24 hi0 hz0 hz1 hz2 rfl (by omega) (.slice A5 (bn+GK) c5) _ (aK B5) rfl RG F L ln lc (aK x.last) rfl HR5 (cO _) (by simp only [maxLen];omega) (by omega) TZ ?_);intro v6 w6 hown6 jS iR;have uJ:=aa hown6;have qC:=aa jS;clear hown6 jS iR))
   have Cy:Hid (ai w6 x9 146 #[.slice L ln lc,.int .i64 x.at_,.int .i64 x.len,.int .i64 x.ents]):=aa (kw.chg (ag.of_grown qC) (fun e=>oN e));obtain⟨B6,Ua⟩:∃B6,B6=B5++x.last:=⟨_,rfl⟩;have Y7:=aa Ua;have OC:Hid (w6.ownsRow w.heap.size 5 1 v6 (bn+GK+ln) (aK B6)):=aa (by have h9:=uJ.out;rw [Ua];simpa [aK] using h9);obtain⟨A6,c6,hv6,_,_⟩:=ay OC;subst hv6;have OD:Hid (w.heap.size≤w6.heap.size):=aa (Nat.le_trans TZ (ag.of_grown qC).size);have y1:w6.cell? ⟨x9,1,none⟩=some (.int .i64 x.at_):=Cy.out.cell 1;have y2:w6.cell? ⟨x9,2,none⟩=some (.int .i64 x.len):=Cy.out.cell 2;have y3:w6.cell? ⟨x9,3,none⟩=some (.int .i64 x.ents):=Cy.out.cell 3;obtain⟨w7,hw7⟩:∃W,W=w6.alloc (.cells #[.int .u64 x.at_,.int .u64 x.len,.int .u64 x.ents] 122):=⟨_,rfl⟩;have Qm:Hid (Below w6.heap.size w6 w7):=aa (by rw [hw7];exact(Below.refl _ _).alloc (Nat.le_refl _) _);have HJ:=aa (GM (fun b=>b=w6.heap.size) w7.heap.size (some ⟨w6.heap.size,0,none⟩) 3 3 [x.at_,x.len,x.ents] w7 ⟨rfl,fun _=>⟨_,0,rfl,rfl,fun j u hj=>by rw [hw7,(ai.new w6 _ _).cell];simpa [OE] using hj⟩⟩ (fun b hb=>by have hb:b=w6.heap.size:=hb;rw [hw7,World.size_alloc];omega) (Nat.le_refl _) (fun y hy=>by simp at hy;rcases hy with h|h|h<;>omega) (by omega))
   have hjl:([x.at_,x.len,x.ents].flatMap aG).length≤30:=by
    have a1:=aJ (n:=x.at_) (by omega);have a2:=aJ (n:=x.len) (by omega);have a3:=aJ (n:=x.ents) (by omega);simp;omega
   have Y8:=aa (own_below OC Qm);obtain⟨J,hJ⟩:∃J,J= [x.at_,x.len,x.ents].flatMap aG:=⟨_,rfl⟩;rw [←hJ] at HJ hjl;have HJE:=aa hJ;have HW7:=aa hw7;clear y0 Ua hJ hw7;go_wp2_with (first|(go_at_call 154;rw [←HW7.out];go_loud (refine HJ.mono ?_);intro e w8 hE;obtain⟨V8,Y9,v8c,rfl,q1,q2,q3,q4,q5⟩:=hE.below;have RH:=aa q4;have Za:=aa q5;have h8l:Y9≤30:=(by omega);clear hE q1 q2 q3 q4 q5)|(at_builtin;go_loud (refine af _ rfl (.tmp 40) (.tmp 51) _ rfl w.heap.size 5 i0 _ 1 1 underlying24 hi0 hz0 hz1 hz2 rfl (by omega) (.slice A6 (bn+GK+ln) c6) _ (aK B6) rfl (own_below Y8 Za) (From w7.heap.size) V8 Y9 v8c (aK J) rfl RH.sb.parts.2.2.2 (cO _) (by simp only [maxLen];omega) (by omega) (by have h1:=OD.out;have h2:=Qm.out.size;have h3:=Za.out.size;omega) ?_);intro v9 w9 Qn hg9 Zb;have HO9:=aa Qn;have HG9:=aa hg9;clear Qn hg9 Zb))
   go_roundw
   case rel=>
    refine⟨i+1,by omega,by go_num,aa ?_,aa ?_⟩
    ·have h1:aG n++(l.take (i+1)).flatMap Row.bytes=B6++J:=by
      rw [Y7.out,Y6.out,HB0.out,HJE.out,HT.out];unfold Row.bytes;rw [←jv.out];simp
     rw [h1];have h9:=HO9.out;have h8:=RH.out.1;rw [dM] at h8;unfold Ow
     have h7:bn+GK+ln+Y9=(B6++J).length:=by
      have a1:=OC.out.1;rw [dM] at a1;rw [List.length_append];have a2:=RH.out.sb.parts.2.2.1;omega
     rw [←h7]
     simpa [aK] using h9
    ·have h1:=HB.out.trans (HB3.mono HB.size);have h2:=h1.trans (dN.mono h1.size);have h3:=h2.grown Gu h2.size (fun g hg=>(zA g hg).1);have h4:=h3.grown qC h3.size (fun g hg=>(ah RG g hg).1);have h5:=h4.trans (Qm.mono h4.size);have h6:=h5.trans (Za.mono h5.size)
     exact h6.grown HG9 h6.size (fun g hg=>(ah OC g hg).1)
   case measure=>simp [intOf];omega
  ·have hlt':¬((i:Int)<(n:Int)):=by omega
   have hie:i=n:=by omega
   have E7:Hid (aT l=B0++aG (aW l)):=aa (by
    unfold aT;rw [HB0.out,hie,HN.out,List.take_length])
   have Jy:=aa (j3 HF.ents n);have htl:aW l≤64*n:=by have:=Jy.out;rwa [HN.out,List.take_length,←HN.out] at this
   have HT:=aa (DF F A n c l wr (HH.below HB) hn HF.ents);obtain⟨t,ht⟩:∃t,t=aW l:=⟨_,rfl⟩;rw [←ht] at HT E7 htl;have Zc:=aa (fun(W:World)=>oU W.heap.size t W (by omega) (Nat.le_refl _));have hvl:=aJ (n:=t) (by omega);have ek:=aa HB.size;clear hie ht;go_wp2_with (first|(go_at_call 155;go_loud (refine HT.mono ?_);rintro e w3 ⟨rfl,hb3⟩;have HB3:=aa hb3;have nD:=aa (own_below HO hb3);clear hb3)|(go_at_call 153;go_loud (refine(Zc _).mono ?_);intro e w4 hE;obtain⟨V4,GK,Vp,rfl,q1,q2,q3,q4,q5⟩:=hE.below;have KN:=aa q4;have dN:=aa q5;have h4l:GK≤10:=(by omega);clear hE q1 q2 q3 q4 q5)|(at_builtin;go_loud (refine af _ rfl (.tmp 54) (.tmp 58) _ rfl w.heap.size 5 i0 _ 1 1 underlying24 hi0 hz0 hz1 hz2 rfl (by omega) (.slice bA bn bc) _ (aK B0) rfl (by have h9:=own_below nD dN;rw [←xk.out] at h9;exact h9) (From w3.heap.size) V4 GK Vp (aK (aG t)) rfl KN.sb.parts.2.2.2 (cO _) (by simp only [maxLen];omega) (by omega) (by have h1:=ek.out;have h2:=HB3.out.size;have h3:=dN.out.size;omega) ?_);intro v5 w5 hown5 hg5 GL;have AY:=aa hown5;have Gu:=aa hg5;clear hown5 hg5 GL))
   go_ret3
   rw [HR.out];unfold TY;rw [E7.out]
   refine⟨v5,rfl,?_,?_⟩
   ·have h9:=AY.out;have h8:=KN.out.sb.parts.2.2.1;unfold Ow;rw [List.length_append,←xk.out,←h8]
    simpa [aK] using h9
   ·have h1:=HB.out.trans (HB3.mono HB.size);have h2:=h1.trans (dN.mono h1.size);exact h2.grown Gu h2.size (fun g hg=>(ah HO g hg).1)
end
section
open Go.Proofs.Tryz
open Go.RowKit
theorem Bj (F:Nat→Prop) (A:Option Addr) (n c:Nat) (l:List Row) (w:World) (h:kz w F A n l) (hf:mO l) (hF:∀b,F b→b<w.heap.size)
  (hc:Calls prog 118 #[.slice A n c] w fun e w'=>e= .returned (.tuple #[.int .i64 0,.int .i64 0])∧Below w.heap.size w w'):
  Calls prog 87 #[.slice A n c] w (TY l w):=by
 obtain⟨i0,hi0,hz0,hz1,hz2⟩:=info_parts dK;refine letter fun R HR=> ?_;have HH:=aa h;have HN:Hid (n=l.length):=h.len;have HF:=aa hf;have Nw:=aa hF;have Rj:=aa hc;have hn:n≤8388608:=by have:=HN.out;have:=hf.many;omega
 clear h hf hc hF;go_enter func87,ntmps87
 go_upto_region 4 with(go_at_call 118;go_loud (refine Rj.mono ?_);rintro e w1 ⟨rfl,hb1⟩;have HB1:=aa hb1;clear hb1)
 have Vo:=aa (fH w1.heap.size n w1 (by omega) (Nat.le_refl _));go_wp2_with (go_at_call 114;go_loud (refine Vo.mono ?_);intro e w2 hE;obtain⟨V,vn,vc,rfl,q1,q2,q3,q4,q5⟩:=hE.below;have HV:=aa q4;have HB2:=aa q5;clear hE q1 q2 q3 q4 q5)
 go_loopw [7,8] (fun bv iv wz=>∃i:Nat,i≤n∧iv= .int .i64 i∧Hid (Ow wz w.heap.size bv (aG n++(l.take i).flatMap Row.bytes))∧Hid (Below w.heap.size w wz)) (fun _ iv _=>n-(intOf iv).toNat)
 case atStart=>exact⟨0,Nat.zero_le _,rfl,aa (by have h9:=lV HV HB1.size;unfold Ow;simpa using h9),aa (HB1.out.trans (HB2.mono HB1.size))⟩
 case round=>
  obtain⟨i,hi,rfl,HO,HB⟩:=hrel;obtain⟨bA,bc,hbv,hb1,hb2⟩:=ay HO;obtain⟨B0,hB0⟩:∃B0,B0=aG n++(l.take i).flatMap Row.bytes:=⟨_,rfl⟩;have HB0:=aa hB0
  have hbl:B0.length≤10+104*i:=by
   rw [hB0,List.length_append];have h1:=aJ (n:=n) (by omega);have h2:=tQ HF.bytes i;omega
  rw [←hB0] at HO hbv;obtain⟨bn,hbn⟩:∃bn,bn=B0.length:=⟨_,rfl⟩;rw [←hbn] at hbv hbl;have xk:=aa hbn;subst hbv;have HOs:Hid (wr.ownsRow w.heap.size 5 1 (.slice bA bn bc) bn (aK B0)):=aa (by have h9:=HO.out;unfold Ow at h9;rw [←xk.out] at h9;exact h9);have HWs:=HB;have Wn:=aa HB.size;clear hB0 hb1 hb2 hbn
  by_cases hlt:i<n
  ·have hlt':(i:Int)<(n:Int):=by omega
   obtain⟨g,o,L,ln,lc,x,rfl,RJ,hx,c0,c1,c2,c3,s⟩:=HH.out.at_ hlt;have hxm:=List.mem_of_getElem? hx;have HT:Hid ((l.take (i+1)).flatMap Row.bytes=(l.take i).flatMap Row.bytes++x.bytes):=aa (ru hx);obtain⟨s1,s2,s3,s4⟩:=s.parts;have HS:=aa s;have jv:=aa s3;have Y4:ln≤64:=by have:=HF.out.key x hxm;omega
   have hat:x.at_≤1152921504606:=HF.out.at_ x hxm;have hle:x.len≤131072:=HF.out.len x hxm;have hen:x.ents≤64:=HF.out.ents x hxm;have uf:=aa c0;have ib:=aa c1;have bI:=aa c2;have gN:=aa c3;have y0:wr.cell? ⟨g,o+i*4,none⟩=some (.slice L ln lc):=sJ HB (Nw g RJ) c0;clear hx hxm s s1 s2 s3 s4 c0 c1 c2 c3;have ab2:=aa (fH wr.heap.size ln wr (by omega) (Nat.le_refl _));have ak6:=aJ (n:=ln) (by omega);go_upto_region 9 with(first|(go_at_call 114;go_loud (refine ab2.mono ?_);intro e wna hE;obtain⟨Va,JF,vca,rfl,q1,q2,q3,q4,q5⟩:=hE.below;have HVa:=aa q4;have XW:=aa q5;have hla:JF≤10:=(by omega);clear hE q1 q2 q3 q4 q5)|(at_builtin;go_loud (refine af _ rfl (.tmp 28) (.tmp 36) _ rfl w.heap.size 5 i0 _ 1 1 underlying24 hi0 hz0 hz1 hz2 rfl (by omega) (.slice bA bn bc) _ (aK B0) rfl (own_below HOs XW) (From wr.heap.size) Va JF vca (aK (aG ln)) rfl HVa.sb.parts.2.2.2 (cO _) (by simp only [maxLen];omega) (by omega) (by have h1:=Wn.out;have h2:=XW.out.size;omega) ?_);intro va wa QC hga ab3;have ab4:=aa QC;have HGa:=aa hga;clear QC hga ab3))
   obtain⟨Ba,hBa⟩:∃B,B=B0++aG ln:=⟨_,rfl⟩;have ab5:=aa hBa;have HOa:Hid (wa.ownsRow w.heap.size 5 1 va (bn+JF) (aK Ba)):=aa (by have h9:=ab4.out;rw [hBa];simpa [aK] using h9);have Wo:Hid (Below w.heap.size w wa):=aa ((HWs.out.trans (XW.mono HWs.size)).grown HGa (by have h1:=HWs.out.size;have h2:=XW.out.size;omega) (fun g hg=>(ah HOs g hg).1));have ab6:=aa Wo.size;obtain⟨Aa,ca,hva,_,_⟩:=ay HOa;subst hva;clear hBa;have y0a:wa.cell? ⟨g,o+i*4,none⟩=some (.slice L ln lc):=sJ Wo (Nw g RJ) uf;have HRL:Hid (Rd wa F 1 L ln (aK x.last)):=aa ((HS.chg (ag.of_below_ Wo (S:=fun b=>w.heap.size≤b) (fun b _ h=>h)) (fun b hb e=>by have h1:=Nw.out b hb;have e:w.heap.size≤b:=e;omega)).parts.2.2.2);clear y0;go_upto_region 10 with(at_builtin;go_loud (refine af _ rfl (.tmp 38) (.tmp 43) _ rfl w.heap.size 5 i0 _ 1 1 underlying24 hi0 hz0 hz1 hz2 rfl (by omega) (.slice Aa (bn+JF) ca) _ (aK Ba) rfl HOa F L ln lc (aK x.last) rfl HRL (cO _) (by simp only [maxLen];omega) (by omega) ab6 ?_);intro vb wb QD hgb Wp;have ab7:=aa QD;have HGb:=aa hgb;clear QD hgb Wp)
   obtain⟨Bb,hBb⟩:∃B,B=Ba++x.last:=⟨_,rfl⟩;have ab8:=aa hBb;have HOb:Hid (wb.ownsRow w.heap.size 5 1 vb (bn+JF+ln) (aK Bb)):=aa (by have h9:=ab7.out;rw [hBb];simpa [aK] using h9);have Wq:Hid (Below w.heap.size w wb):=aa (Wo.grown HGb Wo.size (fun g hg=>(ah HOa g hg).1));have ab9:=aa Wq.size;obtain⟨Ab,cb,hvb,_,_⟩:=ay HOb;subst hvb;have y1:wb.cell? ⟨g,o+i*4+1,none⟩=some (.int .i64 x.at_):=sJ Wq (Nw g RJ) ib;clear y0a hBb;have ac0:=aa (fH wb.heap.size x.at_ wb (by omega) (Nat.le_refl _));have ak7:=aJ (n:=x.at_) (by omega);go_upto_region 11 with(first|(go_at_call 114;go_loud (refine ac0.mono ?_);intro e wnc hE;obtain⟨Vc,QE,vcc,rfl,q1,q2,q3,q4,q5⟩:=hE.below;have HVc:=aa q4;have XX:=aa q5;have hlc:QE≤10:=(by omega);clear hE q1 q2 q3 q4 q5)|(at_builtin;go_loud (refine af _ rfl (.tmp 45) (.tmp 52) _ rfl w.heap.size 5 i0 _ 1 1 underlying24 hi0 hz0 hz1 hz2 rfl (by omega) (.slice Ab (bn+JF+ln) cb) _ (aK Bb) rfl (own_below HOb XX) (From wb.heap.size) Vc QE vcc (aK (aG x.at_)) rfl HVc.sb.parts.2.2.2 (cO _) (by simp only [maxLen];omega) (by omega) (by have h1:=ab9.out;have h2:=XX.out.size;omega) ?_);intro vc wc QF hgc ac1;have ac2:=aa QF;have HGc:=aa hgc;clear QF hgc ac1))
   obtain⟨Bc,hBc⟩:∃B,B=Bb++aG x.at_:=⟨_,rfl⟩;have ac3:=aa hBc;have HOc:Hid (wc.ownsRow w.heap.size 5 1 vc (bn+JF+ln+QE) (aK Bc)):=aa (by have h9:=ac2.out;rw [hBc];simpa [aK] using h9);have Ws:Hid (Below w.heap.size w wc):=aa ((Wq.out.trans (XX.mono Wq.size)).grown HGc (by have h1:=Wq.out.size;have h2:=XX.out.size;omega) (fun g hg=>(ah HOb g hg).1));have ac4:=aa Ws.size;obtain⟨Ac,cc,ZA,_,_⟩:=ay HOc;subst ZA;clear hBc;have y2:wc.cell? ⟨g,o+i*4+2,none⟩=some (.int .i64 x.len):=sJ Ws (Nw g RJ) bI;clear y1;have ac5:=aa (fH wc.heap.size x.len wc (by omega) (Nat.le_refl _));have ak8:=aJ (n:=x.len) (by omega);go_upto_region 12 with(first|(go_at_call 114;go_loud (refine ac5.mono ?_);intro e wnd hE;obtain⟨Vd,Un,vcd,rfl,q1,q2,q3,q4,q5⟩:=hE.below;have HVd:=aa q4;have XY:=aa q5;have hld:Un≤10:=(by omega);clear hE q1 q2 q3 q4 q5)|(at_builtin;go_loud (refine af _ rfl (.tmp 54) (.tmp 61) _ rfl w.heap.size 5 i0 _ 1 1 underlying24 hi0 hz0 hz1 hz2 rfl (by omega) (.slice Ac (bn+JF+ln+QE) cc) _ (aK Bc) rfl (own_below HOc XY) (From wc.heap.size) Vd Un vcd (aK (aG x.len)) rfl HVd.sb.parts.2.2.2 (cO _) (by simp only [maxLen];omega) (by omega) (by have h1:=ac4.out;have h2:=XY.out.size;omega) ?_);intro vd wd QG hgd ac6;have ac7:=aa QG;have HGd:=aa hgd;clear QG hgd ac6))
   obtain⟨Bd,hBd⟩:∃B,B=Bc++aG x.len:=⟨_,rfl⟩;have ac8:=aa hBd;have HOd:Hid (wd.ownsRow w.heap.size 5 1 vd (bn+JF+ln+QE+Un) (aK Bd)):=aa (by have h9:=ac7.out;rw [hBd];simpa [aK] using h9);have Wt:Hid (Below w.heap.size w wd):=aa ((Ws.out.trans (XY.mono Ws.size)).grown HGd (by have h1:=Ws.out.size;have h2:=XY.out.size;omega) (fun g hg=>(ah HOc g hg).1));have ac9:=aa Wt.size;obtain⟨Ad,cd,hvd,_,_⟩:=ay HOd;subst hvd;clear hBd;have y3:wd.cell? ⟨g,o+i*4+3,none⟩=some (.int .i64 x.ents):=sJ Wt (Nw g RJ) gN;clear y2;have ad1:=aa (fH wd.heap.size x.ents wd (by omega) (Nat.le_refl _));have ak9:=aJ (n:=x.ents) (by omega);go_upto_region 7 with(first|(go_at_call 114;go_loud (refine ad1.mono ?_);intro e wne hE;obtain⟨Ve,XZ,vce,rfl,q1,q2,q3,q4,q5⟩:=hE.below;have HVe:=aa q4;have X0:=aa q5;have hle:XZ≤10:=(by omega);clear hE q1 q2 q3 q4 q5)|(at_builtin;go_loud (refine af _ rfl (.tmp 63) (.tmp 70) _ rfl w.heap.size 5 i0 _ 1 1 underlying24 hi0 hz0 hz1 hz2 rfl (by omega) (.slice Ad (bn+JF+ln+QE+Un) cd) _ (aK Bd) rfl (own_below HOd X0) (From wd.heap.size) Ve XZ vce (aK (aG x.ents)) rfl HVe.sb.parts.2.2.2 (cO _) (by simp only [maxLen];omega) (by omega) (by have h1:=ac9.out;have h2:=X0.out.size;omega) ?_);intro ve we QH hge ad2;have ad3:=aa QH;have HGe:=aa hge;clear QH hge ad2))
   obtain⟨Be,hBe⟩:∃B,B=Bd++aG x.ents:=⟨_,rfl⟩;have ad4:=aa hBe;have HOe:Hid (we.ownsRow w.heap.size 5 1 ve (bn+JF+ln+QE+Un+XZ) (aK Be)):=aa (by have h9:=ad3.out;rw [hBe];simpa [aK] using h9);have HWe:Hid (Below w.heap.size w we):=aa ((Wt.out.trans (X0.mono Wt.size)).grown HGe (by have h1:=Wt.out.size;have h2:=X0.out.size;omega) (fun g hg=>(ah HOd g hg).1));have al0:=aa HWe.size;obtain⟨Ae,ce,hve,_,_⟩:=ay HOe;subst hve;clear hBe;clear y3;go_wp2
   go_roundw
   case rel=>
    refine⟨i+1,by omega,by go_num,aa ?_,HWe⟩
    have h1:aG n++(l.take (i+1)).flatMap Row.bytes=Be:=by
     rw [ad4.out,ac8.out,ac3.out,ab8.out,ab5.out,HB0.out,HT.out];unfold Row.bytes;rw [←jv.out];simp
    rw [h1];have h9:=HOe.out;unfold Ow
    have h7:bn+JF+ln+QE+Un+XZ=Be.length:=by
     have a1:=h9.1;rw [dM] at a1;omega
    rw [←h7]
    exact h9
   case measure=>simp [intOf];omega
  ·have hlt':¬((i:Int)<(n:Int)):=by omega
   have hie:i=n:=by omega
   have E7:Hid (aT l=B0++aG (aW l)):=aa (by
    unfold aT;rw [HB0.out,hie,HN.out,List.take_length])
   have Jy:=aa (j3 HF.ents n);have htl:aW l≤64*n:=by have:=Jy.out;rwa [HN.out,List.take_length,←HN.out] at this
   have HT:=aa (Ce F A n c l wr (HH.below HB) hn HF.ents);obtain⟨t,ht⟩:∃t,t=aW l:=⟨_,rfl⟩;rw [←ht] at HT E7 htl;have Zc:=aa (fH wr.heap.size t wr (by omega) (Nat.le_refl _));have hvl:=aJ (n:=t) (by omega);clear hie ht;go_wp2_with (first|(go_at_call 119;go_loud (refine HT.mono ?_);rintro e w3 ⟨rfl,rfl⟩)|(go_at_call 114;go_loud (refine Zc.mono ?_);intro e w4 hE;obtain⟨V4,GK,Vp,rfl,q1,q2,q3,q4,q5⟩:=hE.below;have KN:=aa q4;have dN:=aa q5;have h4l:GK≤10:=(by omega);clear hE q1 q2 q3 q4 q5)|(at_builtin;go_loud (refine af _ rfl (.tmp 72) (.tmp 76) _ rfl w.heap.size 5 i0 _ 1 1 underlying24 hi0 hz0 hz1 hz2 rfl (by omega) (.slice bA bn bc) _ (aK B0) rfl (own_below HOs dN) (From wr.heap.size) V4 GK Vp (aK (aG t)) rfl KN.sb.parts.2.2.2 (cO _) (by simp only [maxLen];omega) (by omega) (by have h1:=Wn.out;have h3:=dN.out.size;omega) ?_);intro v5 w5 hown5 hg5 GL;have AY:=aa hown5;have Gu:=aa hg5;clear hown5 hg5 GL))
   go_ret3
   rw [HR.out];unfold TY;rw [E7.out]
   refine⟨v5,rfl,?_,?_⟩
   ·have h9:=AY.out;have h8:=KN.out.sb.parts.2.2.1;unfold Ow;rw [List.length_append,←xk.out,←h8]
    simpa [aK] using h9
   ·have h2:=HB.out.trans (dN.mono HB.size);exact h2.grown Gu h2.size (fun g hg=>(ah HO g hg).1)
end
section
open Go.Proofs.Tryz
open Go.RowKit
open Go.Lib (compareBytes)
theorem FB {k:List UInt8} (h1:1≤k.length) (h2:k.length≤64):lC k=0:=by unfold lC;rw [if_pos ⟨h1,h2⟩]
theorem qg {l:List Row} {i:Nat} {x:Row} (h:l[i]? =some x):bK (l.take (i+1))=x.at_+x.len:=by
 rw [List.take_add_one,h];exact qh _ _
theorem gu.few {l:List Row} (h:gu l) (ha:∀x∈l,x.at_≤1152921504606):mO l:=⟨h.many,fun x hx=>(h.key x hx).2,ha,fun x hx=>(h.len x hx).2,fun x hx=>(h.count x hx).2⟩
theorem Bl (F:Nat→Prop) (A:Option Addr) (n c:Nat) (l:List Row) (w:World) (h:kz w F A n l) (hk:gu l) (ha:∀x∈l,x.at_≤1152921504606) (hF:∀b,F b→b<w.heap.size):
  Calls prog 118 #[.slice A n c] w fun e w'=>e= .returned (.tuple #[.int .i64 0,.int .i64 0])∧Below w.heap.size w w':=by
 refine letter fun R HR=> ?_;have HH:=aa h;have HN:Hid (n=l.length):=h.len;have HK:=aa hk;have HA:=aa ha;have Nw:=aa hF;have hn:n≤8388608:=by have:=HN.out;have:=hk.many;omega
 clear h hk ha hF;go_enter func118,ntmps118
 go_wp2
 go_loopw [4,5] (fun av iv wz=>∃i:Nat,i≤n∧iv= .int .i64 i∧av= .int .i64 (bK (l.take i):Nat)∧Hid (Below w.heap.size w wz)) (fun _ iv _=>n-(intOf iv).toNat)
 case atStart=>exact⟨0,Nat.zero_le _,rfl,rfl,aa (Below.refl _ _)⟩
 case round=>
  obtain⟨i,hi,rfl,rfl,HB⟩:=hrel
  by_cases hlt:i<n
  ·have hlt':(i:Int)<(n:Int):=by omega
   obtain⟨g,o,L,ln,lc,x,DL,RJ,hx,c0,c1,c2,c3,s⟩:=(HH.out.below HB).at_ hlt;have hxm:=List.mem_of_getElem? hx;have hat:x.at_≤1152921504606:=HA.out x hxm;have hle:=HK.out.len x hxm;have hen:=HK.out.count x hxm;have Dl:=HK.out.key x hxm;have wE:Hid (x.at_=bK (l.take i)):=aa (HK.place i x hx);have HPN:Hid (bK (l.take (i+1))=x.at_+x.len):=aa (qg hx);have HS:=aa s;have HX:=aa hx;have jv:Hid (ln=x.last.length):=aa s.parts.2.2.1;subst DL;rw [←wE.out];obtain⟨x9,Ql⟩:∃x9,x9=wr.heap.size:=⟨_,rfl⟩;clear hx hxm s;go_upto_region 8 with fail
   obtain⟨w3,hw3⟩:∃W,W=wr.alloc (.cells #[.slice L ln lc,.int .i64 x.at_,.int .i64 x.len,.int .i64 x.ents] 146):=⟨_,rfl⟩;rw [←hw3,←Ql];have HB3:Hid (Below wr.heap.size wr w3):=aa (by rw [hw3];exact(Below.refl _ _).alloc (Nat.le_refl _) _);have jw:Hid (ai w3 x9 146 #[.slice L ln lc,.int .i64 x.at_,.int .i64 x.len,.int .i64 x.ents]):=aa (by rw [hw3,Ql];exact ai.new _ _ _);have HW3:Hid (Below w.heap.size w w3):=aa (HB.out.trans (HB3.mono HB.size));have y0:w3.cell? ⟨x9,0,none⟩=some (.slice L ln lc):=jw.out.cell 0;have Np:=aa (vO L ln lc x.last jv w3);rw [FB Dl.1 Dl.2] at Np;clear hw3 Ql c0 c1 c2 c3 Dl;go_upto_region 9 with(go_at_call 82;go_loud (refine Np.mono ?_);rintro e w4 ⟨rfl,rfl⟩)
   by_cases i0:i=0
   ·have hd:decide (0<i)=false:=decide_eq_false (by omega);have hd':decide ((0:Int)<(i:Int))=false:=decide_eq_false (by omega);clear i0;go_quiet (fail);clear hd hd';have y1:(w3.drewN nq).cell? ⟨x9,1,none⟩=some (.int .i64 x.at_):=jw.out.cell 1;have y2:(w3.drewN nq).cell? ⟨x9,2,none⟩=some (.int .i64 x.len):=jw.out.cell 2;have y3:(w3.drewN nq).cell? ⟨x9,3,none⟩=some (.int .i64 x.ents):=jw.out.cell 3;have t1:¬((x.len:Int)<1):=by omega
    have t2:¬((131072:Int)<(x.len:Int)):=by omega
    have t3:¬((x.ents:Int)<1):=by omega
    have t4:¬((64:Int)<(x.ents:Int)):=by omega
    have t5:((x.at_:Int) !=(x.at_:Int))=false:=by simp
    have t6:(x.at_:Int)+(x.len:Int)≤9223372036854775807:=by omega
    clear y0;go_wp2
    go_roundw
    case rel=>exact⟨i+1,by omega,by go_num,by rw [HPN.out];go_num,aa (below_drewN HW3 nq)⟩
    case measure=>simp [intOf];omega
   ·obtain⟨j,hj⟩:∃j,i=j+1:=⟨i-1,by omega⟩;have hd:decide (0<i)=true:=decide_eq_true (by omega);have hd':decide ((0:Int)<(i:Int))=true:=decide_eq_true (by omega);obtain⟨g2,o2,M,mn,mc,y,DL,_,hyj,d0,d1,d2,d3,sy⟩:=(HH.out.below HB).at_ (k:=j) (by omega);injection DL with DL
    injection DL with e1 e2
    subst e1;subst e2;have Qo:Hid (compareBytes y.last x.last<0):=aa (HK.rise j y x hyj (by rw [←hj];exact HX));have Jv:Hid (∀k,Calls prog 62 #[.slice M mn mc,.slice L ln lc] (w3.drewN k) fun e w'=>e= .returned (.int .i64 (compareBytes y.last x.last))∧∃q,w'=(w3.drewN k).drewN q):=aa (fun k=>kU M L mn ln mc lc F F y.last x.last (w3.drewN k) ((sy.below HB3).parts.2.2.2.drewN k) sy.parts.2.2.1 ((HS.below HB3).parts.2.2.2.drewN k) jv (by have h1:=sy.parts.2.2.1;have h2:=(HK.out.key y (List.mem_of_getElem? hyj)).2;omega));have c0':w3.cell? ⟨g,o+j*4,none⟩=some (.slice M mn mc):=ak HB3 d0;have hwr:IntKind.i64.wrap ((i:Int)-1)=(j:Int):=by rw [IntWalk.i64_in _ (by omega)];omega
    have hjl:j<n:=by omega
    have GN:(j:Int)<(n:Int):=by omega
    have hj0:(0:Int)≤(j:Int):=by omega
    obtain⟨ce,hce⟩:∃ce,ce=compareBytes y.last x.last:=⟨_,rfl⟩;rw [←hce] at Jv Qo;have hcn:=Qo.out;have hcn':¬0≤ce:=by omega
    clear i0 hj hyj d0 d1 d2 d3 sy hce;go_quiet ((go_at_call 62;exact Calls.quiet_of (Jv _)));clear hd hd' c0' hwr hjl GN hj0;have y1:(w3.drewN nq).cell? ⟨x9,1,none⟩=some (.int .i64 x.at_):=jw.out.cell 1;have y2:(w3.drewN nq).cell? ⟨x9,2,none⟩=some (.int .i64 x.len):=jw.out.cell 2;have y3:(w3.drewN nq).cell? ⟨x9,3,none⟩=some (.int .i64 x.ents):=jw.out.cell 3;have t1:¬((x.len:Int)<1):=by omega
    have t2:¬((131072:Int)<(x.len:Int)):=by omega
    have t3:¬((x.ents:Int)<1):=by omega
    have t4:¬((64:Int)<(x.ents:Int)):=by omega
    have t5:((x.at_:Int) !=(x.at_:Int))=false:=by simp
    have t6:(x.at_:Int)+(x.len:Int)≤9223372036854775807:=by omega
    clear y0;go_wp2
    go_roundw
    case rel=>exact⟨i+1,by omega,by go_num,by rw [HPN.out];go_num,aa (below_drewN HW3 nq)⟩
    case measure=>simp [intOf];omega
  ·have hlt':¬((i:Int)<(n:Int)):=by omega
   go_wp2;rw [HR.out]
   exact⟨rfl,HB⟩
end
end Go.Proofs.YtbjgeidjmhialaaGreatDoor
