/- Part 3. -/
import Derived.Test.YtbjgeidjmhialaaGreatDoorLa02
import Derived.OrdersHeld
import Derived.Deep.RegionHeld
import Derived.Deep.Cut
namespace Go.Proofs.YtbjgeidjmhialaaGreatDoor
set_option maxRecDepth 100000
set_option maxHeartbeats 8000000
section
open Go.Proofs.Tryz
open Go.RowKit
theorem Gv (s:Nat) (w:World) (h:s<4294967296):Calls prog 182 #[.int .u32 s] w fun e w'=>e= .returned (.int .u32 (jZ s))∧w=w':=by
 have hn:s/2<4294967296:=by omega
 have e2:bits .and .u32 3988292384 4294967295=3988292384:=by decide
 have e3:bits .and .u32 3988292384 0=0:=by decide
 have e4:=dx (s/2) 3988292384 hn (by omega);have e5:=dx (s/2) 0 hn (by omega)
 have e1:bits .and .u32 (s:Int) 1=((s%2:Nat):Int):=by
  have:=bits_and_u32_nat s 1 h (by omega);rw [Nat.and_one_is_mod] at this;exact this
 rcases Nat.mod_two_eq_zero_or_one s with h0|h0
 ·rw [h0] at e1;have hc:jZ s=s/2:=by unfold jZ;rw [h0];simp
  rw [Nat.xor_zero] at e5;go_enter func182,ntmps182
  go_wp2;go_ret
  refine⟨?_,rfl⟩
  simp_all
 ·rw [h0] at e1;have hc:jZ s=(s/2)^^^3988292384:=by unfold jZ;rw [h0];simp
  go_enter func182,ntmps182
  go_wp2;go_ret
  refine⟨?_,rfl⟩
  simp_all
theorem Oo (s:Nat) (z:Int) (A:Option Addr) (n c:Nat) (F:Nat→Prop) (l:List UInt8) (w:World) (hs:s<4294967296) (hz:z=(s:Int)) (h:Rd w F 1 A n (aK l)) (hn:n=l.length) (hn2:n≤1152921504606):
  Calls prog 171 #[.int .u32 z,.slice A n c] w fun e w'=>e= .returned (.int .u32 (Gw s l))∧w=w':=by
 have HA:=aa h;have HN:=aa hn;clear h hn;subst hz;go_enter func171,ntmps171
 go_wp2
 go_loopg [9,0] n (fun g' iv sv wz=>∃i:Nat,g'=n-i∧i≤n∧iv= .int .i64 i∧sv= .int .u32 (Gw s (l.take i))∧w=wz)
 case atStart=>exact⟨0,by omega,by omega,rfl,rfl,rfl⟩
 case round=>
  obtain⟨i,hg,hi,rfl,rfl,rfl⟩:=hrel;have HG:=aa hg;clear hg;obtain⟨t,ht⟩:∃t,t=Gw s (l.take i):=⟨_,rfl⟩;have HT:=aa ht;have htl:t<4294967296:=by rw [ht];exact uM _ hs
  rw [←ht];clear ht
  by_cases hlt:i<n
  ·have hlt':(i:Int)<(n:Int):=by omega
   obtain⟨b,o,u,rfl,_,hx,hc⟩:=HA.out.at_ hlt;obtain⟨x,hx2,rfl⟩:=gH hx;have HX:=aa hx2;simp only [bv] at hc;have e1:=dx t x.toNat htl (by have:=x.toNat_lt;omega);have hm:(x.toNat:Int)%4294967296=(x.toNat:Int):=by have:=x.toNat_lt;omega
   have hr:t^^^x.toNat<4294967296:=yz htl x;obtain⟨r,hr2⟩:∃r,r=t^^^x.toNat:=⟨_,rfl⟩;have HR:=aa hr2;rw [←hr2] at e1 hr;clear hx hx2 hr2;go_wp2
   go_loopg [17,0] 8 (fun g2 kv tv wy=>∃k:Nat,g2=8-k∧k≤8∧kv= .int .i64 k∧tv= .int .u32 (nI k r)∧w=wy)
   case atStart=>exact⟨0,by omega,by omega,rfl,rfl,rfl⟩
   case round=>
    obtain⟨k,KT,hk,rfl,rfl,rfl⟩:=hrel;have HK:=aa KT;clear KT;obtain⟨q,hq⟩:∃q,q=nI k r:=⟨_,rfl⟩;have HQ:=aa hq;have Gq:q<4294967296:=by rw [hq];exact pV hr k
    rw [←hq];clear hq
    by_cases hk8:k<8
    ·have YV:(k:Int)<8:=by omega
     go_wp2_with (go_at_call 182;refine(Gv q w Gq).mono ?_;rintro e w2 ⟨rfl,rfl⟩)
     go_roundg (8-(k+1))
     case measure=>have:=HK.out;omega
     case rel=>exact⟨k+1,rfl,by omega,by go_num,by rw [HQ.out];rfl,rfl⟩
    ·have hke:k=8:=by omega
     subst hke;go_wp2
     go_roundg (n-(i+1))
     case measure=>have:=HG.out;omega
     case rel=>exact⟨i+1,rfl,by omega,by go_num,by rw [HQ.out,HR.out,HT.out,AC HX.out],rfl⟩
  ·have hin:i=n:=by omega
   subst hin;have h1:=HT.out;rw [List.take_of_length_le (by have:=HN.out;omega)] at h1;subst h1;go_wp2;go_ret
   exact⟨rfl,rfl⟩
theorem Oq (A:Option Addr) (n c:Nat) (F:Nat→Prop) (l:List UInt8) (w:World) (h:Rd w F 1 A n (aK l)) (hn:n=l.length) (hn2:n≤1152921504606):
  Calls prog 157 #[.slice A n c] w fun e w'=>e= .returned (.int .u32 (bz l))∧w=w':=by
 have HH:=aa (Oo 4294967295 4294967295 A n c F l w (by omega) (by omega) h hn hn2);obtain⟨t,ht⟩:∃t,t=Gw 4294967295 l:=⟨_,rfl⟩;have hl:t<4294967296:=by rw [ht];exact uM l (by omega)
 have hx:Hid (bits .xor .u32 IntKind.u32.max (t:Int)=((bz l:Nat):Int)):=aa (by
  have h1:=dx 4294967295 t (by omega) hl;rw [ht] at h1⊢;exact h1)
 rw [←ht] at HH;obtain⟨R,hR⟩:∃R:Ending→World→Prop,R=fun e w'=>e= .returned (.int .u32 (bz l))∧w=w':=⟨_,rfl⟩;have HR:=aa hR;rw [←hR];clear h hn ht hl hR;go_enter func157,ntmps157
 go_wp2_with (go_at_call 171;refine HH.mono ?_;rintro e w2 ⟨rfl,rfl⟩)
 rw [HR.out,hx.out];exact⟨rfl,rfl⟩
end
section
open Go.Proofs.Tryz
open Go.RowKit
theorem Ex (s:Nat) (w:World) (h:s<4294967296):Calls prog 172 #[.int .u32 s] w fun e w'=>e= .returned (.int .u32 (jZ s))∧w=w':=by
 have e4:=dx (s/2) 3988292384 (by omega) (by omega);refine letter fun R HR=> ?_
 by_cases h0:s%2=1
 ·have h0':(s:Int)%2=1:=by omega
  have hc:Hid (jZ s=(s/2)^^^3988292384):=aa (by unfold jZ;rw [if_pos h0]);clear h0;go_enter func172,ntmps172
  go_wp2;rw [HR.out,hc.out]
  first|exact⟨rfl,rfl⟩|exact⟨by rw [←e4];rfl,rfl⟩|(simp_all)
 ·have h0':¬((s:Int)%2=1):=by omega
  have hc:Hid (jZ s=s/2):=aa (by unfold jZ;rw [if_neg h0]);clear h0;go_enter func172,ntmps172
  go_wp2;rw [HR.out,hc.out]
  exact⟨rfl,rfl⟩
theorem I4 (A:Option Addr) (n c:Nat) (F:Nat→Prop) (l:List UInt8) (w:World) (h:Rd w F 1 A n (aK l)) (hn:n=l.length) (hn2:n≤1152921504606):
  Calls prog 162 #[.int .u32 0,.slice A n c] w fun e w'=>e= .returned (.int .u32 (bz l))∧w=w':=by
 have HA:=aa h;have HN:=aa hn;have HT:Hid (∀x:Nat,x<4294967296→(4294967295:Int)-(x:Int)=((4294967295^^^x:Nat):Int)):=aa (fun x hx=>by rw [Dw hx];omega);clear h hn;refine letter fun R HRR=> ?_;go_enter func162,ntmps162
 go_wp2
 go_loopg [5,0] n (fun g' iv sv wz=>∃i:Nat,g'=n-i∧i≤n∧iv= .int .i64 i∧sv= .int .u32 (Gw 4294967295 (l.take i))∧w=wz)
 case atStart=>exact⟨0,by omega,by omega,rfl,rfl,rfl⟩
 case round=>
  obtain⟨i,hg,hi,rfl,rfl,rfl⟩:=hrel;have HG:=aa hg;clear hg;obtain⟨t,ht⟩:∃t,t=Gw 4294967295 (l.take i):=⟨_,rfl⟩;have Qi:=aa ht;have htl:t<4294967296:=by rw [ht];exact uM _ (by omega)
  rw [←ht];clear ht
  by_cases hlt:i<n
  ·have hlt':(i:Int)<(n:Int):=by omega
   obtain⟨b,o,u,rfl,_,hx,hc⟩:=HA.out.at_ hlt;obtain⟨x,hx2,rfl⟩:=gH hx;have HX:=aa hx2;simp only [bv] at hc;have e1:=dx t x.toNat htl (by have:=x.toNat_lt;omega);have hm:(x.toNat:Int)%4294967296=(x.toNat:Int):=by have:=x.toNat_lt;omega
   have hr:t^^^x.toNat<4294967296:=yz htl x;obtain⟨r,hr2⟩:∃r,r=t^^^x.toNat:=⟨_,rfl⟩;have HRX:=aa hr2;rw [←hr2] at e1 hr;clear hx hx2 hr2;go_wp2
   go_loopg [6,0] 8 (fun g2 kv tv wy=>∃k:Nat,g2=8-k∧k≤8∧kv= .int .i64 k∧tv= .int .u32 (nI k r)∧w=wy)
   case atStart=>exact⟨0,by omega,by omega,rfl,rfl,rfl⟩
   case round=>
    obtain⟨k,KT,hk,rfl,rfl,rfl⟩:=hrel;have HK:=aa KT;clear KT;obtain⟨q,hq⟩:∃q,q=nI k r:=⟨_,rfl⟩;have HQ:=aa hq;have Gq:q<4294967296:=by rw [hq];exact pV hr k
    rw [←hq];clear hq
    by_cases hk8:k<8
    ·have YV:(k:Int)<8:=by omega
     go_wp2_with (go_at_call 172;refine(Ex q w Gq).mono ?_;rintro e w2 ⟨rfl,rfl⟩)
     go_roundg (8-(k+1))
     case measure=>have:=HK.out;omega
     case rel=>exact⟨k+1,rfl,by omega,by go_num,by rw [HQ.out];rfl,rfl⟩
    ·have hke:k=8:=by omega
     subst hke;go_wp2
     go_roundg (n-(i+1))
     case measure=>have:=HG.out;omega
     case rel=>exact⟨i+1,rfl,by omega,by go_num,by rw [HQ.out,HRX.out,Qi.out,AC HX.out],rfl⟩
  ·have hin:i=n:=by omega
   subst hin;have h1:=Qi.out;rw [List.take_of_length_le (by have:=HN.out;omega)] at h1;have H3:Hid (bz l=4294967295^^^t):=aa (by rw [h1];rfl);have h2:=HT.out t htl;obtain⟨q,hq⟩:∃q,q=4294967295^^^t:=⟨_,rfl⟩;have HQ:=aa hq;rw [←hq] at h2;clear h1 hq;go_wp2;rw [HRR.out,H3.out,←HQ.out];exact⟨by first|rfl|(rw [h2];rfl)|(rw [←h2];rfl),rfl⟩
theorem PE (A:Option Addr) (n c q:Nat) (F:Nat→Prop) (l:List UInt8) (w:World) (HH:Hid (Calls prog 162 #[.int .u32 0,.slice A n c] w fun e w'=>e= .returned (.int .u32 q)∧w=w')):
  Calls prog 143 #[.slice A n c] w fun e w'=>e= .returned (.int .u32 q)∧w=w':=by
 go_enter func143,ntmps143
 go_wp2_with (go_at_call 162;refine HH.mono ?_;rintro e w2 ⟨rfl,rfl⟩)
 go_ret
 exact⟨rfl,rfl⟩
theorem MY (A:Option Addr) (n c:Nat) (F:Nat→Prop) (l:List UInt8) (w:World) (h:Rd w F 1 A n (aK l)) (hn:n=l.length) (hn2:n≤1152921504606):
  Calls prog 143 #[.slice A n c] w fun e w'=>e= .returned (.int .u32 (bz l))∧w=w':=
 PE A n c (bz l) F l w (aa (I4 A n c F l w h hn hn2))
end
section
open Go.RowKit
section
variable {P:Program} {ops:Array Oper} {Q:Exit→Act→World→Prop} {md:Region.Mode} {S:World→Prop} {b:Nat}
def zw (P:Program) (md:Region.Mode) (ops:Array Oper) (Q:Exit→Act→World→Prop) (S:World→Prop) (b:Nat):Nat→Array Bool→Act→World→Prop
 |0,listed,a,w=>Region.ready md ops listed= []∧Q .normal a w
 |f+1,listed,a,w=>
  (Region.ready md ops listed= []→Q .normal a w)∧
  ∀i∈Region.ready md ops listed,wpOp P ops Q i (fun a' w'=>((listed.setIfInBounds i true).getD b true=false→S w')∧zw P md ops Q S b f (listed.setIfInBounds i true) a' w') a w
theorem wu:∀(f:Nat) (listed:Array Bool) (a:Act) (w:World),zw P md ops Q S b f listed a w→wpAny P md ops Q f listed a w
 |0,_,_,_,h=>h
 |f+1,_,_,_,h=>⟨h.1,fun i hi=>wpOp_mono (fun a' w' h'=>wu f _ a' w' h'.2) (h.2 i hi)⟩
def waits (md:Region.Mode) (ops:Array Oper) (b i:Nat):Bool:=
 match ops[b]? with
 |some o=>o.after.any fun e=>Region.binds md e&&e.on==i
 |none=>false
theorem EK {i:Nat} (h:waits md ops b i=true) {listed:Array Bool} (hi:listed.getD i true=false):b∉Region.ready md ops listed:=by
 intro hb;obtain⟨_,o,ho,hall⟩:=mem_ready.1 hb;unfold waits at h;rw [ho] at h;obtain⟨e,he,hx⟩:=Array.any_eq_true'.1 h;simp only [Bool.and_eq_true,beq_iff_eq] at hx;have h1:=hall e he hx.1;rw [hx.2] at h1
 rcases Nat.lt_or_ge i listed.size with hl|hl
 ·simp [hl] at h1 hi;rw [hi] at h1;cases h1
 ·simp [Array.getElem?_eq_none hl] at h1
theorem cz {l:Array Bool} {i j:Nat} (h:i≠j):(l.setIfInBounds i true).getD j true=l.getD j true:=by
 simp only [Array.getD_eq_getD_getElem?,Array.getElem?_setIfInBounds,if_neg h]
theorem Jn {i:Nat} {oi:Oper} {v:Value} (hi:ops[i]? =some oi) (hsel:∀(j:Nat) (o:Oper) cs c,ops[j]? =some o→o.op≠ .select cs c)
  (hQ:∀c a w,Q (.panic c) (a.put oi.dst v) w→Q (.panic c) a w) (hib:i≠b) (hw:waits md ops b i=true):
  ∀(f:Nat) (listed:Array Bool) (a:Act) (w:World),
   (∀j oj,ops[j]? =some oj→j≠i→listed.getD j true=false→(∀e∈oj.after,Region.binds md e=true→e.on≠i)→oi.apart ops oj=true)→
   i∈Region.ready md ops listed→listed.getD b true=false→YieldsIf P ops S oi v a→S w→
   zw P md ops Q S b f (listed.setIfInBounds i true) (a.put oi.dst v) w→zw P md ops Q S b (f+1) listed a w:=by
 intro f
 induction f with
 |zero=>
  intro listed a w _ hr _ hy hS H;refine⟨fun h=>(by rw [h] at hr;cases hr),fun j hj=> ?_⟩
  by_cases hji:j=i
  ·subst hji;exact hy.wpOp hi hS ⟨fun _=>hS,H⟩
  ·have h1:=ready_mono hj hji;rw [H.1] at h1
   cases h1
 |succ f ih=>
  intro listed a w hfree hr hb hy hS H;refine⟨fun h=>(by rw [h] at hr;cases hr),fun j hj=> ?_⟩
  by_cases hji:j=i
  ·subst hji;exact hy.wpOp hi hS ⟨fun _=>hS,H⟩
  ·have h1:=H.2 j (ready_mono hj hji);have hil:=(mem_ready.1 hr).1;have hjb:j≠b:=fun e=>EK hw hil (e▸hj);obtain⟨hjun,oj,hoj,hall⟩:=mem_ready.1 hj
   have hnot:∀e∈oj.after,Region.binds md e=true→e.on≠i:=by
    intro e he hbd heq;have h2:=hall e he hbd;rw [heq] at h2
    rcases Nat.lt_or_ge i listed.size with hl|hl
    ·simp [hl] at h2 hil;rw [hil] at h2;cases h2
    ·simp [Array.getElem?_eq_none hl] at h2
   have h2:=wpOp_putIf hoj (hfree j oj hoj hji hjun hnot) (fun cs c=>hsel i oi cs c hi) (fun cs c=>hsel j oj cs c hoj) hQ hy h1;have hbj:(listed.setIfInBounds j true).getD b true=false:=by rw [cz hjb];exact hb
   have hfree':∀k ok,ops[k]? =some ok→k≠i→(listed.setIfInBounds j true).getD k true=false→(∀e∈ok.after,Region.binds md e=true→e.on≠i)→oi.apart ops ok=true:=by
    intro k ok hk hki hun hno
    by_cases hjk:j=k
    ·subst hjk;exact hfree _ ok hk hki hjun hno
    ·rw [cz hjk] at hun;exact hfree k ok hk hki hun hno
   refine wpOp_mono (fun a' w' h3=> ?_) h2;have hS':S w':=h3.2.1 (by rw [cz hjb,cz hib];exact hb);refine⟨fun _=>hS',ih (listed.setIfInBounds j true) a' w' hfree' (ready_mono hr (Ne.symm hji)) hbj h3.1 hS' ?_⟩;rw [Array.setIfInBounds_comm _ _ hji];exact h3.2.2
theorem mh {i:Nat} {oi:Oper} {v:Value} {f:Nat} {listed:Array Bool} {a:Act} {w:World} (hi:ops[i]? =some oi)
  (hs:Region.noSelect ops=true) (hf:Region.free md ops listed i=true) (hr:(Region.ready md ops listed).contains i=true) (hw:(i !=b&&waits md ops b i&& !(listed.getD b true))=true)
  (hQ:∀c a w,Q (.panic c) (a.put oi.dst v) w→Q (.panic c) a w) (hS:S w) (hy:YieldsIf P ops S oi v a)
  (h:zw P md ops Q S b f (listed.setIfInBounds i true) (a.put oi.dst v) w):zw P md ops Q S b (f+1) listed a w:=by
 simp only [Bool.and_eq_true,bne_iff_ne,Bool.not_eq_true'] at hw;exact Jn hi (Region.noSelect_spec hs) hQ hw.1.1 hw.1.2 f listed a w (Region.free_spec hi hf) (by simpa using hr) hw.2 hy hS h
theorem EL {i:Nat} {oi:Oper} {v:Value} (hi:ops[i]? =some oi) (hsel:∀(j:Nat) (o:Oper) cs c,ops[j]? =some o→o.op≠ .select cs c)
  (hQ:∀c a w,Q (.panic c) (a.put oi.dst v) w→Q (.panic c) a w) (hib:i≠b):
  ∀(f:Nat) (listed:Array Bool) (a:Act) (w:World),
   (∀j oj,ops[j]? =some oj→j≠i→listed.getD j true=false→(∀e∈oj.after,Region.binds md e=true→e.on≠i)→oi.apart ops oj=true)→
   i∈Region.ready md ops listed→YieldsIf P ops (fun _=>True) oi v a→(listed.getD b true=false→S w)→
   zw P md ops Q S b f (listed.setIfInBounds i true) (a.put oi.dst v) w→zw P md ops Q S b (f+1) listed a w:=by
 intro f
 induction f with
 |zero=>
  intro listed a w _ hr hy hS H;refine⟨fun h=>(by rw [h] at hr;cases hr),fun j hj=> ?_⟩
  by_cases hji:j=i
  ·subst hji;exact hy.wpOp hi trivial ⟨fun hb=>hS (by rw [cz hib] at hb;exact hb),H⟩
  ·have h1:=ready_mono hj hji;rw [H.1] at h1
   cases h1
 |succ f ih=>
  intro listed a w hfree hr hy hS H;refine⟨fun h=>(by rw [h] at hr;cases hr),fun j hj=> ?_⟩
  by_cases hji:j=i
  ·subst hji;exact hy.wpOp hi trivial ⟨fun hb=>hS (by rw [cz hib] at hb;exact hb),H⟩
  ·have h1:=H.2 j (ready_mono hj hji);have hil:=(mem_ready.1 hr).1;obtain⟨hjun,oj,hoj,hall⟩:=mem_ready.1 hj
   have hnot:∀e∈oj.after,Region.binds md e=true→e.on≠i:=by
    intro e he hbd heq;have h2:=hall e he hbd;rw [heq] at h2
    rcases Nat.lt_or_ge i listed.size with hl|hl
    ·simp [hl] at h2 hil;rw [hil] at h2;cases h2
    ·simp [Array.getElem?_eq_none hl] at h2
   have h2:=wpOp_putIf hoj (hfree j oj hoj hji hjun hnot) (fun cs c=>hsel i oi cs c hi) (fun cs c=>hsel j oj cs c hoj) hQ hy h1
   have hfree':∀k ok,ops[k]? =some ok→k≠i→(listed.setIfInBounds j true).getD k true=false→(∀e∈ok.after,Region.binds md e=true→e.on≠i)→oi.apart ops ok=true:=by
    intro k ok hk hki hun hno
    by_cases hjk:j=k
    ·subst hjk;exact hfree _ ok hk hki hjun hno
    ·rw [cz hjk] at hun;exact hfree k ok hk hki hun hno
   refine wpOp_mono (fun a' w' h3=> ?_) h2
   have hS':(listed.setIfInBounds j true).getD b true=false→S w':=fun hb=>h3.2.1 (by
    rw [Array.setIfInBounds_comm _ _ (Ne.symm hji),cz hib];exact hb)
   refine⟨hS',ih (listed.setIfInBounds j true) a' w' hfree' (ready_mono hr (Ne.symm hji)) h3.1 hS' ?_⟩;rw [Array.setIfInBounds_comm _ _ hji];exact h3.2.2
theorem bS {i:Nat} {oi:Oper} {v:Value} {f:Nat} {listed:Array Bool} {a:Act} {w:World} (hi:ops[i]? =some oi)
  (hs:Region.noSelect ops=true) (hf:Region.free md ops listed i=true) (hr:(Region.ready md ops listed).contains i=true) (hw:(i !=b)=true)
  (hQ:∀c a w,Q (.panic c) (a.put oi.dst v) w→Q (.panic c) a w) (hS:listed.getD b true=false→S w) (hy:YieldsIf P ops (fun _=>True) oi v a)
  (h:zw P md ops Q S b f (listed.setIfInBounds i true) (a.put oi.dst v) w):zw P md ops Q S b (f+1) listed a w:=
 EL hi (Region.noSelect_spec hs) hQ (by simpa using hw) f listed a w (Region.free_spec hi hf) (by simpa using hr) hy hS h
theorem az {i:Nat} {o:Oper} {f:Nat} {listed:Array Bool} {a:Act} {w:World} (hr:Region.ready md ops listed= [i]) (ho:ops[i]? =some o)
  (h:∀K':Act→World→Prop,Hid (∀a w,((listed.setIfInBounds i true).getD b true=false→S w)→zw P md ops Q S b f (listed.setIfInBounds i true) a w→K' a w)→
   if Region.wanted o (yielded ops a.tmps)=true then Oper.wp P o a w K' Q else K' (a.put o.dst undef) w):zw P md ops Q S b (f+1) listed a w:=by
 refine⟨fun h0=>(by rw [hr] at h0;cases h0),fun j hj=> ?_⟩;rw [hr] at hj;obtain rfl:j=i:=by simpa using hj
 exact wpOp_step ho (fun K' hK=>h K' (fun a w hS hW=>hK a w ⟨hS,hW⟩))
theorem bL {listed:Array Bool} {a:Act} {w:World} (hr:Region.ready md ops listed= []) (h:Q .normal a w):∀f,zw P md ops Q S b f listed a w
 |0=>⟨hr,h⟩
 |_+1=>⟨fun _=>h,by rw [hr];simp⟩
theorem aM {id:Nat} {a:Act} {w:World} (S:World→Prop) (b:Nat) (hm:P.follows .mixedOrders=true)
  (h:zw P .any ops Q S b ops.size (Array.replicate ops.size false) a w.drew):(Code.region id ops true).wp P Q a w:=
 wp_region_any hm (wu _ _ _ _ h)
theorem aL (l:List Value) (df:List Deferred) (d:Nat) (v:Value):Act.put ⟨l.toArray,df⟩ (some d) v=⟨(l.set d v).toArray,df⟩:=by simp [Act.put]
theorem aN (a:Act) (v:Value):a.put none v=a:=rfl
theorem aZ (x y:Value) (l:List Value):(x::l).set 0 y=y::l:=rfl
theorem aC (x y:Value) (l:List Value) (n:Nat):(x::l).set (n+1) y=x::l.set n y:=rfl
theorem uT (i:Nat) {l l':List Value} {df:List Deferred} {d:Nat} {v:Value} {oi:Oper} {f:Nat} {listed:Array Bool} {w:World} (hS:S w) (h:zw P md ops Q S b f (listed.setIfInBounds i true) ⟨l'.toArray,df⟩ w)
  (hi:ops[i]? =some oi:=by rfl) (hd:oi.dst=some d:=by rfl) (hy:∀w,S w→(execOp (Act.eval ⟨l.toArray,df⟩) oi).run P w= .ok (.value v) w:=by intro w hSw;(repeat rcases hSw with⟨_,hSw⟩);go_simp;try with_reducible rfl) (hl:l.set d v=l':=by(try simp only [aZ,aC]);try rfl) (hs:Region.noSelect ops=true:=by kernel_rfl) (hf:Region.free md ops listed i=true:=by kernel_rfl)
  (hr:(Region.ready md ops listed).contains i=true:=by kernel_rfl) (hw:(i !=b&&waits md ops b i&& !(listed.getD b true))=true:=by kernel_rfl) (hn:Region.wanted oi (yielded ops l.toArray)=true:=by kernel_rfl)
  (hQ:∀c a w,Q (.panic c) (a.put oi.dst v) w→Q (.panic c) a w:=by first|exact fun _ _ _ h=>h|exact fun c a w h=>nC c _ a w h):zw P md ops Q S b (f+1) listed ⟨l.toArray,df⟩ w:=by
 refine mh hi hs hf hr hw hQ hS (Or.inl ⟨hn,hy⟩) ?_;rw [hd,aL,hl];exact h
theorem uF (i:Nat) {l l':List Value} {df:List Deferred} {d:Nat} {v:Value} {oi:Oper} {f:Nat} {listed:Array Bool} {w:World} (hS:listed.getD b true=false→S w) (h:zw P md ops Q S b f (listed.setIfInBounds i true) ⟨l'.toArray,df⟩ w)
  (hi:ops[i]? =some oi:=by rfl) (hd:oi.dst=some d:=by rfl) (hy:∀w,True→(execOp (Act.eval ⟨l.toArray,df⟩) oi).run P w= .ok (.value v) w:=by intro w hSw;(repeat rcases hSw with⟨_,hSw⟩);go_simp;try with_reducible rfl) (hl:l.set d v=l':=by(try simp only [aZ,aC]);try rfl) (hs:Region.noSelect ops=true:=by kernel_rfl) (hf:Region.free md ops listed i=true:=by kernel_rfl)
  (hr:(Region.ready md ops listed).contains i=true:=by kernel_rfl) (hw:(i !=b)=true:=by kernel_rfl) (hn:Region.wanted oi (yielded ops l.toArray)=true:=by kernel_rfl)
  (hQ:∀c a w,Q (.panic c) (a.put oi.dst v) w→Q (.panic c) a w:=by first|exact fun _ _ _ h=>h|exact fun c a w h=>nC c _ a w h):zw P md ops Q S b (f+1) listed ⟨l.toArray,df⟩ w:=by
 refine bS hi hs hf hr hw hQ hS (Or.inl ⟨hn,hy⟩) ?_;rw [hd,aL,hl];exact h
end
end
section
open Go.RowKit
section
variable {P:Program} {ops:Array Oper} {Q:Exit→Act→World→Prop} {md:Region.Mode} {S:World→Prop}
def zG (P:Program) (md:Region.Mode) (ops:Array Oper) (Q:Exit→Act→World→Prop) (S:World→Prop):Nat→Array Bool→Act→World→Prop
 |0,listed,a,w=>Region.ready md ops listed= []∧Q .normal a w
 |f+1,listed,a,w=>
  (Region.ready md ops listed= []→Q .normal a w)∧
  ∀i∈Region.ready md ops listed,wpOp P ops Q i (fun a' w'=>S w'∧zG P md ops Q S f (listed.setIfInBounds i true) a' w') a w
theorem tZ:∀(f:Nat) (listed:Array Bool) (a:Act) (w:World),zG P md ops Q S f listed a w→wpAny P md ops Q f listed a w
 |0,_,_,_,h=>h
 |f+1,_,_,_,h=>⟨h.1,fun i hi=>wpOp_mono (fun a' w' h'=>tZ f _ a' w' h'.2) (h.2 i hi)⟩
theorem F7 {i:Nat} {oi:Oper} {v:Value} (hi:ops[i]? =some oi) (hsel:∀(j:Nat) (o:Oper) cs c,ops[j]? =some o→o.op≠ .select cs c)
  (hQ:∀c a w,Q (.panic c) (a.put oi.dst v) w→Q (.panic c) a w):
  ∀(f:Nat) (listed:Array Bool) (a:Act) (w:World),
   (∀j oj,ops[j]? =some oj→j≠i→listed.getD j true=false→(∀e∈oj.after,Region.binds md e=true→e.on≠i)→oi.apart ops oj=true)→
   i∈Region.ready md ops listed→YieldsIf P ops S oi v a→S w→
   zG P md ops Q S f (listed.setIfInBounds i true) (a.put oi.dst v) w→zG P md ops Q S (f+1) listed a w:=by
 intro f
 induction f with
 |zero=>
  intro listed a w _ hr hy hS H;refine⟨fun h=>(by rw [h] at hr;cases hr),fun j hj=> ?_⟩
  by_cases hji:j=i
  ·subst hji;exact hy.wpOp hi hS ⟨hS,H⟩
  ·have h1:=ready_mono hj hji;rw [H.1] at h1
   cases h1
 |succ f ih=>
  intro listed a w hfree hr hy hS H;refine⟨fun h=>(by rw [h] at hr;cases hr),fun j hj=> ?_⟩
  by_cases hji:j=i
  ·subst hji;exact hy.wpOp hi hS ⟨hS,H⟩
  ·have h1:=H.2 j (ready_mono hj hji);have hil:=(mem_ready.1 hr).1;obtain⟨hjun,oj,hoj,hall⟩:=mem_ready.1 hj
   have hnot:∀e∈oj.after,Region.binds md e=true→e.on≠i:=by
    intro e he hbd heq;have h2:=hall e he hbd;rw [heq] at h2
    rcases Nat.lt_or_ge i listed.size with hl|hl
    ·simp [hl] at h2 hil;rw [hil] at h2;cases h2
    ·simp [Array.getElem?_eq_none hl] at h2
   have h2:=wpOp_putIf hoj (hfree j oj hoj hji hjun hnot) (fun cs c=>hsel i oi cs c hi) (fun cs c=>hsel j oj cs c hoj) hQ hy h1
   have hfree':∀k ok,ops[k]? =some ok→k≠i→(listed.setIfInBounds j true).getD k true=false→(∀e∈ok.after,Region.binds md e=true→e.on≠i)→oi.apart ops ok=true:=by
    intro k ok hk hki hun hno
    by_cases hjk:j=k
    ·subst hjk;exact hfree _ ok hk hki hjun hno
    ·rw [cz hjk] at hun;exact hfree k ok hk hki hun hno
   refine wpOp_mono (fun a' w' h3=> ?_) h2;refine⟨h3.2.1,ih (listed.setIfInBounds j true) a' w' hfree' (ready_mono hr (Ne.symm hji)) h3.1 h3.2.1 ?_⟩;rw [Array.setIfInBounds_comm _ _ hji];exact h3.2.2
theorem JS {i:Nat} {oi:Oper} {v:Value} {f:Nat} {listed:Array Bool} {a:Act} {w:World} (hi:ops[i]? =some oi)
  (hs:Region.noSelect ops=true) (hf:Region.free md ops listed i=true) (hr:(Region.ready md ops listed).contains i=true)
  (hQ:∀c a w,Q (.panic c) (a.put oi.dst v) w→Q (.panic c) a w) (hS:S w) (hy:YieldsIf P ops S oi v a)
  (h:zG P md ops Q S f (listed.setIfInBounds i true) (a.put oi.dst v) w):zG P md ops Q S (f+1) listed a w:=
 F7 hi (Region.noSelect_spec hs) hQ f listed a w (Region.free_spec hi hf) (by simpa using hr) hy hS h
theorem vT (i:Nat) {l l':List Value} {df:List Deferred} {d:Nat} {v:Value} {oi:Oper} {f:Nat} {listed:Array Bool} {w:World} (hS:S w) (h:zG P md ops Q S f (listed.setIfInBounds i true) ⟨l'.toArray,df⟩ w)
  (hi:ops[i]? =some oi:=by rfl) (hd:oi.dst=some d:=by rfl) (hy:∀w,S w→(execOp (Act.eval ⟨l.toArray,df⟩) oi).run P w= .ok (.value v) w:=by intro w hSw;(repeat rcases hSw with⟨_,hSw⟩);go_simp;try with_reducible rfl) (hl:l.set d v=l':=by(try simp only [aZ,aC]);try rfl) (hs:Region.noSelect ops=true:=by kernel_rfl) (hf:Region.free md ops listed i=true:=by kernel_rfl)
  (hr:(Region.ready md ops listed).contains i=true:=by kernel_rfl) (hn:Region.wanted oi (yielded ops l.toArray)=true:=by kernel_rfl)
  (hQ:∀c a w,Q (.panic c) (a.put oi.dst v) w→Q (.panic c) a w:=by first|exact fun _ _ _ h=>h|exact fun c a w h=>nC c _ a w h):zG P md ops Q S (f+1) listed ⟨l.toArray,df⟩ w:=by
 refine JS hi hs hf hr hQ hS (Or.inl ⟨hn,hy⟩) ?_;rw [hd,aL,hl];exact h
theorem aR {i:Nat} {o:Oper} {f:Nat} {listed:Array Bool} {a:Act} {w:World} (hr:Region.ready md ops listed= [i]) (ho:ops[i]? =some o)
  (h:∀K':Act→World→Prop,Hid (∀a w,S w→zG P md ops Q S f (listed.setIfInBounds i true) a w→K' a w)→
   if Region.wanted o (yielded ops a.tmps)=true then Oper.wp P o a w K' Q else K' (a.put o.dst undef) w):zG P md ops Q S (f+1) listed a w:=by
 refine⟨fun h0=>(by rw [hr] at h0;cases h0),fun j hj=> ?_⟩;rw [hr] at hj;obtain rfl:j=i:=by simpa using hj
 exact wpOp_step ho (fun K' hK=>h K' (fun a w hS hW=>hK a w ⟨hS,hW⟩))
theorem bP {listed:Array Bool} {a:Act} {w:World} (hr:Region.ready md ops listed= []) (h:Q .normal a w):∀f,zG P md ops Q S f listed a w
 |0=>⟨hr,h⟩
 |_+1=>⟨fun _=>h,by rw [hr];simp⟩
theorem aX {id:Nat} {a:Act} {w:World} (S:World→Prop) (hm:P.follows .mixedOrders=true)
  (h:zG P .any ops Q S ops.size (Array.replicate ops.size false) a w.drew):(Code.region id ops true).wp P Q a w:=
 wp_region_any hm (tZ _ _ _ _ h)
end
end
section
open Go.RowKit
section
variable {P:Program} {ops:Array Oper} {Q:Exit→Act→World→Prop} {md:Region.Mode} {S S':World→Prop}
theorem AJ (h:∀w,S' w→S w):∀{f:Nat} {listed:Array Bool} {a:Act} {w:World},zG P md ops Q S' f listed a w→zG P md ops Q S f listed a w
 |0,_,_,_,H=>H
 |_+1,_,_,_,H=>⟨H.1,fun i hi=>wpOp_mono (fun _ _ h'=>⟨h _ h'.1,AJ h h'.2⟩) (H.2 i hi)⟩
end
end
section
def fC (k:Nat):Code→Option Code
 | .block n c=>if Nat.beq n k then some c else fC k c
 | .seq a b=>match fC k a with
  |some c=>some c
  |none=>fC k b
 | .loop c=>fC k c
 | .scope c=>fC k c
 | .cond _ a b=>match fC k a with
  |some c=>some c
  |none=>fC k b
 |_=>none
def KX (k:Nat):Code→Bool
 | .region i _ _=>Nat.beq i k
 |_=>false
def iJ (k:Nat):Code→Option Code
 | .seq a b=>if KX k a then some (.seq a b) else match iJ k a with
  |some c=>some c
  |none=>iJ k b
 | .block _ c=>iJ k c
 | .loop c=>iJ k c
 | .scope c=>iJ k c
 | .cond _ a b=>match iJ k a with
  |some c=>some c
  |none=>iJ k b
 |_=>none
def aA (k:Nat):Code→Option Code
 | .region i a b=>if Nat.beq i k then some (.region i a b) else none
 | .seq a b=>match aA k a with
  |some c=>some c
  |none=>aA k b
 | .block _ c=>aA k c
 | .loop c=>aA k c
 | .scope c=>aA k c
 | .cond _ a b=>match aA k a with
  |some c=>some c
  |none=>aA k b
 |_=>none
def aP (f:Option Code):Code:=f.getD .skip
end
section
open Go.Proofs.Tryz
open Go.RowKit
theorem Rd.lit1 (w:World) (cs:Array Value) (t:TypeId):Rd (w.alloc (.cells cs t)) (From w.heap.size) 1 (some ⟨w.heap.size,0,none⟩) cs.size cs.toList:=
 ⟨by simp,fun _=>⟨w.heap.size,0,rfl,Nat.le_refl _,fun j x hj=>by
  rw [(ai.new w t cs).cell];simpa using hj⟩⟩
theorem KU (s:Nat) (w:World) (hs:s<4294967296):Calls prog 156 #[.slice none 0 0,.int .u32 s] w (YW w (four s)):=by
 obtain⟨i0,hi0,hz0,hz1,hz2⟩:=info_parts dK;refine letter fun R HR=> ?_;go_enter func156,ntmps156
 go_wp2_with (at_builtin;go_loud (refine af _ rfl (.tmp 5) (.tmp 17) _ rfl w.heap.size 5 i0 _ 1 1 underlying24 hi0 hz0 hz1 hz2 rfl (by omega) (.slice none 0 0) 0 [] rfl (World.ownsRow_nil _ _ _ _) (From w.heap.size) (some ⟨w.heap.size,0,none⟩) 4 4 _ rfl (Rd.lit1 _ _ _) (by simp [Value.oneCell']) (by simp only [maxLen];omega) (by omega) (by simp) ?_);intro v1 w1 hown1 hg1 iX)
 rw [HR.out];simp only [List.nil_append,Nat.zero_add] at hown1
 have e1: [Value.int .u8 ((s:Int)%256),Value.int .u8 ((s:Int)/256%256),Value.int .u8 ((s:Int)/65536%256),Value.int .u8 ((s:Int)/16777216)]=aK (four s):=by
  simp only [four,aK,List.map_cons,List.map_nil,bv,UInt8.toNat_ofNat'];congr 2
  congr 2
  congr 2
  congr 2
  omega
 rw [e1] at hown1;obtain⟨A,c,rfl,h1,h2⟩:=ay hown1;exact⟨A,4,c,rfl,J6 hown1,((Below.refl _ _).alloc (Nat.le_refl _) _).grown hg1 (by simp) (fun k hk=>by simp [Value.ownBlock] at hk)⟩
noncomputable def YX:Code:=aP (f133.body.bind (aA 4))
theorem Ot (F:Nat→Prop) (b o m c:Nat) (bs sm:List UInt8) (w:World) {u1 u2 u3 u5 u6 u7 u8 u9 u10 u11 u12 u13 bN bq u16 u17 bC bD u20 u21 u22 u23 u24 u25:Value} (Q:Exit→Act→World→Prop) (nC:Hid (∀c t (a:Act) w,Q (.panic c) ⟨t,a.defers⟩ w→Q (.panic c) a w))
  (H:Hid (Rd w F 1 (some ⟨b,o,none⟩) (m+4) (aK (bs++sm)))) (HM:Hid (m=bs.length)) (H4:Hid (sm.length=4)) (hc:m+4≤c) (hn2:m≤1152921504606)
  (au:∀(v13 v14 v15 v16 v17 v18 v19 v20 v21:Value) (rb:Bool) (w':World),rb= !(decide (four (bz bs)=sm))→Below w.heap.size w w'→Q .normal ⟨(.slice (some ⟨b,o,none⟩) (m+4) c::u1::u2::u3:: .slice (some ⟨b,o,none⟩) m c::u5::u6::u7::u8::u9::u10::u11::u12::v13::v14::v15::v16::v17::v18::v19::v20::v21:: .bool rb::u23::u24::u25:: []).toArray,[]⟩ w'):
  Code.wp prog YX Q ⟨(.slice (some ⟨b,o,none⟩) (m+4) c::u1::u2::u3:: .slice (some ⟨b,o,none⟩) m c::u5::u6::u7::u8::u9::u10::u11::u12::u13::bN::bq::u16::u17::bC::bD::u20::u21::u22::u23::u24::u25:: []).toArray,[]⟩ w:=by
 have dF:=aa au;have HD:Hid (Below w.heap.size w w.drew):=aa (Below.refl _ _).drew;have HT:=aa ((H.below HD).take1 (k:=m) (by omega))
 have HU:Hid (Rd w.drew F 1 (some ⟨b,o+m,none⟩) 4 (aK sm)):=aa (by
  refine⟨by rw [dM,H4.out],fun _=> ?_⟩;obtain⟨b',o',e,hF,hx⟩:=(H.out.below HD).2 (by omega);injection e with e;injection e with e1 e2
  subst e1;subst e2;refine⟨b,o+m,rfl,hF,fun j u hj=> ?_⟩;rw [Nat.add_assoc];refine hx (m+j) u ?_;simp only [aK,List.map_append] at hj⊢;rw [List.getElem?_append_right (by rw [List.length_map,←HM.out];omega),List.length_map,←HM.out,Nat.add_sub_cancel_left];exact hj)
 have hle:(m:Int)≤(m:Int)+4:=by omega
 have hcm:¬(c=m):=by omega
 have S0:=dR w.drew F (some ⟨b,o+m,none⟩) 4 (c-m) sm HU H4.out.symm;have e3:((wN (four (bz bs))).toList==(wN sm).toList)=decide (four (bz bs)=sm):=Du;obtain⟨fr,hfr⟩:∃fr,fr=four (bz bs):=⟨_,rfl⟩;obtain⟨sv,hsv⟩:∃sv,sv=bz bs:=⟨_,rfl⟩;have Dv:=aa hfr;have XA:=aa hsv;have hsl:sv<4294967296:=by rw [hsv];exact AF _
 rw [←hfr] at e3 dF;clear au hfr hsv;have hbt:bs=(bs++sm).take m:=by rw [HM.out];simp
 have Nl:=aa hbt;clear hbt;conv=>arg 2;whnf
 refine aX (fun w'=>(convert 24 9 (.slice (some ⟨b,o+m,none⟩) 4 (c-m))).run prog w'= .ok (.string (wN sm)) w') (by kernel_rfl) ?_;refine vT 0 S0 ?_;refine vT 4 S0 ?_;refine vT 5 S0 ?_;refine vT 6 S0 ?_;refine vT 7 S0 ?_;refine vT 8 S0 ?_;refine aR (i:=1) (by kernel_rfl) rfl (fun K hK=> ?_);go_simp
 go_loud (refine(Oq (some ⟨b,o,none⟩) m c F bs _ (by have:=HT.out;rw [←Nl.out] at this;exact this) HM hn2).mono ?_);rintro e w2 ⟨rfl,rfl⟩;rw [←XA.out]
 refine hK.out _ _ S0 ?_;clear hK K;try simp only [aL,aN,aZ,aC]
 refine aR (i:=2) (by kernel_rfl) rfl (fun K hK=> ?_);go_simp
 go_loud (refine(KU sv w.drew hsl).mono ?_);rintro e w2 ⟨A2,n2,c2,rfl,hs2,hb2⟩;rw [XA.out,←Dv.out] at hs2;have HS2:=aa hs2;have HB2:=aa hb2;have S1:=dR w2 _ A2 n2 c2 fr hs2.parts.2.2.2 hs2.parts.2.2.1;have S2:=dR w2 F (some ⟨b,o+m,none⟩) 4 (c-m) sm (HU.below hb2) H4.out.symm;clear hs2 hb2
 refine hK.out _ _ S2 ?_;clear hK K;try simp only [aL,aN,aZ,aC]
 refine AJ (S':=fun w'=>(convert 24 9 (.slice (some ⟨b,o+m,none⟩) 4 (c-m))).run prog w'= .ok (.string (wN sm)) w'∧(convert 24 9 (.slice A2 n2 c2)).run prog w'= .ok (.string (wN fr)) w') (fun _ h=>h.1) ?_;refine vT 3 ⟨S2,S1⟩ ?_;refine vT 9 ⟨S2,S1⟩ ?_;refine bP (by kernel_rfl) ?_ _;go_simp
 refine dF _ _ _ _ _ _ _ _ _ _ _ ?_ (HD.out.trans HB2);rw [←e3]
theorem Gx (F:Nat→Prop) (b o m c:Nat) (bs sm:List UInt8) (w:World) (h:Rd w F 1 (some ⟨b,o,none⟩) (m+4) (aK (bs++sm))) (hm:m=bs.length) (h4:sm.length=4) (hc:m+4≤c) (hc2:c≤maxLen) (hn2:m≤1152921504606):
  Calls prog 133 #[.slice (some ⟨b,o,none⟩) (m+4) c] w fun e w'=>∃v,e= .returned (.tuple #[v,.int .i64 (if four (bz bs)=sm then 0 else 22)])∧Below w.heap.size w w':=by
 obtain⟨i0,hi0,hz0,hz1,hz2⟩:=info_parts dK;have HR:=aa h;have HM:=aa hm;have H4:=aa h4;clear h hm h4;refine letter fun R HRR=> ?_;go_enter func133,ntmps133
 go_upto_region 4 with fail
 refine Ot F b o m c bs sm w _ (by exact aa (fun _ _ _ _ h=>h)) HR HM H4 hc hn2 ?_;intro v13 v14 v15 v16 v17 v18 v19 v20 v21 rb w2 hrb hb2;have Ai:=aa hrb;have HB2:=aa hb2;have HT:=aa ((HR.below hb2).take1 (k:=m) (by omega));clear hrb hb2
 cases rb with
 |true=>
  go_wp2;rw [HRR.out]
  have h1:¬(four (bz bs)=sm):=of_decide_eq_false (by have:=Ai.out;simpa using this.symm);rw [if_neg h1]
  exact⟨_,rfl,HB2⟩
 |false=>
  go_wp2_with (at_builtin;go_loud (refine af _ rfl (.tmp 23) (.tmp 24) _ rfl w2.heap.size 5 i0 _ 1 1 underlying24 hi0 hz0 hz1 hz2 rfl (by omega) (.slice (some ⟨w2.heap.size,0,none⟩) 0 0) 0 [] rfl (lU w2 _ 1) F (some ⟨b,o,none⟩) m c _ rfl (HT.alloc _) (cO _) (by simp only [maxLen];omega) (by omega) (by simp) ?_);intro v1 w3 hown1 hg1 iX)
  rw [HRR.out];have h1:four (bz bs)=sm:=of_decide_eq_true (by have:=Ai.out;simpa using this.symm);rw [if_pos h1];refine⟨_,rfl,HB2.out.trans ((((Below.refl _ _).alloc (Nat.le_refl _) _).grown hg1 (by simp) (fun k hk=> ?_)).mono HB2.size)⟩;simp [Value.ownBlock] at hk;omega
end
end Go.Proofs.YtbjgeidjmhialaaGreatDoor
