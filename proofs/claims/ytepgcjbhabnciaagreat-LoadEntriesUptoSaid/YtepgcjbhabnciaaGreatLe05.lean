/- Part 5. -/
import Derived.Test.YtepgcjbhabnciaaGreatLe02
import Derived.Laws.BytesArg
import Derived.Test.YtepgcjbhabnciaaGreatLe03
import Derived.Laws.Bits64b
import Derived.Deep.Cut
namespace Go.Proofs.YtepgcjbhabnciaaGreat
set_option maxRecDepth 100000
set_option maxHeartbeats 8000000
open Go.RowKit Go.Proofs.Tryz
open Go.Lib (compareBytes)
variable {n c v x k:Nat} {bs a b:List UInt8} {w:World} {F:Nat->Prop} {A:Option Addr}
section
section
variable {P:Program} {ops:Array Oper} {Q:Exit->Act->World->Prop} {md:Region.Mode} {S:World->Prop}
def Cg (P:Program) (md:Region.Mode) (ops:Array Oper) (Q:Exit->Act->World->Prop) (S:World->Prop):Nat->Array Bool->Act->World->Prop
 |0,b,a,w=>Region.ready md ops b= []/\Q .normal a w
 |f+1,b,a,w=>
  (Region.ready md ops b= []->Q .normal a w)/\
  ∀i∈Region.ready md ops b,wpOp P ops Q i (fun c w'=>S w'/\Cg P md ops Q S f (b.setIfInBounds i true) c w') a w
theorem uI:∀(f:Nat) (b:Array Bool) (a:Act) (w:World),Cg P md ops Q S f b a w->wpAny P md ops Q f b a w
 |0,_,_,_,h=>h
 |f+1,_,_,_,h=>⟨h.1,fun i hi=>wpOp_mono (fun c w' d=>uI f _ c w' d.2) (h.2 i hi)⟩
theorem Ja {i:Nat} {oi:Oper} {v:Value} (hi:ops[i]? =some oi) (n:∀(j:Nat) (o:Oper) cs c,ops[j]? =some o->o.op≠ .select cs c)
  (M:∀c a w,Q (.panic c) (a.put oi.dst v) w->Q (.panic c) a w):
  ∀(f:Nat) (b:Array Bool) (a:Act) (w:World),
   (∀j s,ops[j]? =some s->j≠i->b.getD j true=false->(∀e∈s.after,Region.binds md e=true->e.on≠i)->oi.apart ops s=true)->
   i∈Region.ready md ops b->YieldsIf P ops S oi v a->S w->
   Cg P md ops Q S f (b.setIfInBounds i true) (a.put oi.dst v) w->Cg P md ops Q S (f+1) b a w:=by
 intro f
 induction f with
 |zero=>
  intro b a w _ r G t H;refine⟨fun h=>(by rw [h] at r;cases r),fun j F=> ?_⟩
  by_cases d:j=i
  ·subst d;exact G.wpOp hi t ⟨t,H⟩
  ·have D:=ready_mono F d;rw [H.1] at D
   cases D
 |succ f O=>
  intro b a w g r G t H;refine⟨fun h=>(by rw [h] at r;cases r),fun j F=> ?_⟩
  by_cases d:j=i
  ·subst d;exact G.wpOp hi t ⟨t,H⟩
  ·have D:=H.2 j (ready_mono F d);have x:=(mem_ready.1 r).1;obtain⟨m,s,q,u⟩:=mem_ready.1 F
   have B:∀e∈s.after,Region.binds md e=true->e.on≠i:=by
    intro e N I J;have p:=u e N I;rw [J] at p
    rcases Nat.lt_or_ge i b.size with hl|hl
    ·simp [hl] at p x;rw [x] at p;cases p
    ·simp [Array.getElem?_eq_none hl] at p
   have p:=wpOp_putIf q (g j s q d m B) (fun cs c=>n i oi cs c hi) (fun cs c=>n j s cs c q) M G D
   have l:∀k ok,ops[k]? =some ok->k≠i->(b.setIfInBounds j true).getD k true=false->(∀e∈ok.after,Region.binds md e=true->e.on≠i)->oi.apart ops ok=true:=by
    intro k ok K z C A
    by_cases y:j=k
    ·subst y;exact g _ ok K z m A
    ·rw [dC y] at C;exact g k ok K z C A
   refine wpOp_mono (fun L w' E=> ?_) p;refine⟨E.2.1,O (b.setIfInBounds j true) L w' l (ready_mono r (Ne.symm d)) E.1 E.2.1 ?_⟩;rw [Array.setIfInBounds_comm _ _ d];exact E.2.2
theorem L6 {i:Nat} {e:Oper} {v:Value} {f:Nat} {p:Array Bool} {a:Act} {w:World} (hi:ops[i]? =some e)
  (j:Region.noSelect ops=true) (d:Region.free md ops p i=true) (g:(Region.ready md ops p).contains i=true)
  (b:∀c a w,Q (.panic c) (a.put e.dst v) w->Q (.panic c) a w) (hS:S w) (k:YieldsIf P ops S e v a)
  (h:Cg P md ops Q S f (p.setIfInBounds i true) (a.put e.dst v) w):Cg P md ops Q S (f+1) p a w:=
 Ja hi (Region.noSelect_spec j) b f p a w (Region.free_spec hi d) (by simpa using g) k hS h
theorem vT (i:Nat) {l b:List Value} {n:List Deferred} {d:Nat} {v:Value} {e:Oper} {f:Nat} {p:Array Bool} {w:World} (hS:S w) (h:Cg P md ops Q S f (p.setIfInBounds i true) ⟨b.toArray,n⟩ w)
  (hi:ops[i]? =some e:=by rfl) (j:e.dst=some d:=by rfl) (r:∀w,S w->(execOp (Act.eval ⟨l.toArray,n⟩) e).run P w= .ok (.value v) w:=by intro w hSw;(repeat rcases hSw with⟨_,hSw⟩);go_simp;try with_reducible rfl) (hl:l.set d v=b:=by(try simp only [aZ,aC]);try rfl) (q:Region.noSelect ops=true:=by kernel_rfl) (k:Region.free md ops p i=true:=by kernel_rfl)
  (o:(Region.ready md ops p).contains i=true:=by kernel_rfl) (m:Region.wanted e (yielded ops l.toArray)=true:=by kernel_rfl)
  (g:∀c a w,Q (.panic c) (a.put e.dst v) w->Q (.panic c) a w:=by first|exact fun _ _ _ h=>h|exact fun c a w h=>mQ c _ a w h):Cg P md ops Q S (f+1) p ⟨l.toArray,n⟩ w:=by
 refine L6 hi q k o g hS (Or.inl ⟨m,r⟩) ?_;rw [j,aL,hl];exact h
theorem aO {i:Nat} {o:Oper} {f:Nat} {p:Array Bool} {a:Act} {w:World} (e:Region.ready md ops p= [i]) (m:ops[i]? =some o)
  (h:∀b:Act->World->Prop,Hid (∀a w,S w->Cg P md ops Q S f (p.setIfInBounds i true) a w->b a w)->
   if Region.wanted o (yielded ops a.tmps)=true then Oper.wp P o a w b Q else b (a.put o.dst undef) w):Cg P md ops Q S (f+1) p a w:=by
 refine⟨fun c=>(by rw [e] at c;cases c),fun j d=> ?_⟩;rw [e] at d;obtain rfl:j=i:=by simpa using d
 exact wpOp_step m (fun b g=>h b (fun a w k l=>g a w ⟨k,l⟩))
theorem bG {p:Array Bool} {a:Act} {w:World} (b:Region.ready md ops p= []) (h:Q .normal a w):∀f,Cg P md ops Q S f p a w
 |0=>⟨b,h⟩
 |_+1=>⟨fun _=>h,by rw [b];simp⟩
theorem aU {id:Nat} {a:Act} {w:World} (S:World->Prop) (b:P.follows .mixedOrders=true)
  (h:Cg P .any ops Q S ops.size (Array.replicate ops.size false) a w.drew):(Code.region id ops true).wp P Q a w:=
 wp_region_any b (uI _ _ _ _ h)
end
end
section
theorem IK:∀(a:List UInt8),compareBytes a a=0
 | []=>by simp [compareBytes]
 |x::xs=>by
  unfold compareBytes;rw [if_neg (UInt8.lt_irrefl x),if_neg (UInt8.lt_irrefl x)];exact IK xs
theorem TB:∀(a b:List UInt8),compareBytes a b=0->a=b
 | [],[],_=>rfl
 | [],_::_,h=>by simp [compareBytes] at h
 |_::_,[],h=>by simp [compareBytes] at h
 |x::xs,y::f,h=>by
  unfold compareBytes at h
  by_cases c:x<y
  ·rw [if_pos c] at h;simp at h
  ·by_cases d:y<x
   ·rw [if_neg c,if_pos d] at h;simp at h
   ·rw [if_neg c,if_neg d] at h;have e:x=y:=UInt8.le_antisymm (UInt8.not_lt.1 d) (UInt8.not_lt.1 c);rw [e,TB xs f h]
theorem wE:∀(a b c:List UInt8),compareBytes a b<0->compareBytes b c<0->compareBytes a c<0
 |_,[],[],f,d=>by simp [compareBytes] at d
 | [],_,[],f,d=>by
  rename_i b
  cases b<;>simp [compareBytes] at d
 |_::_,[],_,f,_=>by simp [compareBytes] at f
 |_,_::_,[],_,d=>by simp [compareBytes] at d
 | [],_,_::_,_,_=>by simp [compareBytes]
 |x::xs,y::l,z::zs,f,d=>by
  have k:=wE xs l zs;unfold compareBytes at f d|-
  by_cases h:x<y
  ·by_cases g:y<z
   ·rw [if_pos (UInt8.lt_trans h g)];simp
   ·by_cases i:z<y
    ·rw [if_neg g,if_pos i] at d;simp at d
    ·have e:y=z:=UInt8.le_antisymm (UInt8.not_lt.1 i) (UInt8.not_lt.1 g);subst e
     rw [if_pos h];simp
  ·by_cases j:y<x
   ·rw [if_neg h,if_pos j] at f;simp at f
   ·have e:x=y:=UInt8.le_antisymm (UInt8.not_lt.1 j) (UInt8.not_lt.1 h);subst e;rw [if_neg h,if_neg h] at f
    by_cases g:x<z
    ·rw [if_pos g];simp
    ·by_cases i:z<x
     ·rw [if_neg g,if_pos i] at d;simp at d
     ·rw [if_neg g,if_neg i] at d|-;exact k f d
def zb (a b:List UInt8):Prop:=compareBytes a b<0
def vZ (a b:List UInt8):Prop:=compareBytes a b<=0
section
variable {a b c:List UInt8}
theorem zb.trans (h:zb a b) (k:zb b c):zb a c:=wE a b c h k
theorem zb.le (h:zb a b):vZ a b:=Int.le_of_lt h
theorem vZ.cases (h:vZ a b):a=b\/zb a b:=by
 unfold vZ at h;unfold zb
 by_cases e:compareBytes a b=0
 ·exact .inl (TB a b e)
 ·exact .inr (by omega)
theorem vZ.refl (a:List UInt8):vZ a a:=by unfold vZ;rw [IK];omega
theorem vZ.trans_lt (h:vZ a b) (k:zb b c):zb a c:=by
 rcases h.cases with e|h
 ·subst e;exact k
 ·exact h.trans k
theorem vZ.take:∀(n:Nat) (b:List UInt8),vZ (b.take n) b
 |0,[]=>vZ.refl _
 |0,_::_=>by simp [vZ,compareBytes]
 |n+1,[]=>vZ.refl _
 |n+1,x::xs=>by
  have:=vZ.take n xs;unfold vZ at this|-;rw [List.take_succ_cons];unfold compareBytes;rw [if_neg (UInt8.lt_irrefl x),if_neg (UInt8.lt_irrefl x)];exact this
theorem QO (h:zb a b) (f:b.length<=64):zb a (oz a b).1/\vZ (oz a b).1 b/\1<=(oz a b).1.length/\(oz a b).1.length<=64:=by
 have c:compareBytes a b<0:=h;have e:oz a b=(b.take (comm a b+1),0):=by unfold oz;rw [if_pos c]
 have d:=(gP a b).1 c;rw [e]
 refine⟨(xL (by omega)).2 ⟨c,by omega⟩,vZ.take _ _,?_,?_⟩
 ·simp only [List.length_take];omega
 ·simp only [List.length_take];omega
end
end
section
section
variable {P:Program} {ops:Array Oper} {Q:Exit->Act->World->Prop} {md:Region.Mode} {S S':World->Prop}
theorem iM (h:∀w,S' w->S w):∀{f:Nat} {b:Array Bool} {a:Act} {w:World},Cg P md ops Q S' f b a w->Cg P md ops Q S f b a w
 |0,_,_,_,H=>H
 |_+1,_,_,_,H=>⟨H.1,fun i hi=>wpOp_mono (fun _ _ c=>⟨h _ c.1,iM h c.2⟩) (H.2 i hi)⟩
end
end
theorem SB.mk (a:n<=c) (b:c<=maxLen) (d:n=bs.length) (e:Rd w F 1 A n (aF bs)):SB w F (.slice A n c) bs:=⟨A,n,c,rfl,a,b,d,e⟩
theorem SB.parts (h:SB w F (.slice A n c) bs):n<=c/\c<=maxLen/\n=bs.length/\Rd w F 1 A n (aF bs):=by
 obtain⟨k,m,l,e,f,g,i,j⟩:=h;injection e with a b d;subst a;subst b;subst d
 exact⟨f,g,i,j⟩
def mR (w:World) (bs:List UInt8) (e:Ending) (w':World):Prop:=
 ∃A n c,e= .returned (.slice A n c)/\SB w' (From w.heap.size) (.slice A n c) bs/\Below w.heap.size w w'
def lV (bs:List UInt8):ByteArray:=⟨bs.toArray⟩
theorem bf (w:World) (F:Nat->Prop) (A:Option Addr) (n c:Nat) (bs:List UInt8) (h:Rd w F 1 A n (aF bs)) (p:n=bs.length):
  (convert 24 9 (.slice A n c)).run prog w= .ok (.string (lV bs)) w:=by
 cases A with
 |none=>
  have d:n=0:=by
   rcases Nat.eq_zero_or_pos n with d|d
   ·exact d
   ·obtain⟨_,_,e,_⟩:=h.2 d;cases e
  subst d;have f:bs= []:=List.eq_nil_of_length_eq_zero p.symm;subst f
  exact run_convert_bytes_nil w 24 5 underlying24 underlying5 0 c _ underlying9
 |some a=>
  rcases Nat.eq_zero_or_pos n with d|d
  ·subst d;have f:bs= []:=List.eq_nil_of_length_eq_zero p.symm;subst f;rw [run_convert_bytes_string w 24 9 5 (some a) 0 c underlying24 underlying5 underlying9];have hl:(loadCells a 0).run prog w= .ok (([]:List Int).map (Value.int .u8)).toArray w:=run_loadCells_list (P:=prog) w a [] (fun j v k=>by simp at k)
   exact(run_bytesToString w a 0 c [] hl).trans (by rw [foldl_push_bytes];simp only [lV,ByteArray.empty,ByteArray.emptyWithCapacity];congr 2)
  ·obtain⟨b,o,e,_,g⟩:=h.2 d;injection e with e
   subst e
   have l:=run_convert_bytes_arg (P:=prog) w 24 5 underlying24 underlying5 b o n c (bs.map fun x=>(x.toNat:Int)) (by simp [p]) (fun i hi=>by
    have hl:i<bs.length:=by omega
    rw [g i (bv bs[i]) (by simp [aF,List.getElem?_eq_getElem hl])];simp [bv,List.getD,List.getElem?_eq_getElem hl]) _ underlying9
   rw [l];congr 2
   simp [strOfNums,lV,Function.comp_def]
theorem wo (a:List UInt8):(lV a).toList=a:=by rw [ByteArray.toList_eq];simp [lV]
theorem rQ:((lV a).toList==(lV b).toList)=decide (a=b):=by
 rw [wo,wo];by_cases h:a=b<;>simp [h]
theorem Le (F G:Nat->Prop) (A B:Option Addr) (n c m d:Nat) (xs ys:List UInt8) (w:World) (h:Rd w F 1 A n (aF xs)) (t:n=xs.length) (k:Rd w G 1 B m (aF ys)) (p:m=ys.length):
  Calls prog 163 #[.slice A n c,.slice B m d] w fun e w'=>e= .returned (.bool (decide (xs=ys)))/\w=w':=by
 have f:=bf w F A n c xs h t;have g:=bf w G B m d ys k p;have i:=rQ (a:=xs) (b:=ys);clear h k t p;go_enter func163,ntmps163
 go_wp2;go_ret
 exact⟨rfl,rfl⟩
theorem nQ (hv:v<2^(7*k)) (_b:x<128) (a:x*2^(7*k)+v<18446744073709551616):bits .or .u64 (v:Int) ((x*2^(7*k):Nat):Int)=((v+x*2^(7*k):Nat):Int):=by
 rw [bits_or_u64_nat _ _ (by omega) (by omega),Nat.or_comm,Nat.mul_comm x,<-Nat.two_pow_add_eq_or_of_lt hv,Nat.add_comm]
theorem Ta (c:UInt8):bits .and .u8 (c.toNat:Int) 127=((c.toNat%128:Nat):Int):=by
 have a:=c.toNat_lt;have h:=bits_mask .u8 8 (by decide) wraps_u8 7 (by omega) (c.toNat:Int) (by omega) (by omega);rw [show((2:Int)^7-1)=127 by decide] at h;rw [h];simp
def aT (k:Nat) (c:UInt8):Int:=if k=9/\1<c.toNat then 12 else if 0<k/\c.toNat=0 then 13 else 0
def uC (w:World) (q v k:Nat) (st:Int):Prop:=aj w q 308 #[.int .u64 v,.int .i64 k,.int .i64 st]
def En (q v k:Nat) (c:UInt8) (w:World) (e:Ending) (w':World):Prop:=
 e= .returned (.tuple #[.bool (decide (aT k c=0/\c.toNat<128)),.int .i64 (aT k c)])/\ag (fun b=>b=q) w w'/\
 (aT k c=0->uC w' q (v+c.toNat%128*128^k) (k+1) (if c.toNat<128 then 1 else 0))
theorem Lg (q v k:Nat) (c:UInt8) (w:World) (W:uC w q v k 0) (m:k<=9) (i:k=9) (f:1<c.toNat):
  Calls prog 167 #[.pointer (some ⟨q,0,none⟩),.int .u8 c.toNat] w (En q v k c w):=by
 unfold uC at W;have j:=aa W;have n:w.cell? ⟨q,0,none⟩=some (.int .u64 v):=W.cell 0;have o:w.cell? ⟨q,1,none⟩=some (.int .i64 k):=W.cell 1;have r:w.cell? ⟨q,2,none⟩=some (.int .i64 0):=W.cell 2;have s:=W.frozen 0;have t:=W.frozen 1;have l:=W.frozen 2;clear W;refine letter fun R e=> ?_
 (subst i;have d:Hid (aT 9 c=12):=aa (by unfold aT;rw [if_pos ⟨rfl,f⟩]);have g:(1:Int)<(c.toNat:Int):=by omega)
 go_enter func167,ntmps167
 go_wp2
 all_goals
  rw [e.out];have a:=d.out;exact⟨by rw [a];simp,((ag.refl (fun b=>b=q) _).setCell (p:=⟨q,1,none⟩) (fun _=>rfl) _).setCell (p:=⟨q,2,none⟩) (fun _=>rfl) _,fun h=>by rw [a] at h;cases h⟩
theorem zJ (q v k:Nat) (c:UInt8) (w:World) (W:uC w q v k 0) (m:k<=9) (f:0<k) (g:c.toNat=0):
  Calls prog 167 #[.pointer (some ⟨q,0,none⟩),.int .u8 c.toNat] w (En q v k c w):=by
 unfold uC at W;have j:=aa W;have n:w.cell? ⟨q,0,none⟩=some (.int .u64 v):=W.cell 0;have o:w.cell? ⟨q,1,none⟩=some (.int .i64 k):=W.cell 1;have r:w.cell? ⟨q,2,none⟩=some (.int .i64 0):=W.cell 2;have s:=W.frozen 0;have t:=W.frozen 1;have l:=W.frozen 2;clear W;refine letter fun R e=> ?_
 (have d:Hid (aT k c=13):=aa (by unfold aT;rw [if_neg (by omega),if_pos ⟨f,g⟩]);have i:(c.toNat:Int)=0:=by omega)
 go_enter func167,ntmps167
 go_wp2
 all_goals
  rw [e.out];have a:=d.out;exact⟨by rw [a];simp,((ag.refl (fun b=>b=q) _).setCell (p:=⟨q,1,none⟩) (fun _=>rfl) _).setCell (p:=⟨q,2,none⟩) (fun _=>rfl) _,fun h=>by rw [a] at h;cases h⟩
theorem Hl (q v k:Nat) (c:UInt8) (w:World) (W:uC w q v k 0) (A:k<=9) (x:0<k) (z:k<9) (y:c.toNat≠0) (n:c.toNat<128) (hv:v<128^k) (a:c.toNat%128*128^k+v<18446744073709551616):
  Calls prog 167 #[.pointer (some ⟨q,0,none⟩),.int .u8 c.toNat] w (En q v k c w):=by
 unfold uC at W;have f:=aa W;have B:w.cell? ⟨q,0,none⟩=some (.int .u64 v):=W.cell 0;have C:w.cell? ⟨q,1,none⟩=some (.int .i64 k):=W.cell 1;have D:w.cell? ⟨q,2,none⟩=some (.int .i64 0):=W.cell 2;have E:=W.frozen 0;have F:=W.frozen 1;have u:=W.frozen 2;clear W;refine letter fun R h=> ?_
 (have g:Hid (aT k c=0):=aa (by unfold aT;rw [if_neg (by omega),if_neg (by omega)]);have i:=aa hv;have j:=aa a;clear hv a;have m:¬((c.toNat:Int)=0):=(by omega);have l:(c.toNat:Int)<128:=(by omega))
 go_enter func167,ntmps167
 go_upto_region 10 with fail
 go_region
 all_goals go_wp2
 all_goals
  rw [h.out];have o:=g.out;have d:(128:Nat)^k=2^(7*k):=by rw [Nat.pow_mul]
  have hl:=i.out;have a:=j.out;rw [d] at hl a;have r:c.toNat%128<128:=Nat.mod_lt _ (by omega);have e:=nQ hl r (by omega);rw [<-d] at e;have t:IntKind.u64.wrap ((c.toNat%128:Nat):Int)=((c.toNat%128:Nat):Int):=by rw [IntKind.wrap_u64];omega
  (have s:IntKind.u64.wrap (((c.toNat%128:Nat):Int)*2^(7*k))=((c.toNat%128*128^k:Nat):Int):=by{rw [d,show(((c.toNat%128:Nat):Int)*2^(7*k))=((c.toNat%128*2^(7*k):Nat):Int) by push_cast;rfl];rw [IntKind.wrap_u64];omega});rw [Ta,t,s,e]
  refine⟨by rw [o,decide_eq_true ⟨rfl,n⟩];try rfl,?_,fun _=> ?_⟩
  ·exact((((ag.refl (fun b=>b=q) w).setCell (p:=⟨q,1,none⟩) (fun _=>rfl) _).setCell (p:=⟨q,0,none⟩) (fun _=>rfl) _).drew).setCell (p:=⟨q,2,none⟩) (fun _=>rfl) _
  ·(rw [if_pos n];exact(((f.set_ 1 (.int .i64 ((k:Int)+1))).set_ 0 (.int .u64 ((v+c.toNat%128*128^k:Nat):Int))).drew.set_ 2 (.int .i64 1)))
theorem Hm (q v k:Nat) (c:UInt8) (w:World) (W:uC w q v k 0) (A:k<=9) (x:0<k) (z:k<9) (_y:c.toNat≠0) (Q:¬c.toNat<128) (hv:v<128^k) (a:c.toNat%128*128^k+v<18446744073709551616):
  Calls prog 167 #[.pointer (some ⟨q,0,none⟩),.int .u8 c.toNat] w (En q v k c w):=by
 unfold uC at W;have f:=aa W;have B:w.cell? ⟨q,0,none⟩=some (.int .u64 v):=W.cell 0;have C:w.cell? ⟨q,1,none⟩=some (.int .i64 k):=W.cell 1;have D:w.cell? ⟨q,2,none⟩=some (.int .i64 0):=W.cell 2;have E:=W.frozen 0;have F:=W.frozen 1;have u:=W.frozen 2;clear W;refine letter fun R i=> ?_
 (have g:Hid (aT k c=0):=aa (by unfold aT;rw [if_neg (by omega),if_neg (by omega)]);have j:=aa hv;have l:=aa a;clear hv a;have n:¬((c.toNat:Int)=0):=(by omega);have m:¬((c.toNat:Int)<128):=(by omega))
 go_enter func167,ntmps167
 go_upto_region 10 with fail
 go_region
 all_goals go_wp2
 all_goals
  rw [i.out];have o:=g.out;have d:(128:Nat)^k=2^(7*k):=by rw [Nat.pow_mul]
  have hl:=j.out;have a:=l.out;rw [d] at hl a;have r:c.toNat%128<128:=Nat.mod_lt _ (by omega);have e:=nQ hl r (by omega);rw [<-d] at e;have t:IntKind.u64.wrap ((c.toNat%128:Nat):Int)=((c.toNat%128:Nat):Int):=by rw [IntKind.wrap_u64];omega
  (have s:IntKind.u64.wrap (((c.toNat%128:Nat):Int)*2^(7*k))=((c.toNat%128*128^k:Nat):Int):=by{rw [d,show(((c.toNat%128:Nat):Int)*2^(7*k))=((c.toNat%128*2^(7*k):Nat):Int) by push_cast;rfl];rw [IntKind.wrap_u64];omega});rw [Ta,t,s,e]
  refine⟨by rw [o,decide_eq_false (fun h=>Q h.2)];try rfl,?_,fun _=> ?_⟩
  ·exact((((ag.refl (fun b=>b=q) w).setCell (p:=⟨q,1,none⟩) (fun _=>rfl) _).setCell (p:=⟨q,0,none⟩) (fun _=>rfl) _).drew)
  ·(rw [if_neg Q];exact(((f.set_ 1 (.int .i64 ((k:Int)+1))).set_ 0 (.int .u64 ((v+c.toNat%128*128^k:Nat):Int))).drew))
theorem BD (q v k:Nat) (c:UInt8) (w:World) (W:uC w q v k 0) (x:k<=9) (f:k=0) (n:c.toNat<128) (hv:v<128^k) (a:c.toNat%128*128^k+v<18446744073709551616):
  Calls prog 167 #[.pointer (some ⟨q,0,none⟩),.int .u8 c.toNat] w (En q v k c w):=by
 unfold uC at W;have i:=aa W;have y:w.cell? ⟨q,0,none⟩=some (.int .u64 v):=W.cell 0;have z:w.cell? ⟨q,1,none⟩=some (.int .i64 k):=W.cell 1;have A:w.cell? ⟨q,2,none⟩=some (.int .i64 0):=W.cell 2;have B:=W.frozen 0;have C:=W.frozen 1;have u:=W.frozen 2;clear W;refine letter fun R l=> ?_
 (have j:Hid (aT k c=0):=aa (by unfold aT;rw [if_neg (by omega),if_neg (by omega)]);have m:=aa hv;have o:=aa a;clear hv a;skip;have r:(c.toNat:Int)<128:=(by omega))
 go_enter func167,ntmps167
 go_upto_region 10 with fail
 go_region
 all_goals go_wp2
 all_goals
  rw [l.out];have s:=j.out;have g:(128:Nat)^k=2^(7*k):=by rw [Nat.pow_mul]
  have hl:=m.out;have a:=o.out;rw [g] at hl a;have t:c.toNat%128<128:=Nat.mod_lt _ (by omega);have d:=nQ hl t (by omega);rw [<-g] at d;have h:IntKind.u64.wrap ((c.toNat%128:Nat):Int)=((c.toNat%128:Nat):Int):=by rw [IntKind.wrap_u64];omega
  (have e:c.toNat%128*128^k=c.toNat%128:=by{rw [f];simp});rw [e] at d;rw [Ta,h,h,d,<-e]
  refine⟨by rw [s,decide_eq_true ⟨rfl,n⟩];try rfl,?_,fun _=> ?_⟩
  ·exact((((ag.refl (fun b=>b=q) w).setCell (p:=⟨q,1,none⟩) (fun _=>rfl) _).setCell (p:=⟨q,0,none⟩) (fun _=>rfl) _).drew).setCell (p:=⟨q,2,none⟩) (fun _=>rfl) _
  ·(rw [if_pos n];subst f;exact(((i.set_ 1 _).set_ 0 _).drew.set_ 2 (.int .i64 1)))
theorem BF (q v k:Nat) (c:UInt8) (w:World) (W:uC w q v k 0) (x:k<=9) (f:k=0) (Q:¬c.toNat<128) (hv:v<128^k) (a:c.toNat%128*128^k+v<18446744073709551616):
  Calls prog 167 #[.pointer (some ⟨q,0,none⟩),.int .u8 c.toNat] w (En q v k c w):=by
 unfold uC at W;have j:=aa W;have y:w.cell? ⟨q,0,none⟩=some (.int .u64 v):=W.cell 0;have z:w.cell? ⟨q,1,none⟩=some (.int .i64 k):=W.cell 1;have A:w.cell? ⟨q,2,none⟩=some (.int .i64 0):=W.cell 2;have B:=W.frozen 0;have C:=W.frozen 1;have u:=W.frozen 2;clear W;refine letter fun R m=> ?_
 (have l:Hid (aT k c=0):=aa (by unfold aT;rw [if_neg (by omega),if_neg (by omega)]);have n:=aa hv;have o:=aa a;clear hv a;skip;have r:¬((c.toNat:Int)<128):=(by omega))
 go_enter func167,ntmps167
 go_upto_region 10 with fail
 go_region
 all_goals go_wp2
 all_goals
  rw [m.out];have s:=l.out;have g:(128:Nat)^k=2^(7*k):=by rw [Nat.pow_mul]
  have hl:=n.out;have a:=o.out;rw [g] at hl a;have t:c.toNat%128<128:=Nat.mod_lt _ (by omega);have d:=nQ hl t (by omega);rw [<-g] at d;have i:IntKind.u64.wrap ((c.toNat%128:Nat):Int)=((c.toNat%128:Nat):Int):=by rw [IntKind.wrap_u64];omega
  (have e:c.toNat%128*128^k=c.toNat%128:=by{rw [f];simp});rw [e] at d;rw [Ta,i,i,d,<-e]
  refine⟨by rw [s,decide_eq_false (fun h=>Q h.2)];try rfl,?_,fun _=> ?_⟩
  ·exact((((ag.refl (fun b=>b=q) w).setCell (p:=⟨q,1,none⟩) (fun _=>rfl) _).setCell (p:=⟨q,0,none⟩) (fun _=>rfl) _).drew)
  ·(rw [if_neg Q];subst f;exact(((j.set_ 1 _).set_ 0 _).drew))
theorem BG (q v k:Nat) (c:UInt8) (w:World) (W:uC w q v k 0) (z:k<=9) (g:k=9) (s:c.toNat=1) (n:c.toNat<128) (hv:v<128^k) (a:c.toNat%128*128^k+v<18446744073709551616):
  Calls prog 167 #[.pointer (some ⟨q,0,none⟩),.int .u8 c.toNat] w (En q v k c w):=by
 unfold uC at W;have i:=aa W;have B:w.cell? ⟨q,0,none⟩=some (.int .u64 v):=W.cell 0;have C:w.cell? ⟨q,1,none⟩=some (.int .i64 k):=W.cell 1;have D:w.cell? ⟨q,2,none⟩=some (.int .i64 0):=W.cell 2;have E:=W.frozen 0;have F:=W.frozen 1;have y:=W.frozen 2;clear W;refine letter fun R l=> ?_
 (have j:Hid (aT k c=0):=aa (by unfold aT;rw [if_neg (by omega),if_neg (by omega)]);have m:=aa hv;have o:=aa a;clear hv a;have t:((c.toNat:Int)=1):=(by omega);have r:(c.toNat:Int)<128:=(by omega))
 go_enter func167,ntmps167
 go_upto_region 10 with fail
 go_region
 all_goals go_wp2
 all_goals
  rw [l.out];have u:=j.out;have h:(128:Nat)^k=2^(7*k):=by rw [Nat.pow_mul]
  have hl:=m.out;have a:=o.out;rw [h] at hl a;have x:c.toNat%128<128:=Nat.mod_lt _ (by omega);have e:=nQ hl x (by omega);rw [<-h] at e;have A:IntKind.u64.wrap ((c.toNat%128:Nat):Int)=((c.toNat%128:Nat):Int):=by rw [IntKind.wrap_u64];omega
  (have f:c.toNat%128*128^k=9223372036854775808:=by{rw [g,s]});rw [f] at e;(have d:IntKind.u64.wrap (IntKind.u64.wrap (bits .and .u8 1 127)*9223372036854775808)=((9223372036854775808:Nat):Int):=by decide);rw [d,e,<-f]
  refine⟨by rw [u,decide_eq_true ⟨rfl,n⟩];try rfl,?_,fun _=> ?_⟩
  ·exact((((ag.refl (fun b=>b=q) w).setCell (p:=⟨q,1,none⟩) (fun _=>rfl) _).setCell (p:=⟨q,0,none⟩) (fun _=>rfl) _).drew).setCell (p:=⟨q,2,none⟩) (fun _=>rfl) _
  ·(rw [if_pos n];subst g;exact(((i.set_ 1 _).set_ 0 _).drew.set_ 2 (.int .i64 1)))
theorem qi (q v k:Nat) (c:UInt8) (w:World) (W:uC w q v k 0) (b:k<=9) (hv:v<128^k):Calls prog 167 #[.pointer (some ⟨q,0,none⟩),.int .u8 c.toNat] w (En q v k c w):=by
 have j:c.toNat%128<128:=Nat.mod_lt _ (by omega)
 rcases Nat.lt_or_ge k 9 with d|d
 ·have h:128^(k+1)<=128^9:=Nat.pow_le_pow_right (by omega) (by omega);have i:c.toNat%128*128^k<=127*128^k:=Nat.mul_le_mul_right _ (by omega);rw [Nat.pow_succ] at h;have a:c.toNat%128*128^k+v<18446744073709551616:=by omega
  by_cases e:c.toNat<128
  ·by_cases g:k=0
   ·exact BD q v k c w W b g e hv a
   ·by_cases f:c.toNat=0
    ·exact zJ q v k c w W b (by omega) f
    ·exact Hl q v k c w W b (by omega) d f e hv a
  ·by_cases g:k=0
   ·exact BF q v k c w W b g e hv a
   ·exact Hm q v k c w W b (by omega) d (by omega) e hv a
 ·have d:k=9:=by omega
  by_cases e:1<c.toNat
  ·exact Lg q v k c w W b d e
  ·by_cases f:c.toNat=0
   ·exact zJ q v k c w W b (by omega) f
   ·refine BG q v k c w W b d (by omega) (by omega) hv ?_;rw [d] at hv|-;rw [show c.toNat=1 by omega];omega
end Go.Proofs.YtepgcjbhabnciaaGreat
