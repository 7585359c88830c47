/- Part 3. -/
import Derived.OrdersHeld
import Derived.Deep.RegionHeld
import Derived.Test.YtepgcjbhabnciaaGreatLp02
import Derived.Deep.Cut
namespace Go.Proofs.YtepgcjbhabnciaaGreat
set_option maxRecDepth 100000
set_option maxHeartbeats 8000000
open Go.RowKit Go.Proofs.Tryz
variable {b o m v k q c x:Nat} {bs g:List UInt8} {F:Nat->Prop} {w:World}
section
section
variable {P:Program} {ops:Array Oper} {Q:Exit->Act->World->Prop} {md:Region.Mode} {S:World->Prop} {b:Nat}
def EZ (P:Program) (md:Region.Mode) (ops:Array Oper) (Q:Exit->Act->World->Prop) (S:World->Prop) (b:Nat):Nat->Array Bool->Act->World->Prop
 |0,c,a,w=>Region.ready md ops c= []/\Q .normal a w
 |f+1,c,a,w=>
  (Region.ready md ops c= []->Q .normal a w)/\
  ∀i∈Region.ready md ops c,wpOp P ops Q i (fun d w'=>((c.setIfInBounds i true).getD b true=false->S w')/\EZ P md ops Q S b f (c.setIfInBounds i true) d w') a w
theorem zX:∀(f:Nat) (c:Array Bool) (a:Act) (w:World),EZ P md ops Q S b f c a w->wpAny P md ops Q f c a w
 |0,_,_,_,h=>h
 |f+1,_,_,_,h=>⟨h.1,fun i hi=>wpOp_mono (fun d w' e=>zX f _ d w' e.2) (h.2 i hi)⟩
def waits (md:Region.Mode) (ops:Array Oper) (b i:Nat):Bool:=
 match ops[b]? with
 |some o=>o.after.any fun e=>Region.binds md e&&e.on==i
 |none=>false
theorem Lt {i:Nat} (h:waits md ops b i=true) {t:Array Bool} (hi:t.getD i true=false):b∉Region.ready md ops t:=by
 intro f;obtain⟨_,o,j,c⟩:=mem_ready.1 f;unfold waits at h;rw [j] at h;obtain⟨e,g,d⟩:=Array.any_eq_true'.1 h;simp only [Bool.and_eq_true,beq_iff_eq] at d;have a:=c e g d.1;rw [d.2] at a
 rcases Nat.lt_or_ge i t.size with hl|hl
 ·simp [hl] at a hi;rw [hi] at a;cases a
 ·simp [Array.getElem?_eq_none hl] at a
theorem ek {l:Array Bool} {i j:Nat} (h:i≠j):(l.setIfInBounds i true).getD j true=l.getD j true:=by
 simp only [Array.getD_eq_getD_getElem?,Array.getElem?_setIfInBounds,if_neg h]
theorem PD {i:Nat} {p:Oper} {v:Value} (hi:ops[i]? =some p) (q:∀(j:Nat) (o:Oper) cs c,ops[j]? =some o->o.op≠ .select cs c)
  (W:∀c a w,Q (.panic c) (a.put p.dst v) w->Q (.panic c) a w) (R:i≠b) (Y:waits md ops b i=true):
  ∀(f:Nat) (d:Array Bool) (a:Act) (w:World),
   (∀j x,ops[j]? =some x->j≠i->d.getD j true=false->(∀e∈x.after,Region.binds md e=true->e.on≠i)->p.apart ops x=true)->
   i∈Region.ready md ops d->d.getD b true=false->YieldsIf P ops S p v a->S w->
   EZ P md ops Q S b f (d.setIfInBounds i true) (a.put p.dst v) w->EZ P md ops Q S b (f+1) d a w:=by
 intro f
 induction f with
 |zero=>
  intro d a w _ u _ K y H;refine⟨fun h=>(by rw [h] at u;cases u),fun j B=> ?_⟩
  by_cases g:j=i
  ·subst g;exact K.wpOp hi y ⟨fun _=>y,H⟩
  ·have J:=ready_mono B g;rw [H.1] at J
   cases J
 |succ f Z=>
  intro d a w l u T K y H;refine⟨fun h=>(by rw [h] at u;cases u),fun j B=> ?_⟩
  by_cases g:j=i
  ·subst g;exact K.wpOp hi y ⟨fun _=>y,H⟩
  ·have J:=H.2 j (ready_mono B g);have s:=(mem_ready.1 u).1;have C:j≠b:=fun e=>Lt Y s (e▸B);obtain⟨n,x,t,A⟩:=mem_ready.1 B
   have G:∀e∈x.after,Region.binds md e=true->e.on≠i:=by
    intro e X M O;have r:=A e X M;rw [O] at r
    rcases Nat.lt_or_ge i d.size with hl|hl
    ·simp [hl] at r s;rw [s] at r;cases r
    ·simp [Array.getElem?_eq_none hl] at r
   have r:=wpOp_putIf t (l j x t g n G) (fun cs c=>q i p cs c hi) (fun cs c=>q j x cs c t) W K J;have N:(d.setIfInBounds j true).getD b true=false:=by rw [ek C];exact T
   have m:∀k ok,ops[k]? =some ok->k≠i->(d.setIfInBounds j true).getD k true=false->(∀e∈ok.after,Region.binds md e=true->e.on≠i)->p.apart ops ok=true:=by
    intro k ok U E I F
    by_cases D:j=k
    ·subst D;exact l _ ok U E n F
    ·rw [ek D] at I;exact l k ok U E I F
   refine wpOp_mono (fun V w' L=> ?_) r;have z:S w':=L.2.1 (by rw [ek C,ek R];exact T);refine⟨fun _=>z,Z (d.setIfInBounds j true) V w' m (ready_mono u (Ne.symm g)) N L.1 z ?_⟩;rw [Array.setIfInBounds_comm _ _ g];exact L.2.2
theorem pX {i:Nat} {p:Oper} {v:Value} {f:Nat} {t:Array Bool} {a:Act} {w:World} (hi:ops[i]? =some p)
  (l:Region.noSelect ops=true) (j:Region.free md ops t i=true) (k:(Region.ready md ops t).contains i=true) (d:(i !=b&&waits md ops b i&& !(t.getD b true))=true)
  (g:∀c a w,Q (.panic c) (a.put p.dst v) w->Q (.panic c) a w) (e:S w) (m:YieldsIf P ops S p v a)
  (h:EZ P md ops Q S b f (t.setIfInBounds i true) (a.put p.dst v) w):EZ P md ops Q S b (f+1) t a w:=by
 simp only [Bool.and_eq_true,bne_iff_ne,Bool.not_eq_true'] at d;exact PD hi (Region.noSelect_spec l) g d.1.1 d.1.2 f t a w (Region.free_spec hi j) (by simpa using k) d.2 m e h
theorem Lu {i:Nat} {p:Oper} {v:Value} (hi:ops[i]? =some p) (q:∀(j:Nat) (o:Oper) cs c,ops[j]? =some o->o.op≠ .select cs c)
  (U:∀c a w,Q (.panic c) (a.put p.dst v) w->Q (.panic c) a w) (t:i≠b):
  ∀(f:Nat) (d:Array Bool) (a:Act) (w:World),
   (∀j y,ops[j]? =some y->j≠i->d.getD j true=false->(∀e∈y.after,Region.binds md e=true->e.on≠i)->p.apart ops y=true)->
   i∈Region.ready md ops d->YieldsIf P ops (fun _=>True) p v a->(d.getD b true=false->S w)->
   EZ P md ops Q S b f (d.setIfInBounds i true) (a.put p.dst v) w->EZ P md ops Q S b (f+1) d a w:=by
 intro f
 induction f with
 |zero=>
  intro d a w _ x K M H;refine⟨fun h=>(by rw [h] at x;cases x),fun j J=> ?_⟩
  by_cases g:j=i
  ·subst g;exact K.wpOp hi trivial ⟨fun s=>M (by rw [ek t] at s;exact s),H⟩
  ·have I:=ready_mono J g;rw [H.1] at I
   cases I
 |succ f W=>
  intro d a w l x K M H;refine⟨fun h=>(by rw [h] at x;cases x),fun j J=> ?_⟩
  by_cases g:j=i
  ·subst g;exact K.wpOp hi trivial ⟨fun s=>M (by rw [ek t] at s;exact s),H⟩
  ·have I:=H.2 j (ready_mono J g);have B:=(mem_ready.1 x).1;obtain⟨n,y,u,A⟩:=mem_ready.1 J
   have F:∀e∈y.after,Region.binds md e=true->e.on≠i:=by
    intro e V N O;have r:=A e V N;rw [O] at r
    rcases Nat.lt_or_ge i d.size with hl|hl
    ·simp [hl] at r B;rw [B] at r;cases r
    ·simp [Array.getElem?_eq_none hl] at r
   have r:=wpOp_putIf u (l j y u g n F) (fun cs c=>q i p cs c hi) (fun cs c=>q j y cs c u) U K I
   have m:∀k ok,ops[k]? =some ok->k≠i->(d.setIfInBounds j true).getD k true=false->(∀e∈ok.after,Region.binds md e=true->e.on≠i)->p.apart ops ok=true:=by
    intro k ok R D G E
    by_cases C:j=k
    ·subst C;exact l _ ok R D n E
    ·rw [ek C] at G;exact l k ok R D G E
   refine wpOp_mono (fun T w' L=> ?_) r
   have z:(d.setIfInBounds j true).getD b true=false->S w':=fun s=>L.2.1 (by
    rw [Array.setIfInBounds_comm _ _ (Ne.symm g),ek t];exact s)
   refine⟨z,W (d.setIfInBounds j true) T w' m (ready_mono x (Ne.symm g)) L.1 z ?_⟩;rw [Array.setIfInBounds_comm _ _ g];exact L.2.2
theorem dU {i:Nat} {p:Oper} {v:Value} {f:Nat} {t:Array Bool} {a:Act} {w:World} (hi:ops[i]? =some p)
  (k:Region.noSelect ops=true) (g:Region.free md ops t i=true) (j:(Region.ready md ops t).contains i=true) (l:(i !=b)=true)
  (d:∀c a w,Q (.panic c) (a.put p.dst v) w->Q (.panic c) a w) (e:t.getD b true=false->S w) (m:YieldsIf P ops (fun _=>True) p v a)
  (h:EZ P md ops Q S b f (t.setIfInBounds i true) (a.put p.dst v) w):EZ P md ops Q S b (f+1) t a w:=
 Lu hi (Region.noSelect_spec k) d (by simpa using l) f t a w (Region.free_spec hi g) (by simpa using j) m e h
theorem az {i:Nat} {o:Oper} {f:Nat} {t:Array Bool} {a:Act} {w:World} (g:Region.ready md ops t= [i]) (n:ops[i]? =some o)
  (h:∀c:Act->World->Prop,Hid (∀a w,((t.setIfInBounds i true).getD b true=false->S w)->EZ P md ops Q S b f (t.setIfInBounds i true) a w->c a w)->
   if Region.wanted o (yielded ops a.tmps)=true then Oper.wp P o a w c Q else c (a.put o.dst undef) w):EZ P md ops Q S b (f+1) t a w:=by
 refine⟨fun d=>(by rw [g] at d;cases d),fun j e=> ?_⟩;rw [g] at e;obtain rfl:j=i:=by simpa using e
 exact wpOp_step n (fun c k=>h c (fun a w l m=>k a w ⟨l,m⟩))
theorem bH {t:Array Bool} {a:Act} {w:World} (c:Region.ready md ops t= []) (h:Q .normal a w):∀f,EZ P md ops Q S b f t a w
 |0=>⟨c,h⟩
 |_+1=>⟨fun _=>h,by rw [c];simp⟩
theorem aM {id:Nat} {a:Act} {w:World} (S:World->Prop) (b:Nat) (c:P.follows .mixedOrders=true)
  (h:EZ P .any ops Q S b ops.size (Array.replicate ops.size false) a w.drew):(Code.region id ops true).wp P Q a w:=
 wp_region_any c (zX _ _ _ _ h)
theorem aL (l:List Value) (F:List Deferred) (d:Nat) (v:Value):Act.put ⟨l.toArray,F⟩ (some d) v=⟨(l.set d v).toArray,F⟩:=by simp [Act.put]
theorem aN (a:Act) (v:Value):a.put none v=a:=rfl
theorem aZ (x y:Value) (l:List Value):(x::l).set 0 y=y::l:=rfl
theorem aC (x y:Value) (l:List Value) (n:Nat):(x::l).set (n+1) y=x::l.set n y:=rfl
theorem uT (i:Nat) {l u:List Value} {F:List Deferred} {d:Nat} {v:Value} {p:Oper} {f:Nat} {t:Array Bool} {w:World} (e:S w) (h:EZ P md ops Q S b f (t.setIfInBounds i true) ⟨u.toArray,F⟩ w)
  (hi:ops[i]? =some p:=by rfl) (k:p.dst=some d:=by rfl) (r:∀w,S w->(execOp (Act.eval ⟨l.toArray,F⟩) p).run P w= .ok (.value v) w:=by intro w g;(repeat rcases g with⟨_,g⟩);go_simp;try with_reducible rfl) (hl:l.set d v=u:=by(try simp only [aZ,aC]);try rfl) (o:Region.noSelect ops=true:=by kernel_rfl) (m:Region.free md ops t i=true:=by kernel_rfl)
  (n:(Region.ready md ops t).contains i=true:=by kernel_rfl) (q:(i !=b&&waits md ops b i&& !(t.getD b true))=true:=by kernel_rfl) (hn:Region.wanted p (yielded ops l.toArray)=true:=by kernel_rfl)
  (j:∀c a w,Q (.panic c) (a.put p.dst v) w->Q (.panic c) a w:=by first|exact fun _ _ _ h=>h|exact fun c a w h=>kF c _ a w h):EZ P md ops Q S b (f+1) t ⟨l.toArray,F⟩ w:=by
 refine pX hi o m n q j e (Or.inl ⟨hn,r⟩) ?_;rw [k,aL,hl];exact h
theorem mR (i:Nat) {o:Oper} {f:Nat} {t:Array Bool} {a:Act} {w:World}
  (h:∀c:Act->World->Prop,Hid (∀a w,((t.setIfInBounds i true).getD b true=false->S w)->EZ P md ops Q S b f (t.setIfInBounds i true) a w->c a w)->
   if Region.wanted o (yielded ops a.tmps)=true then Oper.wp P o a w c Q else c (a.put o.dst undef) w) (e:Region.ready md ops t= [i]:=by kernel_rfl) (d:ops[i]? =some o:=by rfl):EZ P md ops Q S b (f+1) t a w:=az e d h
theorem rR {K:Act->World->Prop} {f:Nat} {L:Array Bool} {l u:List Value} {F:List Deferred} {d:Nat} {v:Value} {w:World} (c:Hid (∀a w,(L.getD b true=false->S w)->EZ P md ops Q S b f L a w->K a w)) (e:L.getD b true=false->S w) (h:EZ P md ops Q S b f L ⟨u.toArray,F⟩ w) (hl:l.set d v=u:=by(try simp only [aZ,aC]);try rfl):K (Act.put ⟨l.toArray,F⟩ (some d) v) w:=by
 subst hl;rw [aL];exact c.out _ _ e h
theorem uF (i:Nat) {l u:List Value} {F:List Deferred} {d:Nat} {v:Value} {p:Oper} {f:Nat} {t:Array Bool} {w:World} (j:t.getD b true=false->S w) (h:EZ P md ops Q S b f (t.setIfInBounds i true) ⟨u.toArray,F⟩ w)
  (hi:ops[i]? =some p:=by rfl) (k:p.dst=some d:=by rfl) (r:∀w,True->(execOp (Act.eval ⟨l.toArray,F⟩) p).run P w= .ok (.value v) w:=by intro w e;(repeat rcases e with⟨_,e⟩);go_simp;try with_reducible rfl) (hl:l.set d v=u:=by(try simp only [aZ,aC]);try rfl) (o:Region.noSelect ops=true:=by kernel_rfl) (m:Region.free md ops t i=true:=by kernel_rfl)
  (n:(Region.ready md ops t).contains i=true:=by kernel_rfl) (q:(i !=b)=true:=by kernel_rfl) (hn:Region.wanted p (yielded ops l.toArray)=true:=by kernel_rfl)
  (g:∀c a w,Q (.panic c) (a.put p.dst v) w->Q (.panic c) a w:=by first|exact fun _ _ _ h=>h|exact fun c a w h=>kF c _ a w h):EZ P md ops Q S b (f+1) t ⟨l.toArray,F⟩ w:=by
 refine dU hi o m n q g j (Or.inl ⟨hn,r⟩) ?_;rw [k,aL,hl];exact h
end
end
section
section
variable {P:Program} {ops:Array Oper} {Q:Exit->Act->World->Prop} {md:Region.Mode} {S:World->Prop}
def Fp (P:Program) (md:Region.Mode) (ops:Array Oper) (Q:Exit->Act->World->Prop) (S:World->Prop):Nat->Array Bool->Act->World->Prop
 |0,b,a,w=>Region.ready md ops b= []/\Q .normal a w
 |f+1,b,a,w=>
  (Region.ready md ops b= []->Q .normal a w)/\
  ∀i∈Region.ready md ops b,wpOp P ops Q i (fun c w'=>S w'/\Fp P md ops Q S f (b.setIfInBounds i true) c w') a w
theorem xY:∀(f:Nat) (b:Array Bool) (a:Act) (w:World),Fp P md ops Q S f b a w->wpAny P md ops Q f b a w
 |0,_,_,_,h=>h
 |f+1,_,_,_,h=>⟨h.1,fun i hi=>wpOp_mono (fun c w' d=>xY f _ c w' d.2) (h.2 i hi)⟩
theorem M0 {i:Nat} {p:Oper} {v:Value} (hi:ops[i]? =some p) (n:∀(j:Nat) (o:Oper) cs c,ops[j]? =some o->o.op≠ .select cs c)
  (N:∀c a w,Q (.panic c) (a.put p.dst v) w->Q (.panic c) a w):
  ∀(f:Nat) (b:Array Bool) (a:Act) (w:World),
   (∀j t,ops[j]? =some t->j≠i->b.getD j true=false->(∀e∈t.after,Region.binds md e=true->e.on≠i)->p.apart ops t=true)->
   i∈Region.ready md ops b->YieldsIf P ops S p v a->S w->
   Fp P md ops Q S f (b.setIfInBounds i true) (a.put p.dst v) w->Fp P md ops Q S (f+1) b a w:=by
 intro f
 induction f with
 |zero=>
  intro b a w _ s I u H;refine⟨fun h=>(by rw [h] at s;cases s),fun j G=> ?_⟩
  by_cases d:j=i
  ·subst d;exact I.wpOp hi u ⟨u,H⟩
  ·have E:=ready_mono G d;rw [H.1] at E
   cases E
 |succ f R=>
  intro b a w g s I u H;refine⟨fun h=>(by rw [h] at s;cases s),fun j G=> ?_⟩
  by_cases d:j=i
  ·subst d;exact I.wpOp hi u ⟨u,H⟩
  ·have E:=H.2 j (ready_mono G d);have y:=(mem_ready.1 s).1;obtain⟨m,t,r,x⟩:=mem_ready.1 G
   have C:∀e∈t.after,Region.binds md e=true->e.on≠i:=by
    intro e O J K;have q:=x e O J;rw [K] at q
    rcases Nat.lt_or_ge i b.size with hl|hl
    ·simp [hl] at q y;rw [y] at q;cases q
    ·simp [Array.getElem?_eq_none hl] at q
   have q:=wpOp_putIf r (g j t r d m C) (fun cs c=>n i p cs c hi) (fun cs c=>n j t cs c r) N I E
   have l:∀k ok,ops[k]? =some ok->k≠i->(b.setIfInBounds j true).getD k true=false->(∀e∈ok.after,Region.binds md e=true->e.on≠i)->p.apart ops ok=true:=by
    intro k ok L A D B
    by_cases z:j=k
    ·subst z;exact g _ ok L A m B
    ·rw [ek z] at D;exact g k ok L A D B
   refine wpOp_mono (fun M w' F=> ?_) q;refine⟨F.2.1,R (b.setIfInBounds j true) M w' l (ready_mono s (Ne.symm d)) F.1 F.2.1 ?_⟩;rw [Array.setIfInBounds_comm _ _ d];exact F.2.2
theorem Qe {i:Nat} {p:Oper} {v:Value} {f:Nat} {t:Array Bool} {a:Act} {w:World} (hi:ops[i]? =some p)
  (j:Region.noSelect ops=true) (d:Region.free md ops t i=true) (g:(Region.ready md ops t).contains i=true)
  (b:∀c a w,Q (.panic c) (a.put p.dst v) w->Q (.panic c) a w) (e:S w) (k:YieldsIf P ops S p v a)
  (h:Fp P md ops Q S f (t.setIfInBounds i true) (a.put p.dst v) w):Fp P md ops Q S (f+1) t a w:=
 M0 hi (Region.noSelect_spec j) b f t a w (Region.free_spec hi d) (by simpa using g) k e h
theorem vT (i:Nat) {l u:List Value} {F:List Deferred} {d:Nat} {v:Value} {p:Oper} {f:Nat} {t:Array Bool} {w:World} (e:S w) (h:Fp P md ops Q S f (t.setIfInBounds i true) ⟨u.toArray,F⟩ w)
  (hi:ops[i]? =some p:=by rfl) (j:p.dst=some d:=by rfl) (o:∀w,S w->(execOp (Act.eval ⟨l.toArray,F⟩) p).run P w= .ok (.value v) w:=by intro w b;(repeat rcases b with⟨_,b⟩);go_simp;try with_reducible rfl) (hl:l.set d v=u:=by(try simp only [aZ,aC]);try rfl) (n:Region.noSelect ops=true:=by kernel_rfl) (k:Region.free md ops t i=true:=by kernel_rfl)
  (m:(Region.ready md ops t).contains i=true:=by kernel_rfl) (hn:Region.wanted p (yielded ops l.toArray)=true:=by kernel_rfl)
  (g:∀c a w,Q (.panic c) (a.put p.dst v) w->Q (.panic c) a w:=by first|exact fun _ _ _ h=>h|exact fun c a w h=>kF c _ a w h):Fp P md ops Q S (f+1) t ⟨l.toArray,F⟩ w:=by
 refine Qe hi n k m g e (Or.inl ⟨hn,o⟩) ?_;rw [j,aL,hl];exact h
theorem aK {i:Nat} {o:Oper} {f:Nat} {t:Array Bool} {a:Act} {w:World} (e:Region.ready md ops t= [i]) (m:ops[i]? =some o)
  (h:∀b:Act->World->Prop,Hid (∀a w,S w->Fp P md ops Q S f (t.setIfInBounds i true) a w->b a w)->
   if Region.wanted o (yielded ops a.tmps)=true then Oper.wp P o a w b Q else b (a.put o.dst undef) w):Fp P md ops Q S (f+1) t a w:=by
 refine⟨fun c=>(by rw [e] at c;cases c),fun j d=> ?_⟩;rw [e] at d;obtain rfl:j=i:=by simpa using d
 exact wpOp_step m (fun b g=>h b (fun a w k l=>g a w ⟨k,l⟩))
theorem nZ (i:Nat) {o:Oper} {f:Nat} {t:Array Bool} {a:Act} {w:World}
  (h:∀b:Act->World->Prop,Hid (∀a w,S w->Fp P md ops Q S f (t.setIfInBounds i true) a w->b a w)->
   if Region.wanted o (yielded ops a.tmps)=true then Oper.wp P o a w b Q else b (a.put o.dst undef) w) (d:Region.ready md ops t= [i]:=by kernel_rfl) (c:ops[i]? =some o:=by rfl):Fp P md ops Q S (f+1) t a w:=aK d c h
theorem rT {K:Act->World->Prop} {f:Nat} {L:Array Bool} {l u:List Value} {F:List Deferred} {d:Nat} {v:Value} {w:World} (b:Hid (∀a w,S w->Fp P md ops Q S f L a w->K a w)) (e:S w) (h:Fp P md ops Q S f L ⟨u.toArray,F⟩ w) (hl:l.set d v=u:=by(try simp only [aZ,aC]);try rfl):K (Act.put ⟨l.toArray,F⟩ (some d) v) w:=by
 subst hl;rw [aL];exact b.out _ _ e h
theorem bf {t:Array Bool} {a:Act} {w:World} (b:Region.ready md ops t= []) (h:Q .normal a w):∀f,Fp P md ops Q S f t a w
 |0=>⟨b,h⟩
 |_+1=>⟨fun _=>h,by rw [b];simp⟩
theorem aO {id:Nat} {a:Act} {w:World} {S:World->Prop} (b:P.follows .mixedOrders=true)
  (h:Fp P .any ops Q S ops.size (Array.replicate ops.size false) a w.drew):(Code.region id ops true).wp P Q a w:=
 wp_region_any b (xY _ _ _ _ h)
end
end
section
section
variable {P:Program} {ops:Array Oper} {Q:Exit->Act->World->Prop} {md:Region.Mode} {S S':World->Prop}
theorem jQ (h:∀w,S' w->S w):∀{f:Nat} {b:Array Bool} {a:Act} {w:World},Fp P md ops Q S' f b a w->Fp P md ops Q S f b a w
 |0,_,_,_,H=>H
 |_+1,_,_,_,H=>⟨H.1,fun i hi=>wpOp_mono (fun _ _ c=>⟨h _ c.1,jQ h c.2⟩) (H.2 i hi)⟩
end
end
def fQ (k:Nat):Code->Option Code
 | .block n c=>if Nat.beq n k then some c else fQ k c
 | .seq a b=>match fQ k a with
  |some c=>some c
  |none=>fQ k b
 | .loop c=>fQ k c
 | .scope c=>fQ k c
 | .cond _ a b=>match fQ k a with
  |some c=>some c
  |none=>fQ k b
 |_=>none
def QN (k:Nat):Code->Bool
 | .region i _ _=>Nat.beq i k
 |_=>false
def jR (k:Nat):Code->Option Code
 | .seq a b=>if QN k a then some (.seq a b) else match jR k a with
  |some c=>some c
  |none=>jR k b
 | .block _ c=>jR k c
 | .loop c=>jR k c
 | .scope c=>jR k c
 | .cond _ a b=>match jR k a with
  |some c=>some c
  |none=>jR k b
 |_=>none
def aF (k:Nat):Code->Option Code
 | .region i a b=>if Nat.beq i k then some (.region i a b) else none
 | .seq a b=>match aF k a with
  |some c=>some c
  |none=>aF k b
 | .block _ c=>aF k c
 | .loop c=>aF k c
 | .scope c=>aF k c
 | .cond _ a b=>match aF k a with
  |some c=>some c
  |none=>aF k b
 |_=>none
def aQ (f:Option Code):Code:=f.getD .skip
theorem Rd.lit1 (w:World) (cs:Array Value) (t:TypeId):Rd (w.alloc (.cells cs t)) (From w) 1 (some ⟨w,0,none⟩) cs.size cs.toList:=
 ⟨by simp,fun _=>⟨w,0,rfl,jO,fun j x a=>by
  rw [(ak.new w t cs).cell];simpa using a⟩⟩
theorem QK (s:Nat) (w:World) (o:s<4294967296):Calls prog 190 #[(),.int .u32 s] w (zB w (four s)):=by
 obtain⟨l,d,e,f,g⟩:=info_parts bD;refine letter fun R h=> ?_;go_enter func190,ntmps190;go_wp2_with (at_builtin;go_loud (refine af _ rfl (.tmp 5) (.tmp 17) _ rfl w 5 l _ 1 1 underlying24 d e f g rfl (by omega) () 0 [] rfl (World.ownsRow_nil _ _ _ _) (From w) (some ⟨w,0,none⟩) 4 4 _ rfl (Rd.lit1 _ _ _) (by simp [Value.oneCell']) (by simp only [maxLen];omega) (by omega) (by simp) ?_);intro v1 w1 a b p)
 rw [h.out];simp only [List.nil_append,Nat.zero_add] at a
 have i: [Value.int .u8 ((s:Int)%256),Value.int .u8 ((s:Int)/256%256),Value.int .u8 ((s:Int)/65536%256),Value.int .u8 ((s:Int)/16777216)]=aI (four s):=by
  simp only [four,aI,List.map_cons,List.map_nil,bv,UInt8.toNat_ofNat'];congr 2;congr 2
  congr 2
  congr 2
  omega
 rw [i] at a;obtain⟨A,c,rfl,m,n⟩:=ax a;exact⟨A,4,c,rfl,Qf a,gV.grown b (by simp) (fun k j=>by simp [Value.ownBlock] at j)⟩
noncomputable def zD:Code:=aQ (f169.body.bind (aF 4))
theorem UQ {u1 y B s u6 u7 u8 r L E O W Z U G f C I M P V:Value} {Y:List Value} {Q:Exit->Act->World->Prop} (kF:Hid (∀c t (a:Act) w,Q (.panic c) ⟨t,a.defers⟩ w->Q (.panic c) a w))
  (H:Hid (Rd w F 1 (some ⟨b,o,none⟩) (m+4) (aI (bs++g)))) (J:Hid (m=bs.length)) (N:Hid (g.length=4)) (hc:m+4<=c) (ab:m<=1152921504606)
  (au:∀(ad ae al am an ao ap aq ar:Value) (rb:Bool) (w':World),rb= !(decide (four (bg bs)=g))->Below w w w'->Q .normal ⟨(.slice (some ⟨b,o,none⟩) (m+4) c::u1::y::B:: .slice (some ⟨b,o,none⟩) m c::s::u6::u7::u8::r::L::E::O::ad::ae::al::am::an::ao::ap::aq::ar:: .bool rb::Y).toArray,[]⟩ w'):
  Code.wp prog zD Q ⟨(.slice (some ⟨b,o,none⟩) (m+4) c::u1::y::B:: .slice (some ⟨b,o,none⟩) m c::s::u6::u7::u8::r::L::E::O::W::Z::U::G::f::C::I::M::P::V::Y).toArray,[]⟩ w:=by
 have dz:=aa au;have X:Hid (Below w w w.drew):=aa mh.drew;have HT:=aa ((H.below X).take1 (k:=m) (by omega))
 have HU:Hid (Rd w.drew F 1 (some ⟨b,o+m,none⟩) 4 (aI g)):=aa (by
  refine⟨by rw [dO,N.out],fun _=> ?_⟩;obtain⟨b',o',e,hF,hx⟩:=(H.out.below X).2 (by omega);injection e with e;injection e with e1 e2
  subst e1;subst e2;refine⟨b,o+m,rfl,hF,fun j u hj=> ?_⟩;rw [Nat.add_assoc];refine hx (m+j) u ?_;simp only [aI,List.map_append] at hj|-;rw [q9 (by rw [List.length_map,<-J.out];omega),List.length_map,<-J.out,Nat.add_sub_cancel_left];exact hj)
 have aE:(m:Int)<=(m:Int)+4:=by omega
 have aA:¬(c=m):=by omega
 have l:=bC (A:=some ⟨b,o+m,none⟩) (n:=4) (c-m) HU N.out.symm;have e3:((ou (four (bg bs))).toList==(ou g).toList)=decide (four (bg bs)=g):=vJ;obtain⟨fr,q⟩:=gF (four (bg bs));obtain⟨sv,v⟩:=gF (bg bs);have qW:=aa q;have x:=aa v;have ac:sv<4294967296:=by rw [v];exact F3 _
 rw [<-q] at e3 dz;clear au q v;have D:bs=(bs++g).take m:=by rw [J.out];simp
 have T:=aa D;clear D;conv=>arg 2;whnf
 refine aO (S:=(fun w'=>(convert 24 9 (.slice (some ⟨b,o+m,none⟩) 4 (c-m))).run prog w'= .ok (.string (ou g)) w')) (by kernel_rfl) ?_;refine vT 0 l ?_;refine vT 4 l ?_;refine vT 5 l ?_;refine vT 6 l ?_;refine vT 7 l ?_;refine vT 8 l ?_;refine nZ 1 fun K z=> ?_;go_simp;go_loud (refine(UO (some ⟨b,o,none⟩) c (by have:=HT.out;rw [<-T.out] at this;exact this) J ab).mono ?_);rintro e w2 ⟨rfl,rfl⟩;rw [<-x.out]
 refine z.out _ _ l ?_;clear z K;try simp only [aL,aN,aZ,aC]
 refine aK (i:=2) (by kernel_rfl) rfl (fun K z=> ?_);go_simp;go_loud (refine(QK sv w.drew ac).mono ?_);rintro e w2 ⟨A2,n2,c2,rfl,d,p⟩;rw [x.out,<-qW.out] at d;have aw:=aa d;have R:=aa p;have S1:=bC c2 d.parts.2.2.2 d.parts.2.2.1;have S2:=bC (A:=some ⟨b,o+m,none⟩) (n:=4) (c-m) (HU.below p) N.out.symm;clear d p
 refine z.out _ _ S2 ?_;clear z K;try simp only [aL,aN,aZ,aC]
 refine jQ (S':=fun w'=>(convert 24 9 (.slice (some ⟨b,o+m,none⟩) 4 (c-m))).run prog w'= .ok (.string (ou g)) w'/\(convert 24 9 (.slice A2 n2 c2)).run prog w'= .ok (.string (ou fr)) w') (fun _ h=>h.1) ?_;refine vT 3 ⟨S2,S1⟩ ?_;refine vT 9 ⟨S2,S1⟩ ?_;refine bf (by kernel_rfl) ?_ _;go_simp;refine dz _ _ _ _ _ _ _ _ _ _ _ ?_ (X.out.trans R);rw [<-e3]
theorem Nn (c:Nat) (h:Rd w F 1 (some ⟨b,o,none⟩) (m+4) (aI (bs++g))) (z:m=bs.length) (y:g.length=4) (hc:m+4<=c) (_D:c<=maxLen) (p:m<=1152921504606):
  Calls prog 169 #[.slice (some ⟨b,o,none⟩) (m+4) c] w fun e w'=>∃v,e= .returned (.tuple #[v,.int .i64 (if four (bg bs)=g then 0 else 22)])/\Below w w w':=by
 obtain⟨G,n,r,s,t⟩:=info_parts bD;have x:=aa h;have B:=aa z;have A:=aa y;clear h z y;refine letter fun R f=> ?_;go_enter func169,ntmps169;go_upto_region 4 with fail
 refine UQ (by exact aa (fun _ _ _ _ h=>h)) x B A hc p ?_;intro I J K L M N O P Q H w2 i d;have u:=aa i;have a:=aa d;have C:=aa ((x.below d).take1 (k:=m) (by omega));clear i d
 cases H with
 |true=>
  go_wp2;rw [f.out]
  have j:¬(four (bg bs)=g):=of_decide_eq_false (by have:=u.out;simpa using this.symm);rw [if_neg j]
  exact⟨_,rfl,a⟩
 |false=>
  go_wp2_with (at_builtin;go_loud (refine af _ rfl (.tmp 23) (.tmp 24) _ rfl w2 5 G _ 1 1 underlying24 n r s t rfl (by omega) (.slice (some ⟨w2,0,none⟩) 0 0) 0 [] rfl (gq w2 _ 1) F (some ⟨b,o,none⟩) m c _ rfl (C.alloc _) (bJ _) (by simp only [maxLen];omega) (by omega) (by simp) ?_);intro v1 T q l S)
  rw [f.out];have j:four (bg bs)=g:=of_decide_eq_true (by have:=u.out;simpa using this.symm);rw [if_pos j];refine⟨_,rfl,a.out.trans ((gV.grown l (by simp) (fun k E=> ?_)).mono a.size)⟩;simp [Value.ownBlock] at E;omega
def fF:Nat->List UInt8->Int×Nat
 |k,[]=>(11,k)
 |k,c::r=>if k=9/\1<c.toNat then(12,k) else if 0<k/\c.toNat=0 then(13,k) else if c.toNat<128 then(0,k+1) else fF (k+1) r
def gZ:List UInt8->Nat
 | []=>0
 |c::r=>c.toNat%128+128*gZ r
def ai (b:List UInt8) (p:Nat):Nat×Nat×Int:=
 if(fF 0 (b.drop p)).1=0 then(gZ ((b.drop p).take (fF 0 (b.drop p)).2),p+(fF 0 (b.drop p)).2,0) else(0,p+(fF 0 (b.drop p)).2,(fF 0 (b.drop p)).1)
def aP (n:Nat):List UInt8:=if n<128 then [UInt8.ofNat n] else UInt8.ofNat (n%128+128)::aP (n/128)
theorem qH:∀(l:List UInt8) (c:UInt8),gZ (l++ [c])=gZ l+c.toNat%128*128^l.length
 | [],c=>by simp [gZ]
 |x::r,c=>by
  rw [List.cons_append,gZ,gZ,qH r c,List.length_cons,Nat.pow_succ,Nat.mul_add,Nat.add_assoc];congr 2;rw [Nat.mul_left_comm,Nat.mul_comm 128]
theorem zY:∀(l:List UInt8) (k:Nat),k<=(fF k l).2/\(fF k l).2<=k+l.length
 | [],k=>by simp [fF]
 |c::r,k=>by
  unfold fF;have h:=zY r (k+1);rw [List.length_cons]
  split
  ·exact⟨jO,by simp⟩
  ·split
   ·exact⟨jO,by simp⟩
   ·split
    ·exact⟨Nat.le_succ _,by simp only [];omega⟩
    ·omega
theorem zZ:∀(l:List UInt8) (k:Nat),k<=9->(fF k l).1=0->gZ (l.take ((fF k l).2-k))*128^k<18446744073709551616
 | [],k,s,h=>by simp [fF] at h
 |c::r,k,s,h=>by
  have t:=zY r (k+1);unfold fF at h|-
  split at h
  ·simp at h
  ·rename_i i
   split at h
   ·simp at h
   ·rename_i j
    split at h
    ·rename_i b;rw [if_neg i,if_neg j,if_pos b];have e:k+1-k=1:=by omega
     simp only [e,List.take_succ_cons,List.take_zero,gZ,Nat.mul_zero,Nat.add_zero];rw [Nat.mod_eq_of_lt b]
     rcases Nat.lt_or_ge k 9 with g|g
     ·have m:128^k<=128^8:=Nat.pow_le_pow_right (by omega) (by omega);have n:c.toNat*128^k<=127*128^8:=Nat.mul_le_mul (by omega) m
      omega
     ·have o:k=9:=by omega
      subst o;have p:c.toNat<=1:=by omega
      have n:c.toNat*128^9<=1*128^9:=Nat.mul_le_mul p jO
      omega
    ·rename_i b;rw [if_neg i,if_neg j,if_neg b]
     by_cases g:k=9
     ·have:=c.toNat_lt;omega
     ·have a:=zZ r (k+1) (by omega) h;have e:(fF (k+1) r).2-k=((fF (k+1) r).2-(k+1))+1:=by omega
      rw [e,List.take_succ_cons,gZ,Nat.add_mul];rw [Nat.pow_succ,<-Nat.mul_assoc,Nat.mul_comm _ 128,<-Nat.mul_assoc] at a;have v:c.toNat%128*128^k<128*128^k:=Nat.mul_lt_mul_of_pos_right (Nat.mod_lt _ (by omega)) (Nat.pow_pos (by omega))
      --both are al2 of 128^(k+1) at their aJ0
      obtain⟨V,q⟩:=gF (gZ (r.take ((fF (k+1) r).2-(k+1))));rw [<-q] at a|-
      have w:128*V*128^k+128*128^k<=18446744073709551616:=by
       have u:(18446744073709551616:Nat)=128*128^k*(2^(64-7*(k+1))):=by
        have:k<9:=by omega
        match k,this with
        |0,_=>decide
        |1,_=>decide
        |2,_=>decide
        |3,_=>decide
        |4,_=>decide
        |5,_=>decide
        |6,_=>decide
        |7,_=>decide
        |8,_=>decide
       have d:128*V*128^k=128*128^k*V:=by rw [Nat.mul_assoc,Nat.mul_comm V,<-Nat.mul_assoc]
       rw [d] at a|-;rw [u] at a|-;have f:V<2^(64-7*(k+1)):=Nat.lt_of_mul_lt_mul_left a;rw [<-Nat.mul_succ];exact Nat.mul_le_mul_left _ f
      omega
theorem zn (b:List UInt8) (p:Nat):(ai b p).1<18446744073709551616:=by
 unfold ai
 split
 ·rename_i h;have:=zZ (b.drop p) 0 (by omega) h
  simpa using this
 ·simp
theorem gz (b:List UInt8) (p:Nat) (a:p<=b.length):p<=(ai b p).2.1/\(ai b p).2.1<=b.length:=by
 have h:=zY (b.drop p) 0;rw [List.length_drop] at h;unfold ai;split<;>(simp only [];omega)
theorem ow (n:Nat):∀k,n<128^(k+1)->(aP n).length<=k+1:=by
 intro k
 induction k generalizing n with
 |zero=>intro h;unfold aP;rw [if_pos (by omega)];simp
 |succ k a=>
  intro h;unfold aP
  split
  ·simp
  ·rw [List.length_cons];have:=a (n/128) (by rw [Nat.pow_succ] at h;omega);omega
theorem qg (hv:v<2^(7*k)) (_b:x<128) (a:x*2^(7*k)+v<18446744073709551616):bits .or .u64 (v:Int) ((x*2^(7*k):Nat):Int)=((v+x*2^(7*k):Nat):Int):=by
 rw [bits_or_u64_nat _ _ (by omega) (by omega),Nat.or_comm,Nat.mul_comm x,<-Nat.two_pow_add_eq_or_of_lt hv,Nat.add_comm]
theorem XQ (c:UInt8):bits .and .u8 (c.toNat:Int) 127=((c.toNat%128:Nat):Int):=by
 have hc:=c.toNat_lt;have h:=bits_mask .u8 8 (by decide) wraps_u8 7 (by omega) (c.toNat:Int) (by omega) (by omega);rw [show((2:Int)^7-1)=127 by decide] at h;rw [h];simp
def aW (k:Nat) (c:UInt8):Int:=if k=9/\1<c.toNat then 12 else if 0<k/\c.toNat=0 then 13 else 0
def xU (w:World) (q v k:Nat) (st:Int):Prop:=ak w q 308 #[.int .u64 v,(k:Int),st]
def Iz (q v k:Nat) (c:UInt8) (w:World) (e:Ending) (w':World):Prop:=
 e= .returned (.tuple #[.bool (decide (aW k c=0/\c.toNat<128)),.int .i64 (aW k c)])/\ag (fun b=>b=q) w w'/\
 (aW k c=0->xU w' q (v+c.toNat%128*128^k) (k+1) (if c.toNat<128 then 1 else 0))
theorem Pv (c:UInt8) (e:xU w q v k 0) (r:k<=9) (j:k=9) (g:1<c.toNat):
  Calls prog 167 #[q,.int .u8 c.toNat] w (Iz q v k c w):=by
 unfold xU at e;have o:=aa e;have s:w.cell? q=some (.int .u64 v):=e.cell 0;have t:w.cell? ⟨q,1,none⟩=some (.int .i64 k):=e.cell 1;have u:w.cell? ⟨q,2,none⟩=some (.int .i64 0):=e.cell 2;have m:=e.frozen 0;have n:=e.frozen 1;have l:=e.frozen 2;clear e;refine letter fun R f=> ?_
 (subst j;have d:Hid (aW 9 c=12):=aa (by unfold aW;rw [if_pos ⟨rfl,g⟩]);have i:(1:Int)<(c.toNat:Int):=by omega)
 go_enter func167,ntmps167
 go_wp2
 all_goals
  rw [f.out];have a:=d.out;exact⟨by rw [a];simp,((ag.refl (fun b=>b=q) _).setCell (p:=⟨q,1,none⟩) (fun _=>rfl) _).setCell (p:=⟨q,2,none⟩) (fun _=>rfl) _,fun h=>by rw [a] at h;cases h⟩
theorem C6 (c:UInt8) (e:xU w q v k 0) (r:k<=9) (g:0<k) (i:c.toNat=0):
  Calls prog 167 #[q,.int .u8 c.toNat] w (Iz q v k c w):=by
 unfold xU at e;have o:=aa e;have s:w.cell? q=some (.int .u64 v):=e.cell 0;have t:w.cell? ⟨q,1,none⟩=some (.int .i64 k):=e.cell 1;have u:w.cell? ⟨q,2,none⟩=some (.int .i64 0):=e.cell 2;have m:=e.frozen 0;have n:=e.frozen 1;have l:=e.frozen 2;clear e;refine letter fun R f=> ?_
 (have d:Hid (aW k c=13):=aa (by unfold aW;rw [if_neg (by omega),if_pos ⟨g,i⟩]);have j:(c.toNat:Int)=0:=by omega)
 go_enter func167,ntmps167
 go_wp2
 all_goals
  rw [f.out];have a:=d.out;exact⟨by rw [a];simp,((ag.refl (fun b=>b=q) _).setCell (p:=⟨q,1,none⟩) (fun _=>rfl) _).setCell (p:=⟨q,2,none⟩) (fun _=>rfl) _,fun h=>by rw [a] at h;cases h⟩
theorem Ll (c:UInt8) (e:xU w q v k 0) (D:k<=9) (A:0<k) (C:k<9) (B:c.toNat≠0) (i:c.toNat<128) (hv:v<128^k) (a:c.toNat%128*128^k+v<18446744073709551616):
  Calls prog 167 #[q,.int .u8 c.toNat] w (Iz q v k c w):=by
 unfold xU at e;have g:=aa e;have E:w.cell? q=some (.int .u64 v):=e.cell 0;have F:w.cell? ⟨q,1,none⟩=some (.int .i64 k):=e.cell 1;have G:w.cell? ⟨q,2,none⟩=some (.int .i64 0):=e.cell 2;have y:=e.frozen 0;have z:=e.frozen 1;have x:=e.frozen 2;clear e;refine letter fun R j=> ?_
 (have h:Hid (aW k c=0):=aa (by unfold aW;rw [if_neg (by omega),if_neg (by omega)]);have l:=aa hv;have m:=aa a;clear hv a;have o:¬((c.toNat:Int)=0):=(by omega);have n:(c.toNat:Int)<128:=(by omega))
 go_enter func167,ntmps167
 go_upto_region 10 with fail
 go_region
 all_goals go_wp2
 all_goals
  rw [j.out];have r:=h.out;have d:(128:Nat)^k=2^(7*k):=by rw [Nat.pow_mul]
  have hl:=l.out;have a:=m.out;rw [d] at hl a;have s:c.toNat%128<128:=Nat.mod_lt _ (by omega);have f:=qg hl s (by omega);rw [<-d] at f;have u:IntKind.u64.wrap ((c.toNat%128:Nat):Int)=((c.toNat%128:Nat):Int):=by rw [IntKind.wrap_u64];omega
  (have t:IntKind.u64.wrap (((c.toNat%128:Nat):Int)*2^(7*k))=((c.toNat%128*128^k:Nat):Int):=by{rw [d,show(((c.toNat%128:Nat):Int)*2^(7*k))=((c.toNat%128*2^(7*k):Nat):Int) by push_cast;rfl];rw [IntKind.wrap_u64];omega});rw [XQ,u,t,f]
  refine⟨by rw [r,decide_eq_true ⟨rfl,i⟩];try rfl,?_,fun _=> ?_⟩
  ·exact((((ag.refl (fun b=>b=q) w).setCell (p:=⟨q,1,none⟩) (fun _=>rfl) _).setCell (p:=q) (fun _=>rfl) _).drew).setCell (p:=⟨q,2,none⟩) (fun _=>rfl) _
  ·(rw [if_pos i];exact(((g.set_ 1 (.int .i64 ((k:Int)+1))).set_ 0 (.int .u64 ((v+c.toNat%128*128^k:Nat):Int))).drew.set_ 2 (.int .i64 1)))
theorem Lm (c:UInt8) (e:xU w q v k 0) (E:k<=9) (B:0<k) (D:k<9) (_C:c.toNat≠0) (j:¬c.toNat<128) (hv:v<128^k) (a:c.toNat%128*128^k+v<18446744073709551616):
  Calls prog 167 #[q,.int .u8 c.toNat] w (Iz q v k c w):=by
 unfold xU at e;have g:=aa e;have F:w.cell? q=some (.int .u64 v):=e.cell 0;have G:w.cell? ⟨q,1,none⟩=some (.int .i64 k):=e.cell 1;have H:w.cell? ⟨q,2,none⟩=some (.int .i64 0):=e.cell 2;have z:=e.frozen 0;have A:=e.frozen 1;have y:=e.frozen 2;clear e;refine letter fun R l=> ?_
 (have i:Hid (aW k c=0):=aa (by unfold aW;rw [if_neg (by omega),if_neg (by omega)]);have m:=aa hv;have n:=aa a;clear hv a;have r:¬((c.toNat:Int)=0):=(by omega);have o:¬((c.toNat:Int)<128):=(by omega))
 go_enter func167,ntmps167
 go_upto_region 10 with fail
 go_region
 all_goals go_wp2
 all_goals
  rw [l.out];have s:=i.out;have d:(128:Nat)^k=2^(7*k):=by rw [Nat.pow_mul]
  have hl:=m.out;have a:=n.out;rw [d] at hl a;have t:c.toNat%128<128:=Nat.mod_lt _ (by omega);have f:=qg hl t (by omega);rw [<-d] at f;have x:IntKind.u64.wrap ((c.toNat%128:Nat):Int)=((c.toNat%128:Nat):Int):=by rw [IntKind.wrap_u64];omega
  (have u:IntKind.u64.wrap (((c.toNat%128:Nat):Int)*2^(7*k))=((c.toNat%128*128^k:Nat):Int):=by{rw [d,show(((c.toNat%128:Nat):Int)*2^(7*k))=((c.toNat%128*2^(7*k):Nat):Int) by push_cast;rfl];rw [IntKind.wrap_u64];omega});rw [XQ,x,u,f]
  refine⟨by rw [s,decide_eq_false (fun h=>j h.2)];try rfl,?_,fun _=> ?_⟩
  ·exact((((ag.refl (fun b=>b=q) w).setCell (p:=⟨q,1,none⟩) (fun _=>rfl) _).setCell (p:=q) (fun _=>rfl) _).drew)
  ·(rw [if_neg j];exact(((g.set_ 1 (.int .i64 ((k:Int)+1))).set_ 0 (.int .u64 ((v+c.toNat%128*128^k:Nat):Int))).drew))
theorem EH (c:UInt8) (e:xU w q v k 0) (A:k<=9) (g:k=0) (i:c.toNat<128) (hv:v<128^k) (a:c.toNat%128*128^k+v<18446744073709551616):
  Calls prog 167 #[q,.int .u8 c.toNat] w (Iz q v k c w):=by
 unfold xU at e;have l:=aa e;have B:w.cell? q=some (.int .u64 v):=e.cell 0;have C:w.cell? ⟨q,1,none⟩=some (.int .i64 k):=e.cell 1;have D:w.cell? ⟨q,2,none⟩=some (.int .i64 0):=e.cell 2;have y:=e.frozen 0;have z:=e.frozen 1;have x:=e.frozen 2;clear e;refine letter fun R n=> ?_
 (have m:Hid (aW k c=0):=aa (by unfold aW;rw [if_neg (by omega),if_neg (by omega)]);have o:=aa hv;have r:=aa a;clear hv a;skip;have s:(c.toNat:Int)<128:=(by omega))
 go_enter func167,ntmps167
 go_upto_region 10 with fail
 go_region
 all_goals go_wp2
 all_goals
  rw [n.out];have t:=m.out;have h:(128:Nat)^k=2^(7*k):=by rw [Nat.pow_mul]
  have hl:=o.out;have a:=r.out;rw [h] at hl a;have u:c.toNat%128<128:=Nat.mod_lt _ (by omega);have d:=qg hl u (by omega);rw [<-h] at d;have j:IntKind.u64.wrap ((c.toNat%128:Nat):Int)=((c.toNat%128:Nat):Int):=by rw [IntKind.wrap_u64];omega
  (have f:c.toNat%128*128^k=c.toNat%128:=by{rw [g];simp});rw [f] at d;rw [XQ,j,j,d,<-f]
  refine⟨by rw [t,decide_eq_true ⟨rfl,i⟩];try rfl,?_,fun _=> ?_⟩
  ·exact((((ag.refl (fun b=>b=q) w).setCell (p:=⟨q,1,none⟩) (fun _=>rfl) _).setCell (p:=q) (fun _=>rfl) _).drew).setCell (p:=⟨q,2,none⟩) (fun _=>rfl) _
  ·(rw [if_pos i];subst g;exact(((l.set_ 1 _).set_ 0 _).drew.set_ 2 (.int .i64 1)))
theorem EI (c:UInt8) (e:xU w q v k 0) (B:k<=9) (g:k=0) (j:¬c.toNat<128) (hv:v<128^k) (a:c.toNat%128*128^k+v<18446744073709551616):
  Calls prog 167 #[q,.int .u8 c.toNat] w (Iz q v k c w):=by
 unfold xU at e;have m:=aa e;have C:w.cell? q=some (.int .u64 v):=e.cell 0;have D:w.cell? ⟨q,1,none⟩=some (.int .i64 k):=e.cell 1;have E:w.cell? ⟨q,2,none⟩=some (.int .i64 0):=e.cell 2;have z:=e.frozen 0;have A:=e.frozen 1;have y:=e.frozen 2;clear e;refine letter fun R o=> ?_
 (have n:Hid (aW k c=0):=aa (by unfold aW;rw [if_neg (by omega),if_neg (by omega)]);have r:=aa hv;have s:=aa a;clear hv a;skip;have t:¬((c.toNat:Int)<128):=(by omega))
 go_enter func167,ntmps167
 go_upto_region 10 with fail
 go_region
 all_goals go_wp2
 all_goals
  rw [o.out];have u:=n.out;have i:(128:Nat)^k=2^(7*k):=by rw [Nat.pow_mul]
  have hl:=r.out;have a:=s.out;rw [i] at hl a;have x:c.toNat%128<128:=Nat.mod_lt _ (by omega);have d:=qg hl x (by omega);rw [<-i] at d;have l:IntKind.u64.wrap ((c.toNat%128:Nat):Int)=((c.toNat%128:Nat):Int):=by rw [IntKind.wrap_u64];omega
  (have f:c.toNat%128*128^k=c.toNat%128:=by{rw [g];simp});rw [f] at d;rw [XQ,l,l,d,<-f]
  refine⟨by rw [u,decide_eq_false (fun h=>j h.2)];try rfl,?_,fun _=> ?_⟩
  ·exact((((ag.refl (fun b=>b=q) w).setCell (p:=⟨q,1,none⟩) (fun _=>rfl) _).setCell (p:=q) (fun _=>rfl) _).drew)
  ·(rw [if_neg j];subst g;exact(((m.set_ 1 _).set_ 0 _).drew))
theorem EJ (c:UInt8) (e:xU w q v k 0) (C:k<=9) (h:k=9) (t:c.toNat=1) (i:c.toNat<128) (hv:v<128^k) (a:c.toNat%128*128^k+v<18446744073709551616):
  Calls prog 167 #[q,.int .u8 c.toNat] w (Iz q v k c w):=by
 unfold xU at e;have l:=aa e;have E:w.cell? q=some (.int .u64 v):=e.cell 0;have F:w.cell? ⟨q,1,none⟩=some (.int .i64 k):=e.cell 1;have G:w.cell? ⟨q,2,none⟩=some (.int .i64 0):=e.cell 2;have A:=e.frozen 0;have B:=e.frozen 1;have z:=e.frozen 2;clear e;refine letter fun R n=> ?_
 (have m:Hid (aW k c=0):=aa (by unfold aW;rw [if_neg (by omega),if_neg (by omega)]);have o:=aa hv;have r:=aa a;clear hv a;have u:((c.toNat:Int)=1):=(by omega);have s:(c.toNat:Int)<128:=(by omega))
 go_enter func167,ntmps167
 go_upto_region 10 with fail
 go_region
 all_goals go_wp2
 all_goals
  rw [n.out];have x:=m.out;have j:(128:Nat)^k=2^(7*k):=by rw [Nat.pow_mul]
  have hl:=o.out;have a:=r.out;rw [j] at hl a;have y:c.toNat%128<128:=Nat.mod_lt _ (by omega);have f:=qg hl y (by omega);rw [<-j] at f;have D:IntKind.u64.wrap ((c.toNat%128:Nat):Int)=((c.toNat%128:Nat):Int):=by rw [IntKind.wrap_u64];omega
  (have g:c.toNat%128*128^k=9223372036854775808:=by{rw [h,t]});rw [g] at f;(have d:IntKind.u64.wrap (IntKind.u64.wrap (bits .and .u8 1 127)*9223372036854775808)=((9223372036854775808:Nat):Int):=by decide);rw [d,f,<-g]
  refine⟨by rw [x,decide_eq_true ⟨rfl,i⟩];try rfl,?_,fun _=> ?_⟩
  ·exact((((ag.refl (fun b=>b=q) w).setCell (p:=⟨q,1,none⟩) (fun _=>rfl) _).setCell (p:=q) (fun _=>rfl) _).drew).setCell (p:=⟨q,2,none⟩) (fun _=>rfl) _
  ·(rw [if_pos i];subst h;exact(((l.set_ 1 _).set_ 0 _).drew.set_ 2 (.int .i64 1)))
theorem tO (k:Nat) (c:UInt8) (e:xU w q v k 0) (b:k<=9) (hv:v<128^k):Calls prog 167 #[q,.int .u8 c.toNat] w (Iz q v k c w):=by
 have l:c.toNat%128<128:=Nat.mod_lt _ (by omega)
 rcases Nat.lt_or_ge k 9 with d|d
 ·have i:128^(k+1)<=128^9:=Nat.pow_le_pow_right (by omega) (by omega);have j:c.toNat%128*128^k<=127*128^k:=Nat.mul_le_mul_right _ (by omega);rw [Nat.pow_succ] at i;have a:c.toNat%128*128^k+v<18446744073709551616:=by omega
  by_cases f:c.toNat<128
  ·by_cases h:k=0
   ·exact EH c e b h f hv a
   ·by_cases g:c.toNat=0
    ·exact C6 c e b (by omega) g
    ·exact Ll c e b (by omega) d g f hv a
  ·by_cases h:k=0
   ·exact EI c e b h f hv a
   ·exact Lm c e b (by omega) d (by omega) f hv a
 ·have d:k=9:=by omega
  by_cases f:1<c.toNat
  ·exact Pv c e b d f
  ·by_cases g:c.toNat=0
   ·exact C6 c e b (by omega) g
   ·refine EJ c e b d (by omega) (by omega) hv ?_;rw [d] at hv|-;rw [show c.toNat=1 by omega];omega
end Go.Proofs.YtepgcjbhabnciaaGreat
