/- Part 37. -/
import Derived.Test.YtepgcjbhabnciaaGreatLe36
import Derived.StillTailTactics
import Derived.BigRegion
namespace Go.Proofs.YtepgcjbhabnciaaGreat
set_option maxRecDepth 100000
set_option maxHeartbeats 8000000
open Go.RowKit Go.Proofs.Tryz
variable {inn k fill M i d0 p mm B o j h:Nat} {nd lf fl bl n m all lev q a b:Int} {hi g:Nat->List UInt8} {f:Nat->bR} {done:List bR} {l:List aK} {v:Value} {α:Type}
def dx (nd lf inn fl bl:Int):Prop:=1<=nd/\nd<=65536/\2<=lf/\lf<=64/\3<=inn/\inn<=64/\1<=fl/\fl<=lf/\1<=bl/\bl<=64
instance (nd lf inn fl bl:Int):Decidable (dx nd lf inn fl bl):=by unfold dx;infer_instance
def Oc (nd lf inn fl bl:Int):Int:=if dx nd lf inn fl bl then 0 else 1
theorem Af {inn:Int} (h:dx nd lf inn fl bl):Oc nd lf inn fl bl=0:=by simp [Oc,h]
theorem Od {inn:Int} (h:¬dx nd lf inn fl bl):Oc nd lf inn fl bl=1:=by simp [Oc,h]
def parts (n most:Int):Int:=if n=0 then 1 else if 0<n%most then n/most+1 else n/most
theorem zm {most:Int} (d:0<=n) (e:1<=most):max 1 (n/most+min 1 (n%most))=parts n most:=by
 have a:=Int.mul_ediv_add_emod n most;have f:=Int.emod_nonneg n (show most≠0 by omega);have g:0<=n/most:=Int.ediv_nonneg d (by omega);unfold parts
 by_cases c:n=0
 ·subst c;simp;omega
 ·simp only [c,if_false]
  by_cases b:0<n%most
  ·simp only [b,if_true];omega
  ·simp only [b,if_false];have:n%most=0:=by omega
   have:n/most≠0:=by
    intro h;rw [h] at a;simp at a;omega
   omega
theorem sj {most:Int} (a:0<=n) (e:1<=most):1<=parts n most:=by
 rw [<-zm a e];omega
theorem DN {most:Int} (b:0<=n):parts n most<=n+1:=by
 have h:=Int.ediv_le_self most b;unfold parts
 by_cases a:n=0
 ·simp [a]
 ·simp only [a,if_false];split<;>omega
theorem F5 (b:0<=m) (c:1<=q):m/q+m%q<=m:=by
 have e:=Int.mul_ediv_add_emod m q;have a:0<=m/q:=Int.ediv_nonneg b (by omega);have d:1*(m/q)<=q*(m/q):=Int.mul_le_mul_of_nonneg_right c a;omega
def lv (nd inn:Int):Nat->Int->Int->Int×Int
 |0,_,_=>(0,2)
 |k+1,m,all=>if nd-all<m then(0,2) else if m=1 then(all+m,0) else lv nd inn k (parts m inn) (all+m)
theorem ko {inn:Int} (h:nd-all<m):lv nd inn k m all=(0,2):=by
 cases k with
 |zero=>rfl
 |succ k=>simp [lv,h]
theorem EQ {inn:Int} (h:¬nd-all<m) (a:m=1):lv nd inn (k+1) m all=(all+m,0):=by
 rw [lv,if_neg h,if_pos a]
theorem qw {inn:Int} (h:¬nd-all<m) (a:¬m=1):lv nd inn (k+1) m all=lv nd inn k (parts m inn) (all+m):=by simp [lv,h,a]
def bT (nd lf inn fl bl n:Int):Int×Int:=
 if dx nd lf inn fl bl then(if n<0 then(0,1) else lv nd inn 32 (parts n fl) 0) else(0,1)
theorem iA {inn:Int} (h:dx nd lf inn fl bl) (a:¬n<0):bT nd lf inn fl bl n=lv nd inn 32 (parts n fl) 0:=by simp [bT,h,a]
def pn (n most:Nat):Nat:=(parts (n:Int) (most:Int)).toNat
theorem gU (n most:Nat) (e:1<=most):((pn n most:Nat):Int)=parts (n:Int) (most:Int):=by
 have:=sj (n:=(n:Int)) (most:=(most:Int)) (by omega) (by omega);unfold pn;omega
theorem jl (n most:Nat) (hm:1<=most) (f:1<=n):n<=pn n most*most/\pn n most*most<n+most:=by
 have h:=gU n most hm;have d:=Int.mul_ediv_add_emod (n:Int) (most:Int);have b:=Int.emod_nonneg (n:Int) (show(most:Int)≠0 by omega);have c:=Int.emod_lt_of_pos (n:Int) (show(0:Int)<(most:Int) by omega);have e:(((pn n most)*most:Nat):Int)=parts (n:Int) (most:Int)*(most:Int):=by rw [Int.natCast_mul,h]
 unfold parts at e;rw [if_neg (by omega)] at e
 by_cases a:0<(n:Int)%(most:Int)
 ·rw [if_pos a,Int.add_mul,Int.mul_comm ((n:Int)/(most:Int))] at e
  omega
 ·rw [if_neg a,Int.mul_comm ((n:Int)/(most:Int))] at e;omega
theorem pJ (n most:Nat) (e:1<=most):1<=pn n most:=by
 have:=sj (n:=(n:Int)) (most:=(most:Int)) (by omega) (by omega);have h:=gU n most e;omega
abbrev Kd:=Int×List UInt8
def uk (d0 M:Nat) (hi:Nat->List UInt8):List Kd:=(List.range M).map fun(i:Nat)=>((d0:Int)+(i:Int)+1,hi i)
def EC (inn:Nat):Nat->Int->List bR->List Kd->List bR×List Kd
 |0,_,done,ks=>(done,ks)
 |f+1,lev,done,ks=>if 1<ks.length then EC inn f (lev+1) (done++(List.range (pn ks.length inn)).map (iU inn lev ks done.length (pn ks.length inn))) (uk done.length (pn ks.length inn) (Es inn ks)) else(done,ks)
theorem qo {f:Nat} {ks:List Kd} (h:¬1<ks.length):EC inn f lev done ks=(done,ks):=by
 cases f with
 |zero=>rfl
 |succ f=>rw [EC,if_neg h]
def jH (fill:Nat) (l:List aK):List bR:=(List.range (pn l.length fill)).map (kT fill l (pn l.length fill))
def lu (fill:Nat) (l:List aK):List Kd:=uk 0 (pn l.length fill) (iX fill l)
def bD (fill inn:Nat) (l:List aK):List bR×Int:=
 if l= [] then([(0,Nd.zero)],1) else((EC inn 32 1 (jH fill l) (lu fill l)).1,((EC inn 32 1 (jH fill l) (lu fill l)).2.headD (0,[])).1)
theorem uS (fill inn:Nat):bD fill inn []=([(0,Nd.zero)],1):=by simp [bD]
theorem nK (h:l≠ []):bD fill inn l=((EC inn 32 1 (jH fill l) (lu fill l)).1,((EC inn 32 1 (jH fill l) (lu fill l)).2.headD (0,[])).1):=by rw [bD,if_neg h]
theorem qp (d0 M:Nat) (hi:Nat->List UInt8):(uk d0 M hi).length=M:=by simp [uk]
def gy (done:List bR) (ks:List Kd):Prop:=ks.length<=done.length/\1<=ks.length/\∀k∈ks,1<=k.1/\k.1<=(done.length:Int)/\k.2.length<=1152921504606
theorem I6 (b:1<=M) (h:∀i,(hi i).length<=1152921504606):gy (done++(List.range M).map f) (uk done.length M hi):=by
 refine⟨by simp [uk],by simpa [uk] using b,fun k a=> ?_⟩;simp only [uk,List.mem_map,List.mem_range] at a;obtain⟨i,c,rfl⟩:=a;simp only [List.length_append,List.length_map,List.length_range];exact⟨by omega,by omega,h i⟩
theorem Li {ks:List Kd} (h:∀k∈ks,k.2.length<=1152921504606) (i:Nat):(Es inn ks i).length<=1152921504606:=by
 unfold Es ig
 rcases List.eq_nil_or_concat ((ks.drop (i*inn)).take inn) with e|⟨L,b,e⟩
 ·rw [e];simp
 ·rw [e];have:b∈(ks.drop (i*inn)).take inn:=by rw [e];simp
  have a:=h b (List.mem_of_mem_drop (List.mem_of_mem_take this));simpa using a
theorem wS (h:∀e∈l,e.1.length<=1152921504606) (i:Nat):(iX fill l i).length<=1152921504606:=by
 unfold iX
 split
 ·rename_i hi;refine Nat.le_trans (Dy _ _) ?_;rw [List.getD_eq_getElem?_getD,List.getElem?_eq_getElem hi]
  exact h _ (List.getElem_mem hi)
 ·simp
def yJ (nd:Int) (inn:Nat) (k:Nat) (done:List bR) (ks:List Kd):Prop:=ks.length=1\/(lv nd inn k (ks.length:Int) ((done.length:Int)-(ks.length:Int))).2=0
theorem yJ.one {ks:List Kd} (h:yJ nd inn 0 done ks):ks.length=1:=h.elim id (fun h=>by simp [lv] at h)
theorem yJ.step {ks:List Kd} (hi:1<=inn) (h:yJ nd inn (k+1) done ks) (d:1<ks.length):
  ((done.length:Int)+((pn ks.length inn:Nat):Int)<=nd\/pn ks.length inn=0)/\yJ nd inn k (done++(List.range (pn ks.length inn)).map f) (uk done.length (pn ks.length inn) g):=by
 rcases h with h|h
 ·omega
 ·have c:=gU ks.length inn hi
  by_cases b:nd-((done.length:Int)-(ks.length:Int))<(ks.length:Int)
  ·rw [ko b] at h;simp at h
  ·rw [qw b (by omega)] at h;rw [show(done.length:Int)-(ks.length:Int)+(ks.length:Int)=(done.length:Int) by omega,<-c] at h
   refine⟨?_,.inr ?_⟩
   ·by_cases a:nd-(done.length:Int)<((pn ks.length inn:Nat):Int)
    ·rw [ko a] at h;simp at h
    ·exact .inl (by omega)
   ·rw [qp,List.length_append,List.length_map,List.length_range];rw [show(((done.length+pn ks.length inn:Nat):Int))-((pn ks.length inn:Nat):Int)=(done.length:Int) by omega];exact h
theorem bz.lt {w:World} {F:Nat->Prop} {A:Option Addr} {n:Nat} {l:List aK} (h:bz w F A n l):bz w (fun b=>F b/\b<w.heap.size) A n l:=
 let⟨f,vs,g,j⟩:=h;⟨f,vs,g.lt (by omega),fun i e k=>let⟨u,v,a,b,c,d⟩:=j i e k;⟨u,v,a,b,c.lt,d.lt⟩⟩
def uw (w:World) (nodes:Int) (t:List bR×Int) (e:Ending) (w':World):Prop:=
 ∃p,e= .returned (.pointer (some ⟨p,0,none⟩))/\gM w' (From w.heap.size) p nodes t.1 t.2/\Below w.heap.size w w'
theorem MI (nd lf bl:Int) (inn fill:Nat) (A:Option Addr) (c:Nat) (w:World) (g:1<=nd) (h:nd<=65536):
  Calls prog 54 #[.agg #[.int .i64 nd,.int .i64 lf,.int .i64 inn,.int .i64 fill,.int .i64 bl],.slice A 0 c] w (uw w nd ([(0,Nd.zero)],1)):=by
 go_enter func54,ntmps54
 go_wp2_with (go_at_call 93;refine(Ia nd g h _).mono ?_;rintro e w1 ⟨p,rfl,a,d⟩;have f:=aa a;have j:=aa d;clear a d)
 go_ret
 exact⟨p,rfl,f.weak (fun b i=>by simp only [From,World.size_alloc] at i|-;omega),((Below.refl _ _).alloc (Nat.le_refl _) _).trans (j.mono (by simp))⟩
def O9 (w wr:World) (p mm:Nat) (nd:Int) (done:List bR) (top:Value) (ks:List Kd):Prop:=
 ∃F base,dQ wr F p mm nd 1 done/\dB wr (Off F mm) base top ks/\(∀b,F b->w.heap.size<b)/\Below w.heap.size w wr
theorem Lv.top {w q wr:World} {F c:Nat->Prop} (h:Lv q wr F c p mm nd 1 done f hi M v) (d:∀b,F b->w.heap.size<b) (i:w.heap.size<=mm) (hl:w.heap.size<q.heap.size) (e:Below w.heap.size w q):
  O9 w wr p mm nd (done++(List.range M).map f) v (uk done.length M hi):=
 ⟨c,q.heap.size,h.st,h.row,fun b a=>(h.sub b a).elim (d b) (fun h=>by omega),e.trans (h.chg.below_of e.size (fun b a g=>g.elim (fun h=>by have:=d b h;omega) (fun h=>by omega)))⟩
theorem Jn (nd lf bl:Int) (inn fill:Nat) (A:Option Addr) (n c:Nat) (F0:Nat->Prop) (l:List aK) (w:World) (h1:1<=nd) (h2:nd<=65536) (a5:3<=inn) (a6:inn<=64) (y:1<=fill) (a4:fill<=64) (hE:bz w F0 A n l) (Q:n<=c) (P:c<=maxLen) (T:n<=1152921504606) (ab:0<n)
  (ac:∀e∈l,e.1.length<=1152921504606/\e.2.length<=1152921504606) (d:(lv nd inn 32 (parts n fill) 0).2=0):
  Calls prog 54 #[.agg #[.int .i64 nd,.int .i64 lf,.int .i64 inn,.int .i64 fill,.int .i64 bl],.slice A n c] w (uw w nd (bD fill inn l)):=by
 have K:=aa hE.len;have Z:l≠ []:=fun e=>by have:=K.out;rw [e] at this;simp at this;omega
 have gm:=aa Z;have HE:=aa hE.lt;have HS:=aa ac;have R:=jl l.length fill y (by have:=K.out;omega);have H:=gU l.length fill y
 have S:((pn l.length fill:Nat):Int)<=nd:=by
  rw [H,<-K.out]
  by_cases hf:nd-0<parts n fill
  ·rw [ko hf] at d;simp at d
  ·omega
 have ap:Hid (yJ nd inn 32 (jH fill l) (lu fill l)):=aa (.inr (by
  have I:(jH fill l).length=pn l.length fill:=by simp [jH]
  have e2:(lu fill l).length=pn l.length fill:=qp _ _ _;rw [I,e2,H,<-K.out,Int.sub_self];exact d))
 have HM:=aa R;have L:=aa S;clear Z hE ac R H S d;have ba:((n:Int)==0)=false:=by rw [beq_eq_false_iff_ne];omega
 go_enter func54,ntmps54
 go_wp2_with (first|(go_at_call 93;refine(Ia nd h1 h2 _).mono ?_;rintro e w1 ⟨p,rfl,q1,q2⟩;have Zn:=aa q1;have tZ:=aa q2;have D:Hid (Below w.heap.size w w1):=aa (((Below.refl _ _).alloc (Nat.le_refl _) _).trans (q2.mono (by simp)));have jL:=aa ((aj.new w 23 #[.int .i64 nd,.int .i64 lf,.int .i64 inn,.int .i64 fill,.int .i64 bl]).below q2);have a2:w1.cell? ⟨w.heap.size,3,none⟩=some (.int .i64 fill):=(jL.out.cell 3).trans rfl;have cl:w.heap.size<w1.heap.size:=jL.out.lt;clear q1 q2)|(go_at_call 94;have hM:dQ (w1.alloc (.cells #[.pointer (some ⟨p,0,none⟩),.bool true] 193)) (fun b=>w.heap.size+1<=b/\b<w1.heap.size) p w1.heap.size nd 1 []:=⟨fun h=>by have:=h.2;omega,fun b q=>by have:=q.2;simp;omega,by simp,.inl ⟨rfl,(Zn.lt.weak (fun b q=>⟨by have:=q.1;simpa [From] using this,q.2⟩)).below ((Below.refl _ _).alloc (Nat.le_refl _) _),aj.new _ _ _⟩⟩;go_loud (refine(FM _ p w1.heap.size nd 1 A n c l fill (pn l.length fill) _ hM (((HE.below D).below ((Below.refl _ _).alloc (Nat.le_refl _) _)).weak (fun b q=>⟨fun h=>by have:=h.1;have:=q.2;omega,by have:=q.2;omega⟩)) Q P y (by omega) T ab HS (by have:=HM.out;have:=K.out;omega) L h2).mono ?_);rintro e w3 ⟨F',v,rfl,d⟩;have G:Hid (O9 w w3 p w1.heap.size nd (jH fill l) v (lu fill l)):=aa (by have:=d.top (w:=w) (fun b q=>by have:=q.1;omega) (by omega) (by simp;omega) (D.alloc D.size _);simpa [jH,lu] using this);have eH:=aa ((jL.alloc (.cells #[.pointer (some ⟨p,0,none⟩),.bool true] 193)).chg d.chg (fun h=>h.elim (fun h=>by have:=h.1;omega) (fun h=>by omega)));clear d hM))
 go_loopg [8,28] 32 (fun g' top i wr=>∃(k:Nat) (o:Value) (done:List bR) (ks:List Kd),g'=32-k/\k<=32/\i= .int .i64 k/\o=top/\O9 w wr p w1.heap.size nd done o ks/\yJ nd inn (32-k) done ks/\gy done ks/\EC inn (32-k) ((k:Int)+1) done ks=EC inn 32 1 (jH fill l) (lu fill l)/\aj wr w.heap.size 23 #[.int .i64 nd,.int .i64 lf,.int .i64 inn,.int .i64 fill,.int .i64 bl]/\(done.length:Int)<=nd)
 case atStart=>exact⟨0,_,_,_,rfl,by omega,rfl,rfl,G,ap,by have:=I6 (done:= []) (M:=pn l.length fill) (f:=kT fill l (pn l.length fill)) (hi:=iX fill l) (pJ _ _ y) (wS (fun e he=>(HS e he).1));simpa [jH,lu] using this,rfl,eH,by have:=L.out;simpa [jH] using this⟩
 case round=>
  obtain⟨k,o,done,ks,hg,hk,rfl,rfl,ht,hu,ho,he,hc,t⟩:=hrel;have KL:=aa t;have HG:=aa hg;have HT:=aa ht;have HU:=aa hu;have B:=aa ho;have Iy:=aa he;have HC:=aa hc
  rename World=>wq
  clear hg ht hu ho he hc t;obtain⟨F,base,st,⟨us,m,r,I8⟩,O,U⟩:=HT.out;obtain⟨A2,c2,rfl,a0,a3⟩:=au m;obtain⟨z,XJ⟩:∃z,z=ks.length:=⟨_,rfl⟩;have s:=aa XJ;rw [<-XJ] at m a0 r I8|-;have xK:Hid (dB wq (Off F p) base (.slice A2 z c2) ks\/True):=aa (.inr trivial);have E:=aa st;have XK:=aa m;have XL:=aa r;have XM:=aa I8;have J:=aa O;have d9:=aa U;clear XJ st m r I8 O U HT xK;have ax:wq.cell? ⟨w.heap.size,2,none⟩=some (.int .i64 inn):=(HC.out.cell 2).trans rfl
  by_cases a9:k<32
  ·have a7:((k:Int)<32):=by omega
   have a1:=IntWalk.i64_in ((k:Int)+1) (by omega)
   by_cases a8:1<z
   ·have ar:(1:Int)<(z:Int):=by omega
    have j:=yJ.step (k:=31-k) (f:=iU inn ((k:Int)+1) ks done.length (pn ks.length inn)) (g:=Es inn ks) (by omega) (show yJ nd inn (31-k+1) done ks from by have:=HU.out;rwa [show 32-k=31-k+1 by omega] at this) (by have:=s.out;omega);have uB:=pJ ks.length inn (by omega);have aq:=aa j;have Y:=B.out.1;have W:(done.length:Int)+((pn ks.length inn:Nat):Int)<=nd:=j.1.elim id (fun h=>by omega);have Ig:=aa (jl ks.length inn (by omega) (by have:=s.out;omega));have kG:=aa W;have aw:z<=65536:=by have:=s.out;omega
    clear j uB Y W;go_wp2_with (first|(go_at_call 95;go_loud (refine(I7 F p w1.heap.size nd 1 done A2 z c2 ks inn (pn ks.length inn) ((k:Int)+1) wq base E ⟨us,(by have:=XK.out;have e:=s.out;rwa [e] at this|-),XL,XM⟩ (aa s) (by omega) (by omega) aw (by omega) (fun k hk=>(B.2.2 k hk).2.2) (by have:=Ig.out;have:=s.out;omega) kG h2).mono ?_);go_loud (rintro e w3 ⟨F',v,rfl,d⟩);go_loud (have G:=aa (d.top (w:=w) J (Nat.le_of_lt cl) (nS ax) d9));go_loud (have eH:=aa (HC.chg d.chg (fun h=>h.elim (fun h=>by have:=J.out _ h;omega) (fun h=>by omega))));clear d))
    go_roundg (32-(k+1))
    case measure=>have:=HG.out;omega
    case rel=>
     refine⟨k+1,_,_,_,rfl,by omega,by go_num,rfl,G,by have:=aq.out.2;rwa [show 31-k=32-(k+1) by omega] at this,I6 (pJ _ _ (by omega)) (Li (fun k hk=>(B.2.2 k hk).2.2)),?_,eH,by have:=kG.out;simp;omega⟩;have e:=Iy.out;rw [show 32-k=31-k+1 by omega,EC,if_pos (by have:=s.out;omega)] at e
     rw [<-e,show 32-(k+1)=31-k by omega,show((k+1:Nat):Int)+1=(k:Int)+1+1 by omega]
   ·have ar:¬(1:Int)<(z:Int):=by omega
    go_wp2
    go_roundg (32-(k+1))
    case measure=>have:=HG.out;omega
    case rel=>
     have X:¬1<ks.length:=by have:=s.out;omega
     refine⟨k+1,_,done,ks,rfl,by omega,by go_num,rfl,⟨F,base,E,⟨us,(by have:=XK.out;have e:=s.out;rwa [e] at this|-),XL,XM⟩,J,d9⟩,.inl (by have:=B.out.2.1;omega),B,?_,HC,KL⟩
     rw [<-Iy.out,qo X,qo X]
  ·obtain rfl:k=32:=by omega
   have C:ks.length=1:=(show yJ nd inn 0 done ks from HU).one;obtain⟨x,hx⟩:∃x,ks= [x]:=List.length_eq_one_iff.1 C;have ad:=XM.out 0 x (by rw [hx];rfl);have aE:z=1:=by have:=s.out;omega
   subst aE;obtain⟨b,o1,u,v,aA,hD,I,e2,cc,_⟩:=(o7 XK XL).at2 (k:=0) (by omega);subst aA;rw [ad.1] at I;injection I with I
   subst I;have al:=B.out.2.2 x (by rw [hx];simp)
   have ao:Hid (bD fill inn l=(done,x.1)):=aa (by
    rw [nK gm.out,<-Iy.out,qo (by omega),hx];rfl)
   have HX:=aa al;clear C hx hD ad e2 al;have t:done.length<=65536:=by have:=KL.out;omega
   obtain⟨_,_,_,am⟩:=E.out;have N:gM wq F p nd done 1:=by rcases am with⟨e,_⟩|⟨_,a,_⟩;exact absurd B.out.1 (by have:=B.out.2.1;rw [e];show¬ks.length<=0;omega);exact a
   have an:=aa N;clear am N;simp only [Nat.mul_zero,Nat.add_zero] at cc;go_wp2_with (first|(go_at_call 96;go_loud (refine(Mj F p nd 1 done x.1 _ an HX.1 HX.2.1 t (by omega)).mono ?_);rintro e w4 ⟨rfl,ae,V⟩;have QH:=aa ae;have fV:=aa V;clear ae V))
   go_ret
   exact⟨p,rfl,by rw [ao.out];exact QH.weak (fun b q=>by have:=J.out b q;simp only [From];omega),d9.out.trans (fV.below_of d9.size (fun b q h=>by have:=J.out b h;omega))⟩
section
section
variable {S F G:Nat->Prop} {w w':World} {A:Option Addr} {n:Nat} {sl:List bR} {p:Nat} {nodes top:Int}
end
end
section
def nb (us:List Value) (j:Nat):List Value:=(us.drop (j*6)).take 6
section
variable {S F G D D':Nat->Prop} {w w':World} {vs:List Value} {s:Nd}
end
section
variable {S E:Nat->Prop} {w w':World} {base k:Nat} {out:Value} {f:Nat->Nd} {lev:Int} {h kv vv dv:Value} {us:List Value}
end
end
def IM (fill:Nat) (l:List aK) (j:Nat):Nd:=⟨0,iX fill l j,0,((l.drop (j*fill)).take fill).map Prod.fst,((l.drop (j*fill)).take fill).map Prod.snd,[]⟩
def fD (fill:Nat) (l:List aK):List Nd:=(List.range (pn l.length fill)).map (IM fill l)
def di (inn:Nat) (low:List Nd) (i:Nat):List Nd:=(low.drop (i*inn)).take inn
def l6 (inn:Nat) (lev:Int) (low:List Nd) (first:Int) (i:Nat):Nd:=
 ⟨lev,((di inn low i).getLastD Nd.zero).high,0,(di inn low i).dropLast.map Nd.high,[],(List.range (di inn low i).length).map fun j=>first+((i*inn+j:Nat):Int)⟩
section
theorem FB (F G:Nat->Prop) (g h i j:Option Addr) (d c1 f k b l c m:Nat) (key val:List UInt8) (w:World)
  (r:Rd w F 1 g d (aF key)) (n:d=key.length) (s:Rd w F 1 h f (aF val)) (o:f=val.length) (k1:Rd w G 1 i b (aF key)) (p:b=key.length) (k2:Rd w G 1 j c (aF val)) (q:c=val.length):
  Calls prog 44 #[.agg #[.slice g d c1,.slice h f k],.agg #[.slice i b l,.slice j c m]] w fun e w'=>e= .returned (.bool true)/\Below w.heap.size w w':=by
 have a:Below w.heap.size w ((w.alloc (.cells #[.slice g d c1,.slice h f k] 69)).alloc (.cells #[.slice i b l,.slice j c m] 69)):=((Below.refl _ _).alloc (Nat.le_refl _) _).alloc (by simp) _;have t:=bf _ F g d c1 key (r.below a) n;have u:=bf _ F h f k val (s.below a) o;have v:=bf _ G i b l key (k1.below a) p;have x:=bf _ G j c m val (k2.below a) q;clear r s k1 k2 n o p q;go_enter func44,ntmps44
 go_wp2;go_ret
 exact⟨rfl,a⟩
theorem sameAll_eq (F G:Nat->Prop) (A B:Option Addr) (n c m d:Nat) (l:List aK) (w:World) (h:bz w F A n l) (k:bz w G B m l) (hn2:n<=1152921504606):
  Calls prog 19 #[.slice A n c,.slice B m d] w fun e w'=>e= .returned (.bool true)/\Below w.heap.size w w':=by
 have e1:n=m:=by rw [h.len,k.len]
 subst e1;have W:=aa h;have X:=aa k;clear h k;go_enter func19,ntmps19
 go_wp2
 go_loopg [5] n (fun g i wr=>∃(k:Nat),g=n-k/\k<=n/\i= .int .i64 k/\Below w.heap.size w wr)
 case atStart=>exact⟨0,by omega,by omega,rfl,Below.refl _ _⟩
 case round=>
  obtain⟨k,P,hk,rfl,j⟩:=hrel;have V:=aa P;clear P
  by_cases s:k<n
  ·obtain⟨b,o,v,I,C,x,J,D,key,val,rfl,BM,hl,c1,L,h1,h2,h3,M,h5,h6,h7,N⟩:=(W.out.below j).at_ s;obtain⟨t,u,y,mk,E,z,H,dv,S,ab,rfl,Uu,p,q,r,k1,k2,k3,Q,k5,k6,k7,R⟩:=(X.out.below j).at_ s;rw [hl] at p;injection p with p
   injection p with ha hb
   subst ha;subst hb;have T:=aa M;have U:=aa N;have Y:=aa Q;have Z:=aa R;clear hl M N Q R;go_wp2;refine aU (fun w'=>w'.cell? ⟨b,o+k*2,none⟩=some (.slice v I C)/\w'.cell? ⟨b,o+k*2+1,none⟩=some (.slice x J D)/\w'.cell? ⟨t,u+k*2,none⟩=some (.slice y mk E)/\w'.cell? ⟨t,u+k*2+1,none⟩=some (.slice z H dv)) (by kernel_rfl) ?_;have f:wr.drew.cell? ⟨b,o+k*2,none⟩=some (.slice v I C)/\wr.drew.cell? ⟨b,o+k*2+1,none⟩=some (.slice x J D)/\wr.drew.cell? ⟨t,u+k*2,none⟩=some (.slice y mk E)/\wr.drew.cell? ⟨t,u+k*2+1,none⟩=some (.slice z H dv):=⟨c1,L,q,r⟩;clear c1 L q r;refine vT 0 f ?_;refine vT 1 f ?_;refine vT 2 f ?_;refine vT 4 f ?_;refine vT 5 f ?_;refine vT 6 f ?_;refine vT 3 f ?_;refine vT 7 f ?_;refine aO (i:=8) (by kernel_rfl) rfl (fun K O=> ?_);go_simp
   refine(FB F G v x y z I C J D mk E H dv key val _ T.drew h3.out U.drew h7.out Y.out.drew k3.out Z.out.drew k7.out).mono ?_;rintro e w1 ⟨rfl,a⟩;refine O.out _ _ ⟨ak a f.1,ak a f.2.1,ak a f.2.2.1,ak a f.2.2.2⟩ ?_;clear O K;try simp only [aL,aN,aZ,aC]
   refine vT 9 ⟨ak a f.1,ak a f.2.1,ak a f.2.2.1,ak a f.2.2.2⟩ ?_;refine bG (by kernel_rfl) ?_ _;go_wp2
   go_roundg (n-(k+1))
   case measure=>have:=V.out;omega
   case rel=>exact⟨k+1,rfl,by omega,by go_num,j.trans ((Below.refl _ _).drew.trans (a.mono j.size))⟩
  ·go_wp2;go_ret
   exact⟨rfl,j⟩
section
variable {S F:Nat->Prop} {w w':World} {B n c:Nat} {A:Option Addr} {l:List aK}
end
end
section
section
variable {w w' wa w2:World} {base p:Nat} {nodes:Int} {sl:List bR} {out:Value} {us:List Value}
end
end
theorem DL (n a b:Int) (w:World):
  Calls prog 89 #[.int .i64 n,.int .i64 a,.int .i64 b] w fun e w'=>e= .returned (.bool (decide (a<=n/\n<=b)))/\w=w':=by
 go_enter func89,ntmps89
 go_wp2;all_goals go_ret
 all_goals (refine⟨?_,rfl⟩)
 ·have h:a<=n:=by assumption
  simp [h]
 ·have h:n<a:=by assumption
  have c:¬a<=n:=by omega
  simp [c]
theorem Ob {k:IntKind} (h:a=b):Ending.returned (.int k a)= .returned (.int k b):=by rw [h]
theorem uY (nd lf inn fl bl:Int) (w:World):
  Calls prog 50 #[.agg #[.int .i64 nd,.int .i64 lf,.int .i64 inn,.int .i64 fl,.int .i64 bl]] w fun e w'=>e= .returned (.int .i64 (Oc nd lf inn fl bl))/\Below w.heap.size w w':=by
 go_enter func50,ntmps50
 go_wp2_with (go_at_call 89;refine(DL _ _ _ _).mono ?_;rintro e w' ⟨rfl,rfl⟩)
 all_goals go_ret
 all_goals (refine⟨Ob ?_,(Below.refl _ _).alloc (Nat.le_refl _) _⟩)
 ·rw [Af (by unfold dx;omega)]
 all_goals (rw [Od (by unfold dx;omega)])
def L5 (p:Int×Int):Value:= .tuple #[.int .i64 p.1,.int .i64 p.2]
theorem F4 {W w1:World} (a:Below B W w1) {b:Nat} (h:b<B) (hv:W.cell? ⟨b,o,none⟩=some v):w1.cell? ⟨b,o,none⟩=some v:=
 (a.cell (p:=⟨b,o,none⟩) h).trans hv
theorem LZ (nd lf inn fl bl n:Int) (w:World) (h:dx nd lf inn fl bl) (I:¬n<0) (J:n<=9223372036854775807):
  Calls prog 57 #[.agg #[.int .i64 nd,.int .i64 lf,.int .i64 inn,.int .i64 fl,.int .i64 bl],.int .i64 n] w fun e w'=>e= .returned (L5 (bT nd lf inn fl bl n))/\Below w.heap.size w w':=by
 have Y:=Af h;have x:=iA h I;have u:=aa x;clear x;have F:1<=nd/\nd<=65536/\2<=lf/\lf<=64/\3<=inn/\inn<=64/\1<=fl/\fl<=lf/\1<=bl/\bl<=64:=h;obtain⟨c1,P,Q,R,S,T,U,V,W,B⟩:=F;go_enter func57,ntmps57
 go_wp2_with (go_at_call 50;refine(uY _ _ _ _ _ _).mono ?_;rintro e w' ⟨rfl,o⟩)
 have v:Below w.heap.size w w':=((Below.refl _ _).alloc (Nat.le_refl _) _).trans (o.mono (by simp));have z:w'.cell? ⟨w.heap.size,0,none⟩=some (.int .i64 nd):=F4 o (by simp) (by simp);have k2:w'.cell? ⟨w.heap.size,2,none⟩=some (.int .i64 inn):=F4 o (by simp) (by simp);have O:w'.cell? ⟨w.heap.size,3,none⟩=some (.int .i64 fl):=F4 o (by simp) (by simp);clear o;go_quiet (fail);go_wp2
 go_loopw [6,7,8,19] (fun all many most i wr=>∃(a m q:Int) (k:Nat),k<=32/\all= .int .i64 a/\many= .int .i64 m/\most= .int .i64 q/\i= .int .i64 k/\0<=a/\a<=nd/\0<=m/\m<=9223372036854775807/\1<=q/\q<=64/\
   Hid (bT nd lf inn fl bl n=lv nd inn (32-k) (parts m q) a)/\Below w.heap.size w wr/\wr.cell? ⟨w.heap.size,0,none⟩=some (.int .i64 nd)/\wr.cell? ⟨w.heap.size,2,none⟩=some (.int .i64 inn))
  (fun _ _ _ i _=>32-(intOf i).toNat)
 case atStart=>exact⟨0,n,fl,0,by omega,rfl,rfl,rfl,rfl,by omega,by omega,by omega,by omega,by omega,by omega,u,below_drewN v _,by simpa using z,by simpa using k2⟩
 case round=>
  obtain⟨a,m,q,k,Z,rfl,rfl,rfl,rfl,X,E,g,H,t,M,r,c,C,D⟩:=hrel;clear z k2 O v u;have N:=Int.ediv_le_self q g;have L:0<=m/q:=Int.ediv_nonneg g (by omega);have hr:=Int.emod_nonneg m (show q≠0 by omega);have hs:m/q+m%q<=m:=F5 g t;have d:=aa (zm g t);have uB:=sj g t;have K:=DN (most:=q) g
  by_cases G:k<32
  ·obtain⟨j,y⟩:∃j,32-k=j+1:=⟨31-k,by omega⟩;have s:=aa y;clear y;go_wp2;go_region
   go_wp2
   ·have f:nd-a<max 1 (m/q+min 1 (m%q)):=by assumption
    rw [d.out] at f;have b:bT nd lf inn fl bl n=(0,2):=by rw [r.out];exact ko f
    go_ret2
    exact⟨by rw [b];rfl,(below_drewN c _)⟩
   ·have f:max 1 (m/q+min 1 (m%q))<=nd-a:=by assumption
    have l:(max 1 (m/q+min 1 (m%q))==1)=true:=by assumption
    rw [d.out] at f l;have b:bT nd lf inn fl bl n=(a+parts m q,0):=by rw [r.out,s.out];exact EQ (by omega) (by simpa using l)
    go_ret2
    exact⟨by rw [b,d.out];rfl,(below_drewN c _)⟩
   ·have f:max 1 (m/q+min 1 (m%q))<=nd-a:=by assumption
    have l:(max 1 (m/q+min 1 (m%q))==1)=false:=by assumption
    rw [d.out] at f l
    have b:bT nd lf inn fl bl n=lv nd inn (32-(k+1)) (parts (parts m q) inn) (a+parts m q):=by
     rw [r.out,s.out,qw (by omega) (by simpa using l)];congr 1
     have:=s.out;omega
    go_roundw
    case rel=>exact⟨a+parts m q,parts m q,inn,k+1,by omega,by rw [d.out],by rw [d.out],rfl,by go_num,by omega,by omega,by omega,by omega,by omega,by omega,aa b,below_drewN c _,by simpa using C,by simpa using D⟩
    case measure=>simp [intOf];omega
  ·have p:k=32:=by omega
   have b:bT nd lf inn fl bl n=(0,2):=by rw [r.out,p];rfl
   have A:=aa b;clear p b;go_wp2;go_ret2
   exact⟨by rw [A.out];rfl,c⟩
def mg (lv:List Nd) (first:Int) (i:Nat):bR:=(2,⟨(lv.getD i Nd.zero).lev,(lv.getD i Nd.zero).high,if i+1<lv.length then first+(i:Int)+1 else(lv.getD i Nd.zero).right,(lv.getD i Nd.zero).keys,(lv.getD i Nd.zero).vals,(lv.getD i Nd.zero).kids⟩)
theorem Om {l:List α} {d:α} (h:i<l.length):l.getD i d∈l:=by rw [List.getD_eq_getElem?_getD,List.getElem?_eq_getElem h];exact List.getElem_mem h
def xQ (inn:Nat):Nat->Int->List bR->List Nd->List bR×Int
 |0,_,sl,_=>(sl,0)
 |f+1,lev,sl,lv=>if lv.length=1 then(sl++(List.range lv.length).map (mg lv ((sl.length:Int)+1)),(sl.length:Int)+1) else
   xQ inn f (lev+1) (sl++(List.range lv.length).map (mg lv ((sl.length:Int)+1))) ((List.range (pn lv.length inn)).map (l6 inn (lev+1) lv ((sl.length:Int)+1)))
def Ar (fill inn:Nat) (l:List aK):List bR×Int:=if l= [] then([(0,Nd.zero)],1) else xQ inn 32 0 [] (fD fill l)
def dJ (lv:List Nd) (d0:Nat):List Kd:=(List.range lv.length).map fun(i:Nat)=>((d0:Int)+(i:Int)+1,(lv.getD i Nd.zero).high)
theorem jG (lv:List Nd) (d0:Nat):(dJ lv d0).length=lv.length:=by simp [dJ]
theorem zx {lv:List Nd} (h:i<lv.length):(dJ lv d0)[i]? =some ((d0:Int)+(i:Int)+1,(lv.getD i Nd.zero).high):=by
 unfold dJ;rw [List.getElem?_map,List.getElem?_range h];rfl
theorem nJ {l:List α} {d x:α} (h:l[i]? =some x):l.getD i d=x:=by rw [List.getD_eq_getElem?_getD,h];rfl
theorem wR {lv:List Nd} (c:j<(di inn lv i).length):(ig inn (dJ lv d0) i)[j]? =some ((d0:Int)+((i*inn+j:Nat):Int)+1,((di inn lv i).getD j Nd.zero).high):=by
 have hl:(di inn lv i).length=min inn (lv.length-i*inn):=by unfold di;rw [List.length_take,List.length_drop]
 have a:j<inn:=by omega
 have b:i*inn+j<lv.length:=by omega
 unfold ig;rw [List.getElem?_take,if_pos a,List.getElem?_drop,zx b];have:(di inn lv i)[j]? =lv[i*inn+j]? :=by unfold di;rw [List.getElem?_take,if_pos a,List.getElem?_drop]
 rw [List.getD_eq_getElem?_getD,List.getD_eq_getElem?_getD,this]
theorem Kv {lv:List Nd}:(ig inn (dJ lv d0) i).length=(di inn lv i).length:=by
 unfold ig di;rw [List.length_take,List.length_take,List.length_drop,List.length_drop,jG]
theorem last_at {l:List α} (_h:l≠ []) (d:α):l.getLastD d=l.getD (l.length-1) d:=by
 rw [List.getLastD_eq_getLast?,List.getLast?_eq_getElem?,List.getD_eq_getElem?_getD]
theorem Gh {lv:List Nd} (f:di inn lv i≠ []) (M:Nat) (hi:i<M):
  iU inn lev (dJ lv d0) h M i=mg ((List.range M).map (l6 inn lev lv ((d0:Int)+1))) ((h:Int)+1) i:=by
 have l:((List.range M).map (l6 inn lev lv ((d0:Int)+1))).getD i Nd.zero=l6 inn lev lv ((d0:Int)+1) i:=nJ (by rw [List.getElem?_map,List.getElem?_range hi];rfl);have hl:0<(di inn lv i).length:=List.length_pos_iff.2 f;have a:=Kv (lv:=lv) (d0:=d0) (inn:=inn) (i:=i);have d:ig inn (dJ lv d0) i≠ []:=by intro e;rw [e] at a;simp at a;omega
 have g:Es inn (dJ lv d0) i=((di inn lv i).getLastD Nd.zero).high:=by
  unfold Es;rw [last_at d,last_at f,a];rw [nJ (wR (d0:=d0) (show(di inn lv i).length-1<(di inn lv i).length by omega))]
 have c:(ig inn (dJ lv d0) i).dropLast.map Prod.snd=(di inn lv i).dropLast.map Nd.high:=by
  apply List.ext_getElem?;intro j;rw [List.getElem?_map,List.getElem?_map,List.getElem?_dropLast,List.getElem?_dropLast,a]
  by_cases b:j<(di inn lv i).length-1
  ·rw [if_pos b,if_pos b,wR (show j<(di inn lv i).length by omega),List.getElem?_eq_getElem (show j<(di inn lv i).length by omega)]
   simp [List.getD_eq_getElem?_getD,List.getElem?_eq_getElem (show j<(di inn lv i).length by omega)]
  ·rw [if_neg b,if_neg b];rfl
 have k:(ig inn (dJ lv d0) i).map Prod.fst=(List.range (di inn lv i).length).map fun j=>(d0:Int)+1+((i*inn+j:Nat):Int):=by
  apply List.ext_getElem?;intro j;rw [List.getElem?_map,List.getElem?_map]
  by_cases b:j<(di inn lv i).length
  ·rw [wR b,List.getElem?_range b];simp only [Option.map_some];congr 1
   omega
  ·rw [List.getElem?_eq_none (by omega),List.getElem?_eq_none (by simpa using b)];rfl
 unfold iU mg;rw [l,g,c,k];simp only [l6,List.length_map,List.length_range];congr 2
 split
 ·omega
 ·rfl
theorem Ox {lv:List Nd} (w:1<=inn) (hi:i<pn lv.length inn) (hl:1<=lv.length):di inn lv i≠ []:=by
 have b:=jl lv.length inn w hl
 have a:i*inn<lv.length:=by
  have:(i+1)*inn<=pn lv.length inn*inn:=Nat.mul_le_mul_right _ hi;rw [Nat.add_mul] at this;omega
 intro e;have:(di inn lv i).length=min inn (lv.length-i*inn):=by unfold di;rw [List.length_take,List.length_drop]
 rw [e] at this;simp at this;omega
theorem Oy (w:1<=inn):∀(f g:Nat) (lev:Int) (sl:List bR) (lv:List Nd),1<=lv.length->f<=g+1->(Go.Proofs.YtepgcjbhabnciaaGreat.lv nd inn f (lv.length:Int) (sl.length:Int)).2=0->
  (EC inn g (lev+1) (sl++(List.range lv.length).map (mg lv ((sl.length:Int)+1))) (dJ lv sl.length)).1=(xQ inn f lev sl lv).1/\
  ((EC inn g (lev+1) (sl++(List.range lv.length).map (mg lv ((sl.length:Int)+1))) (dJ lv sl.length)).2.headD (0,[])).1=(xQ inn f lev sl lv).2:=by
 intro f
 induction f with
 |zero=>intro g lev sl lv _ _ h;simp [Go.Proofs.YtepgcjbhabnciaaGreat.lv] at h
 |succ f C=>
  intro g lev sl lv hl A h
  by_cases b:lv.length=1
  ·rw [xQ,if_pos b,qo (by rw [jG];omega)];refine⟨rfl,?_⟩;have n:=zx (lv:=lv) (d0:=sl.length) (i:=0) (by omega);obtain⟨x,r⟩:∃x,dJ lv sl.length= [x]:=List.length_eq_one_iff.1 (by rw [jG];exact b);rw [r] at n|-;simp at n
   simp [n]
  ·have z:¬nd-(sl.length:Int)<(lv.length:Int):=by
    intro r;rw [ko r] at h;simp at h
   rw [qw z (by omega),<-gU lv.length inn w] at h
   have B:∃k,g=k+1:=by
    cases g with
    |zero=>
     have:f=0:=by omega
     subst this
     simp [Go.Proofs.YtepgcjbhabnciaaGreat.lv] at h
    |succ k=>exact⟨k,rfl⟩
   obtain⟨k,rfl⟩:=B;obtain⟨M,l⟩:∃M,M=pn lv.length inn:=⟨_,rfl⟩;obtain⟨done,a⟩:∃d,d=sl++(List.range lv.length).map (mg lv ((sl.length:Int)+1)):=⟨_,rfl⟩;obtain⟨j,m⟩:∃x,x=(List.range M).map (l6 inn (lev+1) lv ((sl.length:Int)+1)):=⟨_,rfl⟩;have o:done.length=sl.length+lv.length:=by rw [a];simp
   have e:j.length=M:=by rw [m];simp
   have y:1<=M:=by rw [l];exact pJ _ _ w
   have q:∀i,i<M->di inn lv i≠ []:=fun i hi=>Ox w (by rw [<-l];exact hi) hl;have c:∀i,i<M->iU inn (lev+1) (dJ lv sl.length) done.length M i=mg j ((done.length:Int)+1) i:=fun i hi=>by rw [m];exact Gh (q i hi) M hi
   rw [xQ,if_neg b,<-a,<-l,<-m,EC,if_pos (by rw [jG];omega),jG,<-l]
   have u:(List.range M).map (iU inn (lev+1) (dJ lv sl.length) done.length M)=(List.range j.length).map (mg j ((done.length:Int)+1)):=by
    rw [e];exact List.map_congr_left (fun i hi=>c i (by simpa using hi))
   have v:uk done.length M (Es inn (dJ lv sl.length))=dJ j done.length:=by
    unfold uk dJ;rw [e];refine List.map_congr_left (fun i hi=> ?_);have p:i<M:=by simpa using hi
    have:=congrArg (fun s:bR=>s.2.high) (c i p);have t:Es inn (dJ lv sl.length) i=(j.getD i Nd.zero).high:=this;unfold dJ at t;rw [t]
   rw [u,v];refine C k (lev+1) done j (by omega) (by omega) ?_;rw [e,o,l];have:((sl.length+lv.length:Nat):Int)=(sl.length:Int)+(lv.length:Int):=by omega
   rw [this];exact h
theorem tK (fill:Nat) (l:List aK):jH fill l= []++(List.range (fD fill l).length).map (mg (fD fill l) ((([]:List bR).length:Int)+1))/\lu fill l=dJ (fD fill l) ([]:List bR).length:=by
 have b:(fD fill l).length=pn l.length fill:=by simp [fD]
 have c:∀i,i<pn l.length fill->(fD fill l).getD i Nd.zero=IM fill l i:=fun i hi=>nJ (by unfold fD;rw [List.getElem?_map,List.getElem?_range hi];rfl)
 constructor
 ·rw [List.nil_append,b];unfold jH;refine List.map_congr_left (fun i hi=> ?_);have a:i<pn l.length fill:=by simpa using hi
  unfold kT mg;rw [c i a,b];simp only [IM,List.length_nil];congr 2
  split
  ·simp;omega
  ·rfl
 ·unfold lu uk dJ;rw [b];refine List.map_congr_left (fun i hi=> ?_);have a:i<pn l.length fill:=by simpa using hi
  rw [c i a];rfl
theorem Kl (h1:1<=inn) (w:1<=fill) (h:(lv nd inn 32 (parts l.length fill) 0).2=0):bD fill inn l=Ar fill inn l:=by
 by_cases hl:l= []
 ·subst hl;rfl
 ·rw [nK hl,Ar,if_neg hl,(tK fill l).1,(tK fill l).2];have a:(fD fill l).length=pn l.length fill:=by simp [fD]
  have:=Oy (nd:=nd) h1 32 32 0 [] (fD fill l) (by rw [a];exact pJ _ _ w) (by omega) (by rw [a,gU _ _ w];exact h);exact Prod.ext this.1 this.2
end Go.Proofs.YtepgcjbhabnciaaGreat
