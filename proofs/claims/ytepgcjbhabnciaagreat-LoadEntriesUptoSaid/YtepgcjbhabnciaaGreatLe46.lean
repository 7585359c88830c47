/- Part 46. -/
import Derived.OwnWalkIn
import Derived.Test.YtepgcjbhabnciaaGreatLe45
import Derived.RangeFuncNested
import Derived.RangeFuncBound
import Derived.RangeFuncCalls
import Derived.RangeFuncLeaves
import Derived.Shelf.Abstract
import Derived.Shelf.RegionOpen
import Derived.TacticsInMore
import Derived.LoopNIn
import Derived.LoopIn
namespace Go.Proofs.YtepgcjbhabnciaaGreat
set_option maxRecDepth 100000
set_option maxHeartbeats 8000000
open Go.Proofs.Tryz
open Go.RowKit Go.Shelf
variable {Y J u3 H d u9 M E I Z N U O f s m u1 u7 r u16 bN V u22 v B u8 C u21 P u24 g T j u28 u u30 u31 x u33 u34 u35 u36 u37 u38 R u40 X u42 G u44 i u46:Value}
section
variable {P:Program} {F:Fence} {k:Nat}
theorem ow (w:World) {ops:Array Oper} {rest:List Oper} {o:Oper} {a:Act} {Q:Exit->Act->World->Prop} (j:o.guard=none) (s x:Operand) (t:TypeId)
  (E:o.op= .call {callee:= .builtin .append,args:= #[s,x],argTypes:= #[t,t]})
  (base:Nat) (e:TypeId) (i:TypeInfo) (z:Value) (size bytes:Nat) (J:P.underlying t=some (.slice e)) (hi:P.info? e=some i) (Y:i.zero=some z)
  (l:i.size=size) (p:i.bytes=bytes) (d:z.cells.size=size) (q:0<size)
  (v:Value) (n:Nat) (xs:List Value) (T:a.eval s=v) (y:w.ownsRow base e size v n xs)
  (S:Nat->Prop) (A:Option Addr) (m c:Nat) (f:List Value) (L:a.eval x= .slice A m c) (I:Rd w S size A m f) (H:∀u∈f,u.oneCell'=true)
  (b:n+m<=maxLen) (g:(n+m)*bytes<=140737488355328) (G:base<=w.heap.size)
  (h:∀r w',w'.ownsRow base e size r (n+m) (xs++f)->w.grownBy w' v.ownBlock->(r.ownBlock=v.ownBlock\/r.ownBlock=some w.heap.size)->wpListIn F k P ops Q rest (a.put o.dst r) w'):
  wpListIn F k P ops Q (o::rest) a w:=by
 refine wpListIn_plain j fun K C=> ?_;obtain⟨r,w',B,M,N,O⟩:=ni (P:=P) w base t o.type e i z size bytes J hi Y l p d q v n xs y S A m c f I H b g G;unfold Oper.wpIn
 refine⟨?_,?_⟩
 ·simp [Oper.about,E,resolve,Target.leads,Sem.run_pure]
 ·rw [Oper.semAt_plain F _ _ (by rw [E];intro c D;cases D)];simp [execOp,E,resolve,invoke,builtin,T,L,B,Result.andThen];exact C _ _ (h r w' M N O)
end
attribute [local go_sem] Oper.semAt_some
def jg:Code->Option (Code×Code)
 | .rangeFunc _ _ a c=>some (a,c)
 | .seq a b=>match jg a with
  |some c=>some c
  |none=>jg b
 | .block _ c=>jg c
 | .loop c=>jg c
 | .scope c=>jg c
 | .cond _ a b=>match jg a with
  |some c=>some c
  |none=>jg b
 |_=>none
noncomputable def MY:Code:=((f17.body.bind jg).map Prod.fst).getD .skip
noncomputable def MZ:Code:=((f17.body.bind jg).map Prod.snd).getD .skip
theorem gB (w:World) (l:Nat) (o:Obj):ag (fun b=>b=l) w (w.putObj l o):=⟨rfl,rfl,rfl,by simp,fun k _ a=>World.putObj_heap_other a⟩
theorem Fg (l:List Value) (a b:Value):((#[16,17]:Array Tmp).zip #[a,b]).foldl (fun t (p,v)=>t.setIfInBounds p v) l.toArray=((l.set 16 a).set 17 b).toArray:=by simp
noncomputable def jr (fn:FuncId) (a:Array Value) (c:Nat):Loop:={state:= .ready,pending:=none,fn:=fn,tmps:=a,params:= #[16,17],assign:=MY,body:=MZ,defers:=c}
theorem vo:(prog.info? 69).map (fun i=>(i.zero,i.size,i.bytes))=some (some (.agg #[.slice none 0 0,.slice none 0 0]),2,48):=by kernel_rfl
theorem Jv (A:FuncId) (lo L c bl base:Nat) (D B:Nat->Prop) (out:List aK) (e:aK) (z Av:Option Addr) (C y R j:Nat) (W:World) {S:List Value} (h:Jr W lo L c bl base (jr A (⟨(Y::u1::J::u3::H:: .pointer (some ⟨bl,0,none⟩)::d::u7::r::u9::M::E::I::Z::N::U::u16::O::f::bN::s::V::u22::m::S).toArray,[]⟩:Act).tmps c) D B out) (hB:∀b,B b->base<=b/\b<W.heap.size)
  (hk:SB W D (.slice z C y) e.1) (hv:SB W D (.slice Av R j) e.2) (hn:out.length<=1152921504606):
  YieldAt Fence.wide 2 prog L #[.slice z C y,.slice Av R j] W fun en W'=>en= .returned (.bool true)/\Jr W' lo L c bl base (jr A (⟨(Y::u1::J::u3::H:: .pointer (some ⟨bl,0,none⟩)::d::u7::r::u9::M::E::I::Z::N::U::u16::O::f::bN::s::V::u22::m::S).toArray,[]⟩:Act).tmps c) D B (out++ [e])/\ag (fun b=>b=L\/b=bl\/base<=b/\¬B b) W W':=by
 obtain⟨i0,ao,aE,a0,a1⟩:=info_parts vo;obtain⟨o1,o2,o3,o4,o5⟩:=h.ord;obtain⟨a3,us,Ce,jO⟩:=h.col;obtain⟨oA,oc,rfl,ar,aw⟩:=au jO.own;have hl:=h.loop
 have hy:(Instr.yield L #[.slice z C y,.slice Av R j]).run prog W= .ok (.round L A (⟨(Y::u1::J::u3::H:: .pointer (some ⟨bl,0,none⟩)::d::u7::r::u9::M::E::I::Z::N::U:: .slice z C y:: .slice Av R j::f::bN::s::V::u22::m::S).toArray,[]⟩:Act).tmps MY MZ) W:=
  (run_yield (P:=prog) (args:= #[.slice z C y,.slice Av R j]) hl rfl).trans (congrArg (fun t=>Result.ok (Next.round L A t MY MZ) W) (Fg _ _ _))
 obtain⟨a,am,ac,X,ad⟩:∃a,(Instr.beginRound L).run prog W= .ok () a/\a.heap[L]? =some (.loop {jr A (⟨(Y::u1::J::u3::H:: .pointer (some ⟨bl,0,none⟩)::d::u7::r::u9::M::E::I::Z::N::U::u16::O::f::bN::s::V::u22::m::S).toArray,[]⟩:Act).tmps c with state:= .busy})/\ag (fun b=>b=L) W a/\a.heap.size=W.heap.size:=
  ⟨_,run_beginRound hl rfl,World.putObj_heap_same (by omega),gB _ _ _,by simp⟩
 have hL:∀b,B b->¬b=L:=fun b l e=>by have:=(hB b l).1;omega
 have Ir:Boxed a bl 58 (.slice oA out.length oc):=(X.block bl (by omega) (by omega)).trans Ce;have Tm:uy a base D B (.slice oA out.length oc) us out:=jO.chg X (fun g hg e=>by have:=(ah jO.own g hg).1;omega) (fun b l=>hL b (jO.sub b l).1)
 have hR:∀v2 K (x:World),Boxed x bl 58 v2->uy x base D B v2 K (out++ [e])->ag (fun b=>b=bl\/base<=b/\¬B b) a x->
   ∃v w',(Instr.endRound L none).run prog x= .ok v w'/\(Ending.returned v= .returned (.bool true)/\Jr w' lo L c bl base (jr A (⟨(Y::u1::J::u3::H:: .pointer (some ⟨bl,0,none⟩)::d::u7::r::u9::M::E::I::Z::N::U::u16::O::f::bN::s::V::u22::m::S).toArray,[]⟩:Act).tmps c) D B (out++ [e])/\ag (fun b=>b=L\/b=bl\/base<=b/\¬B b) W w'):=fun v2 K x k1 k2 k3=>by
  have aq:x.heap[L]? =some (.loop {jr A (⟨(Y::u1::J::u3::H:: .pointer (some ⟨bl,0,none⟩)::d::u7::r::u9::M::E::I::Z::N::U::u16::O::f::bN::s::V::u22::m::S).toArray,[]⟩:Act).tmps c with state:= .busy}):=(k3.block L (by omega) (by omega)).trans ac;have an:x.heap[c]? =some (.deferred (some [])):=(k3.block c (by omega) (by omega)).trans ((X.block c (by omega) (by omega)).trans h.dfd);have a4:=k3.size;refine⟨_,_,run_endRound none aq,rfl,⟨World.putObj_heap_same (by omega),(World.putObj_heap_other (by omega)).trans an,⟨v2,K,(World.putObj_heap_other (by omega)).trans k1,k2.chg (gB _ _ _) (fun g hg e=>by have:=(ah k2.own g hg).1;omega) (fun b l=>hL b (k2.sub b l).1)⟩,o1,o2,o3,o4,by simp;omega⟩,?_⟩;exact((X.mono (T:=fun b=>b=L\/b=bl\/base<=b/\¬B b) (fun b _ e=> .inl e)).trans k3 (fun b _ e=> .inr e)).trans (gB _ _ _) (fun b _ e=> .inl e)
 refine⟨_,_,_,_,hy,roundIn_of_wpIn trivial ?_⟩;clear hy;show Code.wpIn _ _ _ MY _ ⟨(Y::u1::J::u3::H:: .pointer (some ⟨bl,0,none⟩)::d::u7::r::u9::M::E::I::Z::N::U:: .slice z C y:: .slice Av R j::f::bN::s::V::u22::m::S).toArray,[]⟩ _;conv=>arg 4;whnf
 gi_wp2
 have HR:=aa hR;have w:=aa Tm;have nU:=aa Ir;have c0:=Ir.cell;have f0:=Ir.frozen;have HP:=aa X;have n:=aa hB;have HK:=aa hk;have HV:=aa hv;have EH:=aa ad;have Q:=aa (And.intro o1 (And.intro o2 (And.intro o3 (And.intro o4 o5))));clear hR Tm Ir X ac am hl jO Ce h hB hk hv ad o1 o2 o3 o4 o5 ar aw hL;show Code.wpIn _ _ _ MZ _ _ _;conv=>arg 4;whnf
 gi_wp2_with (gi_at_builtin;refine ow _ rfl (.tmp 18) (.tmp 22) _ rfl base 69 i0 _ 2 48 underlying58 ao aE a0 a1 rfl (by decide) (.slice oA out.length oc) out.length us rfl (own_below w.own ((Below.refl _ _).alloc (Nat.le_refl _) _)) (From a.heap.size) (some ⟨a.heap.size,0,none⟩) 1 1 [.slice z C y,.slice Av R j] rfl (Rd.one2 a _ _ _) (by intro u hu;simp at hu;rcases hu with hu|hu<;>subst hu<;>rfl) (by simp only [maxLen];omega) (by omega) (by simp;have:=Q.out;have:=EH.out;omega) ?_;intro v2 w2 i G iK;obtain⟨K2,c2,aA,_,_⟩:=au i;subst aA;have iR:=aa i;have xD:=aa G;have ae:=aa iK;have q:Boxed w2 bl 58 (.slice oA out.length oc):=(nU.out.alloc _).kept G (fun e=>by have:=(ah w.own bl e.symm).1;have:=Q.out;omega);have al:=aa q;have a2:=q.cell;have f2:=q.frozen;clear i G iK q c0 f0)
 have o:ag Nil a (a.alloc (.cells #[.slice z C y,.slice Av R j] 69)):=(ag.refl Nil a).alloc _;have F:∀b,D b->¬Nil b:=fun _ _ h=>h;have k1:uy (a.alloc (.cells #[.slice z C y,.slice Av R j] 69)) base D B (.slice oA out.length oc) us out:=w.out.chg o (fun _ _ h=>h) F;have ap:SB (a.alloc (.cells #[.slice z C y,.slice Av R j] 69)) D (.slice z C y) e.1:=(HK.out.chg HP (fun b l e=>by have:=(n.out b (w.sub b l).1).1;have:=Q.out;omega)).chg o F;have ax:SB (a.alloc (.cells #[.slice z C y,.slice Av R j] 69)) D (.slice Av R j) e.2:=(HV.out.chg HP (fun b l e=>by have:=(n.out b (w.sub b l).1).1;have:=Q.out;omega)).chg o F;have k2:=k1.push iR xD (ae.out.imp id (fun h=>⟨_,h,fun l=>by have h1:=(n.out _ l).2;have h2:=EH.out;simp at h1;omega⟩)) ap ax;have ab:ag (fun b=>b=bl) w2 (w2.setCell ⟨bl,0,none⟩ (.slice K2 (out.length+1) c2)):=(ag.refl (fun b=>b=bl) w2).setCell (p:=⟨bl,0,none⟩) (fun _=>rfl) _;refine HR _ _ _ (al.set _) (k2.chg ab (fun g hg e=>by have:=(ah k2.own g hg).1;have:=Q.out;omega) (fun b l e=>by have:=(n.out b (w.sub b l).1).1;have:=Q.out;omega)) ?_
 refine((o.mono (T:=fun b=>b=bl\/base<=b/\¬B b) (fun _ _ h=>h.elim)).grown xD (fun k hk _=> ?_)).trans ab (fun b _ e=> ?_)
 ·exact .inr ⟨(ah w.own k hk).1,w.ne k hk⟩
 ·exact .inl e
attribute [local go_sem] Oper.semAt_some
def MS (z q p lo:Nat):Nat->Prop:=fun b=>b=z\/b=q\/b=p\/lo<=b
def Ux (F:Nat->Prop) (z q p base lo L c bl f K:Nat) (V:Loop) (e:bg) (w:World) (g:Nat) (wr:World):Prop:=
 ∃(r:bg) (lf out:List aK) (Dr:Nat->Prop) (A:Option Addr) (n cc:Nat) (us:List Value) (hv:Nat) (d:Option Addr) (b a:Nat),
  g=65*(8388609-r.rows.length)+lf.length/\EX wr F Dr z q p base hv A n cc us K r (.slice d b a)/\b<=a/\a<=maxLen/\bz wr (uZ Dr (.slice A n cc)) d b lf/\
  Jr wr lo L c bl base V (uZ Dr (.slice A n cc)) Dr out/\Came e (out++lf) r/\aj wr f 82 #[.pointer (some ⟨z,0,none⟩)]/\out.length+lf.length<=64*r.rows.length/\ag (MS z q p lo) w wr
theorem E9 (w:World):(sizeOf (prog.elem 58)).run prog w= .ok 2 w:=by kernel_rfl
theorem MU:prog.underlying 58=some (.slice (prog.elem 58)):=by kernel_rfl
theorem Qb {F:Nat->Prop} {w:World} {A:Option Addr} {n c:Nat} {e:aK} {l:List aK} (h:bz w F A n (e::l)) (Q:n<=c):
  ∃d,(∀w',(Instr.slice 58 (.slice A n c) (some (.int .i64 1)) none none).run prog w'= .ok (.slice d (n-1) (c-1)) w')/\bz w F d (n-1) l:=by
 have hl:=h.len;simp at hl;obtain⟨_,vs,f,g⟩:=h
 refine⟨if c=1 then A else A.map (·.add 2),fun w'=> ?_,aa (by omega),vs.drop 2,?_,fun i x j=> ?_⟩
 ·rw [run_slice_l w' _ A n c MU .i64 1 (by omega) (by omega),E9]
  simp [Result.andThen,sliced]
 ·exact f.cut (k:=1) (cap:=c) (by omega) Q
 ·obtain⟨u,v,a,b,s⟩:=g (i+1) x (by simpa using j);exact⟨u,v,by rw [List.getElem?_drop,show 2+2*i=2*(i+1) by omega];exact a,by rw [List.getElem?_drop,show 2+(2*i+1)=2*(i+1)+1 by omega];exact b,s⟩
noncomputable def nE:Code:=aV (f82.body.bind (aJ 4))
noncomputable def pF:Code:=aV (f82.body.bind (gQ 5))
theorem Iq (F Dr:Nat->Prop) (z q p base lo L c bl rb hv K:Nat) (V:Loop) (r0 r:bg) (e:aK) (lf out:List aK) (A lA:Option Addr) (n cc ln D:Nat) (us:List Value) (w0 w:World) (Q:Exit->Act->World->Prop) (KK:Act->World->Prop)
  (h:EX w F Dr z q p base hv A n cc us K r (.slice lA ln D)) (ao:ln<=D) (a1:D<=maxLen) (he:bz w (uZ Dr (.slice A n cc)) lA ln (e::lf)) (hj:Jr w lo L c bl base V (uZ Dr (.slice A n cc)) Dr out)
  (hY:Hid (∀(Ak Av:Option Addr) (nk ck nv cv:Nat) (W:World),Jr W lo L c bl base V (uZ Dr (.slice A n cc)) Dr out->(∀b,Dr b->base<=b/\b<W.heap.size)->SB W (uZ Dr (.slice A n cc)) (.slice Ak nk ck) e.1->SB W (uZ Dr (.slice A n cc)) (.slice Av nv cv) e.2->out.length<=1152921504606->
   YieldAt Fence.wide 2 prog L #[.slice Ak nk ck,.slice Av nv cv] W fun en W'=>en= .returned (.bool true)/\Jr W' lo L c bl base V (uZ Dr (.slice A n cc)) Dr (out++ [e])/\ag (fun b=>b=L\/b=bl\/base<=b/\¬Dr b) W W'))
  (hc:Came r0 (out++e::lf) r) (l:aj w rb 82 #[.pointer (some ⟨z,0,none⟩)]) (hn:out.length+(lf.length+1)<=64*r.rows.length) (hg:ag (MS z q p lo) w0 w) (t:z<lo/\q<lo/\p<lo/\∀b,F b->b<lo) (ad:bl<rb/\rb<c)
  (hQ:∀(v5 a8 a9 ba bb be bh bj bk bm bo bp bx bB bE bK bL b0 b1 b2 b3 b4:Value) (w':World),Ux F z q p base lo L c bl rb K V r0 w0 (65*(8388609-r.rows.length)+lf.length) w'->Q .normal ⟨(.func (.yield L) #[] #[]:: .pointer (some ⟨rb,0,none⟩)::J::u3::H::v5::d::B::u8::u9::M::E::I::Z::N::U::Y::O::f::C::s::u21::P::m::u24::g::a8::a9::ba::bb::be::bh::bj::bk::bm::bo::bp::bx::bB::bE::bK::bL::b0::b1::b2::b3::b4:: []).toArray,[]⟩ w')
  (Td:∀a w,Code.wp prog pF Q a w->KK a w):Code.wp prog nE (Exit.then KK Q) ⟨(.func (.yield L) #[] #[]:: .pointer (some ⟨rb,0,none⟩)::J::u3::H::v::d::B::u8::u9::M::E::I::Z::N::U::Y::O::f::C::s::u21::P::m::u24::g::T::j::u28::u::u30::u31::x::u33::u34::u35::u36::u37::u38::R::u40::X::u42::G::u44::i::u46:: []).toArray,[]⟩ w:=by
 have HX:=aa h;have HE:=aa he;have HJ:=aa hj;have HC:=aa hc;have HB:=aa l;have HN:=aa hn;have HG:=aa hg;have ug:=aa t;have p9:=aa ad;have HQ:=aa hQ;have HL:=aa (And.intro ao a1);obtain⟨A2,hcut,ab⟩:=Qb he ao;have a5:=aa ab;clear ab;have a2:0<ln:=by have:=he.len;simp at this;omega
 obtain⟨b,o,Ak,nk,ck,Av,nv,cv,key,val,rfl,a7,h0,c0,c1,k1,k2,k3,k4,v1,v2,v3,v4⟩:=he.at_ (k:=0) a2;simp at h0;subst h0;rw [Nat.zero_mul,Nat.add_zero] at c0 c1;have x0:w.cell? ⟨rb,0,none⟩=some (.pointer (some ⟨z,0,none⟩)):=l.cell 0;have z2:w.cell? ⟨z,2,none⟩=some (.slice (some ⟨b,o,none⟩) ln D):=h.rblk.cell 2;have zf:w.frozen? ⟨z,2,none⟩=false:=h.rblk.frozen 2;have HK:Hid (SB w (uZ Dr (.slice A n cc)) (.slice Ak nk ck) key):=aa ⟨Ak,nk,ck,rfl,k1,k2,k3.out,k4⟩;have HV:Hid (SB w (uZ Dr (.slice A n cc)) (.slice Av nv cv) val):=aa ⟨Av,nv,cv,rfl,v1,v2,v3.out,v4⟩;clear h he hj hc l hn hg t ad hQ a7 k1 k2 k3 k4 v1 v2 v3 v4 ao a1;conv=>arg 2;whnf
 go_wp2;conv=>arg 2;whnf
 go_upto_region 5 with fail
 obtain⟨w1,al⟩:∃W,W=w.alloc (.cells #[.slice Ak nk ck,.slice Av nv cv] 69):=⟨_,rfl⟩;have ac:Below w.heap.size w w1:=by rw [al];exact(Below.refl _ _).alloc (Nat.le_refl _) _
 have ax:aj w1 w.heap.size 69 #[.slice Ak nk ck,.slice Av nv cv]:=by rw [al];exact aj.new _ _ _
 rw [<-al];clear al c0 c1;have x1:w1.cell? ⟨rb,0,none⟩=some (.pointer (some ⟨z,0,none⟩)):=(HB.out.below ac).cell 0;have b5:w1.cell? ⟨z,2,none⟩=some (.slice (some ⟨b,o,none⟩) ln D):=(HX.out.rblk.below ac).cell 2;have sW:w1.frozen? ⟨z,2,none⟩=false:=(HX.out.rblk.below ac).frozen 2;have ap:=aa ac;have xB:=aa ax;clear ac ax x0 z2 zf;go_region
 go_upto_region 6 with fail
 obtain⟨w2,ae⟩:∃W,W=(w1.setCell ⟨z,2,none⟩ (.slice A2 (ln-1) (D-1))).drew:=⟨_,rfl⟩;have y:ag (fun b=>b=z) w w2:=by rw [ae];exact(((ag.of_below (S:=fun b=>b=z) ap).setCell (p:=⟨z,2,none⟩) (fun _=>rfl) _).drew)
 have b7:=y.size;have hO:=HJ.out.ord;have t:=ug.out;have ad:=p9.out;have hD:∀b,Dr b->¬b=z:=fun b l e=>by have:=(HX.out.drl b l).1;omega
 have an:EX w2 F Dr z q p base hv A n cc us K r (.slice A2 (ln-1) (D-1)):=by
  have h1:EX w1 F Dr z q p base hv A n cc us K r (.slice (some ⟨b,o,none⟩) ln D):=HX.out.chg (S:=Nil) (ag.of_below ap) (fun h=>h) (fun h=>h) (fun h=>h) (fun _ _ h=>h) (fun _ _ h=>h);have h2:=(h1.set2 (.slice A2 (ln-1) (D-1))).chg (S:=Nil) ((ag.refl Nil _).drew) (fun h=>h) (fun h=>h) (fun h=>h) (fun _ _ h=>h) (fun _ _ h=>h);rw [ae];exact h2
 have ar:Jr w2 lo L c bl base V (uZ Dr (.slice A n cc)) Dr out:=HJ.out.chg y (fun b h1 h2 e=>by have:=t.1;omega) (fun b h1 h2 h3 e=>by have:=t.1;omega) (fun b l=>hD b l.1);have ab:bz w2 (uZ Dr (.slice A n cc)) A2 (ln-1) lf:=a5.out.chg y (fun b l=>hD b l.1);have aA:=HK.out.chg y (fun b l=>hD b l.1);have a0:=HV.out.chg y (fun b l=>hD b l.1);have aq:aj w2 rb 82 #[.pointer (some ⟨z,0,none⟩)]:=HB.out.chg y (by omega)
 have am:aj w2 w.heap.size 69 #[.slice Ak nk ck,.slice Av nv cv]:=by
  rw [ae];exact(xB.far (p:=⟨z,2,none⟩) (by have:=HX.out.zs.lt;have:=HX.out.bw;show w.heap.size≠z;omega) _).drew
 have t0:w2.cell? ⟨w.heap.size,0,none⟩=some (.slice Ak nk ck):=am.cell 0;have t1:w2.cell? ⟨w.heap.size,1,none⟩=some (.slice Av nv cv):=am.cell 1;obtain⟨fn,b6,a3,body,hy,hR⟩:=hY.out Ak Av nk ck nv cv w2 ar (fun b l=>an.drl b l) aA a0 (by have h1:=HN.out;have h2:=HX.out.ok.rows.many;omega);have uG:=aa an;have Fa:=aa ab;have a4:=aa aq;have a6:=aa y;rw [<-ae];clear ae an ar ab aA a0 aq am hcut x1 b5 sW hD y hO t ad;refine(wpIn_wide (n:=3)).1 ?_
 gi_wp2
 refine hR.mono ?_;rintro e' w3 ⟨rfl,aw,Tj⟩;have YQ:=aa aw;have eH:=aa Tj;clear hR aw Tj t0 t1 hy
 gi_wp2
 go_wp2;have hO:=HJ.out.ord
 have t:=ug.out;have ad:=p9.out;have hS:∀b,b<lo->¬(b=L\/b=bl\/base<=b/\¬Dr b):=fun b l e=>by omega
 have aE:∀b,Dr b->¬(b=L\/b=bl\/base<=b/\¬Dr b):=fun b l e=>by
  have:=(uG.out.drl b l).1
  rcases e with e|e|e
  ·omega
  ·omega
  ·exact e.2 l
 have hg:ag (MS z q p lo) w0 w3:=((HG.out.trans a6 (fun b _ e=> .inl e)).trans eH (fun b _ e=> .inr (.inr (.inr (by omega)))))
 exact HQ _ _ _ _ _ _ _ _ _ _ _ _ _ _ _ _ _ _ _ _ _ _ w3 ⟨r,lf,out++ [(key,val)],Dr,A,n,cc,us,hv,A2,ln-1,D-1,rfl,
  uG.chg eH (hS z t.1) (hS q t.2.1) (hS p t.2.2.1) (fun b l=>hS b (t.2.2.2 b l)) aE,by have:=HL.out.1;omega,by have:=HL.out;omega,
  Fa.chg eH (fun b l=>aE b l.1),YQ,by rw [List.append_assoc];exact HC,a4.chg eH (by omega),by rw [List.length_append];have:=HN.out;simp;omega,hg⟩
structure pG (F:Nat->Prop) (z q p base lo L Dd bl:Nat) (rc:Loop) (r0:bg) (w:World) (e:Ending) (w':World):Prop where
 ret:∃v,e= .returned v
 all:∃(out:List aK) (rf:bg) (D B:Nat->Prop),kP r0 out rf/\out.length<=536870912/\Jr w' lo L Dd bl base rc D B out/\(∀b,B b->base<=b)/\(∃v0 v1 v2 v3,aj w' z 140 #[v0,v1,v2,v3,.int .i64 rf.err,.int .i64 (rf.bad:Nat)])/\fo w' F p rf.cur.src
 chg:ag (MS z q p lo) w w'
theorem Qc (z q p base hv K:Nat) (F Dr:Nat->Prop) (A:Option Addr) (n cc:Nat) (us:List Value) (r:bg) (left:Value) (w:World) (h:EX w F Dr z q p base hv A n cc us K r left) (d:K<=1152921504606846976):
  Calls prog (if r.st=0 then 52 else 92) #[.pointer (some ⟨z,0,none⟩)] w (nG F z q p base Dr (CS z 1) left A n cc us r.next.1 r.next.2 w):=by
 have i:=h.ok.st;have g:=h.go;have c:=h.rblk
 by_cases a:r.st=0
 ·rw [if_pos a]
  exact CU F Dr z q p base hv K _ left A n cc us r w h.sit h.zs h.nFz h.bw c h.rows h.iny h.ok a d
 ·rw [if_neg a];have b:r.st=1:=by omega
  have e:r.next=r.frame:=by unfold bg.next;rw [if_neg (by omega),if_pos b]
  rw [e];have f:CS z r.st=CS z 1:=by rw [b]
  rw [f] at c;exact rR F Dr z q p base hv K (CS z 1) left A n cc us r w h.sit h.zs h.nFz h.bw c h.rows h.iny h.ok b d
theorem MV (F:Nat->Prop) (z q p base hv lo L c bl u K:Nat) (V:Loop) (r:bg) (w:World) (h:EX w F Nil z q p base hv none 0 0 [] K r (.slice none 0 0)) (hj:Jr w lo L c bl base V (uZ Nil (.slice none 0 0)) Nil [])
  (hY:∀(D B:Nat->Prop) (out:List aK) (e:aK) (Ak Av:Option Addr) (nk ck nv cv:Nat) (W:World),Jr W lo L c bl base V D B out->(∀b,B b->base<=b/\b<W.heap.size)->SB W D (.slice Ak nk ck) e.1->SB W D (.slice Av nv cv) e.2->out.length<=1152921504606->
   YieldAt Fence.wide 2 prog L #[.slice Ak nk ck,.slice Av nv cv] W fun P W'=>P= .returned (.bool true)/\Jr W' lo L c bl base V D B (out++ [e])/\ag (fun b=>b=L\/b=bl\/base<=b/\¬B b) W W')
  (d:aj w u 82 #[.pointer (some ⟨z,0,none⟩)]) (s:z<lo/\q<lo/\p<lo/\∀b,F b->b<lo) (ao:bl<u/\u<c) (hK:K<=1152921504606846976) (an:r.rows= []):
  Calls prog 82 #[.func (.yield L) #[] #[],.pointer (some ⟨u,0,none⟩)] w (pG F z q p base lo L c bl V r w):=by
 refine letter fun R HR=> ?_;have HY:=aa hY;have ug:=aa s;have p9:=aa ao;have H0:Hid (Ux F z q p base lo L c bl u K V r w (65*8388609) w):=aa ⟨r,[],[],Nil,none,0,0,[],hv,none,0,0,by rw [an];simp,h,Nat.le_refl _,by simp [maxLen],bz.nil _ _ _,hj,Came.nil r,d,by simp,ag.refl _ _⟩;clear hY s ao h hj d an;go_enter func82,ntmps82
 go_wp2
 go_loopg [] (65*8388609) (fun g' wz=>Hid (Ux F z q p base lo L c bl u K V r w g' wz))
 case atStart=>exact H0
 case round=>
  obtain⟨O,lf,out,Dr,A,n,cc,us,ar,lA,ln,lc,Tf,hX,al,am,hE,hJ,YR,hB,hN,hC⟩:=hrel;have T:=aa Tf;have f:=aa hX;have HE:=aa hE;have M:=aa hJ;have J:=aa YR;have HB:=aa hB;have HN:=aa hN;have HC:=aa hC;have HL:=aa (And.intro al am);have x0:wr.cell? ⟨u,0,none⟩=some (.pointer (some ⟨z,0,none⟩)):=hB.cell 0;have z2:wr.cell? ⟨z,2,none⟩=some (.slice lA ln lc):=hX.rblk.cell 2;have v:=hE.len;clear Tf hX hE hJ YR hB hN hC al am
  cases lf with
  |cons e lf=>
   have bx:¬((ln:Int)=0):=by simp at v;omega
   go_upto_region 4 with fail
   refine Iq F Dr z q p base lo L c bl u ar K V r O e lf out A lA n cc ln lc us w wr _ _ f HL.1 HL.2 HE M (aa (HY _ _ out e)) J HB HN HC ug p9 ?_ (by assumption);intro v5 aA aE a0 a1 a2 a3 a4 a5 a6 a7 a8 a9 ba bb be bh bj bk bm bo bp w' hA;go_wp2
   go_roundg (65*(8388609-O.rows.length)+lf.length)
   case measure=>have:=T.out;simp at this;omega
   case rel=>exact aa hA
  |nil=>
   obtain rfl:ln=0:=by simpa using v
   obtain⟨fk,YS⟩:∃fk,fk=(if O.st=0 then 52 else 92):=⟨_,rfl⟩
   have MW:∀args w',(callFunc fk args).run prog w'= .ok (.enter fk args) w':=by
    rw [YS];intro args w';split<;>kernel_rfl
   have l:=Qc z q p base ar K F Dr A n cc us O _ wr f hK;have z1:wr.cell? ⟨z,1,none⟩=some (.func (.func fk) #[.pointer (some ⟨z,0,none⟩)] #[]):=by rw [YS];exact f.rblk.cell 1
   rw [<-YS] at l;have qb:=aa l;have CW:=aa (bg.next_ok f.ok);clear YS l v;obtain⟨nx,l⟩:∃x,x=O.next:=⟨_,rfl⟩;have gm:=aa l;rw [<-l] at qb CW;obtain⟨o,H⟩:=nx;clear l
   have EH:Hid (∀b,lo<=b->b<base->¬Fs z q p wr.heap.size (.slice A n cc) b):=aa (fun b k C e=>by
    have s:=ug.out;have ax:=f.out.bw
    rcases e with e|e|e|e|e
    ·omega
    ·omega
    ·omega
    ·have:=(ah f.rows.own b e).1;omega
    ·omega)
   have U:Hid (∀b,base<=b->b<wr.heap.size->¬Dr b->¬Fs z q p wr.heap.size (.slice A n cc) b):=aa (fun b k C Q e=>by
    have hs:=f.out.sit;have hz:=f.out.zs.lt
    rcases e with e|e|e|e|e
    ·omega
    ·have:=hs.qB;omega
    ·have:=hs.pB;omega
    ·exact Q (f.rows.dom b e)
    ·omega)
   have BN:Hid (∀b,uZ Dr (.slice A n cc) b->¬Fs z q p wr.heap.size (.slice A n cc) b):=aa (fun b d e=>by
    have hs:=f.out.sit;have hz:=f.out.zs.lt;have S:=f.out.drl b d.1
    rcases e with e|e|e|e|e
    ·omega
    ·have:=hs.qB;omega
    ·have:=hs.pB;omega
    ·exact d.2 e
    ·omega)
   have Lx:Hid (¬Fs z q p wr.heap.size (.slice A n cc) u):=aa (EH u (by have:=M.out.ord;have:=p9.out;omega) (by have:=M.out.ord;have:=p9.out;omega))
   have YT:Hid (∀w',ag (Fs z q p wr.heap.size (.slice A n cc)) wr w'->ag (MS z q p lo) w w'):=aa (fun w' hc=>HC.out.trans hc (fun b d e=>by
    have ho:=M.out.ord;have ax:=f.out.bw
    rcases e with e|e|e|e|e
    ·exact .inl e
    ·exact .inr (.inl e)
    ·exact .inr (.inr (.inl e))
    ·have:=(ah f.rows.own b e).1;exact .inr (.inr (.inr (by omega)))
    ·exact .inr (.inr (.inr (by omega)))))
   cases o with
   |none=>
    go_wp2_with ((refine qb.mono ?_);intro e y N;have G:=aa N;obtain⟨rfl,_,_⟩:=N.no rfl;clear N)
    refine bodyPost_ret (results_none rfl _ _ _) rfl ?_;rw [HR.out];obtain⟨_,_,aw,Ag⟩:=G.out.no rfl;have t:=gm.out
    have Fe:kP r out H:=by
     have k:=J.out;rw [List.append_nil] at k;have C:=k.stop (by rw [<-t]);rw [<-t] at C;exact C
    refine⟨⟨_,rfl⟩,⟨out,H,uZ Dr (.slice A n cc),Dr,Fe,?_,M.chg G.chg EH U BN,fun b d=>(f.drl b d).1,⟨_,_,_,_,aw⟩,Ag⟩,YT _ G.chg⟩;have k:=HN.out;have C:=f.out.ok.rows.many;simp at k
    omega
   |some Z=>
    go_upto_region 4 with((refine qb.mono ?_);intro e y N;have G:=aa N;obtain⟨eA,P,ec,A',n',iW,kF,aq,rfl,g1,g2,g3,g4,g5,g6,g7⟩:=N.yes Z rfl;have G1:=aa g1;have G2:=aa g2;have G3:=aa g3;have G4:=aa g4;have G5:=aa g5;have G6:=aa g6;have G7:=aa g7;have y0:y.cell? ⟨u,0,none⟩=some (.pointer (some ⟨z,0,none⟩)):=(HB.out.chg G.chg Lx).cell 0;have yf:=g6.frozen 2;have y2:=g6.cell 2;clear N g1 g2 g3 g4 g5 g6 g7 x0 z2 z1)
    have gK:=aa (CW.2 Z rfl);have i:=gK.out;have t:O.next.1=some Z/\O.next.2=H:=by have:=gm.out;rw [<-this];exact⟨rfl,rfl⟩
    obtain⟨Y,j,rfl⟩:∃Y j,Z=Y::j:=by
     have:=i.some
     cases Z with
     |nil=>simp at this
     |cons a b=>exact⟨a,b,rfl⟩
    have hO:=M.out.ord;have s:=ug.out;have ap:=G.out.chg.size;obtain⟨I,m⟩:∃D:Nat->Prop,D=fun b=>Dr b\/(wr.heap.size<=b/\b<y.heap.size):=⟨_,rfl⟩
    have E:∀b,I b->base<=b/\b<y.heap.size:=fun b d=>by
     rw [m] at d
     rcases d with d|d
     ·have:=f.out.drl b d;omega
     ·have:=f.out.bw;omega
    have ae:EX y F I z q p base aq A' n' iW kF K H (.slice lA 0 lc):=
     ⟨f.sit,f.zs,f.nFz,Nat.le_trans f.bw ap,by rw [i.st];exact G6.out,by rw [m];exact G4.out,G5.out,E,i.ok,by rw [i.st];decide⟩
    have ac:Jr y lo L c bl base V (uZ I (.slice A' n' iW)) I out:=M.out.step G.chg EH U BN
     (fun b d S=>⟨by rw [m];exact .inl S.1,fun e=>by
      rcases G7.out b e with h|h
      ·exact S.2 h
      ·omega⟩)
     (fun g hg hn S=>by
      rw [m] at S
      rcases S with h|h
      ·exact hn h
      ·omega)
     (fun b d=>⟨d.1,(E b d.1).2⟩)
    have ab:bz y (uZ I (.slice A' n' iW)) eA P (Y::j):=(MX G3.out).weak (fun b d=>⟨by rw [m];exact .inr ⟨d.1.1,d.2⟩,d.1.2⟩);have X:ag (fun b=>b=z) y (y.setCell ⟨z,2,none⟩ (.slice eA P ec)):=(ag.refl (fun b=>b=z) y).setCell (p:=⟨z,2,none⟩) (fun _=>rfl) _;have XW:∀b,I b->¬b=z:=fun b d e=>by have:=(E b d).1;have:=f.out.zs.lt;omega
    have ad:out.length+(j.length+1)<=64*H.rows.length:=by
     have k:=HN.out;have C:=i.rows;have Q:=i.most;simp at k Q;omega
    refine Iq F I z q p base lo L c bl u aq K V r H Y j out A' eA n' iW P ec kF w (y.setCell ⟨z,2,none⟩ (.slice eA P ec)) _ _ (ae.set2 _) G1.out G2.out (ab.chg X (fun b d=>XW b d.1))
     (ac.chg X (fun b k C e=>by omega) (fun b k C Q e=>by omega) (fun b d=>XW b d.1)) (aa (HY _ _ out Y)) ?_ ((HB.chg G.chg Lx).chg X (by have:=p9.out;omega)) ad ((YT _ G.chg).trans X (fun b _ e=> .inl e)) s p9 ?_ (by assumption)
    ·have k:=J.out.more t.1;rw [List.append_nil,t.2] at k
     exact k
    ·have CX:Hid (65*(8388609-H.rows.length)+j.length<gk):=aa (by
      have k:=T.out;have C:=i.rows;have Q:=i.most;have h4:=i.ok.rows.many;simp at k Q;omega)
     clear i t hO s ap m E ae ac ab X XW ad y0 y2 yf;intro v5 aA aE a0 a1 a2 a3 a4 a5 a6 a7 a8 a9 ba bb be bh bj bk bm bo bp w' hA;go_wp2
     go_roundg (65*(8388609-H.rows.length)+j.length)
     case measure=>exact CX
     case rel=>exact aa hA
end Go.Proofs.YtepgcjbhabnciaaGreat
