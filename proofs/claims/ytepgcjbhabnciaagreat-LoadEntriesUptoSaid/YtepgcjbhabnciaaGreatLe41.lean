/- Part 41. -/
import Derived.Test.YtepgcjbhabnciaaGreatLe39
import Derived.Test.YtepgcjbhabnciaaGreatLe40
namespace Go.Proofs.YtepgcjbhabnciaaGreat
set_option maxRecDepth 100000
set_option maxHeartbeats 8000000
open Go.Proofs.Tryz Go.RowKit
open Go.Lib (compareBytes)
variable {base n pb mp z q p hv cc K i:Nat} {nd lf inn fl bl:Int} {w w2 wr c:World} {Fb In D Dr:Nat->Prop} {F a:List aK} {us:List Value} {T:TypeId}
theorem aX.one {v:Value} {l:List Row} (h:aX w base D v n l us):∀u∈us,u.oneCell'=true:=by
 intro u r;obtain⟨k,o,rfl⟩:=List.mem_iff_getElem.mp r;have x:=h.own.1;have y:=h.len;have i:k/4<l.length:=by omega
 obtain⟨z,a,b,c,d,s⟩:=h.at_ (k/4) _ (List.getElem?_eq_getElem i);obtain⟨t,g⟩:∃t,t=us[k]:=⟨_,rfl⟩;have f:us[k]? =some t:=by rw [g];exact List.getElem?_eq_getElem o
 rw [<-g];clear g;have j:k=k/4*4\/k=k/4*4+1\/k=k/4*4+2\/k=k/4*4+3:=by omega
 obtain⟨A,m,q,p,_⟩:=s
 rcases j with e|e|e|e
 ·rw [e] at f;rw [a] at f;injection f with f;rw [<-f,p];rfl
 ·rw [e] at f;rw [b] at f;injection f with f;rw [<-f];rfl
 ·rw [e] at f;rw [c] at f;injection f with f;rw [<-f];rfl
 ·rw [e] at f;rw [d] at f;injection f with f;rw [<-f];rfl
theorem vO (a:Addr) (n c:Nat) (F:Nat->Prop) (us:List Value) (w:World) (h:Rd w F 4 (some a) n us) (l:∀u∈us,u.oneCell'=true) (o:n<=8388608):
  Calls prog 100 #[.slice (some a) n c] w fun e w'=>∃v,e= .returned v/\w'.ownsRow w.heap.size 100 4 v n us/\Below w.heap.size w w':=by
 obtain⟨p,f,g,i,j⟩:=info_parts nZ;have q:=fun(w:World) (a:Option Addr) (n c:Nat)=>Lib.run_eql_slice_nil (P:=prog) w 97 100 a n c 0 0 underlying97;go_enter func100,ntmps100
 go_wp2_with (at_builtin;refine af _ rfl (.tmp 5) (.tmp 6) _ rfl w.heap.size 100 p _ 4 48 underlying97 f g i j rfl (by omega) (.slice (some ⟨w.heap.size,0,none⟩) 0 0) 0 [] rfl (gp w _ 4) F (some a) n c us rfl (h.alloc _) l (by simp only [maxLen];omega) (by omega) (by simp) ?_;intro s w1 b d r)
 go_ret
 simp only [Nat.zero_add,List.nil_append] at b;refine⟨_,rfl,b,((Below.refl _ _).alloc (Nat.le_refl _) _).grown d (by simp) (fun k m=> ?_)⟩;simp [Value.ownBlock] at m;omega
def Zk (w:World) (n:Nat) (l:List Row) (e:Ending) (w':World):Prop:=
 ∃g cc,w.heap.size<=g/\e= .returned (.slice (some ⟨g,0,none⟩) n cc)/\(∀(j:Nat) (x:Row),l[j]? =some x->w'.cell? ⟨g,j*4+1,none⟩=some (.int .i64 (x.at_:Nat)))/\Below w.heap.size w w'
structure Zl (w:World) (g i:Nat) (l:List Row) (w1 wr:World):Prop where
 at_:∀(j:Nat) (x:Row),l[j]? =some x->wr.cell? ⟨g,j*4+1,none⟩=some (.int .i64 (x.at_:Nat))
 key:∀(j:Nat) (x:Row),i<=j->l[j]? =some x->∃u,wr.cell? ⟨g,j*4,none⟩=some u/\SB wr (fun b=>b<w.heap.size) u x.last
 soft:jo wr g
 gw:w.heap.size<=g
 gl:g<wr.heap.size
 chg:ag (fun b=>b=g) w1 wr
theorem FH (D:Nat->Prop) (base:Nat) (a:Addr) (n c:Nat) (l:List Row) (us:List Value) (w:World) (h:aX w base D (.slice (some a) n c) n l us) (hn:0<n) (I:n<=8388608) (Q:∀x∈l,x.last.length<=64):
  Calls prog 58 #[.slice (some a) n c] w (Zk w n l):=by
 refine letter fun R Y=> ?_;have B:=aa h;have O:=aa h.len;have X:=aa Q;clear h Q;go_enter func58,ntmps58
 go_upto_region 2 with(go_at_call 100;go_loud (refine(vO a n c _ us w (Rd.of_own B.own) B.one I).mono ?_);rintro e w1 ⟨v,rfl,L,z⟩;obtain⟨g,gc,rfl,A,_⟩:=L.form (by omega);have r:=aa L;have N:=aa z;have HG:=aa A;clear L z A)
 have G:Hid (Zl w g 0 l w1 w1):=aa (by
  have al:=r.out.1;have h2:=O.out
  refine⟨fun j x q=> ?_,fun j x _ q=> ?_,?_,?_,(ah r g rfl).2,ag.refl _ _⟩
  ·have H:=(List.getElem?_eq_some_iff.mp q).1;obtain⟨u,m,t,e3,e4,s⟩:=B.out.at_ j x q
   rw [r.out.cellAt (j*4+1) (by omega)];exact t
  ·have H:=(List.getElem?_eq_some_iff.mp q).1;obtain⟨u,m,t,e3,e4,s⟩:=B.out.at_ j x q
   exact⟨u,by rw [r.out.cellAt (j*4) (by omega)];exact m,(s.lt.weak (fun b z=>z.2)).below N⟩
  ·obtain⟨b,o,e,hs,_⟩:=(Rd.soft_of_own r).2 hn
   injection e with e;injection e with m t;subst m;exact hs.2
  ·exact(ah r g rfl).1)
 clear r;go_wp2
 go_loopg [9] n (fun g' iv W=>∃i:Nat,g'=n-i/\i<=n/\iv= .int .i64 i/\Hid (Zl w g i l w1 W)/\Hid (Below w.heap.size w W))
 case atStart=>exact⟨0,by omega,by omega,rfl,G,N⟩
 case round=>
  obtain⟨i,P,hi,rfl,d,M⟩:=hrel;have F:=aa P;clear P
  by_cases ac:i<n
  ·have T:(i:Int)<(n:Int):=by omega
   obtain⟨x,C⟩:∃x,l[i]? =some x:=⟨_,List.getElem?_eq_getElem (by have:=O.out;omega)⟩;obtain⟨u,hu,K,kn,kc,rfl,q1,q2,U,V⟩:=d.out.key i x (Nat.le_refl _) C;have HX:=aa C;have fC:=aa (dH K kn kc _ x.last wr V U (by have:=X.out x (List.mem_of_getElem? C);omega));have ad:wr.frozen? ⟨g,i*4,none⟩=false:=d.out.soft _;clear C q1 q2 U V;go_wp2_with (go_at_call 24;go_loud (refine fC.mono ?_);rintro e w2 ⟨J,jn,jc,rfl,r1,r2,r3,r4,E⟩;have f:=aa E;have Z:w2.frozen? ⟨g,i*4,none⟩=false:=(jo.chg (S:=Nil) d.soft (ag.of_below E) d.gl (fun h=>h)) _;have ae:=ak E hu;clear r1 r2 r3 r4 E)
   go_roundg (n-(i+1))
   case measure=>have:=F.out;omega
   case rel=>
    have k:ag (fun b=>b=g) wr (w2.setCell ⟨g,i*4,none⟩ (.slice J jn jc)):=(ag.of_below (S:=fun b=>b=g) f).setCell (p:=⟨g,i*4,none⟩) (fun _=>rfl) _
    refine⟨i+1,rfl,by omega,by go_num,aa ⟨fun j y q=> ?_,fun j y q hy=> ?_,?_,d.gw,Nat.lt_of_lt_of_le d.gl k.size,d.chg.trans k (fun _ _ h=>h)⟩,aa (M.out.trans (k.below_of M.size (fun b z e=>by have e:b=g:=e;have:=d.out.gw;omega)))⟩
    ·rw [World.cell?_setCell_other _ _ _ _ (fun e=>by injection e with m t;omega)]
     exact ak f (d.at_ j y q)
    ·obtain⟨u,m,t⟩:=d.out.key j y (by omega) hy;refine⟨u,?_,t.chg k (fun b z e=>by have e:b=g:=e;have:=d.out.gw;omega)⟩;rw [World.cell?_setCell_other _ _ _ _ (fun e=>by injection e with m t;omega)]
     exact ak f m
    ·intro o;rw [World.frozen?_setCell]
     exact(jo.chg (S:=Nil) d.soft (ag.of_below f) d.gl (fun h=>h)) o
  ·have ab:i=n:=by omega
   go_wp2;rw [Y.out]
   exact⟨g,gc,d.gw,rfl,d.at_,M⟩
theorem J3 (D:Nat->Prop) (z base:Nat) (v0 Y v2 M B:Value) (a:Addr) (n c:Nat) (l:List Row) (us:List Value) (w:World) (j:aj w z 140 #[v0,Y,v2,.slice (some a) n c,M,B]) (h:aX w base D (.slice (some a) n c) n l us) (s:0<n) (b:n<=8388608) (k:∀x∈l,x.last.length<=64):
  Calls prog 34 #[.pointer (some ⟨z,0,none⟩)] w (Zk w n l):=by
 have q:=aa (FH D base a n c l us w h s b k);refine letter fun R r=> ?_;have t:w.cell? ⟨z,3,none⟩=some (.slice (some a) n c):=j.cell 3;clear j h k;go_enter func34,ntmps34
 go_wp2_with (go_at_call 58;go_loud (refine q.mono ?_);rintro e w1 ⟨g,cc,d,rfl,f,i⟩;have m:=aa d;have o:=aa f;have p:=aa i;clear d f i)
 rw [r.out];exact⟨g,cc,m,rfl,o,p⟩
section
section
variable (nd lf inn fl bl:Int)
def gG:List aK->List aK->List aK×Int
 |l,[]=>(l,0)
 |l,e::a=>if jd nd lf inn fl bl l e=0 then gG (l++ [e]) a else(l,jd nd lf inn fl bl l e)
structure cB where
 rdr:bg
 ents:List aK
 done:Bool
 tree:Option (List bR×Int)
 err:Int
 bad:Nat
def cB.took (m:cB) (l:List aK) (r:bg):cB:=
 if(gG nd lf inn fl bl m.ents l).2=0 then{m with rdr:=r,ents:=(gG nd lf inn fl bl m.ents l).1}
 else{m with rdr:=r,ents:=(gG nd lf inn fl bl m.ents l).1,done:=true,err:=(gG nd lf inn fl bl m.ents l).2,bad:=(r.rows.getLast?.getD ⟨[],0,0,0⟩).at_}
def cB.ends (m:cB) (r:bg):cB:=
 {m with rdr:=r,done:=true,err:=r.err,bad:=r.bad,tree:=if r.err=0 then some (bD fl.toNat inn.toNat m.ents) else none}
def cB.step (m:cB):cB:=
 if m.done=true then m else match m.rdr.next.1 with
  |none=>m.ends inn fl m.rdr.next.2
  |some l=>m.took nd lf inn fl bl l m.rdr.next.2
structure cB.Ok (K:Nat) (m:cB):Prop where
 rdr:m.rdr.Ok K
 go:m.done=false->m.rdr.st≠2/\m.rdr.err=0/\m.err=0/\m.bad=0/\m.tree=none
 bld:(dW nd lf inn fl bl m.ents).1=0
 tr:∀t,m.tree=some t->∃l,t=bD fl.toNat inn.toNat l/\(dW nd lf inn fl bl l).1=0
end
variable {nd lf inn fl bl:Int}
theorem Du {l:List aK} (h:(dW nd lf inn fl bl l).1=0):l.length<=4194304:=by
 obtain⟨b,_,a⟩:=gz.1 h;have c:=b;unfold dx at c;obtain⟨f,rfl⟩:∃f:Nat,fl=f:=⟨fl.toNat,by omega⟩;rw [iA b (by omega)] at a;have e:¬nd-0<parts (l.length:Int) f:=fun h=>by rw [ko h] at a;exact absurd a (by decide)
 by_cases k:l.length=0
 ·omega
 ·have g:=gU l.length f (by omega);have i:=(jl l.length f (by omega) (by omega)).1;have d:pn l.length f<=65536:=by omega
  have j:pn l.length f*f<=65536*64:=Nat.mul_le_mul d (by omega);omega
theorem vQ {l:List aK} (h:(dW nd lf inn fl bl l).1=0):∀_e∈l,_e.1.length<=64/\_e.2.length<=256:=fun _e a=>(cK (gz.1 h).2.1 a).2
theorem QV {l:List aK} {e:aK} (h:(dW nd lf inn fl bl l).1=0) (a:jd nd lf inn fl bl l e=0):(dW nd lf inn fl bl (l++ [e])).1=0:=by
 have:=Ib (e:=e) h;unfold uH at this;rwa [if_pos a] at this
theorem r9 {l:List aK} (h:(dW nd lf inn fl bl l).1=0):∀a,(dW nd lf inn fl bl (gG nd lf inn fl bl l a).1).1=0
 | []=>h
 |e::a=>by
  unfold gG
  split
  ·rename_i b;exact r9 (QV h b) a
  ·exact h
theorem yZ {l F:List aK} {i:Nat} {e:aK} (h:F[i]? =some e):gG nd lf inn fl bl l (F.drop i)=if jd nd lf inn fl bl l e=0 then gG nd lf inn fl bl (l++ [e]) (F.drop (i+1)) else(l,jd nd lf inn fl bl l e):=by
 obtain⟨hi,rfl⟩:=List.getElem?_eq_some_iff.1 h;rw [List.drop_eq_getElem_cons hi];rfl
theorem cB.step_ok {K:Nat} {m:cB} (h:m.Ok nd lf inn fl bl K):(m.step nd lf inn fl bl).Ok nd lf inn fl bl K:=by
 obtain⟨b,g⟩:=bg.next_ok h.rdr;unfold cB.step
 split
 ·exact h
 ·rename_i e;have f:=h.go (by simpa using e)
  split
  ·refine⟨b,fun h=>by simp [cB.ends] at h,h.bld,fun t a=> ?_⟩;unfold cB.ends at a
   by_cases d:m.rdr.next.2.err=0
   ·simp only [if_pos d] at a;injection a with a
    exact⟨_,a.symm,h.bld⟩
   ·simp only [if_neg d] at a
    cases a
  ·rename_i l hl;have c:=g l hl;unfold cB.took
   split
   ·exact⟨b,fun _=>⟨by rw [c.st];decide,b.err (by rw [c.st];decide),f.2.2⟩,r9 h.bld _,h.tr⟩
   ·exact⟨b,fun h=>by simp at h,r9 h.bld _,h.tr⟩
theorem cB.step_at {K:Nat} {m:cB} (h:m.Ok nd lf inn fl bl K) (d:m.done=false) (a:(m.step nd lf inn fl bl).done=false):m.rdr.cur.at_<(m.step nd lf inn fl bl).rdr.cur.at_/\(m.step nd lf inn fl bl).rdr.cur.at_<=1152921504606:=by
 obtain⟨i,f⟩:=bg.next_ok h.rdr;have c:=cB.step_ok h;have e:=c.go a;have g:=(c.rdr.cur e.1).sum;refine⟨?_,by omega⟩;unfold cB.step at a|-;rw [if_neg (by simp [d])] at a|-
 split at a
 ·simp [cB.ends] at a
 ·rename_i l hl;have b:=f l hl;unfold cB.took
  split
  ·exact b.at_
  ·exact b.at_
theorem cB.step_done {m:cB} (h:m.done=true):m.step nd lf inn fl bl=m:=by unfold cB.step;rw [if_pos h]
end
variable {m:cB}
section
def vP (z st:Nat):Value:= .func (.func (if st=0 then 52 else 92)) #[.pointer (some ⟨z,0,none⟩)] #[]
def XS (mp z q p:Nat) (Dr Fb:Nat->Prop):Nat->Prop:=fun b=>b=mp\/b=z\/b=q\/b=p\/Dr b\/Fb b
structure LX (w:World) (F Dr Fb:Nat->Prop) (mp z q p pb base hv:Nat) (A:Option Addr) (n cc:Nat) (us:List Value) (nd lf inn fl bl:Int) (K:Nat) (m:cB):Prop where
 sit:Sit F q p base
 zs:Zs z q p base
 nFz:¬F z
 bw:base<=w.heap.size
 mblk:aj w mp 85 #[.pointer (some ⟨z,0,none⟩),.pointer (some ⟨pb,0,none⟩),.bool false,.pointer none,.nilIface]
 rblk:aj w z 140 #[.pointer (some ⟨q,0,none⟩),vP z m.rdr.st,.slice none 0 0,.slice A n cc,.int .i64 m.rdr.err,.int .i64 (m.rdr.bad:Nat)]
 rows:aX w base Dr (.slice A n cc) n m.rdr.rows us
 iny:lW w F q p m.rdr.cur hv
 bd:Bd w 136 Fb Nil pb nd lf inn fl bl m.ents
 mpb:mp<base
 mpn:mp≠z/\mp≠q/\mp≠p/\¬F mp/\¬Fb mp
 fb:∀b,Fb b->b≠z/\b≠q/\b≠p/\¬F b/\¬Dr b
 drl:∀b,Dr b->b<w.heap.size
 ok:m.Ok nd lf inn fl bl K
 go:m.done=false
def qm (w:World) (s:Nat) (v:Value) (nd:Int) (t:Option (List bR×Int)):Prop:=(t=none/\v= .pointer none)\/∃x a,t=some x/\v= .pointer (some ⟨a,0,none⟩)/\gM w (From s) a nd x.1 x.2
structure DX (w:World) (F:Nat->Prop) (mp p s:Nat) (nd:Int) (m:cB):Prop where
 mblk:∃v0 v1 tv ev,aj w mp 85 #[v0,v1,.bool true,tv,ev]/\mr w s ev m.err (m.bad:Nat)/\qm w s tv nd m.tree
 src:fo w F p m.rdr.cur.src
 mps:mp<s
 done:m.done=true
section
variable {S F Dr Fb:Nat->Prop} {w w':World} {mp z q p pb base hv:Nat} {A:Option Addr} {n cc:Nat} {us:List Value} {nd lf inn fl bl:Int} {K s:Nat} {m:cB}
theorem qm.chg {v:Value} {t:Option (List bR×Int)} (h:qm w s v nd t) (y:ag S w w') (g:∀b,s<=b->¬S b):qm w' s v nd t:=by
 rcases h with h|⟨x,a,c,d,e⟩
 ·exact .inl h
 ·exact .inr ⟨x,a,c,d,e.chg y (fun b f=>g b f)⟩
theorem LX.lt (h:LX w F Dr Fb mp z q p pb base hv A n cc us nd lf inn fl bl K m):∀b,XS mp z q p Dr Fb b->b<w.heap.size:=by
 intro b a;have d:=h.bw;have e:=h.mpb;have f:=h.zs.lt;have g:=h.sit.qB;have i:=h.sit.pB
 rcases a with rfl|rfl|rfl|rfl|a|a
 ·omega
 ·omega
 ·omega
 ·omega
 ·exact h.drl b a
 ·obtain⟨_,_,_,_,_,c,_⟩:=h.bd;exact c b a
theorem LX.fs (h:LX w F Dr Fb mp z q p pb base hv A n cc us nd lf inn fl bl K m) (c:ag (Fs z q p w.heap.size (.slice A n cc)) w w'):ag (XS mp z q p Dr Fb) w w':=c.mono (fun b hl a=>by
 rcases a with a|a|a|a|a
 ·exact .inr (.inl a)
 ·exact .inr (.inr (.inl a))
 ·exact .inr (.inr (.inr (.inl a)))
 ·exact .inr (.inr (.inr (.inr (.inl (h.rows.dom b a)))))
 ·omega)
end
noncomputable def Zm:Code:=aV (f9.body.bind (aJ 13))
theorem ND (Fb D:Nat->Prop) (mp x pb:Nat) (z W:Option Addr) (C y R j:Nat) (nd lf inn fl bl:Int) (l:List aK) (e:aK) (w:World) {u1 J L H v u7 r u9 M E I Z N U Y O f bN s V P m u24 g T u27 u28 u A k u32 p F q u36 b u38 dK u40 X u42 G u44 u45 u46 ed u48 u49 ek d o B n u55 fE fF u58 u59 u60 gJ:Value} {Tu:List Value} (Q:Exit->Act->World->Prop) (mQ:Hid (∀c t (a:Act) w,Q (.panic c) ⟨t,a.defers⟩ w->Q (.panic c) a w))
  (ab:w.cell? ⟨mp,1,none⟩=some (.pointer (some ⟨pb,0,none⟩))) (ac:w.cell? ⟨x,0,none⟩=some (.slice z C y)) (ad:w.cell? ⟨x,1,none⟩=some (.slice W R j)) (HB:Hid (Bd w 136 Fb Nil pb nd lf inn fl bl l)) (rJ:Hid ((dW nd lf inn fl bl l).1=0))
  (H1:Hid (Bt w D z C y e.1)) (H2:Hid (Bt w D W R j e.2)) (he:e.1.length<=64/\e.2.length<=256) (am:¬Fb mp) (ae:¬Fb x)
  (ax:∀(an ao ap aq ar aw:Value) (w':World),Bd w' 136 (Grown Fb w w') Nil pb nd lf inn fl bl (uH nd lf inn fl bl l e)->ag Fb w w'->Q .normal ⟨(.pointer (some ⟨mp,0,none⟩)::u1::J::L::H::v:: .pointer (some ⟨x,0,none⟩):: .int .i64 (jd nd lf inn fl bl l e)::r::u9::M::E::I::Z::N::U::Y::O::f::bN::s::V::P::m::u24::g::T::u27::u28::u::A::k::u32::p::F::q::u36::b::u38::dK::u40::X::u42::G::u44::u45::u46::ed::u48::u49::ek::d::o::B::n::u55::an::ao::ap::aq::ar::aw::Tu).toArray,[]⟩ w'):
  Code.wp prog Zm Q ⟨(.pointer (some ⟨mp,0,none⟩)::u1::J::L::H::v:: .pointer (some ⟨x,0,none⟩)::u7::r::u9::M::E::I::Z::N::U::Y::O::f::bN::s::V::P::m::u24::g::T::u27::u28::u::A::k::u32::p::F::q::u36::b::u38::dK::u40::X::u42::G::u44::u45::u46::ed::u48::u49::ek::d::o::B::n::u55::fE::fF::u58::u59::u60::gJ::Tu).toArray,[]⟩ w:=by
 have dP:=aa ax;have HD:Hid (Below w.heap.size w w.drew):=aa (Below.refl _ _).drew;have aA:=Du rJ;have pR:=aa (vQ rJ);have al:=aa (PL Fb Nil D pb nd lf inn fl bl l e z W C y R j w.drew (HB.below HD) (gz.1 rJ).1 (fun _ h=>h.elim) (H1.below HD) (H2.below HD) (by omega) (by omega) (by omega) (fun x hx=>by have:=(pR.out x hx).1;omega));have S0:w.drew.cell? ⟨mp,1,none⟩=some (.pointer (some ⟨pb,0,none⟩))/\w.drew.cell? ⟨x,0,none⟩=some (.slice z C y)/\w.drew.cell? ⟨x,1,none⟩=some (.slice W R j):=⟨ab,ac,ad⟩;clear ax ab ac ad;conv=>arg 2;whnf
 refine aU (fun w'=>w'.cell? ⟨mp,1,none⟩=some (.pointer (some ⟨pb,0,none⟩))/\w'.cell? ⟨x,0,none⟩=some (.slice z C y)/\w'.cell? ⟨x,1,none⟩=some (.slice W R j)) (by kernel_rfl) ?_;refine vT 0 S0 ?_;refine vT 1 S0 ?_;refine vT 2 S0 ?_;refine vT 3 S0 ?_;refine vT 4 S0 ?_;refine aO (i:=5) (by kernel_rfl) rfl (fun K hK=> ?_);go_simp
 go_loud (refine al.mono ?_);rintro en w2 ⟨rfl,q1,q2⟩;have Zn:=aa q1;have tZ:=aa q2;have S5:w2.cell? ⟨mp,1,none⟩=some (.pointer (some ⟨pb,0,none⟩))/\w2.cell? ⟨x,0,none⟩=some (.slice z C y)/\w2.cell? ⟨x,1,none⟩=some (.slice W R j):=⟨q2.cell am S0.1,q2.cell ae S0.2.1,q2.cell ae S0.2.2⟩;clear q1 q2
 refine hK.out _ _ S5 ?_;clear hK K;try simp only [aL,aN,aZ,aC]
 refine vT 6 S5 ?_;refine bG (by kernel_rfl) ?_ _;exact dP _ _ _ _ _ _ _ Zn ((ag.of_below (S:=Fb) HD).trans tZ (fun _ _ h=>h))
end
structure NF (F Dr Fb:Nat->Prop) (mp z q p pb base:Nat) (nd lf inn fl bl:Int) (K:Nat) (m':cB) (w:World) (e:Ending) (w':World):Prop where
 ret:e= .returned (.bool m'.done)
 chg:ag (XS mp z q p Dr Fb) w w'
 out:(m'.done=false/\∃(Dr' Fb':Nat->Prop) (hv':Nat) (A':Option Addr) (n' iW:Nat) (kF:List Value),LX w' F Dr' Fb' mp z q p pb base hv' A' n' iW kF nd lf inn fl bl K m'/\(∀b,Dr' b->Dr b\/w.heap.size<=b)/\(∀b,Fb' b->Fb b\/w.heap.size<=b))\/DX w' F mp p w.heap.size nd m'
theorem vR (h:m.done=false) (a:m.rdr.next.1=none):m.step nd lf inn fl bl=m.ends inn fl m.rdr.next.2:=by
 unfold cB.step;rw [if_neg (by simp [h]),a]
theorem vS {l:List aK} (h:m.done=false) (a:m.rdr.next.1=some l):m.step nd lf inn fl bl=m.took nd lf inn fl bl l m.rdr.next.2:=by
 unfold cB.step;rw [if_neg (by simp [h]),a]
theorem yY (f:Nat) (a:f=52\/f=92):∀args w',(callFunc f args).run prog w'= .ok (.enter f args) w':=by
 rcases a with rfl|rfl
 ·intro args w';kernel_rfl
 ·intro args w';kernel_rfl
theorem Dv {F:Nat->Prop} {A:Option Addr} (h:LX w F Dr Fb mp z q p pb base hv A n cc us nd lf inn fl bl K m) (d:K<=1152921504606846976):
  Calls prog 29 #[.pointer (some ⟨z,0,none⟩)] w (nG F z q p base Dr (vP z 1) (.slice none 0 0) A n cc us m.rdr.next.1 m.rdr.next.2 w):=by
 have i:=h.ok.rdr.st;have g:=(h.ok.go h.go).1;have a:=h.rblk
 by_cases b:m.rdr.st=0
 ·have e:vP z m.rdr.st= .func (.func 52) #[.pointer (some ⟨z,0,none⟩)] #[]:=by unfold vP;rw [if_pos b]
  rw [e] at a
  exact vV F Dr z q p base _ _ _ (.slice none 0 0) _ _ _ A n cc us m.rdr.next.1 m.rdr.next.2 w a (yY _ (.inl rfl)) (CU F Dr z q p base hv K _ _ A n cc us m.rdr w h.sit h.zs h.nFz h.bw a h.rows h.iny h.ok.rdr b d)
 ·have c:m.rdr.st=1:=by omega
  have e:vP z m.rdr.st= .func (.func 92) #[.pointer (some ⟨z,0,none⟩)] #[]:=by unfold vP;rw [if_neg b]
  have f:m.rdr.next=m.rdr.frame:=by unfold bg.next;rw [if_neg (by omega),if_pos c]
  rw [e] at a;rw [f];exact vV F Dr z q p base _ _ _ (.slice none 0 0) _ _ _ A n cc us m.rdr.frame.1 m.rdr.frame.2 w a (yY _ (.inr rfl)) (rR F Dr z q p base hv K _ _ A n cc us m.rdr w h.sit h.zs h.nFz h.bw a h.rows h.iny h.ok.rdr c d)
theorem FI (F Dr Fb:Nat->Prop) (mp z q p pb base hv:Nat) (A:Option Addr) (n cc:Nat) (us:List Value) (nd lf inn fl bl:Int) (K:Nat) (m:cB) (w:World) (h:LX w F Dr Fb mp z q p pb base hv A n cc us nd lf inn fl bl K m) (hK:K<=1152921504606846976) (hn:m.rdr.next.1=none):
  Calls prog 9 #[.pointer (some ⟨mp,0,none⟩)] w (NF F Dr Fb mp z q p pb base nd lf inn fl bl K (m.step nd lf inn fl bl) w):=by
 refine letter fun R HR=> ?_;have d:=aa h;have gK:=aa (Dv h hK);have y:=aa (vR (nd:=nd) (lf:=lf) (inn:=inn) (fl:=fl) (bl:=bl) h.go hn);obtain⟨o,D⟩:∃o,o=m.rdr.next.2:=⟨_,rfl⟩;rw [hn,<-D] at gK;rw [<-D] at y;have y2:w.cell? ⟨mp,2,none⟩=some (.bool false):=h.mblk.cell 2;have y0:w.cell? ⟨mp,0,none⟩=some (.pointer (some ⟨z,0,none⟩)):=h.mblk.cell 0;have EA:Hid (∀b,Fb b->b<w.heap.size):=aa (fun b f=>h.lt b (.inr (.inr (.inr (.inr (.inr f))))));clear h hn D;go_enter func9,ntmps9
 go_upto_region 4 with(go_at_call 29;go_loud (refine gK.mono ?_);intro e w2 hf;have M:=aa hf;obtain⟨rfl,_,_,_⟩:=hf.no rfl;clear hf)
 have bB:Hid (ag (XS mp z q p Dr Fb) w w2):=aa (d.fs M.chg)
 have X4:Hid (¬Fs z q p w.heap.size (.slice A n cc) mp):=aa (fun e=>by
  have g:=d.out.mpn;have C:=d.out.mpb;have Q:=d.out.bw
  rcases e with e|e|e|e|e
  ·exact g.1 e
  ·exact g.2.1 e
  ·exact g.2.2.1 e
  ·have:=(ah d.rows.own mp e).1;omega
  ·omega)
 have j:=aa (d.mblk.chg M.chg X4);have ab:=aa (M.no rfl).2.2.1;have Z:=aa (M.no rfl).2.2.2
 have QJ:=aa (d.bd.chg M.chg (fun b f e=>by
  have g:=d.out.fb b f;have C:=EA.out b f
  rcases e with e|e|e|e|e
  ·exact g.1 e
  ·exact g.2.1 e
  ·exact g.2.2.1 e
  ·exact g.2.2.2.2 (d.rows.dom b e)
  ·omega) (fun _ h=>h.elim))
 have ar:w.heap.size<=w2.heap.size:=bB.out.size;have ao:=j.out.frozen 2;have N:=j.out.frozen 3;have v:=j.out.frozen 4;have x2:w2.cell? ⟨mp,2,none⟩=some (.bool false):=j.out.cell 2;have T:w2.cell? ⟨mp,0,none⟩=some (.pointer (some ⟨z,0,none⟩)):=j.out.cell 0;clear y2 y0;go_upto_region 6 with fail
 obtain⟨l,s⟩:∃W,W=w2.setCell ⟨mp,2,none⟩ (.bool true):=⟨_,rfl⟩;rw [<-s];have c:ag (fun b=>b=mp) w2 l:=by rw [s];exact(ag.refl (fun b=>b=mp) w2).setCell (p:=⟨mp,2,none⟩) (fun _=>rfl) _
 have Ij:=aa c;have r:Hid (aj l mp 85 #[.pointer (some ⟨z,0,none⟩),.pointer (some ⟨pb,0,none⟩),.bool true,.pointer none,.nilIface]):=aa (by rw [s];exact j.set_ 2 _);have I:=aa (ab.chg c (fun e=>d.mpn.1 e.symm));have BN:=aa (Z.chg c (fun e=>d.mpn.2.2.1 e.symm) (fun b f e=>d.mpn.2.2.2.1 ((show b=mp from e)▸f)));have ac:=aa (QJ.chg c (fun b f e=>d.mpn.2.2.2.2 ((show b=mp from e)▸f)) (fun _ h=>h.elim));have eH:Hid (ag (XS mp z q p Dr Fb) w l):=aa (bB.out.trans c (fun b _ e=> .inl e));obtain⟨er,dU⟩:∃e,e=o.err:=⟨_,rfl⟩;have J:=aa dU;rw [<-dU] at I;have H:=aa (rT z _ _ _ _ er (o.bad:Nat) l I);clear s c ao N v x2 T dU;have T:l.cell? ⟨mp,0,none⟩=some (.pointer (some ⟨z,0,none⟩)):=r.out.cell 0;have U:l.cell? ⟨mp,4,none⟩=some .nilIface:=r.out.cell 4;have v:=r.out.frozen 4;have S:Hid (mp<w.heap.size):=aa (Nat.lt_of_lt_of_le d.mpb d.bw)
 by_cases L:er=0
 ·subst L;go_upto_region 7 with(first|(go_at_call 31;go_loud (refine H.mono ?_);rintro e t ⟨rfl,k,rfl⟩)|(go_at_call 30;go_loud (refine(tq (o.bad:Nat) _).mono ?_);rintro e i ⟨rfl,rfl⟩))
  obtain⟨i,P⟩:∃W,W=(l.drewN k).setCell ⟨mp,4,none⟩ .nilIface:=⟨_,rfl⟩;rw [<-P];have c:ag (fun b=>b=mp) l i:=by rw [P];exact((ag.refl (fun b=>b=mp) l).drewN k).setCell (p:=⟨mp,4,none⟩) (fun _=>rfl) _
  have B:Hid (aj i mp 85 #[.pointer (some ⟨z,0,none⟩),.pointer (some ⟨pb,0,none⟩),.bool true,.pointer none,.nilIface]):=aa (by rw [P];exact(r.drewN k).set_ 4 _);have Ql:=aa (BN.chg c (fun e=>d.mpn.2.2.1 e.symm) (fun b f e=>d.mpn.2.2.2.1 ((show b=mp from e)▸f)));have ad:=aa (ac.chg c (fun b f e=>d.mpn.2.2.2.2 ((show b=mp from e)▸f)) (fun _ h=>h.elim));have dF:Hid (ag (XS mp z q p Dr Fb) w i):=aa (eH.out.trans c (fun b _ e=> .inl e));have kG:=aa (MR Fb Nil pb nd lf inn fl bl m.ents i ad d.ok.bld (by have:=Du d.ok.bld;omega) (fun e L=>by have:=vQ d.ok.bld e L;omega));have am:w.heap.size<=i.heap.size:=dF.out.size;clear P c v U T;have U:i.cell? ⟨mp,4,none⟩=some .nilIface:=B.out.cell 4;have x1:i.cell? ⟨mp,1,none⟩=some (.pointer (some ⟨pb,0,none⟩)):=B.out.cell 1;go_wp2_with (go_at_call 32;go_loud (refine kG.mono ?_);rintro e u ⟨a,rfl,g,C,Q⟩;have V:=aa g;have H3:=aa Q;have G:=aa (B.chg Q d.mpn.2.2.2.2);have y3:u.cell? ⟨mp,3,none⟩=some (.pointer none):=G.out.cell 3;have N:=G.out.frozen 3;clear g C Q)
  rw [HR.out,y.out];have c:=(ag.refl (fun b=>b=mp) u).setCell (p:=⟨mp,3,none⟩) (fun _=>rfl) (.pointer (some ⟨a,0,none⟩));have aq:m.rdr.next.2=m.rdr.next.2:=rfl
  refine⟨rfl,(dF.out.trans H3 (fun b _ e=> .inr (.inr (.inr (.inr (.inr e)))))).trans c (fun b _ e=> .inl e),.inr ⟨⟨_,_,_,_,G.set_ 3 _,.inl ⟨J.out.symm,rfl⟩,.inr ⟨bD fl.toNat inn.toNat m.ents,a,?_,rfl,?_⟩⟩,?_,S,rfl⟩⟩
  ·show(if o.err=0 then some (bD fl.toNat inn.toNat m.ents) else none)=_
   rw [if_pos J.out.symm]
  ·exact(V.weak (fun b f=>Nat.le_trans am f)).chg c (fun b f e=>by have e:b=mp:=e;have f:w.heap.size<=b:=f;have:=S.out;omega)
  ·exact(Ql.chg H3 (fun e=>(d.fb p e).2.2.1 rfl) (fun b f e=>(d.fb b e).2.2.2.1 f)).chg c (fun e=>d.mpn.2.2.1 e.symm) (fun b f e=>d.mpn.2.2.2.1 ((show b=mp from e)▸f))
 ·have ap:(er==0)=false:=by rw [beq_eq_false_iff_ne];exact L
  have X:=aa L;go_upto_region 7 with(first|(go_at_call 31;go_loud (refine H.mono ?_);rintro e aw ⟨rfl,k,rfl⟩;obtain⟨t,E⟩:∃W,W=l.drewN k:=⟨_,rfl⟩;rw [<-E];have x:Hid (ag Nil l t):=aa (by rw [E];exact(ag.refl Nil l).drewN k);clear E)|(go_at_call 30;go_loud (refine(iN er (o.bad:Nat) _ X).mono ?_);rintro e i ⟨rfl,g,C⟩;have V:=aa g;have H2:=aa C;have B:=aa ((r.chg x (fun h=>h)).below C);have an:i.cell? ⟨mp,4,none⟩=some .nilIface:=B.out.cell 4;have ae:=B.out.frozen 4;clear g C))
  obtain⟨u,O⟩:∃W,W=i.setCell ⟨mp,4,none⟩ (.iface 108 (.pointer (some ⟨t.heap.size,0,none⟩))):=⟨_,rfl⟩;rw [<-O];have c:ag (fun b=>b=mp) i u:=by rw [O];exact(ag.refl (fun b=>b=mp) i).setCell (p:=⟨mp,4,none⟩) (fun _=>rfl) _
  have UO:ag Nil l i:=x.out.then H2;have G:Hid (aj u mp 85 #[.pointer (some ⟨z,0,none⟩),.pointer (some ⟨pb,0,none⟩),.bool true,.pointer none,.iface 108 (.pointer (some ⟨t.heap.size,0,none⟩))]):=aa (by rw [O];exact B.set_ 4 _);have JD:=aa ((BN.nil UO).chg c (fun e=>d.mpn.2.2.1 e.symm) (fun b f e=>d.mpn.2.2.2.1 ((show b=mp from e)▸f)));have dV:Hid (ag (XS mp z q p Dr Fb) w u):=aa ((eH.out.trans UO (fun b _ e=>e.elim)).trans c (fun b _ e=> .inl e));have al:w.heap.size<=t.heap.size:=Nat.le_trans eH.size x.size;have Y:Hid (aj u t.heap.size 111 #[.int .i64 er,.int .i64 (o.bad:Nat)]):=aa (V.chg c (fun e=>by have e:t.heap.size=mp:=e;have:=S.out;omega));clear O c UO an ae v U T;have U:u.cell? ⟨mp,4,none⟩=some (.iface 108 (.pointer (some ⟨t.heap.size,0,none⟩))):=G.out.cell 4;go_wp2;rw [HR.out,y.out]
  refine⟨rfl,dV,.inr ⟨⟨_,_,_,_,G,.inr ⟨?_,_,rfl,?_,al⟩,.inl ⟨?_,rfl⟩⟩,JD,S,rfl⟩⟩
  ·show o.err≠0
   rw [<-J.out];exact X
  ·show aj u t.heap.size 111 #[.int .i64 o.err,.int .i64 (o.bad:Nat)]
   rw [<-J.out];exact Y
  ·show(if o.err=0 then some (bD fl.toNat inn.toNat m.ents) else none)=none;rw [if_neg (by rw [<-J.out];exact X)]
structure Dw (Fb:Nat->Prop) (pb:Nat) (nd lf inn fl bl:Int) (l0 es:List aK) (i:Nat) (w2 wr:World) (T:TypeId) (In:Nat->Prop):Prop where
 eq:gG nd lf inn fl bl l0 es=gG nd lf inn fl bl (l0++es.take i) (es.drop i)
 bd:Bd wr T (Grown Fb w2 wr) In pb nd lf inn fl bl (l0++es.take i)
 chg:ag Fb w2 wr
 ok:(dW nd lf inn fl bl (l0++es.take i)).1=0
theorem Dw.start (h:Bd w2 T Fb In pb nd lf inn fl bl a) (hok:(dW nd lf inn fl bl a).1=0):Dw Fb pb nd lf inn fl bl a F 0 w2 w2 T In:=
 ⟨by simp,by rw [List.take_zero,List.append_nil];exact h.grow (Below.refl _ _),ag.refl _ _,by simpa using hok⟩
theorem Dw.next {e:aK} (h:Dw Fb pb nd lf inn fl bl a F i w2 wr T In) (k:F[i]? =some e) (g:jd nd lf inn fl bl (a++F.take i) e=0)
  (j:Bd c T (fun b=>Fb b\/(w2.heap.size<=b/\b<c.heap.size)) In pb nd lf inn fl bl (uH nd lf inn fl bl (a++F.take i) e)) (l:ag Fb w2 c):Dw Fb pb nd lf inn fl bl a F (i+1) w2 c T In:=by
 have d:F.take (i+1)=F.take i++ [e]:=by rw [List.take_add_one,k];rfl
 have f:uH nd lf inn fl bl (a++F.take i) e=a++F.take (i+1):=by unfold uH;rw [if_pos g,d,List.append_assoc]
 rw [f] at j
 refine⟨?_,j,l,?_⟩
 ·rw [h.eq,yZ k,if_pos g,d,List.append_assoc]
 ·rw [<-f];exact Ib h.ok
theorem FJ (F Dr Fb:Nat->Prop) (mp z q p pb base hv:Nat) (A:Option Addr) (n cc:Nat) (us:List Value) (nd lf inn fl bl:Int) (K:Nat) (m:cB) (es:List aK) (w:World) (h:LX w F Dr Fb mp z q p pb base hv A n cc us nd lf inn fl bl K m) (hK:K<=1152921504606846976) (hn:m.rdr.next.1=some es):
  Calls prog 9 #[.pointer (some ⟨mp,0,none⟩)] w (NF F Dr Fb mp z q p pb base nd lf inn fl bl K (m.step nd lf inn fl bl) w):=by
 have bp:=Cw;refine letter fun R HR=> ?_;have c:=aa h;have gK:=aa (Dv h hK);have N:=aa (vS (nd:=nd) (lf:=lf) (inn:=inn) (fl:=fl) (bl:=bl) h.go hn);have rJ:=aa (cB.step_ok h.ok);have V:=aa ((bg.next_ok h.ok.rdr).2 es hn);obtain⟨B,S⟩:∃B,B=m.rdr.next.2:=⟨_,rfl⟩;rw [hn,<-S] at gK;rw [<-S] at N V;have y2:w.cell? ⟨mp,2,none⟩=some (.bool false):=h.mblk.cell 2;have y0:w.cell? ⟨mp,0,none⟩=some (.pointer (some ⟨z,0,none⟩)):=h.mblk.cell 0;have L:Hid (∀b,Fb b->b<w.heap.size):=aa (fun b a=>h.lt b (.inr (.inr (.inr (.inr (.inr a))))));have sU:Hid (mp<w.heap.size):=aa (Nat.lt_of_lt_of_le h.mpb h.bw);clear h hn S;go_enter func9,ntmps9
 go_upto_region 4 with(go_at_call 29;go_loud (refine gK.mono ?_);intro e w2 hf;have ja:=aa hf;obtain⟨eA,C,ec,A',s,iW,kF,a9,rfl,g1,g2,g3,g4,g5,g6,-⟩:=hf.yes es rfl;have G1:=aa g1;have G2:=aa g2;have G3:=aa g3;have I:=aa g4;have G5:=aa g5;have G6:=aa g6;clear hf g1 g2 g3 g4 g5 g6)
 have bB:Hid (ag (XS mp z q p Dr Fb) w w2):=aa (c.fs ja.chg)
 have X4:Hid (¬Fs z q p w.heap.size (.slice A n cc) mp):=aa (fun e=>by
  have d:=c.out.mpn;have t:=c.out.mpb;have h3:=c.out.bw
  rcases e with e|e|e|e|e
  ·exact d.1 e
  ·exact d.2.1 e
  ·exact d.2.2.1 e
  ·have:=(ah c.rows.own mp e).1;omega
  ·omega)
 have Z:=aa (c.mblk.chg ja.chg X4)
 have QJ:=aa (c.bd.chg ja.chg (fun b a e=>by
  have d:=c.out.fb b a;have t:=L.out b a
  rcases e with e|e|e|e|e
  ·exact d.1 e
  ·exact d.2.1 e
  ·exact d.2.2.1 e
  ·exact d.2.2.2.2 (c.rows.dom b e)
  ·omega) (fun _ h=>h.elim))
 have bN:w.heap.size<=w2.heap.size:=bB.out.size;obtain⟨y,Q⟩:∃l,l=m.ents:=⟨_,rfl⟩;have y9:=aa Q;rw [<-Q] at QJ;have pX:Hid (C=es.length):=aa G3.out.len;have UQ:Hid (∀e∈es,e.1.length<=64/\e.2.length<=256):=aa (fun e he=>(cK V.rise he).2);have aq:Hid (Dw Fb pb nd lf inn fl bl y es 0 w2 w2 136 Nil):=aa (Dw.start QJ (by rw [y9.out];exact c.ok.bld));have za:C<=64:=by rw [pX.out];exact V.most
 clear y2 y0 Q;go_wp2
 go_loopg [52] C (fun g' iv wz=>∃i:Nat,g'=C-i/\i<=C/\iv= .int .i64 i/\Hid (Dw Fb pb nd lf inn fl bl y es i w2 wz 136 Nil))
 case atStart=>exact⟨0,by omega,by omega,rfl,aq⟩
 case round=>
  obtain⟨i,hg,hi,rfl,r⟩:=hrel;have aw:=aa hg;clear hg;have ac:=aa (Z.chg r.chg c.mpn.2.2.2.2);have Ag:w2.heap.size<=wr.heap.size:=r.out.chg.size
  by_cases a7:i<C
  ·have be:(i:Int)<(C:Int):=by omega
   have ar:Hid (bz wr (fun b=>w.heap.size<=b/\b<w2.heap.size) eA C es):=aa (((bz.lt G3.out).weak (fun b a=>⟨a.1.1,a.2⟩)).chg r.chg (fun b a e=>by have d:=L.out b e;have t:=a.1;omega));obtain⟨g,o,Ak,nk,ck,Av,nv,cv,key,val,rfl,an,am,c0,c1,d⟩:=ar.out.at_ (k:=i) a7;have Po:=aa am;have H1:=aa d;have bx:g<wr.heap.size:=by have:=an.2;omega
   clear am d an;go_upto_region 13 with fail
   obtain⟨X,H⟩:∃W,W=wr.alloc (.cells #[.slice Ak nk ck,.slice Av nv cv] 69):=⟨_,rfl⟩;have u:Below wr.heap.size wr X:=by rw [H];exact(Below.refl _ _).alloc (Nat.le_refl _) _
   have ab:Hid (aj X wr.heap.size 69 #[.slice Ak nk ck,.slice Av nv cv]):=aa (by rw [H];exact aj.new _ _ _);have jN:=aa u;have aA:=aa (ac.below u);have a2:=aa (r.bd.below u);have bO:wr.heap.size<=X.heap.size:=u.size;rw [<-H];clear H u;have a0:Hid (Bt X (fun b=>w.heap.size<=b/\b<w2.heap.size) Ak nk ck key):=aa (by obtain⟨q1,q2,q3,q4,_⟩:=H1.out;exact⟨q1,q2,q3,q4.below jN⟩);have a1:Hid (Bt X (fun b=>w.heap.size<=b/\b<w2.heap.size) Av nv cv val):=aa (by obtain⟨_,_,_,_,q1,q2,q3,q4⟩:=H1.out;exact⟨q1,q2,q3,q4.below jN⟩)
   refine ND (Grown Fb w2 wr) (fun b=>w.heap.size<=b/\b<w2.heap.size) mp wr.heap.size pb Ak Av nk ck nv cv nd lf inn fl bl (y++es.take i) (key,val) X _ (aa (fun _ _ _ _ h=>h)) (aA.cell 1) (ab.cell 0) (ab.cell 1) a2 (aa r.ok) a0 a1 (UQ _ (List.mem_of_getElem? Po)) (fun e=>by
    rcases e with e|e
    ·exact c.mpn.2.2.2.2 e
    ·have:=sU.out;omega) (fun e=>by
    rcases e with e|e
    ·have:=L.out _ e;omega
    ·omega) ?_
   intro bP bQ bX bY bZ b0 U QG E;have O:Hid (ag Fb w2 U):=aa (((r.chg.then jN)).trans E (fun b a e=>e.elim id (fun e=>by omega)))
   have a3:Hid (Bd U 136 (fun b=>Fb b\/(w2.heap.size<=b/\b<U.heap.size)) Nil pb nd lf inn fl bl (uH nd lf inn fl bl (y++es.take i) (key,val))):=aa (QG.sub (fun b a=>by
    rcases a with(a|a)|a
    ·exact .inl a
    ·exact .inr ⟨a.1,by have:=E.size;omega⟩
    ·exact .inr ⟨by omega,a.2⟩) (fun b a=>by
    rcases a with a|a
    ·have:=L.out b a;have:=E.size;omega
    ·exact a.2))
   clear QG E;obtain⟨J,P⟩:∃J,J=jd nd lf inn fl bl (y++es.take i) (key,val):=⟨_,rfl⟩;rw [<-P];have Ph:=aa P;clear P
   by_cases h0:J=0
   ·subst h0;go_wp2
    go_roundg (C-(i+1))
    case measure=>have:=aw.out;omega
    case rel=>exact⟨i+1,rfl,by omega,by go_num,aa (r.next Po Ph.out.symm a3 O)⟩
   ·have bo:(J==0)=false:=by rw [beq_eq_false_iff_ne];exact h0
    have H0:=aa h0;have xK:=aa rJ;have v:0<s:=by rw [I.out.len,V.out.rows];omega
    obtain⟨gr,bk,T,_,_⟩:=I.out.own.form v;injection T with T _ ba
    subst T;have M:Hid (gD B.rows):=aa V.ok.rows;have J4:=aa (G6.out.chg O (fun e=>(c.fb z e).1 rfl))
    have aE:Hid (aX U base _ (.slice (some ⟨gr,0,none⟩) s iW) s B.rows kF):=aa (I.out.chgD O (fun b a hl e=>by
     rcases a with a|a
     ·exact(c.fb b e).2.2.2.2 a
     ·have:=L.out b e;omega))
    have Y9:=aa (J3 _ z base _ _ _ _ _ ⟨gr,0,none⟩ s iW B.rows kF U J4 aE v (by rw [I.out.len];exact M.many) (fun x hx=>(M.key x hx).2));have mO:=aa (Z.chg O c.mpn.2.2.2.2);obtain⟨j,hj⟩:∃j,s=j+1:=⟨s-1,by omega⟩;obtain⟨x,hx⟩:∃x,B.rows[j]? =some x:=⟨_,List.getElem?_eq_getElem (by have:=I.out.len;omega)⟩;have HX:=aa hx;have Zo:Hid (B.rows.getLast?.getD ⟨[],0,0,0⟩=x):=aa (by rw [List.getLast?_eq_getElem?,<-I.out.len,show s-1=j by omega,hx];rfl);have X5:s<=8388608:=by rw [I.out.len];exact M.many
    have bK:IntKind.i64.wrap ((s:Int)-1)=(j:Int):=by rw [IntWalk.i64_in _ (by omega)];omega
    have bL:IntKind.i64.wrap (j:Int)=(j:Int):=IntWalk.i64_in _ (by omega);have bE:(0:Int)<=(j:Int):=by omega
    have bM:j<s:=by omega
    have xI:(j:Int)<(s:Int):=by omega
    have x0:U.cell? ⟨mp,0,none⟩=some (.pointer (some ⟨z,0,none⟩)):=mO.out.cell 0;have a4:Hid (w2.heap.size<=U.heap.size):=aa O.size;clear hj hx ba v;go_upto_region 16 with(go_at_call 34;go_loud (refine Y9.mono ?_);rintro e w5 ⟨gg,bm,ao,rfl,al,ad⟩;have a5:=aa ao;have fC:=aa al;have eG:=aa ad;clear al ad ao)
    have vK:=aa (mO.below eG);have cx:w5.cell? ⟨gg,j*4+1,none⟩=some (.int .i64 (x.at_:Nat)):=fC.out j x HX;have ax:Hid (gg≠mp):=aa (fun e=>by have d:=a5.out;have t:=sU.out;have h3:=a4.out;omega);have x2:w5.cell? ⟨mp,2,none⟩=some (.bool false):=vK.out.cell 2;have bb:=vK.out.frozen 2;clear x0;go_upto_region 17 with fail
    obtain⟨D,gL⟩:∃W,W=w5.setCell ⟨mp,2,none⟩ (.bool true):=⟨_,rfl⟩;rw [<-gL];have f:ag (fun b=>b=mp) w5 D:=by rw [gL];exact(ag.refl (fun b=>b=mp) w5).setCell (p:=⟨mp,2,none⟩) (fun _=>rfl) _
    have EB:Hid (aj D mp 85 #[.pointer (some ⟨z,0,none⟩),.pointer (some ⟨pb,0,none⟩),.bool true,.pointer none,.nilIface]):=aa (by rw [gL];exact vK.set_ 2 _);have bj:D.cell? ⟨gg,j*4+1,none⟩=some (.int .i64 (x.at_:Nat)):=f.cell ax cx;have Ij:=aa f;have JD:Hid (fo D F p B.cur.src):=aa ((((G5.out.src.chg O (fun e=>(c.fb p e).2.2.1 rfl) (fun b a e=>(c.fb b e).2.2.2.1 a)).below eG).chg f (fun e=>c.mpn.2.2.1 e.symm) (fun b a e=>c.mpn.2.2.2.1 ((show b=mp from e)▸a))));have dV:Hid (ag (XS mp z q p Dr Fb) w D):=aa (((bB.out.trans O (fun b _ e=> .inr (.inr (.inr (.inr (.inr e)))))).then eG).trans f (fun b _ e=> .inl e));have a8:w.heap.size<=D.heap.size:=dV.out.size;clear gL f cx x2 bb;have x4:D.cell? ⟨mp,4,none⟩=some .nilIface:=EB.out.cell 4;go_wp2_with (go_at_call 30;go_loud (refine(iN J (x.at_:Nat) D H0).mono ?_);rintro e w7 ⟨rfl,d,t⟩;have ui:=aa d;have Y:=aa t;have Tw:=aa (EB.below t);have b1:w7.cell? ⟨mp,4,none⟩=some .nilIface:=Tw.out.cell 4;have bh:=Tw.out.frozen 4;clear d t)
    have C6:Hid (m.step nd lf inn fl bl={m with rdr:=B,ents:=y++es.take i,done:=true,err:=J,bad:=x.at_}):=aa (by
     rw [N.out];unfold cB.took;have t:gG nd lf inn fl bl (y++es.take i) (es.drop i)=(y++es.take i,J):=by rw [yZ Po.out,<-Ph.out,if_neg H0.out]
     have d:=r.out.eq.trans t;rw [<-y9.out,d,if_neg (show¬(y++es.take i,J).2=0 from H0.out),Zo.out])
    rw [HR.out,C6.out];have f:=(ag.refl (fun b=>b=mp) w7).setCell (p:=⟨mp,4,none⟩) (fun _=>rfl) (.iface 108 (.pointer (some ⟨D.heap.size,0,none⟩)));refine⟨rfl,(dV.then Y).trans f (fun b _ e=> .inl e),.inr ⟨⟨_,_,_,_,Tw.set_ 4 _,.inr ⟨H0,_,rfl,ui.chg f (fun e=>by have e:D.heap.size=mp:=e;have:=sU.out;omega),a8⟩,.inl ⟨(c.ok.go c.go).2.2.2.2,rfl⟩⟩,?_,sU,rfl⟩⟩
    exact(JD.below Y).chg f (fun e=>c.mpn.2.2.1 e.symm) (fun b a e=>c.mpn.2.2.2.1 ((show b=mp from e)▸a))
  ·have ap:i=C:=by omega
   have C6:Hid (m.step nd lf inn fl bl={m with rdr:=B,ents:=y++es}):=aa (by
    rw [N.out];unfold cB.took;have d:=r.out.eq;rw [ap,pX.out,List.take_length,List.drop_length,y9.out] at d;rw [d,show gG nd lf inn fl bl (m.ents++es) []=(m.ents++es,0) from rfl,if_pos rfl,y9.out])
   have xF:Hid (Bd wr 136 (Grown Fb w2 wr) Nil pb nd lf inn fl bl (y++es)):=aa (by
    have d:=r.out.bd;rw [ap,pX.out,List.take_length] at d;exact d)
   go_wp2;rw [HR.out]
   have G:(m.step nd lf inn fl bl).done=false:=by rw [C6.out];exact c.go
   have a6:=c.out.bw;refine⟨by rw [G];rfl,bB.out.trans r.chg (fun b _ e=> .inr (.inr (.inr (.inr (.inr e))))),.inl ⟨G,(fun b=>Dr b\/(w.heap.size<=b/\b<w2.heap.size)),Grown Fb w2 wr,a9,A',s,iW,kF,?_,fun b a=>a.imp id (fun h=>h.1),fun b a=>a.imp id (fun h=>by omega)⟩⟩;have hok:=rJ.out;rw [C6.out] at hok G|-
   exact{
    sit:=c.out.sit
    zs:=c.out.zs
    nFz:=c.out.nFz
    bw:=by omega
    mblk:=ac.out
    rblk:=by
     have d:=G6.out.chg r.chg (fun e=>(c.fb z e).1 rfl);show aj wr z _ #[_,vP z B.st,_,_,_,_];rw [V.out.st];exact d
    rows:=I.out.chgD r.chg (fun b a hl e=>by
     rcases a with a|a
     ·exact(c.fb b e).2.2.2.2 a
     ·have:=L.out b e;omega)
    iny:=G5.out.chg r.chg (fun e=>(c.fb q e).2.1 rfl) (fun e=>(c.fb p e).2.2.1 rfl) (fun b a e=>(c.fb b e).2.2.2.1 a)
    bd:=xF.out
    mpb:=c.out.mpb
    mpn:=⟨c.mpn.1,c.mpn.2.1,c.mpn.2.2.1,c.mpn.2.2.2.1,fun e=>by
     rcases e with e|e
     ·exact c.mpn.2.2.2.2 e
     ·have:=sU.out;omega⟩
    fb:=fun b a=>by
     rcases a with a|a
     ·have d:=c.out.fb b a;have t:=L.out b a
      exact⟨d.1,d.2.1,d.2.2.1,d.2.2.2.1,fun e=>e.elim d.2.2.2.2 (fun e=>by omega)⟩
     ·have d:=c.out.zs.lt;have t:=c.out.sit.qB;have h3:=c.out.sit.pB;exact⟨by omega,by omega,by omega,fun e=>by have:=c.out.sit.lt b e;omega,fun e=>e.elim (fun e=>by have:=c.out.drl b e;omega) (fun e=>by omega)⟩
    drl:=fun b a=>by
     rcases a with a|a
     ·have:=c.out.drl b a;omega
     ·omega
    ok:=hok
    go:=G}
end Go.Proofs.YtepgcjbhabnciaaGreat
