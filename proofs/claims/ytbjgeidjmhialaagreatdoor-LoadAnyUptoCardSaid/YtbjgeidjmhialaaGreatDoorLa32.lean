/- Part 32. -/
import Derived.Test.YtbjgeidjmhialaaGreatDoorLa31
namespace Go.Proofs.YtbjgeidjmhialaaGreatDoor
set_option maxRecDepth 100000
set_option maxHeartbeats 8000000
section
open Go.Lib (compareBytes)
section
variable {nd lf inn fl bl:Int}
theorem Jd {ents l:List aH} (hr:bu l) (hh:0<ents.length→compareBytes (aD ents) (l.headD ([],[])).1<0) {i:Nat} {e:aH} (hi:l[i]? =some e):
  iG nd lf inn fl bl (ents++l.take i) e=(aS nd lf inn fl bl (((ents++l.take i).length+1:Nat):Int)).2:=by
 obtain⟨hlt,he⟩:=List.getElem?_eq_some_iff.1 hi;have hm:e∈l:=he▸List.getElem_mem _;obtain⟨k1,k2,k3⟩:=dC hr hm;unfold iG;rw [if_neg (by simp [mJ k1 k2 k3]),if_neg];rintro⟨h1,h2⟩
 rcases Nat.eq_zero_or_pos i with h0|h0
 ·subst h0;simp only [List.take_zero,List.append_nil] at h1 h2;have h3:ents[ents.length-1]? =some ents[ents.length-1]:=List.getElem?_eq_getElem (by omega);have h4:=hh h1;rw [jq h3] at h4;have h5:ents.getD (ents.length-1) ([],[])=ents[ents.length-1]:=by rw [List.getD,h3];rfl
  have h6:l.headD ([],[])=e:=by
   cases l with
   |nil=>simp at hi
   |cons x y=>simpa using hi
  rw [h5] at h2;rw [h6] at h4
  omega
 ·have h3:(ents++l.take i).length-1=ents.length+(i-1):=by rw [List.length_append,List.length_take];omega
  have h4:(ents++l.take i).getD ((ents++l.take i).length-1) ([],[])=l.getD (i-1) ([],[]):=by
   rw [h3,List.getD,List.getElem?_append_right (by omega),List.getElem?_take_of_lt (by omega),List.getD,show ents.length+(i-1)-ents.length=i-1 by omega]
  have h5:=hr i hlt;have h6:l.getD i ([],[])=e:=by rw [List.getD,hi];rfl
  unfold dQ at h5;rw [h6,if_neg (by simp [mJ k1 k2 k3])] at h5;rw [h4] at h2;rw [if_pos ⟨h0,h2⟩] at h5;exact absurd h5 (by decide)
theorem Cm {ents l:List aH} (hr:bu l) (hh:0<ents.length→compareBytes (aD ents) (l.headD ([],[])).1<0):∀(d i:Nat),i+d=l.length→
  eP nd lf inn fl bl (ents++l.take i) (l.drop i)=(ents++l,0)∨∃j,j<l.length∧(eP nd lf inn fl bl (ents++l.take i) (l.drop i)).2=(aS nd lf inn fl bl ((ents.length+j+1:Nat):Int)).2∧(aS nd lf inn fl bl ((ents.length+j+1:Nat):Int)).2≠0:=by
 intro d
 induction d with
 |zero=>
  intro i hi;left
  rw [List.drop_of_length_le (by omega),List.take_of_length_le (by omega)]
  rfl
 |succ d ih=>
  intro i hi;have h1:l[i]? =some l[i]:=List.getElem?_eq_getElem (by omega);have h2:=Jd (nd:=nd) (lf:=lf) (inn:=inn) (fl:=fl) (bl:=bl) hr hh h1;have h3:(ents++l.take i).length=ents.length+i:=by rw [List.length_append,List.length_take];omega
  rw [h3] at h2;rw [rD h1]
  split
  ·have h4:=ih (i+1) (by omega);have h5:ents++l.take (i+1)=ents++l.take i++ [l[i]]:=by rw [List.append_assoc,List.take_succ_eq_append_getElem (by omega)]
   rw [h5] at h4
   exact h4
  ·rename_i h4;exact .inr ⟨i,by omega,h2,by rw [←h2];exact h4⟩
def Behind (r:aU) (l:List aH) (r':aU):Prop:=(0<r.rows.length→compareBytes (r.rows.getLast?.getD ⟨[],0,0,0⟩).last (l.headD ([],[])).1<0)∧∃x,r'.rows=r.rows++ [x]∧x.last=aD l
theorem yX {r:aU} {c:ax} {at_:Nat} {l:List aH} (h:(r.block c at_).1=some l):Behind r l (r.block c at_).2:=by
 unfold aU.block at h⊢
 by_cases h1:r.rows.length=8388608
 ·rw [if_pos h1] at h;cases h
 rw [if_neg h1] at h⊢
 by_cases h2:c.number.2.1≠0
 ·rw [if_pos h2] at h;cases h
 rw [if_neg h2] at h⊢
 by_cases h3:c.number.1<1∨65535<c.number.1
 ·rw [if_pos h3] at h;cases h
 rw [if_neg h3] at h⊢
 by_cases h4:(c.number.2.2.body c.number.1).err≠0
 ·rw [if_pos h4] at h;cases h
 rw [if_neg h4] at h⊢
 by_cases h5:(aB (c.number.2.2.body c.number.1).body).2.1≠0
 ·rw [if_pos h5] at h;cases h
 rw [if_neg h5] at h⊢
 split at h
 ·cases h
 ·rename_i h6;rw [if_neg h6];injection h with h
  subst h
  exact⟨fun h0=>by
   rcases Int.lt_or_le (compareBytes (r.rows.getLast?.getD ⟨[],0,0,0⟩).last ((aB (c.number.2.2.body c.number.1).body).1.headD ([],[])).1) 0 with h7|h7
   ·exact h7
   ·exact absurd ⟨h0,h7⟩ h6,_,rfl,rfl⟩
theorem qm {r:aU} {l:List aH} (h:r.frame.1=some l):Behind r l r.frame.2:=by
 unfold aU.frame at h⊢
 by_cases h1:(r.cur.bytes 1).2.1≠0
 ·rw [if_pos h1] at h;cases h
 rw [if_neg h1] at h⊢
 by_cases h2:((r.cur.bytes 1).1.headD 0)=70
 ·rw [if_pos h2] at h;cases h
 rw [if_neg h2] at h⊢
 by_cases h3:((r.cur.bytes 1).1.headD 0)≠66
 ·rw [if_pos h3] at h;cases h
 rw [if_neg h3] at h⊢;exact yX h
theorem Cn {r:aU} {l:List aH} (h:r.next.1=some l):Behind r l r.next.2:=by
 unfold aU.next at h⊢
 by_cases h1:r.st=2
 ·rw [if_pos h1] at h;cases h
 rw [if_neg h1] at h⊢
 by_cases h2:r.st=1
 ·rw [if_pos h2] at h⊢;exact qm h
 rw [if_neg h2] at h⊢
 by_cases h3:(r.cur.bytes 8).2.1≠0
 ·rw [if_pos h3] at h;cases h
 rw [if_neg h3] at h⊢
 by_cases h4:(r.cur.bytes 8).1≠gX
 ·rw [if_pos h4] at h;cases h
 rw [if_neg h4] at h⊢;exact qm h
end
end
section
open Go.Lib (compareBytes)
section
variable {nd lf inn fl bl:Int}
structure rV (B:Prop) (K:Nat) (r0:aU) (nd lf inn fl bl:Int) (m:bg) (s:aU):Prop where
 like:nR B m.rdr s
 sok:s.Ok K
 came:Came r0 m.ents s
 ok:m.Ok nd lf inn fl bl K
 go:m.done=false
 none_:m.rdr.rows.length=0→m.ents= []
 last:0<m.rdr.rows.length→0<m.ents.length∧(m.rdr.rows.getLast?.getD ⟨[],0,0,0⟩).last=aD m.ents
structure Over (B:Prop) (r0:aU) (nd lf inn fl bl:Int) (m:bg):Prop where
 done:m.done=true
 three:(∃rf,jA r0 m.ents rf∧m.err=rf.err∧m.bad=rf.bad∧m.tree=(if rf.err=0 then some (aO fl.toNat inn.toNat m.ents) else none)∧(cK nd lf inn fl bl m.ents).1=0)∨
  (B∧(m.err=32∨m.err=33)∧m.tree=none)∨
  (m.err=2∧m.tree=none∧∀l rf,jA r0 l rf→fl<l.length∧(nd<3∨fl*nd/3<l.length))
theorem Came.pre {r0 s:aU} {out:List aH} (h:Came r0 out s):∀k,(∃x rf,s.alls k=(x,rf,true))→∀l rf,jA r0 l rf→out.length≤l.length:=by
 rintro k ⟨x,rf,hx⟩ l rf' hl;obtain⟨rfl,_⟩:=jA.unique hl (h x rf ⟨k,hx⟩);rw [List.length_append];omega
theorem M6 {K:Nat}:∀(d:Nat) {s:aU},s.Ok K→1152921504607-s.cur.at_≤d→∃k x rf,s.alls k=(x,rf,true):=by
 intro d
 induction d with
 |zero=>
  intro s hs hd;obtain⟨n1,n2⟩:=aU.next_ok hs
  cases he:s.next.1 with
  |none=>exact⟨1,[],s.next.2,by simp [aU.alls,he]⟩
  |some l=>
   have hb:=n2 l he;have h1:=(n1.cur (by rw [hb.st];decide)).sum;have h2:=hb.at_
   omega
 |succ d ih=>
  intro s hs hd;obtain⟨n1,n2⟩:=aU.next_ok hs
  cases he:s.next.1 with
  |none=>exact⟨1,[],s.next.2,by simp [aU.alls,he]⟩
  |some l=>
   have hb:=n2 l he;have h2:=hb.at_;obtain⟨k,x,rf,hk⟩:=ih n1 (by omega);exact⟨k+1,l++x,rf,by simp [aU.alls,he,hk]⟩
theorem EB {B:Prop} {K:Nat} {r0 s:aU} {m:bg} (hc:aY nd lf inn fl bl) (h:rV B K r0 nd lf inn fl bl m s):
  (∃s',rV B K r0 nd lf inn fl bl (m.step nd lf inn fl bl) s')∨Over B r0 nd lf inn fl bl (m.step nd lf inn fl bl):=by
 have hok:=bg.step_ok h.ok;have hn:=Jc h.like;obtain⟨g1,g2,g3,g4,g5⟩:=h.ok.go h.go;have n2:=(aU.next_ok h.ok.rdr).2;unfold bg.step at hok⊢;rw [if_neg (by simp [h.go])] at hok⊢
 cases he:m.rdr.next.1 with
 |none=>
  right
  simp only [he]
  rcases hn with⟨e1,e2⟩|⟨_,e2⟩
  ·rw [he] at e1;refine⟨rfl,.inl ⟨s.next.2,h.came.stop e1.symm,e2.err,e2.bad,?_,h.ok.bld⟩⟩;show(if m.rdr.next.2.err=0 then _ else _)=_;rw [e2.err]
   rfl
  ·refine⟨rfl,.inr (.inl ⟨e2.2.1,e2.2.2,?_⟩)⟩;show(if m.rdr.next.2.err=0 then _ else _)=_;have:=e2.2.2
   rw [if_neg (by omega)]
 |some l=>
  simp only [he] at hok⊢;have hb:=n2 l he;obtain⟨b1,x,b2,b3⟩:=Cn he
  have hh:0<m.ents.length→compareBytes (aD m.ents) (l.headD ([],[])).1<0:=fun h0=>by
   rcases Nat.eq_zero_or_pos m.rdr.rows.length with hz|hz
   ·rw [h.none_ hz] at h0;simp at h0
   ·rw [←(h.last hz).2];exact b1 hz
  rcases hn with⟨e1,e2⟩|⟨e1,_⟩
  ·rw [he] at e1;have QI:=h.came.more e1.symm;have Wx:=(aU.next_ok h.sok).1;have ha:=Cm (nd:=nd) (lf:=lf) (inn:=inn) (fl:=fl) (bl:=bl) hb.rise hh l.length 0 (by omega);simp only [List.take_zero,List.append_nil,List.drop_zero] at ha;unfold bg.took at hok⊢
   rcases ha with ha|⟨j,hj,ha,hz⟩
   ·left
    rw [ha] at hok⊢
    refine⟨s.next.2,e2,Wx,QI,hok,h.go,fun h0=> ?_,fun _=>⟨?_,?_⟩⟩
    ·have h0:m.rdr.next.2.rows.length=0:=h0;rw [b2] at h0
     simp at h0
    ·show 0<(m.ents++l).length;have:=hb.some
     rw [List.length_append];omega
    ·show(m.rdr.next.2.rows.getLast?.getD ⟨[],0,0,0⟩).last=aD (m.ents++l);rw [b2,List.getLast?_append];show x.last=_;rw [b3];unfold aD;rw [List.getLast?_append]
     have h5:∃y,l.getLast? =some y:=by
      have:=hb.some;exact⟨l[l.length-1],by rw [List.getLast?_eq_getElem?];exact List.getElem?_eq_getElem (by omega)⟩
     obtain⟨y,hy⟩:=h5;rw [hy]
     rfl
   ·right
    have hr:=room hc (n:=((m.ents.length+j+1:Nat):Int)) (by omega) hz;have hne:(eP nd lf inn fl bl m.ents l).2≠0:=by rw [ha];exact hz
    rw [if_neg hne];refine⟨rfl,.inr (.inr ⟨ha.trans hr.1,g5,fun L rf hL=> ?_⟩)⟩;obtain⟨k,y,rf',hk⟩:=M6 _ Wx (Nat.le_refl _);have h7:=QI.pre k ⟨y,rf',hk⟩ L rf hL;rw [List.length_append] at h7;have h8:=hr.2
    omega
  ·rw [he] at e1;cases e1
theorem wm {B:Prop} {K:Nat} {r0 s:aU} {m:bg} (hc:aY nd lf inn fl bl) (h:rV B K r0 nd lf inn fl bl m s):∀k,(∃s',rV B K r0 nd lf inn fl bl (iK nd lf inn fl bl k m) s')∨Over B r0 nd lf inn fl bl (iK nd lf inn fl bl k m)
 |0=> .inl ⟨s,h⟩
 |k+1=>by
  rcases wm hc h k with⟨s',h'⟩|h'
  ·exact EB hc h'
  ·right
   show Over B r0 nd lf inn fl bl ((iK nd lf inn fl bl k m).step nd lf inn fl bl);rw [bg.step_done h'.done];exact h'
theorem M7 {B:Prop} {K:Nat} {r0 s:aU} {m mf:bg} (hc:aY nd lf inn fl bl) (h:rV B K r0 nd lf inn fl bl m s) (hf:BC nd lf inn fl bl m mf):Over B r0 nd lf inn fl bl mf:=by
 obtain⟨k,rfl,hd⟩:=hf
 rcases wm hc h k with⟨s',h'⟩|h'
 ·rw [h'.go] at hd;cases hd
 ·exact h'
end
end
section
def Src.plain (l:List UInt8):Src:=⟨l,[],0,false,0⟩
theorem Cc {l:List UInt8} (h:l.length≤1048576):rX (Src.plain l):=⟨h,Nat.zero_le _,rfl⟩
def yR (s:Src):aU:=(eG s).rdr
theorem PN {nd lf inn fl bl:Int} {s:Src} (hs:rX s) (hc:aY nd lf inn fl bl):rV (¬s.calm) 17825808 (yR (Src.plain s.left)) nd lf inn fl bl (eG s) (yR (Src.plain s.left)):=by
 have hq:Quiet (yR (Src.plain s.left)).cur:=⟨⟨show(0:Int)<1 by decide,show(0:Nat)<16 by decide⟩,Nat.zero_le _,Nat.zero_le _⟩;refine⟨⟨⟨rfl,rfl,rfl,rfl,hq,Nat.zero_le _,?_⟩,rfl,rfl,rfl,rfl⟩,(l9 (Cc hs.left) hc).rdr,Came.nil _,l9 hs hc,rfl,fun _=>rfl,fun h=>by cases h⟩
 by_cases h:s.calm
 ·exact .inr ⟨h,Nat.zero_le _,Nat.zero_le _⟩
 ·exact .inl h
theorem Je {nd lf inn fl bl:Int} {s:Src} {mf:bg} (hs:rX s) (hc:aY nd lf inn fl bl) (hf:BC nd lf inn fl bl (eG s) mf):Over (¬s.calm) (yR (Src.plain s.left)) nd lf inn fl bl mf:=M7 hc (PN hs hc) hf
theorem Gb {nd lf inn fl bl:Int} {s:Src} {mf:bg} {es:List aH} {rf:aU} (hs:rX s) (hc:aY nd lf inn fl bl) (hf:BC nd lf inn fl bl (eG s) mf) (hp:jA (yR (Src.plain s.left)) es rf):
  (mf.tree=none∧mf.err≠0∧(rf.err=0→mf.err=2→fl<es.length∧(nd<3∨fl*nd/3<es.length))∧(s.calm→mf.err≠2→rf.err≠0∧mf.err=rf.err∧mf.bad=rf.bad))∨
  (mf.err=0∧rf.err=0∧mf.tree=some (aO fl.toNat inn.toNat es)∧(cK nd lf inn fl bl es).1=0):=by
 have h:=Je hs hc hf
 rcases h.three with⟨rf',h1,h2,h3,h4,h5⟩|⟨h1,h2,h3⟩|⟨h1,h2,h3⟩
 ·obtain⟨rfl,rfl⟩:=jA.unique hp h1
  by_cases he:rf.err=0
  ·rw [if_pos he] at h4
   exact .inr ⟨h2.trans he,he,h4,h5⟩
  ·rw [if_neg he] at h4
   exact .inl ⟨h4,by rw [h2];exact he,fun h=>absurd h he,fun _ _=>⟨he,h2,h3⟩⟩
 ·exact .inl ⟨h3,by omega,fun _ h=>by omega,fun h=>absurd h h1⟩
 ·exact .inl ⟨h2,by omega,fun _ _=>h3 es rf hp,fun _ h=>absurd h1 h⟩
end
section
open Go.Proofs.Tryz
open Go.RowKit Go.Shelf
attribute [local go_sem] Oper.semAt_some
noncomputable def MS:Code:=((f8.body.bind iY).map Prod.fst).getD .skip
noncomputable def MU:Code:=((f8.body.bind iY).map Prod.snd).getD .skip
theorem yS (l:List Value) (a b:Value):((#[18,19]:Array Tmp).zip #[a,b]).foldl (fun t (p,v)=>t.setIfInBounds p v) l.toArray=((l.set 18 a).set 19 b).toArray:=by simp
noncomputable def jl (fn:FuncId) (tm:Array Value) (Dd:Nat):Loop:={state:= .ready,pending:=none,fn:=fn,tmps:=tm,params:= #[18,19],assign:=MS,body:=MU,defers:=Dd}
theorem IZ (fn:FuncId) (lo L Dd bl base:Nat) (D B:Nat→Prop) (out:List aH) (e:aH) (Ak Av:Option Addr) (nk ck nv cv:Nat) (W:World) {u0 u1 u2 u3 u4 u5 u7 u8 u9 u10 u11 u12 u13 bN bq u16 u17 bC bD u20 u21 u22 u23 u24 u25 u26 u27 u28 u29 u30 u31 u32 u33 u34 u35:Value} (h:Jr W lo L Dd bl base (jl fn (⟨(u0::u1::u2::u3::u4::u5:: .pointer (some ⟨bl,0,none⟩)::u7::u8::u9::u10::u11::u12::u13::bN::bq::u16::u17::bC::bD::u20::u21::u22::u23::u24::u25::u26::u27::u28::u29::u30::u31::u32::u33::u34::u35:: []).toArray,[]⟩:Act).tmps Dd) D B out) (hB:∀b,B b→base≤b∧b<W.heap.size)
  (hk:SB W D (.slice Ak nk ck) e.1) (hv:SB W D (.slice Av nv cv) e.2) (hn:out.length≤1152921504606):
  YieldAt Fence.wide 2 prog L #[.slice Ak nk ck,.slice Av nv cv] W fun en W'=>en= .returned (.bool true)∧Jr W' lo L Dd bl base (jl fn (⟨(u0::u1::u2::u3::u4::u5:: .pointer (some ⟨bl,0,none⟩)::u7::u8::u9::u10::u11::u12::u13::bN::bq::u16::u17::bC::bD::u20::u21::u22::u23::u24::u25::u26::u27::u28::u29::u30::u31::u32::u33::u34::u35:: []).toArray,[]⟩:Act).tmps Dd) D B (out++ [e])∧ag (fun b=>b=L∨b=bl∨base≤b∧¬B b) W W':=by
 obtain⟨i0,hi0,hz0,hz1,hz2⟩:=info_parts uN;obtain⟨o1,o2,o3,o4,o5⟩:=h.ord;obtain⟨cv0,us,zF,kN⟩:=h.col;obtain⟨oA,oc,rfl,ho1,ho2⟩:=ay kN.own;have hl:=h.loop
 have hy:(Instr.yield L #[.slice Ak nk ck,.slice Av nv cv]).run prog W= .ok (.round L fn (⟨(u0::u1::u2::u3::u4::u5:: .pointer (some ⟨bl,0,none⟩)::u7::u8::u9::u10::u11::u12::u13::bN::bq::u16::u17:: .slice Ak nk ck:: .slice Av nv cv::u20::u21::u22::u23::u24::u25::u26::u27::u28::u29::u30::u31::u32::u33::u34::u35:: []).toArray,[]⟩:Act).tmps MS MU) W:=
  (run_yield (P:=prog) (args:= #[.slice Ak nk ck,.slice Av nv cv]) hl rfl).trans (congrArg (fun t=>Result.ok (Next.round L fn t MS MU) W) (yS _ _ _))
 obtain⟨W1,hbr,hl2,hP,hs1⟩:∃W1,(Instr.beginRound L).run prog W= .ok () W1∧W1.heap[L]? =some (.loop {jl fn (⟨(u0::u1::u2::u3::u4::u5:: .pointer (some ⟨bl,0,none⟩)::u7::u8::u9::u10::u11::u12::u13::bN::bq::u16::u17::bC::bD::u20::u21::u22::u23::u24::u25::u26::u27::u28::u29::u30::u31::u32::u33::u34::u35:: []).toArray,[]⟩:Act).tmps Dd with state:= .busy})∧ag (fun b=>b=L) W W1∧W1.heap.size=W.heap.size:=
  ⟨_,run_beginRound hl rfl,World.putObj_heap_same (by omega),iy _ _ _,by simp⟩
 have hL:∀b,B b→¬b=L:=fun b hb e=>by have:=(hB b hb).1;omega
 have FN:Boxed W1 bl 37 (.slice oA out.length oc):=(hP.block bl (by omega) (by omega)).trans zF;have QB:zo W1 base D B (.slice oA out.length oc) us out:=kN.chg hP (fun g hg e=>by have:=(ah kN.own g hg).1;omega) (fun b hb=>hL b (kN.sub b hb).1)
 have hR:∀v2 us2 (W3:World),Boxed W3 bl 37 v2→zo W3 base D B v2 us2 (out++ [e])→ag (fun b=>b=bl∨base≤b∧¬B b) W1 W3→
   ∃v w',(Instr.endRound L none).run prog W3= .ok v w'∧(Ending.returned v= .returned (.bool true)∧Jr w' lo L Dd bl base (jl fn (⟨(u0::u1::u2::u3::u4::u5:: .pointer (some ⟨bl,0,none⟩)::u7::u8::u9::u10::u11::u12::u13::bN::bq::u16::u17::bC::bD::u20::u21::u22::u23::u24::u25::u26::u27::u28::u29::u30::u31::u32::u33::u34::u35:: []).toArray,[]⟩:Act).tmps Dd) D B (out++ [e])∧ag (fun b=>b=L∨b=bl∨base≤b∧¬B b) W w'):=fun v2 us2 W3 k1 k2 k3=>by
  have hl3:W3.heap[L]? =some (.loop {jl fn (⟨(u0::u1::u2::u3::u4::u5:: .pointer (some ⟨bl,0,none⟩)::u7::u8::u9::u10::u11::u12::u13::bN::bq::u16::u17::bC::bD::u20::u21::u22::u23::u24::u25::u26::u27::u28::u29::u30::u31::u32::u33::u34::u35:: []).toArray,[]⟩:Act).tmps Dd with state:= .busy}):=(k3.block L (by omega) (by omega)).trans hl2;have hd3:W3.heap[Dd]? =some (.deferred (some [])):=(k3.block Dd (by omega) (by omega)).trans ((hP.block Dd (by omega) (by omega)).trans h.dfd);have hs3:=k3.size;refine⟨_,_,run_endRound none hl3,rfl,⟨World.putObj_heap_same (by omega),(World.putObj_heap_other (by omega)).trans hd3,⟨v2,us2,(World.putObj_heap_other (by omega)).trans k1,k2.chg (iy _ _ _) (fun g hg e=>by have:=(ah k2.own g hg).1;omega) (fun b hb=>hL b (k2.sub b hb).1)⟩,o1,o2,o3,o4,by simp;omega⟩,?_⟩;exact((hP.mono (T:=fun b=>b=L∨b=bl∨base≤b∧¬B b) (fun b _ e=> .inl e)).trans k3 (fun b _ e=> .inr e)).trans (iy _ _ _) (fun b _ e=> .inl e)
 refine⟨_,_,_,_,hy,roundIn_of_wpIn trivial ?_⟩;clear hy;show Code.wpIn _ _ _ MS _ ⟨(u0::u1::u2::u3::u4::u5:: .pointer (some ⟨bl,0,none⟩)::u7::u8::u9::u10::u11::u12::u13::bN::bq::u16::u17:: .slice Ak nk ck:: .slice Av nv cv::u20::u21::u22::u23::u24::u25::u26::u27::u28::u29::u30::u31::u32::u33::u34::u35:: []).toArray,[]⟩ _;conv=>arg 4;whnf
 gi_wp2
 have HR:=aa hR;have HC:=aa QB;have iC:=aa FN;have c0:=FN.cell;have f0:=FN.frozen;have HP:=aa hP;have XV:=aa hB;have HK:=aa hk;have HV:=aa hv;have JK:=aa hs1;have HO:=aa (And.intro o1 (And.intro o2 (And.intro o3 (And.intro o4 o5))));clear hR QB FN hP hl2 hbr hl kN zF h hB hk hv hs1 o1 o2 o3 o4 o5 ho1 ho2 hL;show Code.wpIn _ _ _ MU _ _ _;conv=>arg 4;whnf
 gi_wp2_with (gi_at_builtin;refine ng _ rfl (.tmp 20) (.tmp 24) _ rfl base 57 i0 _ 2 48 underlying37 hi0 hz0 hz1 hz2 rfl (by decide) (.slice oA out.length oc) out.length us rfl (own_below HC.own ((Below.refl _ _).alloc (Nat.le_refl _) _)) (From W1.heap.size) (some ⟨W1.heap.size,0,none⟩) 1 1 [.slice Ak nk ck,.slice Av nv cv] rfl (Rd.one2 W1 _ _ _) (by intro u hu;simp at hu;rcases hu with hu|hu<;>subst hu<;>rfl) (by simp only [maxLen];omega) (by omega) (by simp;have:=HO.out;have:=JK.out;omega) ?_;intro v2 w2 hown2 hg2 gP;obtain⟨K2,c2,hv2,_,_⟩:=ay hown2;subst hv2;have iV:=aa hown2;have wF:=aa hg2;have HA2:=aa gP;have hb2:Boxed w2 bl 37 (.slice oA out.length oc):=(iC.out.alloc _).kept hg2 (fun e=>by have:=(ah HC.own bl e.symm).1;have:=HO.out;omega);have HB2:=aa hb2;have c2':=hb2.cell;have f2:=hb2.frozen;clear hown2 hg2 gP hb2 c0 f0)
 have hA1:ag Nil W1 (W1.alloc (.cells #[.slice Ak nk ck,.slice Av nv cv] 57)):=(ag.refl Nil W1).alloc _;have hD1:∀b,D b→¬Nil b:=fun _ _ h=>h;have k1:zo (W1.alloc (.cells #[.slice Ak nk ck,.slice Av nv cv] 57)) base D B (.slice oA out.length oc) us out:=HC.out.chg hA1 (fun _ _ h=>h) hD1;have hk1:SB (W1.alloc (.cells #[.slice Ak nk ck,.slice Av nv cv] 57)) D (.slice Ak nk ck) e.1:=(HK.out.chg HP (fun b hb e=>by have:=(XV.out b (HC.sub b hb).1).1;have:=HO.out;omega)).chg hA1 hD1;have hv1:SB (W1.alloc (.cells #[.slice Ak nk ck,.slice Av nv cv] 57)) D (.slice Av nv cv) e.2:=(HV.out.chg HP (fun b hb e=>by have:=(XV.out b (HC.sub b hb).1).1;have:=HO.out;omega)).chg hA1 hD1;have k2:=k1.push iV wF (HA2.out.imp id (fun h=>⟨_,h,fun hb=>by have h1:=(XV.out _ hb).2;have h2:=JK.out;simp at h1;omega⟩)) hk1 hv1;have hS2:ag (fun b=>b=bl) w2 (w2.setCell ⟨bl,0,none⟩ (.slice K2 (out.length+1) c2)):=(ag.refl (fun b=>b=bl) w2).setCell (p:=⟨bl,0,none⟩) (fun _=>rfl) _;refine HR _ _ _ (HB2.set _) (k2.chg hS2 (fun g hg e=>by have:=(ah k2.own g hg).1;have:=HO.out;omega) (fun b hb e=>by have:=(XV.out b (HC.sub b hb).1).1;have:=HO.out;omega)) ?_
 refine((hA1.mono (T:=fun b=>b=bl∨base≤b∧¬B b) (fun _ _ h=>h.elim)).grown wF (fun k hk _=> ?_)).trans hS2 (fun b _ e=> ?_)
 ·exact .inr ⟨(ah HC.own k hk).1,HC.ne k hk⟩
 ·exact .inl e
end
section
open Go.Proofs.Tryz
open Go.RowKit Go.Shelf
theorem Pv (z:Nat) (w:World):Calls prog 25 #[.pointer (some ⟨z,0,none⟩)] w fun e w'=>e= .returned (.func (.func 47) #[] #[.pointer (some ⟨w.heap.size,0,none⟩)])∧w'=w.alloc (.cells #[.pointer (some ⟨z,0,none⟩)] 73):=by
 go_enter func25,ntmps25
 go_wp2;go_ret
 exact⟨rfl,rfl⟩
def V9 (bs:List UInt8) (w:World) (e:Ending) (w':World):Prop:=
 ∃(out:List aH) (rf:aU) (A:Option Addr) (n c:Nat),jA (yR (Src.plain bs)) out rf∧out.length≤536870912∧e= .returned (.tuple #[.slice A n c,.int .i64 rf.err,.int .i64 (if rf.err=0 then 0 else(rf.bad:Nat):Nat)])∧(rf.err=0→bO w' (From w.heap.size) A n out)∧Below w.heap.size w w'
theorem Ga (F0:Nat→Prop) (bA:Option Addr) (bn bc:Nat) (bs:List UInt8) (w:World) (hb:SB w F0 (.slice bA bn bc) bs) (hlen:bs.length≤1048576):
  Calls prog 8 #[.slice bA bn bc] w (V9 bs w):=by
 refine letter fun R HR=> ?_;have Kn:=aa hb;have hK:17825808≤1152921504606846976:=by decide
 have HO:Hid ((yR (Src.plain bs)).Ok 17825808):=aa (l9 (Cc hlen) (show aY 1 2 3 1 1 by decide)).rdr;have hbn:bn≤1152921504606:=by rw [hb.parts.2.2.1];omega
 clear hb;refine callsIn_wide.1 (callsIn_of_wp_marks (n:=4) func8 rfl trivial ?_);refine wpIn_wide.2 ?_;simp only [ntmps8,List.size_toArray,List.length_cons,List.length_nil,Nat.reduceAdd,Nat.reduceSub,Array.replicate_succ,Array.replicate_zero,List.push_toArray,List.append_toArray,List.nil_append,List.cons_append];go_upto_region 2 with(first|(go_at_call 7;go_loud (refine(jL F0 bn bc 0 0 bA none bs [] 0 false w Kn.parts.2.2.2 Kn.parts.2.2.1 (by omega) (Rd.none_ _ _ _ _) (by omega)).mono ?_);rintro e ws ⟨p,rfl,h1,h2,h3,h4⟩;have HP1:=aa h1;have HP:=aa h2;have HS:=aa h3;have ek:=aa h4;clear h1 h2 h3 h4)|(go_at_call 24;go_loud (refine(nN p ws).mono ?_);rintro e w2 ⟨z,rfl,h1,h2,h3,h4⟩;have H3:=aa h1;have H4:=aa h2;have H5:=aa h3;have H6:=aa h4;clear h1 h2 h3 h4))
 obtain⟨F,hF⟩:∃F:Nat→Prop,F=fun b=>w.heap.size≤b∧b<p:=⟨_,rfl⟩;have HF:Hid (∀b,F b→b<ws.heap.size∧b≠p):=aa (fun b hb=>by rw [hF] at hb;have:=HP.out;exact⟨by omega,by omega⟩);rw [←hF] at HS;clear hF;go_wp2_with (go_at_call 25;go_loud (refine(Pv _ _).mono ?_);rintro e w3 ⟨rfl,h3⟩)
 have Wd:w3.heap.size=w2.heap.size+2:=by rw [h3];simp
 have hb3:Below w2.heap.size w2 w3:=by rw [h3];exact((Below.refl _ _).alloc (Nat.le_refl _) _).alloc (by simp) _
 have hbx:Boxed w3 w2.heap.size 37 (.slice none 0 0):=by rw [h3];exact(Boxed.new _ _ _).alloc _
 have hrb:ai w3 (w2.heap.size+1) 73 #[.pointer (some ⟨z,0,none⟩)]:=by
  have:=ai.new (w2.alloc (.cells #[.slice none 0 0] 37)) 73 #[.pointer (some ⟨z,0,none⟩)];rw [World.size_alloc] at this;rw [h3];exact this
 have xW:=aa Wd;have HB3:=aa hb3;have iC:=aa hbx;have Ai:=aa hrb;rw [←h3];clear h3 Wd hb3 hbx hrb;refine(wpIn_wide (n:=4)).1 (wpIn_rangeFunc ?_);intro fn _
 obtain⟨W1,hW1,hEn⟩:∃W1,W1=(w3.alloc (.deferred (some []))).alloc (.loop (jl fn (⟨(.slice bA bn bc::undef:: .slice none 0 0:: .int .i64 0:: .int .i64 0:: .pointer (some ⟨z,0,none⟩):: .pointer (some ⟨w2.heap.size,0,none⟩)::undef::undef::undef::undef:: .slice bA bn bc:: .agg #[.slice bA bn bc,.slice none 0 0,.int .i64 0,.bool false]:: .pointer (some ⟨p,0,none⟩):: .iface 35 (.pointer (some ⟨p,0,none⟩)):: .pointer (some ⟨z,0,none⟩):: .pointer (some ⟨z,0,none⟩):: .func (.func 47) #[] #[.pointer (some ⟨w2.heap.size+1,0,none⟩)]::undef::undef::undef::undef::undef::undef::undef::undef::undef::undef::undef::undef::undef::undef::undef::undef::undef::undef:: []).toArray,[]⟩:Act).tmps w3.heap.size))∧
   (Instr.enterLoop fn (⟨(.slice bA bn bc::undef:: .slice none 0 0:: .int .i64 0:: .int .i64 0:: .pointer (some ⟨z,0,none⟩):: .pointer (some ⟨w2.heap.size,0,none⟩)::undef::undef::undef::undef:: .slice bA bn bc:: .agg #[.slice bA bn bc,.slice none 0 0,.int .i64 0,.bool false]:: .pointer (some ⟨p,0,none⟩):: .iface 35 (.pointer (some ⟨p,0,none⟩)):: .pointer (some ⟨z,0,none⟩):: .pointer (some ⟨z,0,none⟩):: .func (.func 47) #[] #[.pointer (some ⟨w2.heap.size+1,0,none⟩)]::undef::undef::undef::undef::undef::undef::undef::undef::undef::undef::undef::undef::undef::undef::undef::undef::undef::undef:: []).toArray,[]⟩:Act).tmps #[18,19] MS MU none).run prog w3= .ok (w3.heap.size+1,[{target:= .collected w3.heap.size,args:= #[]}]) W1:=
  ⟨_,rfl,run_enterLoop_outer _ _ _ _ _⟩
 refine⟨w3.heap.size+1,[{target:= .collected w3.heap.size,args:= #[]}],W1,{target:= .fn (.func 47) #[.pointer (some ⟨w2.heap.size+1,0,none⟩)],args:= #[.func (.yield (w3.heap.size+1)) #[] #[]]},W1,47,#[.func (.yield (w3.heap.size+1)) #[] #[],.pointer (some ⟨w2.heap.size+1,0,none⟩)],W1,hEn,?_,fun _ _=>trivial,?_,fun _=>by decide,callsIn_wide.2 ?_⟩
 ·simp [resolve,go_sem]
 ·simp [invoke,go_sem]
 have hs1:W1.heap.size=w3.heap.size+2:=by rw [hW1];simp
 have hLp:W1.heap[w3.heap.size+1]? =some (.loop (jl fn (⟨(.slice bA bn bc::undef:: .slice none 0 0:: .int .i64 0:: .int .i64 0:: .pointer (some ⟨z,0,none⟩):: .pointer (some ⟨w2.heap.size,0,none⟩)::undef::undef::undef::undef:: .slice bA bn bc:: .agg #[.slice bA bn bc,.slice none 0 0,.int .i64 0,.bool false]:: .pointer (some ⟨p,0,none⟩):: .iface 35 (.pointer (some ⟨p,0,none⟩)):: .pointer (some ⟨z,0,none⟩):: .pointer (some ⟨z,0,none⟩):: .func (.func 47) #[] #[.pointer (some ⟨w2.heap.size+1,0,none⟩)]::undef::undef::undef::undef::undef::undef::undef::undef::undef::undef::undef::undef::undef::undef::undef::undef::undef::undef:: []).toArray,[]⟩:Act).tmps w3.heap.size)):=by
  rw [hW1];have:=World.alloc_heap_new (w3.alloc (.deferred (some []))) (.loop (jl fn (⟨(.slice bA bn bc::undef:: .slice none 0 0:: .int .i64 0:: .int .i64 0:: .pointer (some ⟨z,0,none⟩):: .pointer (some ⟨w2.heap.size,0,none⟩)::undef::undef::undef::undef:: .slice bA bn bc:: .agg #[.slice bA bn bc,.slice none 0 0,.int .i64 0,.bool false]:: .pointer (some ⟨p,0,none⟩):: .iface 35 (.pointer (some ⟨p,0,none⟩)):: .pointer (some ⟨z,0,none⟩):: .pointer (some ⟨z,0,none⟩):: .func (.func 47) #[] #[.pointer (some ⟨w2.heap.size+1,0,none⟩)]::undef::undef::undef::undef::undef::undef::undef::undef::undef::undef::undef::undef::undef::undef::undef::undef::undef::undef:: []).toArray,[]⟩:Act).tmps w3.heap.size));rwa [World.size_alloc] at this
 have hDf:W1.heap[w3.heap.size]? =some (.deferred (some [])):=by
  rw [hW1];exact(Below.heap_alloc _ _ _ (by simp)).trans (World.alloc_heap_new w3 _)
 have hb1:Below w3.heap.size w3 W1:=by rw [hW1];exact((Below.refl _ _).alloc (Nat.le_refl _) _).alloc (by simp) _
 have s3:=xW.out;have hz1:=H3.out;have hz2:z<w2.heap.size:=H5.out.lt;have hpl:=HP.out;have B01:Below ws.heap.size ws W1:=(H6.out.trans (HB3.mono H6.size)).trans (hb1.mono (by have:=H6.out.size;omega));have B21:Below w2.heap.size w2 W1:=HB3.out.trans (hb1.mono HB3.size)
 have hX:EX W1 F Nil z ws.heap.size p W1.heap.size 0 none 0 0 [] 17825808 (yR (Src.plain bs)) (.slice none 0 0):=
  {sit:=⟨fun e=>(HF p e).2 rfl,fun e=>by have:=(HF.out _ e).1;omega,by omega,fun b hb=>by have:=(HF.out b hb).1;omega,by omega,by omega⟩
   zs:=⟨by omega,by omega,by omega⟩
   nFz:=fun e=>by have:=(HF.out z e).1;omega
   bw:=Nat.le_refl _
   rblk:=H5.out.below B21
   rows:=bG.nil _ _
   iny:=⟨H4.below B21,HS.below B01,fun x hx=>by cases hx⟩
   drl:=fun b hb=>hb.elim
   ok:=HO.out
   go:=fun e=>by cases e}
 have hJ:Jr W1 w2.heap.size (w3.heap.size+1) w3.heap.size w2.heap.size W1.heap.size (jl fn (⟨(.slice bA bn bc::undef:: .slice none 0 0:: .int .i64 0:: .int .i64 0:: .pointer (some ⟨z,0,none⟩):: .pointer (some ⟨w2.heap.size,0,none⟩)::undef::undef::undef::undef:: .slice bA bn bc:: .agg #[.slice bA bn bc,.slice none 0 0,.int .i64 0,.bool false]:: .pointer (some ⟨p,0,none⟩):: .iface 35 (.pointer (some ⟨p,0,none⟩)):: .pointer (some ⟨z,0,none⟩):: .pointer (some ⟨z,0,none⟩):: .func (.func 47) #[] #[.pointer (some ⟨w2.heap.size+1,0,none⟩)]::undef::undef::undef::undef::undef::undef::undef::undef::undef::undef::undef::undef::undef::undef::undef::undef::undef::undef:: []).toArray,[]⟩:Act).tmps w3.heap.size) (zn Nil (.slice none 0 0)) Nil []:=
  ⟨hLp,hDf,⟨_,[],(hb1.block w2.heap.size (by omega)).trans iC,zo.nil _ _ _ _ (fun b hb=>hb.1.elim)⟩,Nat.le_refl _,by omega,by omega,by omega,Nat.le_refl _⟩
 have Pw:=aa B01;have JK:=aa hs1
 refine(K9 F z ws.heap.size p W1.heap.size 0 w2.heap.size (w3.heap.size+1) w3.heap.size w2.heap.size (w2.heap.size+1) 17825808 _ (yR (Src.plain bs)) W1 hX hJ (fun D B out e Ak Av nk ck nv cv W hj hB hk hv hn=>IZ fn w2.heap.size (w3.heap.size+1) w3.heap.size w2.heap.size W1.heap.size D B out e Ak Av nk ck nv cv W hj hB hk hv hn)
  (Ai.below hb1) ⟨hz2,by omega,by omega,fun b hb=>by have:=(HF.out b hb).1;omega⟩ ⟨by omega,by omega⟩ hK rfl).mono ?_
 rintro e w5 hA;obtain⟨v,rfl⟩:=hA.ret;have HA:=aa hA;clear hA hX hJ hLp hDf hb1 B01 B21 hW1 hEn;obtain⟨out,rf,D,B,a1,a2,a3,a4,⟨v0,v1,v2,v3,a5⟩,a6⟩:=HA.out.all;obtain⟨w6,kF,hrun⟩:∃w6,w6=w5.putObj (w3.heap.size+1) (.loop {jl fn (⟨(.slice bA bn bc::undef:: .slice none 0 0:: .int .i64 0:: .int .i64 0:: .pointer (some ⟨z,0,none⟩):: .pointer (some ⟨w2.heap.size,0,none⟩)::undef::undef::undef::undef:: .slice bA bn bc:: .agg #[.slice bA bn bc,.slice none 0 0,.int .i64 0,.bool false]:: .pointer (some ⟨p,0,none⟩):: .iface 35 (.pointer (some ⟨p,0,none⟩)):: .pointer (some ⟨z,0,none⟩):: .pointer (some ⟨z,0,none⟩):: .func (.func 47) #[] #[.pointer (some ⟨w2.heap.size+1,0,none⟩)]::undef::undef::undef::undef::undef::undef::undef::undef::undef::undef::undef::undef::undef::undef::undef::undef::undef::undef:: []).toArray,[]⟩:Act).tmps w3.heap.size with state:= .exhausted})∧(Instr.endLoop (w3.heap.size+1)).run prog w5= .ok none w6:=⟨_,rfl,run_endLoop a3.loop (by simp [jl])⟩;obtain⟨ds,hds⟩:∃ds:List Deferred,ds= [{target:= .collected w3.heap.size,args:= #[]}]:=⟨_,rfl⟩;refine⟨none,w6,hrun,?_⟩;have We:ag (fun b=>b=w3.heap.size+1) w5 w6:=by rw [kF];exact iy _ _ _
 obtain⟨ov,us,hbx,kN⟩:=a3.col;obtain⟨oA,oc,rfl,ho1,ho2⟩:=ay kN.own;have SA:Boxed w6 w2.heap.size 37 (.slice oA out.length oc):=(We.block w2.heap.size hbx.lt (by omega)).trans hbx;have hblk6:ai w6 z 150 #[v0,v1,v2,v3,.int .i64 rf.err,.int .i64 (rf.bad:Nat)]:=a5.chg We (by omega);have hD6:w6.heap[w3.heap.size]? =some (.deferred (some [])):=(We.block w3.heap.size (Array.getElem?_eq_some_iff.1 a3.dfd).1 (by omega)).trans a3.dfd;have iW:=aa We;have ab1:=aa SA;have Wh:=aa hblk6;have HD6:=aa hD6;have Px:=aa kN;have HDS:=aa hds;have c0:=SA.cell;have HAA:=aa (And.intro a1 (And.intro a2 (And.intro a6 a4)));have SC:=aa (And.intro s3 (And.intro hz1 (And.intro hz2 (And.intro hpl hs1))));clear hrun kF We hbx kN ho1 ho2 SA hblk6 hD6 a1 a2 a3 a4 a5 a6 s3 hz1 hz2 hpl hs1;show Exit.inBlock 0 _ .normal ⟨_,[{target:= .collected w3.heap.size,args:= #[]}]⟩ w6;rw [←hds];clear hds
 have Wi:Hid (∀(wf:World) (Y:Nat→Prop),ag Y w6 wf→(∀b,Y b→b=w3.heap.size)→V9 bs w (.returned (.tuple #[if rf.err=0 then .slice oA out.length oc else .slice none 0 0,.int .i64 rf.err,.int .i64 (if rf.err=0 then 0 else(rf.bad:Nat):Nat)])) wf):=aa (fun wf Y hc hY=>by
  obtain⟨b1,b2,b6,b4⟩:=HAA.out;obtain⟨n3,nz1,nz2,npl,ns1⟩:=SC.out;have hC:ag (fun b=>b=w3.heap.size+1∨Y b) (w5:World) wf:=(iW.out.mono (T:=fun b=>b=w3.heap.size+1∨Y b) (fun b _ e=> .inl e)).trans hc (fun b _ e=> .inr e);have hA:=HA.out.chg;have hs5:ws.heap.size≤w5.heap.size:=Nat.le_trans Pw.size hA.size;have hs6:=iW.out.size;have hw:=ek.out.size;have hp1:=HP1.out
  have hYn:∀b,(b=w3.heap.size+1∨Y b)→w2.heap.size≤b∧b<W1.heap.size:=fun b e=>by
   rcases e with e|e
   ·omega
   ·have:=hY b e;omega
  have hbl:Below w.heap.size w wf:=by
   have q:ag (fun b=>b=p∨ws.heap.size≤b) ws wf:=((ag.of_below (S:=fun b=>b=p∨ws.heap.size≤b) Pw).trans hA (fun b hb e=>by
    rcases e with e|e|e|e
    ·omega
    ·omega
    ·exact .inl e
    ·omega)).trans hC (fun b hb e=>by have:=hYn b e;exact .inr (by omega))
   exact ek.out.trans (q.below_of hw (fun b hb e=>by omega))
  by_cases he:rf.err=0
  ·refine⟨out,rf,oA,out.length,oc,b1,b2,by rw [if_pos he],fun _=> ?_,hbl⟩
   exact(Px.chg hC (fun g hg e=>by have h1:=(ah Px.own g hg).1;have:=hYn g e;omega) (fun b hb e=>by have h1:=b4 b (Px.sub b hb).1;have:=hYn b e;omega)).ents rfl (Nat.le_trans hw (Nat.le_trans Pw.size (Nat.le_refl _))) (fun b hb=>Nat.le_trans hw (Nat.le_trans Pw.size (b4 b (Px.sub b hb).1)))
  ·exact⟨out,rf,none,0,0,b1,b2,by rw [if_neg he],fun h=>absurd h he,hbl⟩)
 clear HAA
 by_cases he:rf.err=0
 ·have HE:=aa he;have hf:=Wh.out;rw [he] at hf;have QA:=aa hf;clear he hf;go_wp2_with (go_at_call 26;go_loud (refine(rC z v0 v1 v2 v3 0 (rf.bad:Nat) w6 QA).mono ?_);rintro e w7 ⟨rfl,nk,rfl⟩;have c7:(w6.drewN nk).cell? ⟨w2.heap.size,0,none⟩=some (.slice oA out.length oc):=ab1.out.cell)
  rw [HDS.out];refine⟨by simp,.inl ⟨_,_,rfl,run_takeDeferred (show(w6.drewN nk).heap[w3.heap.size]? =some (.deferred (some [])) from HD6),?_⟩⟩;refine⟨_,results_tmp3 rfl _ _ _,?_⟩;rw [HR.out];have h1:=Wi.out ((w6.drewN nk).putObj w3.heap.size (.deferred none)) (fun b=>b=w3.heap.size) (((ag.refl (fun b=>b=w3.heap.size) w6).drewN nk).trans (iy _ _ _) (fun b _ e=>e)) (fun b e=>e);rw [if_pos HE.out,if_pos HE.out,HE.out] at h1
  exact h1
 ·have HE:=aa he;go_wp2_with (go_at_call 26;go_loud (refine(rC z v0 v1 v2 v3 rf.err (rf.bad:Nat) w6 Wh).mono ?_);rintro e w7 ⟨rfl,nk,rfl⟩)
  rw [HDS.out];refine⟨by simp,.inl ⟨_,_,rfl,run_takeDeferred (show(w6.drewN nk).heap[w3.heap.size]? =some (.deferred (some [])) from HD6),?_⟩⟩;refine⟨_,results_tmp3 rfl _ _ _,?_⟩;rw [HR.out];have h1:=Wi.out ((w6.drewN nk).putObj w3.heap.size (.deferred none)) (fun b=>b=w3.heap.size) (((ag.refl (fun b=>b=w3.heap.size) w6).drewN nk).trans (iy _ _ _) (fun b _ e=>e)) (fun b e=>e);rw [if_neg HE.out,if_neg HE.out] at h1;exact h1
end
end Go.Proofs.YtbjgeidjmhialaaGreatDoor
