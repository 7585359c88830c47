/- Part 34. -/
import Derived.Test.YtepgcjbhabnciaaGreatLp33
namespace Go.Proofs.YtepgcjbhabnciaaGreat
set_option maxRecDepth 100000
set_option maxHeartbeats 8000000
open Go.Proofs.Tryz Go.RowKit
open Go.Lib (compareBytes)
variable {T x u1 y B J s u u7 k u9 L E O W Z U G f C I M P V d l z D m r j g u33 u34 i h b u38 N u40 R u42 X u44 u45 u46 v u48 u49 H u51 v0 v1 v2 v3 v4 u6 u8 u16 u25 u28 u29 u30 u32 u36 dP u53 F u55 S dZ u59 u60 fw fJ u26 u37 dG u63 u64 gm u66 gH u68 u69 u70:Value} {p n c q cv:Nat} {nd lf inn fl bl:Int} {w w':World} {Y us:List Value} {A Ak:Option Addr} {Q:Exit->Act->World->Prop}
section
def bV (nd lf inn fl bl:Int) (l:List aR):Int×Int:=
 if¬bq nd lf inn fl bl then(1,0) else if(bB l).2≠0 then((bB l).2,(bB l).1) else((aT nd lf inn fl bl l.length).2,0)
def M4 (w:World) (nodes:Int) (E:Int×Int) (t:List aX×Int) (e:Ending) (w':World):Prop:=
 ∃a,e= .returned (.tuple #[a,(E.1:Int),(E.2:Int)])/\Below w w w'/\((E.1≠0/\a= .pointer none)\/(E.1=0/\∃p,a= .pointer (some ⟨p,0,none⟩)/\pG w' (From w.heap.size) p nodes t.1 t.2))
section
variable (nd lf inn fl bl:Int) (A:Option Addr) (n c:Nat) (F:Nat->Prop) (l:List aR) (w:World)
theorem Jo (h:dh w F A n l) (j:n<=c) (t:c<=maxLen) (hn:n<=1152921504606) (d:∀e∈l,e.1.length<=1152921504606/\e.2.length<=1152921504606):
  Calls prog 69 #[.agg #[nd,lf,inn,fl,bl],.slice A n c] w (M4 w nd (bV nd lf inn fl bl l) (aY fl.toNat inn.toNat l)):=by
 have hl:=h.len
 by_cases hc:bq nd lf inn fl bl
 ·by_cases k:(bB l).2=0
  ·have q:bB l=(0,0):=by rw [ww ((rE l).1 k)]
   by_cases g:(aT nd lf inn fl bl n).2=0
   ·have e:bV nd lf inn fl bl l=(0,0):=by unfold bV;rw [if_neg (by simpa using hc),if_neg (by simpa using k),<-hl,g]
    rw [e];have b:=hc;obtain⟨c1,y,z,B,C,D,E,G,H,v⟩:=hc;obtain⟨i,rfl⟩:∃i:Nat,inn=i:=⟨inn.toNat,by omega⟩;obtain⟨f,rfl⟩:∃f:Nat,fl=f:=⟨fl.toNat,by omega⟩;have m:=g;rw [fU b (by omega)] at g;have x:aY f i l=kJ f i l:=CG (nd:=nd) (by omega) (by omega) (by rw [<-hl];exact g);simp only [Int.toNat_natCast];rw [x]
    rcases Nat.eq_zero_or_pos n with s|s
    ·subst s;have o:l= []:=List.eq_nil_of_length_eq_zero hl.symm;subst o;refine(Kg c h b m).mono ?_;rintro r w' ⟨p,rfl,u,a⟩
     exact⟨_,rfl,a,.inr ⟨rfl,p,rfl,by simpa [kJ] using u⟩⟩
    ·refine(G8 c h j t hn s d b q m).mono ?_;rintro r w' ⟨p,rfl,u,a⟩
     exact⟨_,rfl,a,.inr ⟨rfl,p,rfl,u⟩⟩
   ·have e:bV nd lf inn fl bl l=((aT nd lf inn fl bl n).2,0):=by unfold bV;rw [if_neg (by simpa using hc),if_neg (by simpa using k),<-hl]
    rw [e];refine(G9 c h hn d hc q g).mono ?_;rintro r w' ⟨rfl,a⟩
    exact⟨_,rfl,a,.inl ⟨g,rfl⟩⟩
  ·have e:bV nd lf inn fl bl l=((bB l).2,(bB l).1):=by unfold bV;rw [if_neg (by simpa using hc),if_pos (by simpa using k)]
   rw [e];refine(Kh c h hn d hc k).mono ?_;rintro r w' ⟨rfl,a⟩
   exact⟨_,rfl,a,.inl ⟨k,rfl⟩⟩
 ·have e:bV nd lf inn fl bl l=(1,0):=by unfold bV;rw [if_pos (by simpa using hc)]
  rw [e];refine(Ki nd lf inn fl bl A n c w hc).mono ?_;rintro r w' ⟨rfl,a⟩;exact⟨_,rfl,a,.inl ⟨by decide,rfl⟩⟩
end
theorem VU {nd:Int} {inn:Nat} (a:1<=inn) (hi:inn<=64):∀(f:Nat) (lev:Int) (sl:List aX) (b:List Nd),(lv nd inn f (b.length:Int) (sl.length:Int)).2=0->(∀s∈sl,Small s.2/\s.1=2)->(∀s∈b,Small s)->
  (∀s∈(wH inn f lev sl b).1,Small s.2/\s.1=2)/\((wH inn f lev sl b).1.length:Int)<=nd:=by
 intro f
 induction f with
 |zero=>intro lev sl b h;simp [lv] at h
 |succ f n=>
  intro lev sl b h l hl
  have k:¬nd-(sl.length:Int)<(b.length:Int):=by
   intro m;rw [ja m] at h;simp at h
  have g:∀s∈sl++(List.range b.length).map (il b ((sl.length:Int)+1)),Small s.2/\s.1=2:=by
   intro s e
   rcases List.mem_append.1 e with e|e
   ·exact l s e
   ·obtain⟨i,j,rfl⟩:=List.mem_map.1 e;have:=hl _ (Ha (d:=Nd.zero) (show i<b.length by simpa using j));exact⟨⟨this.1,this.2.1,this.2.2.1,this.2.2.2.1,this.2.2.2.2.1,this.2.2.2.2.2⟩,rfl⟩
  by_cases c:b.length=1
  ·rw [wH,if_pos c]
   exact⟨g,by simp;omega⟩
  ·rw [wH,if_neg c];rw [oG k (by omega),<-ik b.length inn a] at h
   refine n (lev+1) _ _ ?_ g ?_
   ·simp only [mq,List.length_map,List.length_range,Int.natCast_add]
    exact h
   ·intro s e;obtain⟨i,_,rfl⟩:=List.mem_map.1 e;exact uN hi hl _ _ i
theorem DI {nd lf bl:Int} {inn fill:Nat} {l:List aR} (hc:bq nd lf inn fill bl) (d:∀e∈l,e.1.length<=1152921504606/\e.2.length<=1152921504606) (b:(aT nd lf inn fill bl l.length).2=0):
  (aY fill inn l).1.length<=65536/\(∀s∈(aY fill inn l).1,Small s.2)/\∀s∈(aY fill inn l).1,0<=s.1/\s.1<=4611686018427387904/\s.1%2=0:=by
 rw [fU hc (by omega)] at b;obtain⟨c1,h,j,k,m,n,o,p,q,g⟩:=hc;rw [CG (nd:=nd) (by omega) (by omega) b];unfold kJ
 by_cases hl:l= []
 ·rw [if_pos hl]
  refine⟨by simp,fun s a=> ?_,fun s a=> ?_⟩
  ·have:s=(0,Nd.zero):=by simpa using a
   subst this
   exact⟨by simp [Nd.zero],by simp [Nd.zero],by simp [Nd.zero],by simp [Nd.zero],by simp [Nd.zero],by simp [Nd.zero]⟩
  ·have:s=(0,Nd.zero):=by simpa using a
   subst this
   decide
 ·rw [if_neg hl];have c:(bW fill l).length=pn l.length fill:=by simp [bW]
  obtain⟨f,r⟩:=VU (nd:=nd) (inn:=inn) (by omega) (by omega) 32 0 [] (bW fill l) (by rw [c,ik _ _ (by omega)];exact b) (by simp) (fun s a=>by obtain⟨i,_,rfl⟩:=List.mem_map.1 a;exact wZ (by omega) d i);exact⟨by omega,fun s a=>(f s a).1,fun s a=>by have:=(f s a).2;omega⟩
theorem BX {nd lf inn fl bl:Int} {l:List aR} (h:(bV nd lf inn fl bl l).1=0):bq nd lf inn fl bl/\(aT nd lf inn fl bl l.length).2=0:=by
 unfold bV at h
 by_cases hc:bq nd lf inn fl bl
 ·rw [if_neg (by simpa using hc)] at h
  by_cases a:(bB l).2=0
  ·rw [if_neg (by simpa using a)] at h;exact⟨hc,h⟩
  ·rw [if_pos (by simpa using a)] at h;exact absurd h a
 ·rw [if_pos (by simpa using hc)] at h;cases h
end
section
def Bd (w:World) (T:TypeId) (F In:Nat->Prop) (p:Nat) (nd lf inn fl bl:Int) (l:List aR):Prop:=
 ∃A n c us,F p/\(∀b,F b->b<w)/\T≠69/\ak w p T #[nd,lf,inn,fl,bl,.slice A n c]/\w.ownsRow 0 69 2 (.slice A n c) n us/\(∀g,(Value.slice A n c).ownBlock=some g->F g)/\Hid (n=l.length)/\
  ∀(i:Nat) (e:aR),l[i]? =some e->∃u v,us[2*i]? =some u/\us[2*i+1]? =some v/\SB w (fun b=>(F b\/In b)/\(Value.slice A n c).ownBlock≠some b/\b≠p) u e.1/\SB w (fun b=>(F b\/In b)/\(Value.slice A n c).ownBlock≠some b/\b≠p) v e.2
section
variable {S F In:Nat->Prop} {w w':World} {T:TypeId} {p:Nat} {nd lf inn fl bl:Int} {l:List aR}
theorem Bd.chg (h:Bd w T F In p nd lf inn fl bl l) (hc:ag S w w') (Q:∀b,F b->¬S b) (hi:∀b,In b->¬S b):Bd w' T F In p nd lf inn fl bl l:=by
 obtain⟨A,n,c,us,f,k,m,o,q,j,r,s⟩:=h;refine⟨A,n,c,us,f,fun b d=>mU (k b d) hc.size,m,o.chg hc (Q _ f),aB q hc (fun g x=>Q g (j g x)),j,r,fun i e t=> ?_⟩;obtain⟨u,v,a,b,y,z⟩:=s i e t;exact⟨u,v,a,b,y.chg hc (fun b d=>d.1.elim (Q b) (hi b)),z.chg hc (fun b d=>d.1.elim (Q b) (hi b))⟩
theorem Bd.below (h:Bd w T F In p nd lf inn fl bl l) (o:Below w w w'):Bd w' T F In p nd lf inn fl bl l:=h.chg (S:=Nil) (ag.of_below o) (fun _ _ h=>h) (fun _ _ h=>h)
theorem Bd.empty (h:Bd w T F In p nd lf inn fl bl l):Bd (w.setCell ⟨p,5,none⟩ ()) T F In p nd lf inn fl bl []:=by
 obtain⟨A,n,c,us,a,d,f,j,q,r,s,t⟩:=h;exact⟨none,0,0,[],a,fun b k=>by simpa [World.setCell] using d b k,f,j.set_ 5 _,World.ownsRow_nil _ _ _ _,fun g o=>by simp [Value.ownBlock] at o,rfl,fun i e m=>by simp at m⟩
theorem Bd.push {wa w2:World} {A:Option Addr} {n c:Nat} {us:List Value} {v2 u v:Value} {e:aR} (z:F p) (H:∀b,F b->b<w) (I:T≠69) (J:ak w p T #[nd,lf,inn,fl,.int .i64 bl,.slice A n c]) (K:w.ownsRow 0 69 2 (.slice A n c) n us) (L:∀g,(Value.slice A n c).ownBlock=some g->F g) (B:Hid (n=l.length))
  (P:∀(i:Nat) (e:aR),l[i]? =some e->∃u v,us[2*i]? =some u/\us[2*i+1]? =some v/\SB w (fun b=>(F b\/In b)/\(Value.slice A n c).ownBlock≠some b/\b≠p) u e.1/\SB w (fun b=>(F b\/In b)/\(Value.slice A n c).ownBlock≠some b/\b≠p) v e.2)
  (d:Below w.heap.size w wa) (D:w2.ownsRow 0 69 2 v2 (n+1) (us++ [u,v])) (M:wa.grownBy w2 (Value.slice A n c).ownBlock) (m:v2.ownBlock=(Value.slice A n c).ownBlock\/v2.ownBlock=some wa.heap.size)
  (X:SB wa (fun b=>(F b\/In b\/w.heap.size<=b)/\(Value.slice A n c).ownBlock≠some b/\b≠p) u e.1) (hv:SB wa (fun b=>(F b\/In b\/w.heap.size<=b)/\(Value.slice A n c).ownBlock≠some b/\b≠p) v e.2) (_Q:∀b,In b->b<w.heap.size):
  Bd (w2.setCell ⟨p,5,none⟩ v2) T (Grown F w (w2.setCell ⟨p,5,none⟩ v2)) In p nd lf inn fl bl (l++ [e])/\ag F w (w2.setCell ⟨p,5,none⟩ v2):=by
 have s:(Value.slice A n c).ownBlock≠some p:=fT K J (fun e=>I e.symm);have o:ag (fun b=>(Value.slice A n c).ownBlock=some b) wa w2:=ag.of_grown M;have ab:=d.size;have Z:=M.size;have W:=H p z;have E:v2.ownBlock≠some p:=fun e=>m.elim (fun j=>s (j▸e)) (fun j=>by rw [j] at e;injection e with e;omega);have q:ag F w (w2.setCell ⟨p,5,none⟩ v2):=((ag.of_below (S:=F) d).trans o (fun b _ h=>L b h)).setCell (p:=⟨p,5,none⟩) (fun _=>z) v2;have t:(w2.setCell ⟨p,5,none⟩ v2).heap.size=w2.heap.size:=by simp [World.setCell]
 have r:∀b,b<wa.heap.size->v2.ownBlock=some b->(Value.slice A n c).ownBlock=some b:=fun b R e=>m.elim (fun j=>j▸e) (fun j=>by rw [j] at e;injection e with e;omega)
 have k:∀(x:Value) (bs:List UInt8),SB wa (fun b=>(F b\/In b\/w.heap.size<=b)/\(Value.slice A n c).ownBlock≠some b/\b≠p) x bs->SB (w2.setCell ⟨p,5,none⟩ v2) (fun b=>(Grown F w (w2.setCell ⟨p,5,none⟩ v2) b\/In b)/\v2.ownBlock≠some b/\b≠p) x bs:=by
  intro x bs hx;have G:=((hx.lt.chg o (fun b d e=>d.1.2.1 e)).chg (ag.set1 w2 p 5 v2) (fun b d e=>d.1.2.2 e));refine G.weak (fun b d=>⟨?_,fun e=>d.1.2.1 (r b d.2 e),d.1.2.2⟩)
  rcases d.1.1 with h|h|h
  ·exact .inl (.inl h)
  ·exact .inr h
  ·exact .inl (.inr ⟨h,by rw [t];have:=d.2;omega⟩)
 have Y:us.length=n*2:=K.1;refine⟨?_,q⟩;obtain⟨N,O,rfl,_,_⟩:=ax D
 refine⟨N,n+1,O,us++ [u,v],.inl z,fun b d=>d.elim (fun h=>Nat.lt_of_lt_of_le (H b h) q.size) (fun h=>h.2),I,?_,?_,?_,aa (by have:=B.out;simp [this]),?_⟩
 ·exact((J.below d).chg o s).set_ 5 _
 ·exact aB D (ag.set1 w2 p 5 _) (fun g f e=>E (by rw [f,show g=p from e]))
 ·intro g f
  rcases m with j|j
  ·exact .inl (L g (j▸f))
  ·rw [j] at f;injection f with f
   have:=(ah D g (by rw [j,f])).2
   exact .inr ⟨by omega,by rw [t];exact this⟩
 ·intro i j hi
  rcases Nat.lt_or_ge i l.length with hl|hl
  ·rw [qK hl] at hi;obtain⟨x,y,a,b,G,s2⟩:=P i j hi;have U:i<n:=by have:=B.out;omega
   refine⟨x,y,by rw [qK (by omega)];exact a,by rw [qK (by omega)];exact b,k x _ ((G.below d).weak (fun b d=>⟨d.1.imp id .inl,d.2⟩)),k y _ ((s2.below d).weak (fun b d=>⟨d.1.imp id .inl,d.2⟩))⟩
  ·rw [q9 hl] at hi;have C:i=l.length:=by have:=(nE.1 hi).1;simp at this;omega
   subst C;simp at hi;subst hi;have V:=B.out
   refine⟨u,v,?_,?_,k u _ X,k v _ hv⟩
   ·rw [q9 (by omega),show 2*l.length-us.length=0 by omega];rfl
   ·rw [q9 (by omega),show 2*l.length+1-us.length=1 by omega];rfl
end
def iH (nd lf inn fl bl:Int) (l:List aR) (e:aR):Int:=
 if jf e≠0 then jf e else if 0<l.length/\0<=compareBytes (l.getD (l.length-1) ([],[])).1 e.1 then 51 else(aT nd lf inn fl bl ((l.length+1:Nat):Int)).2
def vG (nd lf inn fl bl:Int) (l:List aR) (e:aR):List aR:=if iH nd lf inn fl bl l e=0 then l++ [e] else l
theorem gP {nd lf inn fl bl:Int} {l:List aR}:(bV nd lf inn fl bl l).1=0↔bq nd lf inn fl bl/\bY l/\(aT nd lf inn fl bl l.length).2=0:=by
 unfold bV
 by_cases hc:bq nd lf inn fl bl
 ·rw [if_neg (by simpa using hc)]
  by_cases a:(bB l).2=0
  ·rw [if_neg (by simpa using a)];exact⟨fun h=>⟨hc,(rE l).1 a,h⟩,fun h=>h.2.2⟩
  ·rw [if_pos (by simpa using a)];exact⟨fun h=>absurd h a,fun h=>absurd ((rE l).2 h.2.1) a⟩
 ·rw [if_pos (by simpa using hc)];exact⟨fun h=>(by cases h),fun h=>absurd h.1 hc⟩
theorem I9 {nd lf inn fl bl:Int} (hc:bq nd lf inn fl bl):(bV nd lf inn fl bl []).1=0:=by
 rw [gP];refine⟨hc,fun j a=>by simp at a,?_⟩;rw [fU hc (by simp)];have b:=hc.1;rw [show(([]:List aR).length:Int)=0 by rfl,show parts 0 fl=1 by unfold parts;simp,Dk (by omega) rfl]
theorem FC {l:List aR} {e:aR} (h:bY l) (f:jf e=0) (i:¬(0<l.length/\0<=compareBytes (l.getD (l.length-1) ([],[])).1 e.1)):bY (l++ [e]):=by
 intro j g
 rcases Nat.lt_or_ge j l.length with hl|hl
 ·have:=h j hl;unfold fO at this|-;have a:(l++ [e]).getD j ([],[])=l.getD j ([],[]):=by rw [List.getD_eq_getElem?_getD,List.getD_eq_getElem?_getD,qK hl]
  have b:(l++ [e]).getD (j-1) ([],[])=l.getD (j-1) ([],[]):=by rw [List.getD_eq_getElem?_getD,List.getD_eq_getElem?_getD,qK (by omega)]
  rw [a,b];exact this
 ·have c:j=l.length:=by simp at g;omega
  subst c;unfold fO;have a:(l++ [e]).getD l.length ([],[])=e:=by rw [List.getD_eq_getElem?_getD,q9 jO];simp
  rw [a,if_neg (by simpa using f)]
  by_cases d:0<l.length
  ·have b:(l++ [e]).getD (l.length-1) ([],[])=l.getD (l.length-1) ([],[]):=by rw [List.getD_eq_getElem?_getD,List.getD_eq_getElem?_getD,qK (by omega)]
   rw [b,if_neg (fun h=>i ⟨d,h.2⟩)]
  ·rw [if_neg (fun h=>d h.1)]
theorem LJ {nd lf inn fl bl:Int} {l:List aR} {e:aR} (h:(bV nd lf inn fl bl l).1=0):(bV nd lf inn fl bl (vG nd lf inn fl bl l e)).1=0:=by
 unfold vG
 by_cases a:iH nd lf inn fl bl l e=0
 ·rw [if_pos a];obtain⟨d,f,g⟩:=gP.1 h;unfold iH at a
  by_cases b:jf e=0
  ·rw [if_neg (by simpa using b)] at a
   by_cases c:0<l.length/\0<=compareBytes (l.getD (l.length-1) ([],[])).1 e.1
   ·rw [if_pos c] at a;cases a
   ·rw [if_neg c] at a
    exact gP.2 ⟨d,FC f b c,by rw [mq,List.length_singleton];exact a⟩
  ·rw [if_pos (by simpa using b)] at a;exact absurd a b
 ·rw [if_neg a];exact h
end
section
section
variable (nd lf inn fl bl:Int)
def gU:List aR->List aR->List aR×Int
 |l,[]=>(l,0)
 |l,e::a=>if iH nd lf inn fl bl l e=0 then gU (l++ [e]) a else(l,iH nd lf inn fl bl l e)
structure bM where
 rdr:dM
 ents:List aR
 done:Bool
 tree:Option (List aX×Int)
 err:Int
 bad:Nat
def bM.took (m:bM) (l:List aR) (r:dM):bM:=
 if(gU nd lf inn fl bl m.ents l).2=0 then{m with rdr:=r,ents:=(gU nd lf inn fl bl m.ents l).1}
 else{m with rdr:=r,ents:=(gU nd lf inn fl bl m.ents l).1,done:=true,err:=(gU nd lf inn fl bl m.ents l).2,bad:=(r.rows.getLast?.getD ⟨[],0,0,0⟩).at_}
def bM.ends (m:bM) (r:dM):bM:=
 {m with rdr:=r,done:=true,err:=r.err,bad:=r.bad,tree:=if r.err=0 then some (aY fl.toNat inn.toNat m.ents) else none}
def bM.step (m:bM):bM:=
 if m.done=true then m else match m.rdr.next.1 with
  |none=>m.ends inn fl m.rdr.next.2
  |some l=>m.took nd lf inn fl bl l m.rdr.next.2
structure bM.Ok (K:Nat) (m:bM):Prop where
 rdr:m.rdr.Ok K
 go:m.done=false->m.rdr.st≠2/\m.rdr.err=0/\m.err=0/\m.bad=0/\m.tree=none
 bld:(bV nd lf inn fl bl m.ents).1=0
 tr:∀t,m.tree=some t->∃l,t=aY fl.toNat inn.toNat l/\(bV nd lf inn fl bl l).1=0
end
variable {nd lf inn fl bl:Int}
theorem tV {l:List aR} (h:(bV nd lf inn fl bl l).1=0):l.length<=4194304:=by
 obtain⟨hc,_,hn⟩:=gP.1 h;have a:=hc;unfold bq at a;obtain⟨f,rfl⟩:∃f:Nat,fl=f:=⟨fl.toNat,by omega⟩;rw [fU hc (by omega)] at hn;have c:¬nd-0<parts (l.length:Int) f:=fun h=>by rw [ja h] at hn;exact absurd hn (by decide)
 by_cases i:l.length=0
 ·omega
 ·have d:=ik l.length f (by omega);have e:=(iU l.length f (by omega) (by omega)).1;have b:pn l.length f<=65536:=by omega
  have g:pn l.length f*f<=65536*64:=Nat.mul_le_mul b (by omega);omega
theorem lh {l:List aR} (h:(bV nd lf inn fl bl l).1=0):∀_e∈l,_e.1.length<=64/\_e.2.length<=256:=fun _e a=>(dB (gP.1 h).2.1 a).2
theorem VM {l:List aR} {e:aR} (h:(bV nd lf inn fl bl l).1=0) (a:iH nd lf inn fl bl l e=0):(bV nd lf inn fl bl (l++ [e])).1=0:=by
 have:=LJ (e:=e) h;unfold vG at this;rwa [if_pos a] at this
theorem vW {l:List aR} (h:(bV nd lf inn fl bl l).1=0):∀a,(bV nd lf inn fl bl (gU nd lf inn fl bl l a).1).1=0
 | []=>h
 |e::a=>by
  unfold gU
  split
  ·rename_i b;exact vW (VM h b) a
  ·exact h
theorem vP {l a:List aR} {i:Nat} {e:aR} (h:a[i]? =some e):gU nd lf inn fl bl l (a.drop i)=if iH nd lf inn fl bl l e=0 then gU nd lf inn fl bl (l++ [e]) (a.drop (i+1)) else(l,iH nd lf inn fl bl l e):=by
 obtain⟨hi,rfl⟩:=nE.1 h;rw [List.drop_eq_getElem_cons hi];rfl
theorem bM.step_ok {K:Nat} {m:bM} (h:m.Ok nd lf inn fl bl K):(m.step nd lf inn fl bl).Ok nd lf inn fl bl K:=by
 obtain⟨b,g⟩:=dM.next_ok h.rdr;unfold bM.step
 split
 ·exact h
 ·rename_i e;have f:=h.go (by simpa using e)
  split
  ·refine⟨b,fun h=>by simp [bM.ends] at h,h.bld,fun t a=> ?_⟩;unfold bM.ends at a
   by_cases d:m.rdr.next.2.err=0
   ·simp only [if_pos d] at a;injection a with a
    exact⟨_,a.symm,h.bld⟩
   ·simp only [if_neg d] at a
    cases a
  ·rename_i l hl;have c:=g l hl;unfold bM.took
   split
   ·exact⟨b,fun _=>⟨by rw [c.st];decide,b.err (by rw [c.st];decide),f.2.2⟩,vW h.bld _,h.tr⟩
   ·exact⟨b,fun h=>by simp at h,vW h.bld _,h.tr⟩
theorem bM.step_at {K:Nat} {m:bM} (h:m.Ok nd lf inn fl bl K) (c:m.done=false) (hn:(m.step nd lf inn fl bl).done=false):m.rdr.cur.at_<(m.step nd lf inn fl bl).rdr.cur.at_/\(m.step nd lf inn fl bl).rdr.cur.at_<=1152921504606:=by
 obtain⟨g,e⟩:=dM.next_ok h.rdr;have b:=bM.step_ok h;have d:=b.go hn;have f:=(b.rdr.cur d.1).sum;refine⟨?_,by omega⟩;unfold bM.step at hn|-;rw [if_neg (by simp [c])] at hn|-
 split at hn
 ·simp [bM.ends] at hn
 ·rename_i l hl;have a:=e l hl;unfold bM.took
  split
  ·exact a.at_
  ·exact a.at_
theorem bM.step_done {m:bM} (h:m.done=true):m.step nd lf inn fl bl=m:=by unfold bM.step;rw [if_pos h]
end
def Bc (p:Nat) (nd lf inn fl bl:Int) (x:Value) (w:World):Prop:=w.cell? p=some (.int .i64 nd)/\w.cell? ⟨p,1,none⟩=some (.int .i64 lf)/\w.cell? ⟨p,2,none⟩=some (.int .i64 inn)/\w.cell? ⟨p,3,none⟩=some (.int .i64 fl)/\w.cell? ⟨p,4,none⟩=some (.int .i64 bl)/\w.cell? ⟨p,5,none⟩=some x
theorem BM {T:TypeId} (h:ak w p T #[nd,lf,inn,fl,bl,x]):Bc p nd lf inn fl bl x w:=⟨by rw [h.cell];rfl,by rw [h.cell];rfl,by rw [h.cell];rfl,by rw [h.cell];rfl,by rw [h.cell];rfl,by rw [h.cell];rfl⟩
theorem Bc.below (h:Bc p nd lf inn fl bl x w) (o:Below w w w'):Bc p nd lf inn fl bl x w':=⟨aj o h.1,aj o h.2.1,aj o h.2.2.1,aj o h.2.2.2.1,aj o h.2.2.2.2.1,aj o h.2.2.2.2.2⟩
noncomputable def YI:Code:=aQ (f33.body.bind (aF 6))
theorem nodes (p:Nat) (nd lf inn fl bl:Int) (A:Option Addr) (n c:Nat) (w:World) (Q:Exit->Act->World->Prop) (kF:Hid (∀c t (a:Act) w,Q (.panic c) ⟨t,a.defers⟩ w->Q (.panic c) a w))
  (hc:bq nd lf inn fl bl) (hn:n<=1152921504606) (hb:Bc p nd lf inn fl bl (.slice A n c) w)
  (au:∀(v6 ab ac ad ae al am an ao ap aq ar aw aA aE:Value) (w':World),Below w w w'->Q .normal ⟨(.pointer (some ⟨p,0,none⟩)::u1::y::B::J::s::v6:: .int .i64 (aT nd lf inn fl bl ((n+1:Nat):Int)).2::k::u9::L::E::O::W::Z::U::G::f::C::I::M::P::V::d::l::z::D::m::r::T::j::g::x::u33::u34::i::h::b::ab::ac::ad::ae::al::am::an::ao::ap::aq::ar::aw::aA::aE::Y).toArray,[]⟩ w'):
  Code.wp prog YI Q ⟨(.pointer (some ⟨p,0,none⟩)::u1::y::B::J::s::u::u7::k::u9::L::E::O::W::Z::U::G::f::C::I::M::P::V::d::l::z::D::m::r::T::j::g::x::u33::u34::i::h::b::u38::N::u40::R::u42::X::u44::u45::u46::v::u48::u49::H::u51::Y).toArray,[]⟩ w:=by
 have dz:=aa au;have HC:=aa hc;have hw:=IntWalk.i64_in ((n:Int)+1) (by omega);obtain⟨NE,xX⟩:=gF (aT nd lf inn fl bl ((n+1:Nat):Int));rw [<-xX] at dz;have iq:=aa xX;have o:Bc p nd lf inn fl bl (.slice A n c) w.drew:=hb;clear au hc xX hb;conv=>arg 2;whnf
 refine aO (S:=Bc p nd lf inn fl bl (.slice A n c)) (by kernel_rfl) ?_;refine vT 0 o ?_;refine vT 1 o ?_;refine vT 2 o ?_;refine vT 4 o ?_;refine vT 5 o ?_;refine vT 6 o ?_;refine vT 3 o ?_;refine vT 7 o ?_;refine vT 8 o ?_;refine vT 9 o ?_;refine nZ 10 fun K hK=> ?_;go_simp;refine(P9 ((n:Int)+1) _ HC (by omega) (by omega)).mono ?_;rintro e w5 ⟨rfl,F⟩;rw [show((n:Int)+1)=((n+1:Nat):Int) by omega,<-iq.out];unfold rD;have q:=o.below F;refine hK.out _ _ q ?_;clear hK K;try simp only [aL,aN,aZ,aC]
 refine vT 11 q ?_;refine vT 12 q ?_;refine vT 13 q ?_;refine vT 14 q ?_;refine vT 15 q ?_;refine bf (by kernel_rfl) ?_ _;exact dz _ _ _ _ _ _ _ _ _ _ _ _ _ _ _ _ (mh.drew.trans F)
noncomputable def Uu:Code:=aQ (f37.body.bind (aF 6))
theorem Qa (kF:Hid (∀c t (a:Act) w,Q (.panic c) ⟨t,a.defers⟩ w->Q (.panic c) a w))
  (hc:bq nd lf inn fl bl) (hn:n<=1152921504606) (hb:Bc p nd lf inn fl bl (.slice A n c) w)
  (au:∀(H ab ac ad ae al am an ao ap aq ar aw aA:Value) (w':World),Below w w w'->Q .normal ⟨(.pointer (some ⟨p,0,none⟩)::u1::y::B::J:: .int .i64 (aT nd lf inn fl bl ((n+1:Nat):Int)).2::u::u7::k::u9::L::E::O::W::Z::U::G::f::C::I::M::P::V::d::l::z::D::m::r::T::j::g::x::u33::u34::i::H::ab::ac::ad::ae::al::am::an::ao::ap::aq::ar::aw::aA::Y).toArray,[]⟩ w'):
  Code.wp prog Uu Q ⟨(.pointer (some ⟨p,0,none⟩)::u1::y::B::J::s::u::u7::k::u9::L::E::O::W::Z::U::G::f::C::I::M::P::V::d::l::z::D::m::r::T::j::g::x::u33::u34::i::h::b::u38::N::u40::R::u42::X::u44::u45::u46::v::u48::u49::Y).toArray,[]⟩ w:=by
 have dz:=aa au;have HC:=aa hc;have hw:=IntWalk.i64_in ((n:Int)+1) (by omega);obtain⟨NE,xX⟩:=gF (aT nd lf inn fl bl ((n+1:Nat):Int));rw [<-xX] at dz;have iq:=aa xX;have o:Bc p nd lf inn fl bl (.slice A n c) w.drew:=hb;clear au hc xX hb;conv=>arg 2;whnf
 refine aO (S:=Bc p nd lf inn fl bl (.slice A n c)) (by kernel_rfl) ?_;refine vT 0 o ?_;refine vT 1 o ?_;refine vT 2 o ?_;refine vT 4 o ?_;refine vT 5 o ?_;refine vT 6 o ?_;refine vT 3 o ?_;refine vT 7 o ?_;refine vT 8 o ?_;refine vT 9 o ?_;refine nZ 10 fun K hK=> ?_;go_simp;refine(qi ((n:Int)+1) _ HC (by omega) (by omega)).mono ?_;rintro e w5 ⟨rfl,F⟩;rw [show((n:Int)+1)=((n+1:Nat):Int) by omega,<-iq.out];unfold rD;have q:=o.below F;refine hK.out _ _ q ?_;clear hK K;try simp only [aL,aN,aZ,aC]
 refine vT 11 q ?_;refine vT 12 q ?_;refine vT 13 q ?_;refine vT 14 q ?_;refine bf (by kernel_rfl) ?_ _;exact dz _ _ _ _ _ _ _ _ _ _ _ _ _ _ _ (mh.drew.trans F)
noncomputable def YJ:Code:=aQ (f33.body.bind (aF 9))
theorem LC (T:TypeId) {k:Option Addr} {z G r j:Nat} {D:Nat->Prop} {ea:aR} {Y:Value} (kF:Hid (∀c t (a:Act) w,Q (.panic c) ⟨t,a.defers⟩ w->Q (.panic c) a w))
  (HB:Hid (ak w p T #[v0,v1,v2,v3,v4,.slice A n c])) (HO:Hid (w.ownsRow 0 69 2 (.slice A n c) n us)) (hT:(Value.slice A n c).ownBlock≠some p) (hn:n<=1152921504606)
  (c1:w.cell? q=some (.slice Ak z G)) (c2:w.cell? ⟨q,1,none⟩=some (.slice k r j)) (ao:(Value.slice A n c).ownBlock≠some q)
  (HK:Hid (Bt w D Ak z G ea.1)) (HV:Hid (Bt w D k r j ea.2)) (l1:ea.1.length<=1152921504606) (l2:ea.2.length<=1152921504606)
  (au:∀(aw aA aE a0 a1 a2 a3 a4 a5 a6 a7 a8 a9 ba be bh:Value) (u v x:Value) (wa w2:World),Below w w wa->w2.ownsRow 0 69 2 x (n+1) (us++ [u,v])->wa.grownBy w2 (Value.slice A n c).ownBlock->(x.ownBlock=(Value.slice A n c).ownBlock\/x.ownBlock=some wa)->SB wa (From w) u ea.1->SB wa (From w) v ea.2->Q .normal ⟨(.pointer (some ⟨p,0,none⟩)::u1::y:: .pointer (some ⟨q,0,none⟩)::J::s::u6::Y::u8::u9::L::E::O::W::Z::U::u16::f::C::I::M::P::V::d::l::u25::u26::m::u28::u29::u30::g::u32::u33::u34::i::u36::u37::u38::N::u40::R::u42::X::u44::u45::u46::dG::u48::u49::H::u51::dP::u53::F::aw::aA::aE::a0::a1::a2::a3::a4::a5::a6::a7::a8::a9::ba::be::bh:: []).toArray,[]⟩ (w2.setCell ⟨p,5,none⟩ x)):
  Code.wp prog YJ Q ⟨(.pointer (some ⟨p,0,none⟩)::u1::y:: .pointer (some ⟨q,0,none⟩)::J::s::u6::Y::u8::u9::L::E::O::W::Z::U::u16::f::C::I::M::P::V::d::l::u25::u26::m::u28::u29::u30::g::u32::u33::u34::i::u36::u37::u38::N::u40::R::u42::X::u44::u45::u46::dG::u48::u49::H::u51::dP::u53::F::u55::S::dZ::B::u59::u60::fw::fJ::u63::u64::gm::u66::gH::u68::u69::u70:: []).toArray,[]⟩ w:=by
 obtain⟨i0,aq,iC,iD,iE⟩:=info_parts kW;have dz:=aa au;have bj:=HB.out.lt;have lk:z<=1152921504606:=by have:=HK.out.len;omega
 have lv:r<=1152921504606:=by have:=HV.out.len;omega
 have S0:w.drew.cell? ⟨p,5,none⟩=some (.slice A n c)/\w.drew.cell? q=some (.slice Ak z G)/\w.drew.cell? ⟨q,1,none⟩=some (.slice k r j):=⟨(HB.cell 5).trans rfl,c1,c2⟩;clear au l1 l2;conv=>arg 2;whnf
 refine aM (fun w'=>w'.cell? ⟨p,5,none⟩=some (.slice A n c)/\w'.cell? q=some (.slice Ak z G)/\w'.cell? ⟨q,1,none⟩=some (.slice k r j)) 16 (by kernel_rfl) ?_;refine uF 0 (fun _=>S0) ?_;refine uF 1 (fun _=>S0) ?_;refine uF 2 (fun _=>S0) ?_;refine uF 3 (fun _=>S0) ?_;refine uF 5 (fun _=>S0) ?_;refine uF 8 (fun _=>S0) ?_;refine uT 4 S0 ?_;refine uT 6 S0 ?_;refine uT 9 S0 ?_;refine mR 7 fun K hK=> ?_;go_simp;refine(eG G HK.2.2.2.drew HK.len lk).mono ?_;rintro e' w1 ⟨A1,n1,d1,rfl,p1,p2,p3,p4,ae⟩;have LD:=aa (show SB w1 (From w) (.slice A1 n1 d1) ea.1 from⟨_,_,_,rfl,p1,p2,p3,p4.weak (fun b hb=>hb.1)⟩);have al:Hid (Below w w w1):=aa (mh.drew.trans ae);have S1:w1.cell? ⟨p,5,none⟩=some (.slice A n c)/\w1.cell? q=some (.slice Ak z G)/\w1.cell? ⟨q,1,none⟩=some (.slice k r j):=⟨aj ae S0.1,aj ae S0.2.1,aj ae S0.2.2⟩;clear p1 p2 p3 p4 ae;refine hK.out _ _ (fun _=>S1) ?_;clear hK K;try simp only [aL,aN,aZ,aC]
 refine mR 10 fun K hK=> ?_;go_simp;refine(eG j ((HV.below al).2.2.2) HV.len lv).mono ?_;rintro e' w2 ⟨A2,n2,d2,rfl,p1,p2,p3,p4,ab⟩;have ap:=al.out.size;have qh:=aa (show SB w2 (From w) (.slice A2 n2 d2) ea.2 from⟨_,_,_,rfl,p1,p2,p3,p4.weak (fun b hb=>ma ap hb.1)⟩);have an:Hid (Below w w w2):=aa (al.out.trans (ab.mono ap));have oO:=aa (LD.below ab);have S2:w2.cell? ⟨p,5,none⟩=some (.slice A n c)/\w2.cell? q=some (.slice Ak z G)/\w2.cell? ⟨q,1,none⟩=some (.slice k r j):=⟨aj ab S1.1,aj ab S1.2.1,aj ab S1.2.2⟩;clear p1 p2 p3 p4 ab;refine hK.out _ _ (fun _=>S2) ?_;clear hK K;try simp only [aL,aN,aZ,aC]
 refine uF 11 (fun _=>S2) ?_;refine mR 12 fun K hK=> ?_;go_simp;have ac:Below w2 w2 (w2.alloc (.cells #[.slice A1 n1 d1,.slice A2 n2 d2] 69)):=gV;have am:Hid (Below w w (w2.alloc (.cells #[.slice A1 n1 d1,.slice A2 n2 d2] 69))):=aa (an.out.trans (ac.mono an.size));have HU:=aa (oO.below ac);have HW:=aa (qh.below ac);have S3:(w2.alloc (.cells #[.slice A1 n1 d1,.slice A2 n2 d2] 69)).cell? ⟨p,5,none⟩=some (.slice A n c)/\(w2.alloc (.cells #[.slice A1 n1 d1,.slice A2 n2 d2] 69)).cell? q=some (.slice Ak z G)/\(w2.alloc (.cells #[.slice A1 n1 d1,.slice A2 n2 d2] 69)).cell? ⟨q,1,none⟩=some (.slice k r j):=⟨aj ac S2.1,aj ac S2.2.1,aj ac S2.2.2⟩;refine hK.out _ _ (fun _=>S3) ?_;clear hK K;try simp only [aL,aN,aZ,aC]
 refine mR 13 fun K hK=> ?_;refine aG _ rfl (.tmp 59) (.tmp 67) _ rfl 0 69 i0 _ 2 48 underlying58 aq iC iD iE rfl (by omega) (.slice A n c) n us rfl (own_below HO am) (From w2) (some ⟨w2,0,none⟩) 1 1 [.slice A1 n1 d1,.slice A2 n2 d2] rfl (Rd.two w2 _ _ _) (by intro u hu;simp at hu;rcases hu with hu|hu<;>subst hu<;>rfl) (by simp only [maxLen];omega) (by omega) (by omega) ?_;intro x w4 di ad gp;obtain⟨K4,IE,ar,_,_⟩:=ax di;subst ar;have jM:=aa di;have IX:=aa ad;have Af:=aa gp;have xO:w4.cell? ⟨p,5,none⟩=some (.slice A n c):=(ag.of_grown ad).cell hT S3.1;have YK:∀o,w4.frozen? ⟨p,o,none⟩=false:=((HB.below am).chg (ag.of_grown ad) hT).frozen;have S4:w4.cell? ⟨p,5,none⟩=some (.slice A n c)/\w4.cell? q=some (.slice Ak z G)/\w4.cell? ⟨q,1,none⟩=some (.slice k r j):=⟨xO,(ag.of_grown ad).cell ao S3.2.1,(ag.of_grown ad).cell ao S3.2.2⟩;clear di ad gp;refine rR hK (fun _=>S4) ?_;clear hK K;refine uF 14 (fun _=>S4) ?_;refine uF 15 (fun _=>S4) ?_;refine mR 16 fun K hK=> ?_;go_simp;refine hK.out _ _ (fun h=>absurd h (by decide)) ?_;clear hK K;try simp only [aL,aN,aZ,aC]
 refine bH (by kernel_rfl) ?_ _;exact dz _ _ _ _ _ _ _ _ _ _ _ _ _ _ _ _ _ _ _ _ w4 am jM IX Af HU HW
noncomputable def Uv:Code:=aQ (f37.body.bind (aF 8))
theorem Fe (T:TypeId) {j k:Option Addr} {z G r:Nat} {Y ea:Value} (kF:Hid (∀c t (a:Act) w,Q (.panic c) ⟨t,a.defers⟩ w->Q (.panic c) a w))
  (HB:Hid (ak w p T #[v0,v1,v2,v3,v4,.slice A n c])) (HO:Hid (w.ownsRow 0 69 2 (.slice A n c) n us)) (hT:(Value.slice A n c).ownBlock≠some p) (hn:n<=1152921504606)
  (c1:w.cell? q=some (.slice j z G)) (c2:w.cell? ⟨q,1,none⟩=some (.slice k r cv)) (ae:(Value.slice A n c).ownBlock≠some q)
  (au:∀(an ao ap aq ar aw aA aE a0 a1:Value) (x:Value) (wa w2:World),Below w w wa->w2.ownsRow 0 69 2 x (n+1) (us++ [.slice j z G,.slice k r cv])->wa.grownBy w2 (Value.slice A n c).ownBlock->(x.ownBlock=(Value.slice A n c).ownBlock\/x.ownBlock=some wa)->Q .normal ⟨(.pointer (some ⟨p,0,none⟩)::u1::y:: .pointer (some ⟨q,0,none⟩)::J::s::u6::Y::u8::u9::L::E::O::W::Z::U::u16::f::C::I::M::P::V::d::l::u25::D::m::u28::u29::u30::g::u32::u33::u34::i::u36::b::ea::N::u40::R::u42::X::u44::u45::u46::v::u48::u49::H::u51::an::ao::ap::aq::ar::aw::aA::aE::a0::a1::fJ:: []).toArray,[]⟩ (w2.setCell ⟨p,5,none⟩ x)):
  Code.wp prog Uv Q ⟨(.pointer (some ⟨p,0,none⟩)::u1::y:: .pointer (some ⟨q,0,none⟩)::J::s::u6::Y::u8::u9::L::E::O::W::Z::U::u16::f::C::I::M::P::V::d::l::u25::D::m::u28::u29::u30::g::u32::u33::u34::i::u36::b::ea::N::u40::R::u42::X::u44::u45::u46::v::u48::u49::H::u51::dP::u53::F::u55::S::dZ::B::u59::u60::fw::fJ:: []).toArray,[]⟩ w:=by
 obtain⟨i0,al,iC,iD,iE⟩:=info_parts kW;have dz:=aa au;have a2:=HB.out.lt;have S0:w.drew.cell? ⟨p,5,none⟩=some (.slice A n c)/\w.drew.cell? q=some (.slice j z G)/\w.drew.cell? ⟨q,1,none⟩=some (.slice k r cv):=⟨(HB.cell 5).trans rfl,c1,c2⟩;clear au;conv=>arg 2;whnf
 refine aM (fun w'=>w'.cell? ⟨p,5,none⟩=some (.slice A n c)/\w'.cell? q=some (.slice j z G)/\w'.cell? ⟨q,1,none⟩=some (.slice k r cv)) 10 (by kernel_rfl) ?_;refine uF 0 (fun _=>S0) ?_;refine uF 1 (fun _=>S0) ?_;refine uF 2 (fun _=>S0) ?_;refine uF 3 (fun _=>S0) ?_;refine uT 4 S0 ?_;refine uT 5 S0 ?_;refine mR 6 fun K hK=> ?_;go_simp;have ac:Below w.drew.heap.size w.drew (w.drew.alloc (.cells #[.slice j z G,.slice k r cv] 69)):=gV;have ad:Hid (Below w w (w.drew.alloc (.cells #[.slice j z G,.slice k r cv] 69))):=aa (mh.drew.trans ac);have S3:(w.drew.alloc (.cells #[.slice j z G,.slice k r cv] 69)).cell? ⟨p,5,none⟩=some (.slice A n c)/\(w.drew.alloc (.cells #[.slice j z G,.slice k r cv] 69)).cell? q=some (.slice j z G)/\(w.drew.alloc (.cells #[.slice j z G,.slice k r cv] 69)).cell? ⟨q,1,none⟩=some (.slice k r cv):=⟨aj ac S0.1,aj ac S0.2.1,aj ac S0.2.2⟩;refine hK.out _ _ (fun _=>S3) ?_;clear hK K;try simp only [aL,aN,aZ,aC]
 refine mR 7 fun K hK=> ?_;refine aG _ rfl (.tmp 56) (.tmp 58) _ rfl 0 69 i0 _ 2 48 underlying58 al iC iD iE rfl (by omega) (.slice A n c) n us rfl (own_below HO ad) (From w) (some ⟨w,0,none⟩) 1 1 [.slice j z G,.slice k r cv] rfl (Rd.two w.drew _ _ _) (by intro u hu;simp at hu;rcases hu with hu|hu<;>subst hu<;>rfl) (by simp only [maxLen];omega) (by omega) (by omega) ?_;intro x w4 di ab gp;obtain⟨K4,IE,am,_,_⟩:=ax di;subst am;have jM:=aa di;have IX:=aa ab;have Af:=aa gp;have xO:w4.cell? ⟨p,5,none⟩=some (.slice A n c):=(ag.of_grown ab).cell hT S3.1;have YK:∀o,w4.frozen? ⟨p,o,none⟩=false:=((HB.below ad).chg (ag.of_grown ab) hT).frozen;have S4:w4.cell? ⟨p,5,none⟩=some (.slice A n c)/\w4.cell? q=some (.slice j z G)/\w4.cell? ⟨q,1,none⟩=some (.slice k r cv):=⟨xO,(ag.of_grown ab).cell ae S3.2.1,(ag.of_grown ab).cell ae S3.2.2⟩;clear di ab gp;refine rR hK (fun _=>S4) ?_;clear hK K;refine uF 8 (fun _=>S4) ?_;refine uF 9 (fun _=>S4) ?_;refine mR 10 fun K hK=> ?_;go_simp;refine hK.out _ _ (fun h=>absurd h (by decide)) ?_;clear hK K;try simp only [aL,aN,aZ,aC]
 refine bH (by kernel_rfl) ?_ _;exact dz _ _ _ _ _ _ _ _ _ _ _ _ w4 ad jM IX Af
end Go.Proofs.YtepgcjbhabnciaaGreat
