/- Part 40. -/
import Derived.Test.YtbjgeidjmhialaaGreatDoorLa39
import Derived.Test.YtbjgeidjmhialaaGreatDoorLa30
namespace Go.Proofs.YtbjgeidjmhialaaGreatDoor
set_option maxRecDepth 100000
set_option maxHeartbeats 8000000
section
open Go.RowKit
section
variable {fill inn:Nat} {l:List aH}
theorem JY {nd lf bl:Int} (hc:aY nd lf inn fill bl) (hr:bu l) (hf:(aS nd lf inn fill bl l.length).2=0) (hsm:∀e∈l,e.1.length≤1152921504606∧e.2.length≤1152921504606):
  ∃L,ji (aO fill inn l).1 (aO fill inn l).2 nd lf inn L (nL fill inn l) (dL fill inn l) (fun k i=>(sL fill inn l k i).2)∧(aO fill inn l).1.length=dL fill inn l (L+1)∧(aS nd lf inn fill bl l.length).1=(dL fill inn l (L+1):Int)∧
   (aO fill inn l).1.length≤65536∧
   (∀k,k≤L→Sw fill inn k (nL fill inn l k) (fun i=>(sL fill inn l k i).2))∧(∀k,k<L→lz (fun i=>(sL fill inn l (k+1) i).2) (nL fill inn l (k+1))=nL fill inn l k)∧(0<L→2≤(sL fill inn l L 0).2.kids.length):=by
 obtain⟨L,a1,a2,a3,a4,a5,a6,a7,a8⟩:=vI hc hf;obtain⟨t1,t2,t3⟩:=yI hc hsm hf;obtain⟨c1,c2,c3,c4,c5,c6,c7,c8,c9,c10⟩:=hc;have h1:1≤fill:=by omega
 have h2:1≤inn:=by omega
 have Pm:∀k,(fun i=>(sL fill inn l k i).2.high)=hL fill inn l k:=fun k=>by funext i;exact mU k i
 have hkl:∀k i,(sL fill inn l k i).2.kids.length≤1000:=fun k i=>by
  cases k with
  |zero=>show([]:List Int).length≤1000;simp
  |succ k=>rw [gL];unfold mK;omega
 refine⟨L,⟨a4,a2,a1,fun k=>fG h1 h2 k,rfl,fun k=>rfl,fun k hk=>⟨fun j hj=> ?_,fun j hj=>FK hr h1 h2 (by omega) (by omega) ?_ hj,fun j _=>rF k j,fun j _=>right_eq k j,fun j hj=> ?_⟩,fun k hk i hi c kid hcd=> ?_,fun k hk=> ?_,fun k i _ _=>hkl k i,t3⟩,a5,a6,t1,fun k hk i hi=>⟨fun h0=> ?_,fun h0 hlt=> ?_⟩,fun k hk=> ?_,fun h0=> ?_⟩
 ·obtain⟨s,hs,e⟩:=a8 k j hk hj
  exact⟨s,hs,e,t2 s (List.mem_of_getElem? hs)⟩
 ·have:=yF (fill:=fill) (inn:=inn) (l:=l) (j:=k+1) (k:=L+1) (by omega)
  omega
 ·rw [Pm];exact My hr h1 h2 hj
 ·have hcl:c<mK inn (nL fill inn l k) i:=by
   have:=(List.getElem?_eq_some_iff.1 hcd).1;rw [gL] at this;exact this
  obtain⟨q1,q2,q3,q4⟩:=yJ h1 h2 hi hcl;have oQ:kid=(dL fill inn l k:Int)+((i*inn+c:Nat):Int)+1:=by rw [q1] at hcd;injection hcd with hcd;exact hcd.symm
  refine⟨i*inn+c,q2,oQ,fun hc0=> ?_,fun hc0=> ?_⟩
  ·show bQ (fun t=>(sL fill inn l (k+1) t).2.high) i=bQ (fun t=>(sL fill inn l k t).2.high) _
   rw [Pm,Pm];exact q4 hc0
  ·show _=some (bQ (fun t=>(sL fill inn l k t).2.high) _)
   rw [Pm];exact q3 hc0
 ·have hp:=yH (inn:=inn) h2 (fG (l:=l) h1 h2 k) (i:=0) (by have:=fG (l:=l) h1 h2 (k+1);exact this);have:=(yJ (fill:=fill) (inn:=inn) (l:=l) h1 h2 (k:=k) (i:=0) (j:=0) (by have:=fG (l:=l) h1 h2 (k+1);omega) (by omega)).1
  rw [this];simp
 ·subst h0;have h:=Ck (inn:=inn) h1 hi;have e:(sL fill inn l 0 i).2.keys.length=(dW fill l i).length:=by rw [gz,List.length_map]
  show(sL fill inn l 0 i).2.keys.length≤fill∧(i+1<nL fill inn l 0→(sL fill inn l 0 i).2.keys.length=fill)∧(1<nL fill inn l 0→1≤(sL fill inn l 0 i).2.keys.length)
  rw [e];exact h
 ·obtain⟨k,rfl⟩:∃j,k=j+1:=⟨k-1,by omega⟩;show(sL fill inn l (k+1) i).2.kids.length=inn
  rw [gL];exact yV h1 h2 hlt
 ·unfold lz;have e:(fun i=>(sL fill inn l (k+1) i).2.kids.length)=mK inn (nL fill inn l k):=by funext i;exact gL k i
  show((List.range (nL fill inn l (k+1))).map fun i=>(sL fill inn l (k+1) i).2.kids.length).sum=_
  rw [e];exact M3 h1 h2 k
 ·obtain⟨k,rfl⟩:∃j,L=j+1:=⟨L-1,by omega⟩;rw [gL];have:=a3 k (by omega);unfold mK;omega
end
end
section
open Go.Proofs.Tryz
open Go.RowKit
theorem sameEntries_eq (F G:Nat→Prop) (A B:Option Addr) (n c d:Nat) (l:List aH) (w:World) (h:bO w F A n l) (k:bO w G B n l) (hn:n≤1152921504606):
  Calls prog 13 #[.slice A n c,.slice B n d] w fun e w'=>e= .returned (.bool true)∧Below w.heap.size w w':=by
 have HH:=aa h;have HK:=aa k;clear h k;go_enter func13,ntmps13
 go_wp2
 go_loopg [5] n (fun g i wr=>∃(k:Nat),g=n-k∧k≤n∧i= .int .i64 k∧Below w.heap.size w wr)
 case atStart=>exact⟨0,by omega,by omega,rfl,Below.refl _ _⟩
 case round=>
  obtain⟨k,hg,hk,rfl,hbl⟩:=hrel;have HG:=aa hg;clear hg
  by_cases hlt:k<n
  ·obtain⟨b,o,Ak,nk,ck,Av,nv,cv,key,val,rfl,_,he,c1,c2,_,_,p3,p4,_,_,r3,r4⟩:=(HH.out.below hbl).at_ hlt;obtain⟨b',o',Bk,mk,dk,Bv,mv,dv,key',PH,rfl,_,he',c1',c2',_,_,p3',p4',_,_,r3',r4'⟩:=(HK.out.below hbl).at_ hlt;have Fe:key'=key∧PH=val:=by rw [he] at he';injection he' with he';injection he' with e1 e2;exact⟨e1.symm,e2.symm⟩
   obtain⟨rfl,rfl⟩:=Fe;have q1:=fun(r:Nat)=>dR (wr.drewN r) F Ak nk ck key' (p4.drewN r) p3.out;have q2:=fun(r:Nat)=>dR (wr.drewN r) G Bk mk dk key' (p4'.drewN r) p3'.out;have q3:=fun(r:Nat)=>dR (wr.drewN r) F Av nv cv PH (r4.drewN r) r3.out;have q4:=fun(r:Nat)=>dR (wr.drewN r) G Bv mv dv PH (r4'.drewN r) r3'.out;clear he he' p4 p4' r4 r4';go_wp2;go_quiet (fail);go_wp2
   go_roundg (n-(k+1))
   case measure=>have:=HG.out;omega
   case rel=>exact⟨k+1,rfl,by omega,by go_num,below_drewN hbl _⟩
  ·go_wp2;go_ret
   exact⟨rfl,hbl⟩
end
section
open Go.Lib (compareBytes)
structure iL (c:ax) (l:List UInt8):Prop where
 err:c.err=0
 held:c.held=none
 left:c.src.left=l
 gives:c.src.gives= []
 fail:c.src.fail=0
 eager:c.src.eager=false
theorem iL.read {s:Src} {a l:List UInt8} (h1:s.left=a++l) (h2:s.gives= []) (h3:s.fail=0) (h4:s.eager=false) (ha:0<a.length):s.read a.length=(a,0,⟨l,[],0,false,s.calls+1⟩):=by
 have hm:s.most a.length=a.length:=by unfold Src.most;rw [h2];rfl
 unfold Src.read;rw [if_neg (by rw [h3];omega),if_neg (by rw [h1];intro e;rw [List.append_eq_nil_iff] at e;rw [e.1] at ha;exact absurd ha (by decide)),hm,h1,h4];simp [Src.asked,h2,h3,h4]
theorem iL.bytes {c:ax} {a l:List UInt8} (h:iL c (a++l)) (ha:0<a.length) (hb:a.length≤4096):∃c',c.bytes a.length=(a,0,c')∧iL c' l∧c'.at_=c.at_+a.length:=by
 obtain⟨⟨left,gives,fail,eager,calls⟩,at_,err,idle,held⟩:=c;obtain⟨h1,h2,h3,h4,h5,h6⟩:=h;simp only at h1 h2 h3 h4 h5 h6;subst h1 h2 h3 h4 h5 h6;have hr:=iL.read (s:=⟨a++l,[],0,false,calls⟩) rfl rfl rfl rfl ha
 have hk:(⟨⟨a++l,[],0,false,calls⟩,at_,0,idle,none⟩:ax).ask a.length=(a,0,⟨⟨l,[],0,false,calls+1⟩,at_,0,0,none⟩):=by
  unfold ax.ask;rw [Nat.min_eq_left hb];simp only [];rw [hr];simp only [];rw [if_pos (.inl (fun e=>by rw [e] at ha;exact absurd ha (by decide)))]
 have hl:(⟨⟨a++l,[],0,false,calls⟩,at_,0,idle,none⟩:ax).loop [] a.length=(a,0,⟨⟨l,[],0,false,calls+1⟩,at_,0,0,none⟩):=by
  rw [ax.loop,if_neg (by rw [List.length_nil];omega)];rw [List.length_nil,Nat.sub_zero,hk];rw [if_pos (by rw [List.nil_append];exact Nat.le_refl _)];rfl
 refine⟨⟨⟨l,[],0,false,calls+1⟩,at_+a.length,0,0,none⟩,?_,⟨rfl,rfl,rfl,rfl,rfl,rfl⟩,rfl⟩;unfold ax.bytes;rw [if_neg (by simp),if_neg (by omega)];show(if((⟨⟨a++l,[],0,false,calls⟩,at_,0,idle,none⟩:ax).loop [] a.length).2.1=0 then(((⟨⟨a++l,[],0,false,calls⟩,at_,0,idle,none⟩:ax).loop [] a.length).1,(0:Int),{((⟨⟨a++l,[],0,false,calls⟩,at_,0,idle,none⟩:ax).loop [] a.length).2.2 with at_:=at_+a.length}) else _)=_;rw [hl,if_pos rfl]
theorem iL.number {c:ax} {v:UInt8} {l:List UInt8} (h:iL c (v::l)) (hv:v.toNat<128):∃c',c.number=(v.toNat,0,c')∧iL c' l∧c'.at_=c.at_+1:=by
 obtain⟨c',h1,h2,h3⟩:=iL.bytes (a:= [v]) (l:=l) h (by simp) (by simp);refine⟨c',?_,h2,h3⟩;have h1:c.bytes 1=([v],0,c'):=h1
 have hn:c.numL 0 0=(v.toNat,0,c'):=by
  rw [ax.numL,if_neg (by omega),h1];rw [if_neg (by simp),if_neg (by simp),if_neg (by simp),if_pos (by simpa using hv)];simp;omega
 unfold ax.number;rw [hn];simp
theorem iL.end_ {c:ax} (h:iL c []):∃c',c.end_=(true,0,c'):=by
 have hr:c.src.read 1=([],31,c.src.asked):=by
  unfold Src.read;rw [if_neg (by rw [h.fail];omega),if_pos h.left]
 have hk:c.ask (1-([]:List UInt8).length)=([],31,{c with src:=c.src.asked,idle:=0}):=by
  unfold ax.ask;show((c.src.read 1).1,(c.src.read 1).2.1,({c with src:=(c.src.read 1).2.2,idle:=if(c.src.read 1).1≠ []∨(c.src.read 1).2.1≠0 then 0 else c.idle+1}:ax))=_;rw [hr];simp
 have hl:c.loop [] 1=([],41,{c with src:=c.src.asked,idle:=0}):=by
  rw [ax.loop,if_neg (by simp),hk];rw [if_neg (by simp),if_pos (by simp)]
 refine⟨{c with src:=c.src.asked,idle:=0},?_⟩;unfold ax.end_;rw [if_neg (by rw [h.held,h.err];simp),hl];simp
def dS:List UInt8:= [1,0,1,0,107,1,0]
def bR:List UInt8:= [1,1,107,8,13,1,1]
def kS:Row:=⟨[107],8,13,1⟩
def jJ:List UInt8:=gX++([66]++([7]++(dS++(four (bz dS)++([70]++([7]++(bR++(four (bz bR)++(dX 21++ [])))))))))
theorem Eg:aB dS=([([107],[])],0,0):=by
 have h1:aj dS 0=(1,1,0):=by decide
 have h2:bM dS 1 [] [] 1=⟨[([107],[])],[1],5,0,0⟩:=by rfl
 unfold aB;rw [h1];simp only [];rw [h2];simp [eighth,two,stand,dS]
theorem sI:aT [kS]=bR:=by
 unfold aT aW;simp [Row.bytes,kS,mW,bR]
theorem Ik {c:ax} (h:iL c jJ) (h0:c.at_=0):∃c',(⟨c,0,[],0,0⟩:aU).next=(some [([107],[])],⟨c',1,[kS],0,0⟩)∧iL c' ([70]++([7]++(bR++(four (bz bR)++(dX 21++ [])))))∧c'.at_=21:=by
 obtain⟨c1,e1,h1,a1⟩:=iL.bytes (a:=gX) h (by decide) (by decide);obtain⟨c2,e2,h2,a2⟩:=iL.bytes (a:= [66]) h1 (by decide) (by decide);obtain⟨c3,e3,h3,a3⟩:=iL.number (v:=7) h2 (by decide);obtain⟨c4,e4,h4,a4⟩:=iL.bytes (a:=dS) h3 (by decide) (by decide);obtain⟨c5,e5,h5,a5⟩:=iL.bytes (a:=four (bz dS)) h4 (by show 0<4;decide) (by show 4≤4096;decide);have e1:c.bytes 8=(gX,0,c1):=e1;have e2:c1.bytes 1=([66],0,c2):=e2;have e3:c2.number=(7,0,c3):=e3;have e4:c3.bytes 7=(dS,0,c4):=e4;have e5:c4.bytes 4=(four (bz dS),0,c5):=e5
 have hb:c3.body 7=⟨dS,0,0,c5⟩:=by
  unfold ax.body;rw [e4,if_neg (by simp),e5,if_neg (by simp),if_neg (by simp)]
 have ha5:c5.at_=21:=by rw [a5,a4,a3,a2,a1,h0];rfl
 have ha1:c1.at_=8:=by rw [a1,h0];rfl
 refine⟨c5,?_,h5,ha5⟩;unfold aU.next;rw [if_neg (show¬((0:Nat)=2) by decide),if_neg (show¬((0:Nat)=1) by decide)];simp only [];rw [e1,if_neg (by simp),if_neg (by simp)];unfold aU.frame;simp only [];rw [e2,if_neg (by simp),if_neg (by simp),if_neg (by simp)];unfold aU.block;simp only [];rw [e3];rw [if_neg (by simp),if_neg (by simp),if_neg (by simp)];simp only [];rw [hb];rw [if_neg (by simp),Eg];rw [if_neg (by simp),if_neg (by simp)];simp only [];rw [ha5,ha1];rfl
theorem Eh {c:ax} (h:iL c ([70]++([7]++(bR++(four (bz bR)++(dX 21++ [])))))) (h0:c.at_=21):∃c',(⟨c,1,[kS],0,0⟩:aU).next=(none,⟨c',2,[kS],0,0⟩):=by
 obtain⟨c2,e2,h2,a2⟩:=iL.bytes (a:= [70]) h (by decide) (by decide);obtain⟨c3,e3,h3,a3⟩:=iL.number (v:=7) h2 (by decide);obtain⟨c4,e4,h4,a4⟩:=iL.bytes (a:=bR) h3 (by decide) (by decide);obtain⟨c5,e5,h5,a5⟩:=iL.bytes (a:=four (bz bR)) h4 (by show 0<4;decide) (by show 4≤4096;decide);obtain⟨c6,e6,h6,a6⟩:=iL.bytes (a:=dX 21) h5 (by decide) (by decide);obtain⟨c7,e7⟩:=iL.end_ h6;have e2:c.bytes 1=([70],0,c2):=e2;have e3:c2.number=(7,0,c3):=e3;have e4:c3.bytes 7=(bR,0,c4):=e4;have e5:c4.bytes 4=(four (bz bR),0,c5):=e5;have e6:c5.bytes 12=(dX 21,0,c6):=e6
 have hb:c3.body 7=⟨bR,0,0,c5⟩:=by
  unfold ax.body;rw [e4,if_neg (by simp),e5,if_neg (by simp),if_neg (by simp)]
 refine⟨c7,?_⟩;unfold aU.next;rw [if_neg (show¬((1:Nat)=2) by decide),if_pos (show(1:Nat)=1 from rfl)];unfold aU.frame;simp only [];rw [e2,if_neg (by simp),if_pos (by simp)];unfold aU.footR;simp only [];rw [e3,sI];rw [if_neg (by simp),if_neg (by simp [bR])];rw [show bR.length=7 from rfl];simp only [];rw [hb];rw [if_neg (by simp),if_neg (show¬comm bR bR<7 by decide)];simp only [];rw [e6,if_neg (by simp),h0,if_neg (by simp)];simp only [];rw [e7,if_neg (by simp),if_neg (by simp)]
theorem Mv:∃mf,BC 9 4 3 2 1 (eG ⟨jJ,[],0,false,0⟩) mf∧mf.err=0∧mf.tree=some (aO 2 3 [([107],[])]):=by
 have h:iL (⟨⟨jJ,[],0,false,0⟩,0,0,0,none⟩:ax) jJ:=⟨rfl,rfl,rfl,rfl,rfl,rfl⟩;obtain⟨c1,e1,h1,a1⟩:=Ik h rfl;obtain⟨c2,e2⟩:=Eh h1 a1;have ha:iG 9 4 3 2 1 [] ([107],[])=0:=by decide
 have s1:(eG ⟨jJ,[],0,false,0⟩).step 9 4 3 2 1=⟨⟨c1,1,[kS],0,0⟩,[([107],[])],false,none,0,0⟩:=by
  rw [vk (l:= [([107],[])]) rfl (by show((⟨⟨⟨jJ,[],0,false,0⟩,0,0,0,none⟩,0,[],0,0⟩:aU).next).1=_;rw [e1])];show(eG _).took 9 4 3 2 1 _ ((⟨⟨⟨jJ,[],0,false,0⟩,0,0,0,none⟩,0,[],0,0⟩:aU).next).2=_;rw [e1];unfold bg.took
  have hh:eP 9 4 3 2 1 (eG ⟨jJ,[],0,false,0⟩).ents [([107],[])]=([([107],[])],0):=by
   show(if iG 9 4 3 2 1 [] ([107],[])=0 then eP 9 4 3 2 1 ([]++ [([107],[])]) [] else _)=_;rw [if_pos ha];rfl
  rw [hh,if_pos rfl];rfl
 have s2:(⟨⟨c1,1,[kS],0,0⟩,[([107],[])],false,none,0,0⟩:bg).step 9 4 3 2 1=⟨⟨c2,2,[kS],0,0⟩,[([107],[])],true,some (aO 2 3 [([107],[])]),0,0⟩:=by
  rw [vg rfl (by show((⟨c1,1,[kS],0,0⟩:aU).next).1=_;rw [e2])];show(⟨⟨c1,1,[kS],0,0⟩,[([107],[])],false,none,0,0⟩:bg).ends 3 2 ((⟨c1,1,[kS],0,0⟩:aU).next).2=_;rw [e2];rfl
 refine⟨⟨⟨c2,2,[kS],0,0⟩,[([107],[])],true,some (aO 2 3 [([107],[])]),0,0⟩,⟨2,?_,rfl⟩,rfl,rfl⟩
 ·show _=((eG _).step 9 4 3 2 1).step 9 4 3 2 1;rw [s1,s2]
end
section
open Go.Proofs.Tryz
open Go.RowKit
structure OB (w0 w:World) (v:Value) (bs:List UInt8):Prop where
 own:Ow w w0.heap.size v bs
 bel:Below w0.heap.size w0 w
def Mg (w:World) (bs:List UInt8) (e:Ending) (w':World):Prop:=∃A n c,n=bs.length∧e= .returned (.slice A n c)∧OB w w' (.slice A n c) bs
theorem OB.after {w0 w w':World} {v:Value} {bs:List UInt8} (h:OB w0 w v bs) (hb:Below w.heap.size w w'):OB w0 w' v bs:=⟨h.own.below hb,h.bel.trans (hb.mono h.bel.size)⟩
theorem OB.sb {w0 w:World} {v:Value} {bs:List UInt8} (h:OB w0 w v bs):SB w (From w0.heap.size) v bs:=h.own.sb
theorem OB.ahead {w0 w1 w:World} {v:Value} {bs:List UInt8} (h:OB w1 w v bs) (hb:Below w0.heap.size w0 w1):OB w0 w v bs:=⟨lV h.own hb.size,hb.trans (h.bel.mono hb.size)⟩
theorem Mh {w:World}:SB w Nil (.slice none 0 0) []:=SB.mk (Nat.le_refl _) (Nat.zero_le _) rfl ⟨rfl,fun h=>absurd h (by omega)⟩
theorem bJ {ops:Array Oper} {rest:List Oper} {o:Oper} {a:Act} {Q:Exit→Act→World→Prop} {w:World} (hgd:o.guard=none) (s x:Operand)
  (ho:o.op= .call {callee:= .builtin .append,args:= #[s,x],argTypes:= #[24,24]})
  (w0:World) (v:Value) (xs:List UInt8) (hs:a.eval s=v) (H:OB w0 w v xs) (F:Nat→Prop) (A:Option Addr) (m c:Nat) (bs:List UInt8) (hx:a.eval x= .slice A m c) (hr:SB w F (.slice A m c) bs) (hl:xs.length+bs.length≤1048576)
  (h:∀A' n' c' w',n'=xs.length+bs.length→OB w0 w' (.slice A' n' c') (xs++bs)→ag (fun b=>v.ownBlock=some b) w w'→wpList prog ops Q rest (a.put o.dst (.slice A' n' c')) w'):wpList prog ops Q (o::rest) a w:=by
 obtain⟨i0,hi0,hz0,hz1,hz2⟩:=info_parts dK;obtain⟨-,-,hm,hrd⟩:=hr.parts;refine af _ hgd s x _ ho w0.heap.size 5 i0 _ 1 1 underlying24 hi0 hz0 hz1 hz2 rfl (by omega) v xs.length (aK xs) hs H.own F A m c (aK bs) hx hrd (cO _) (by simp only [maxLen];omega) (by omega) H.bel.size ?_;intro v' w' h1 h2 h3;obtain⟨A',c',rfl,-,-⟩:=ay h1;refine h A' (xs.length+m) c' w' (by rw [hm]) ⟨?_,H.bel.grown h2 H.bel.size (fun k hk=>(ah H.own k hk).1)⟩ (ag.of_grown h2);unfold Ow;rw [List.length_append,←hm];simpa [aK] using h1
theorem rJ {b:Nat} {w w':World} (h:Below b w w') (n:Nat):Below b w (w'.drewN n):=⟨h.os,h.tape,h.output,h.size,h.block⟩
theorem qd (m:Nat) (w:World) (hm:m<128):Calls prog 114 #[.int .u64 m] w (Mg w [UInt8.ofNat m]):=by
 refine(fH w.heap.size m w (by omega) (Nat.le_refl _)).mono ?_;intro e w' hE;obtain⟨A,n,c,rfl,-,-,h1,h2,h3⟩:=hE.below;rw [mW hm] at h1 h2;exact⟨A,n,c,h1,rfl,⟨h2,h3⟩⟩
theorem Ib (F:Nat→Prop) (kA:Option Addr) (kc:Nat) (w:World) (hk:SB w F (.slice kA 1 kc) [107]):Calls prog 115 #[.slice none 0 0,.agg #[.slice kA 1 kc,.slice none 0 0]] w (Mg w [0,1,0,107]):=by
 refine letter fun R HR=> ?_;have HK:=aa hk;clear hk;go_enter func115,ntmps115
 go_upto_region 2 with(go_at_call 84;go_loud (refine(gD none kA 0 1 0 kc Nil F [] [107] (w.alloc (.cells #[.slice kA 1 kc,.slice none 0 0] 57)) ⟨rfl,fun h=>absurd h (by omega)⟩ rfl (HK.parts.2.2.2.alloc _) rfl (by omega)).mono ?_;rintro e w1 ⟨rfl,q,hq⟩;have HX:Hid (ai w1 w.heap.size 57 #[.slice kA 1 kc,.slice none 0 0]):=aa (by rw [hq];exact(ai.new _ _ _).drewN q);have HB1:Hid (Below w.heap.size w w1):=aa (by rw [hq];exact rJ ((Below.refl _ _).alloc (Nat.le_refl _) _) q);have y1:w1.cell? ⟨w.heap.size,0,none⟩=some (.slice kA 1 kc):=HX.out.cell 0;clear hq))
 rw [show comm [] [107]=0 from rfl];have xW:=aa HB1.size
 go_upto_region 3 with
  (go_at_call 114;go_loud (refine(qd 0 w1 (by decide)).mono ?_;rintro e w2 ⟨Uf,nw2,Ug,hn,rfl,ho⟩;simp only [List.length_cons,List.length_nil] at hn;subst hn;have VT:=aa ho;have Lw2:Hid (Below w1.heap.size w1 w2):=aa ho.bel;clear ho))
 have hx2:=HX.out.below Lw2.out;have y20:w2.cell? ⟨w.heap.size,0,none⟩=some (.slice kA 1 kc):=hx2.cell 0
 go_upto_region 4 with(first
  |(go_at_call 114;go_loud (refine(qd 1 w2 (by decide)).mono ?_;rintro e w3 ⟨ZP,nw3,ZQ,hn,rfl,ho⟩;simp only [List.length_cons,List.length_nil] at hn;subst hn;have XO:=aa ho;have Lw3:Hid (Below w2.heap.size w2 w3):=aa ho.bel;clear ho))
  |(at_builtin;go_loud (refine bJ rfl (.tmp 14) (.tmp 21) rfl w1 (.slice Uf 1 Ug) [0] rfl (VT.after Lw3.out) _ ZP 1 ZQ [1] rfl XO.sb (by decide) ?_;intro Aw4 nw4 cw4 w4 hn ho hc;simp only [List.length_cons,List.length_nil,Nat.zero_add,Nat.reduceAdd] at hn;subst hn;simp only [List.cons_append,List.nil_append] at ho;have Hw4:=aa ho;have Cw4:=aa hc;clear ho hc))
  )
 have mP:Hid (Below w1.heap.size w1 w4):=aa Hw4.bel;have y41:w4.cell? ⟨w.heap.size,1,none⟩=some (.slice none 0 0):=(HX.out.below mP).cell 1
 go_upto_region 5 with(first
  |(go_at_call 114;go_loud (refine(qd 0 w4 (by decide)).mono ?_;rintro e w5 ⟨Aw5,nw5,cw5,hn,rfl,ho⟩;simp only [List.length_cons,List.length_nil] at hn;subst hn;have ZR:=aa ho;have Lw5:Hid (Below w4.heap.size w4 w5):=aa ho.bel;clear ho))
  |(at_builtin;go_loud (refine bJ rfl (.tmp 23) (.tmp 28) rfl w1 (.slice Aw4 2 cw4) [0,1] rfl (Hw4.after Lw5.out) _ Aw5 1 cw5 [0] rfl ZR.sb (by decide) ?_;intro Aw6 nw6 cw6 w6 hn ho hc;simp only [List.length_cons,List.length_nil,Nat.zero_add,Nat.reduceAdd] at hn;subst hn;simp only [List.cons_append,List.nil_append] at ho;have XP:=aa ho;have Cw6:=aa hc;clear ho hc))
  )
 have iW:Hid (Below w1.heap.size w1 w6):=aa XP.bel;have y60:w6.cell? ⟨w.heap.size,0,none⟩=some (.slice kA 1 kc):=(HX.out.below iW).cell 0;have Cy:=aa (HK.below (HB1.out.trans (iW.mono HB1.size)))
 go_upto_region 6 with(first
  |(at_builtin;go_loud (refine bJ rfl (.tmp 30) (.tmp 34) rfl w1 (.slice Aw6 3 cw6) [0,1,0] rfl XP _ kA 1 kc [107] rfl Cy (by decide) ?_;intro Aw7 nw7 cw7 w7 hn ho hc;simp only [List.length_cons,List.length_nil,Nat.zero_add,Nat.reduceAdd] at hn;subst hn;simp only [List.cons_append,List.nil_append] at ho;have Hw7:=aa ho;have Cw7:=aa hc;clear ho hc))
  )
 have iE:Hid (Below w1.heap.size w1 w7):=aa Hw7.bel;have y71:w7.cell? ⟨w.heap.size,1,none⟩=some (.slice none 0 0):=(HX.out.below iE).cell 1
 go_wp2_with (first
  |(at_builtin;go_loud (refine bJ rfl (.tmp 36) (.tmp 38) rfl w1 (.slice Aw7 4 cw7) [0,1,0,107] rfl Hw7 _ none 0 0 [] rfl Mh (by decide) ?_;intro Aw8 nw8 cw8 w8 hn ho hc;simp only [List.length_cons,List.length_nil,Nat.zero_add,Nat.reduceAdd] at hn;subst hn;simp only [List.cons_append,List.nil_append] at ho;have Hw8:=aa ho;have Cw8:=aa hc;clear ho hc))
  )
 rw [HR.out];exact⟨_,_,_,rfl,rfl,Hw8.ahead HB1⟩
end
section
open Go.Proofs.Tryz
open Go.RowKit
theorem Ic {ops:Array Oper} {o:Oper} {a:Act} {K:Act→World→Prop} {Q:Exit→Act→World→Prop} {E:Prop} {w:World} (hgd:o.guard=none) (s x:Operand)
  (ho:o.op= .call {callee:= .builtin .append,args:= #[s,x],argTypes:= #[24,24]})
  (w0:World) (v:Value) (xs:List UInt8) (hs:a.eval s=v) (H:OB w0 w v xs) (F:Nat→Prop) (A:Option Addr) (m c:Nat) (bs:List UInt8) (hx:a.eval x= .slice A m c) (hr:SB w F (.slice A m c) bs) (hl:xs.length+bs.length≤1048576)
  (h:∀A' n' c' w',n'=xs.length+bs.length→OB w0 w' (.slice A' n' c') (xs++bs)→ag (fun b=>v.ownBlock=some b) w w'→K (a.put o.dst (.slice A' n' c')) w'):if Region.wanted o (yielded ops a.tmps)=true then Oper.wp prog o a w K Q else E:=by
 obtain⟨i0,hi0,hz0,hz1,hz2⟩:=info_parts dK;obtain⟨-,-,hm,hrd⟩:=hr.parts;refine aV _ hgd s x _ ho w0.heap.size 5 i0 _ 1 1 underlying24 hi0 hz0 hz1 hz2 rfl (by omega) v xs.length (aK xs) hs H.own F A m c (aK bs) hx hrd (cO _) (by simp only [maxLen];omega) (by omega) H.bel.size ?_;intro v' w' h1 h2 h3;obtain⟨A',c',rfl,-,-⟩:=ay h1;refine h A' (xs.length+m) c' w' (by rw [hm]) ⟨?_,H.bel.grown h2 H.bel.size (fun k hk=>(ah H.own k hk).1)⟩ (ag.of_grown h2);unfold Ow;rw [List.length_append,←hm];simpa [aK] using h1
theorem Pf (w:World) (e:TypeId) (n size:Nat) (cs:Array Value) (hs:cs.size=n*size) (hn:n≤maxLen):(w.alloc (.cells cs e)).ownsRow w.heap.size e size (.slice (some ⟨w.heap.size,0,none⟩) n n) n cs.toList:=
 ⟨by rw [Array.length_toList];exact hs,.inr ⟨_,_,cs,rfl,Nat.le_refl _,ai.new w e cs,Nat.le_refl _,hn,hs,by rw [←hs,←Array.length_toList,List.take_length]⟩⟩
theorem OB.lit (w:World) (bs:List UInt8) (cs:Array Value) (hc:cs.toList=aK bs) (hn:bs.length≤64):OB w (w.alloc (.cells cs 5)) (.slice (some ⟨w.heap.size,0,none⟩) bs.length bs.length) bs:=by
 refine⟨?_,(Below.refl _ _).alloc (Nat.le_refl _) _⟩;unfold Ow;rw [←hc];have h:cs.size=bs.length:=by rw [←Array.length_toList,hc];simp [aK]
 exact Pf w _ bs.length 1 cs (by omega) (by simp only [maxLen];omega)
theorem Ie (w:World):Calls prog 65 #[] w (Mg w gX):=by
 refine letter fun R HR=> ?_;go_enter func65,ntmps65
 go_wp2;rw [HR.out]
 exact⟨_,_,_,rfl,rfl,OB.lit w gX _ rfl (by decide)⟩
theorem Ig (A:Option Addr) (n c:Nat) (w:World):Calls prog 116 #[.slice A n c,.int .i64 0] w fun e w'=>e= .returned (.slice none 0 0)∧w=w':=by
 refine letter fun R HR=> ?_;go_enter func116,ntmps116
 go_wp2;rw [HR.out]
 exact⟨rfl,rfl⟩
theorem vG (k:UInt8) (body:List UInt8) (Vu:body.length=7) (F:Nat→Prop) (bA:Option Addr) (bc:Nat) (w:World) (hsb:SB w F (.slice bA 7 bc) body):
  Calls prog 86 #[.int .u8 k.toNat,.slice bA 7 bc] w (Mg w (k::7::(body++four (bz body)))):=by
 obtain⟨fr,hfr⟩:∃fr,fr=four (bz body):=⟨_,rfl⟩;have Dv:=aa hfr;have kZ:Hid (fr.length=4):=aa (by rw [hfr];rfl);have q8:=aa Vu;obtain⟨R,hR⟩:∃R,R=Mg w (k::7::(body++fr)):=⟨_,rfl⟩;have HR:=aa hR;rw [←hfr,←hR];have HS:=aa hsb;clear hR hsb hfr Vu;go_enter func86,ntmps86
 go_upto_region 2 with(first|(go_at_call 114;go_loud (obtain⟨w1,hw1⟩:∃W,W=w.alloc (.cells #[.int .u8 k.toNat] 5):=⟨_,rfl⟩;rw [←hw1];have mH:Hid (OB w w1 (.slice (some ⟨w.heap.size,0,none⟩) 1 1) [k]):=aa (by rw [hw1];exact OB.lit w [k] _ rfl (by simp));clear hw1;refine(qd 7 w1 (by decide)).mono ?_;rintro e w2 ⟨Uf,nw2,Ug,hn,rfl,ho⟩;simp only [List.length_cons,List.length_nil] at hn;subst hn;have VT:=aa ho;have iV:=aa (mH.after ho.bel);clear ho))|(at_builtin;go_loud (refine bJ rfl (.tmp 7) (.tmp 11) rfl w (.slice (some ⟨w.heap.size,0,none⟩) 1 1) [k] rfl iV _ Uf 1 Ug [7] rfl VT.sb (by simp) ?_;intro ZP nw3 ZQ w3 hn ho hc;simp only [List.length_cons,List.length_nil,Nat.zero_add,Nat.reduceAdd] at hn;subst hn;simp only [List.cons_append,List.nil_append] at ho;have XO:=aa ho;clear ho hc)))
 have Nv:=aa (HS.below XO.bel);go_wp2_with (first|(go_at_call 117;go_loud (refine(Ih F bA 7 bc body w3 Nv.parts.2.2.2 q8.out.symm (by omega)).mono ?_;rintro e w4 ⟨v4,rfl,EQ,hb4⟩;rw [←Dv.out] at EQ;obtain⟨A4,n4,c4,rfl,-,-,VU,-⟩:=EQ.sb;have lI:=aa EQ;have Xk:=aa VU;have dN:=aa hb4;clear EQ hb4 VU))|(at_builtin;go_loud (refine bJ rfl (.tmp 13) (.tmp 15) rfl w (.slice ZP 2 ZQ) [k,7] rfl (XO.after dN) _ A4 n4 c4 (body++fr) rfl lI.sb (by rw [List.length_append,kZ.out,q8.out];simp) ?_;intro Aw5 nw5 cw5 w5 hn ho hc;have Xl:=aa hn;have ZR:=aa ho;clear hn ho hc)))
 rw [HR.out];exact⟨_,_,_,by rw [Xl.out];simp;omega,rfl,ZR⟩
structure E1 (w:World) (F:Nat→Prop) (lb:Nat) (kA:Option Addr) (kc:Nat):Prop where
 c0:w.cell? ⟨lb,0,none⟩=some (.slice kA 1 kc)
 c1:w.cell? ⟨lb,1,none⟩=some (.slice none 0 0)
 key:SB w F (.slice kA 1 kc) [107]
 own:∀b,b=lb∨F b→b<w.heap.size
theorem E1.chg {S:Nat→Prop} {w w':World} {F:Nat→Prop} {lb kc:Nat} {kA:Option Addr} (h:E1 w F lb kA kc) (hc:ag S w w') (hs:∀b,b=lb∨F b→¬S b):E1 w' F lb kA kc:=
 ⟨hc.cell (hs _ (.inl rfl)) h.c0,hc.cell (hs _ (.inl rfl)) h.c1,h.key.chg hc (fun b hb=>hs b (.inr hb)),fun b hb=>Nat.lt_of_lt_of_le (h.own b hb) hc.size⟩
theorem E1.below {w w':World} {F:Nat→Prop} {lb kc:Nat} {kA:Option Addr} (h:E1 w F lb kA kc) (hb:Below w.heap.size w w'):E1 w' F lb kA kc:=h.chg (S:=Nil) (ag.of_below hb) (fun _ _ hf=>hf)
theorem E1.ents {w:World} {F:Nat→Prop} {lb kc:Nat} {kA:Option Addr} (h:E1 w F lb kA kc):bO w (fun b=>b=lb∨F b) (some ⟨lb,0,none⟩) 1 [([107],[])]:=by
 refine⟨rfl,[.slice kA 1 kc,.slice none 0 0],⟨rfl,fun _=>⟨_,0,rfl,.inl rfl,fun k u hk=> ?_⟩⟩,fun i e he=> ?_⟩
 ·match k with
  |0=>simp at hk;subst hk;exact h.c0
  |1=>simp at hk;subst hk;exact h.c1
  |k+2=>simp at hk
 ·match i with
  |0=>simp at he;subst he;exact⟨_,_,rfl,rfl,h.key.weak (fun b hb=> .inr hb),Mh.weak (fun _ hf=>absurd hf id)⟩
  |i+1=>simp at he
end
section
open Go.Proofs.Tryz
open Go.RowKit
noncomputable def ZS:Code:=aP (f85.body.bind (aA 13))
theorem Pg (F:Nat→Prop) (w0:World) (lb lc oc kc:Nat) (oA kA:Option Addr) (w:World) {u1 u2 u3 u4 u5 u6 u8 u10 u11 u12 u13 bN bq u16 u17 bC bD u20 u21 u22 u23 u24 u25 u26 u27 u28 u29 u30 u31 u32 u33 u34 u35 u36 u37 u38 dh u40 bX u42 bY u44 u45 u46 di u48 u49 bV u51 u52 u53 bW u55 dz dB u58 u59 u60 dH dG u63:Value} (Q:Exit→Act→World→Prop) (nC:Hid (∀c t (a:Act) w,Q (.panic c) ⟨t,a.defers⟩ w→Q (.panic c) a w))
  (HE:Hid (E1 w F lb kA kc)) (HO:Hid (OB w0 w (.slice oA 1 oc) [1])) (HN:Hid (∀b,b=lb∨F b→¬(Value.slice oA 1 oc).ownBlock=some b))
  (au:∀(v51 v52 v53 v54 v55 v56 v57 v58 v59 v60:Value) (A':Option Addr) (c':Nat) (w':World),OB w0 w' (.slice A' 5 c') [1,0,1,0,107]→ag (fun b=>(Value.slice oA 1 oc).ownBlock=some b) w w'→Q .normal ⟨(.slice (some ⟨lb,0,none⟩) 1 lc::u1::u2::u3::u4::u5::u6:: .slice A' 5 c'::u8:: .int .i64 0::u10::u11::u12::u13::bN::bq::u16::u17::bC::bD::u20::u21::u22::u23::u24::u25::u26::u27::u28::u29::u30::u31::u32::u33::u34::u35::u36::u37::u38::dh::u40::bX::u42::bY::u44::u45::u46::di::u48::u49::bV::v51::v52::v53::v54::v55::v56::v57::v58::v59::v60::dH::dG::u63:: []).toArray,[]⟩ w'):
  Code.wp prog ZS Q ⟨(.slice (some ⟨lb,0,none⟩) 1 lc::u1::u2::u3::u4::u5::u6:: .slice oA 1 oc::u8:: .int .i64 0::u10::u11::u12::u13::bN::bq::u16::u17::bC::bD::u20::u21::u22::u23::u24::u25::u26::u27::u28::u29::u30::u31::u32::u33::u34::u35::u36::u37::u38::dh::u40::bX::u42::bY::u44::u45::u46::di::u48::u49::bV::u51::u52::u53::bW::u55::dz::dB::u58::u59::u60::dH::dG::u63:: []).toArray,[]⟩ w:=by
 have dF:=aa au;have HD:Hid (Below w.heap.size w w.drew):=aa (Below.refl _ _).drew;have S0:w.drew.cell? ⟨lb,0,none⟩=some (.slice kA 1 kc)∧w.drew.cell? ⟨lb,1,none⟩=some (.slice none 0 0):=⟨HE.c0,HE.c1⟩;clear au;conv=>arg 2;whnf
 refine aX (fun w'=>w'.cell? ⟨lb,0,none⟩=some (.slice kA 1 kc)∧w'.cell? ⟨lb,1,none⟩=some (.slice none 0 0)) (by kernel_rfl) ?_;refine vT 0 S0 ?_;refine vT 1 S0 ?_;refine vT 2 S0 ?_;refine vT 4 S0 ?_;refine vT 5 S0 ?_;refine vT 6 S0 ?_;refine vT 7 S0 ?_;refine aR (i:=3) (by kernel_rfl) rfl (fun K hK=> ?_);go_simp
 go_loud (refine(Ig (some ⟨lb,0,none⟩) 1 lc w.drew).mono ?_);rintro e w1 ⟨rfl,hw1⟩;have HB1:Hid (Below w.heap.size w w1):=aa (by rw [←hw1];exact HD);have zx:=aa (HE.below HB1);have S1:w1.cell? ⟨lb,0,none⟩=some (.slice kA 1 kc)∧w1.cell? ⟨lb,1,none⟩=some (.slice none 0 0):=⟨zx.c0,zx.c1⟩;clear hw1
 refine hK.out _ _ S1 ?_;clear hK K;try simp only [aL,aN,aZ,aC]
 refine aR (i:=8) (by kernel_rfl) rfl (fun K hK=> ?_);go_simp
 go_loud (refine(Ib F kA kc w1 zx.key).mono ?_);rintro e w2 ⟨A2,n2,c2,hn,rfl,ho⟩;simp only [List.length_cons,List.length_nil] at hn;subst hn;have iV:=aa ho;have HB2:Hid (Below w.heap.size w w2):=aa (HB1.out.trans (ho.bel.mono HB1.size));have HE2:=aa (HE.below HB2);have S2:w2.cell? ⟨lb,0,none⟩=some (.slice kA 1 kc)∧w2.cell? ⟨lb,1,none⟩=some (.slice none 0 0):=⟨HE2.c0,HE2.c1⟩;clear ho
 refine hK.out _ _ S2 ?_;clear hK K;try simp only [aL,aN,aZ,aC]
 refine aR (i:=9) (by kernel_rfl) rfl (fun K hK=> ?_);refine Ic rfl (.tmp 51) (.tmp 59) rfl w0 (.slice oA 1 oc) [1] rfl (HO.after HB2) _ A2 4 c2 [0,1,0,107] rfl iV.sb (by decide) ?_;intro A3 n3 c3 w3 hn ho hc;simp only [List.length_cons,List.length_nil,Nat.zero_add,Nat.reduceAdd] at hn;subst hn;simp only [List.cons_append,List.nil_append] at ho;have nD:=aa ho;have gN:=aa hc;have S3:w3.cell? ⟨lb,0,none⟩=some (.slice kA 1 kc)∧w3.cell? ⟨lb,1,none⟩=some (.slice none 0 0):=⟨gN.cell (HN lb (.inl rfl)) S2.1,gN.cell (HN lb (.inl rfl)) S2.2⟩;clear ho hc;refine hK.out _ _ S3 ?_;clear hK K;try simp only [aL,aN,aZ,aC]
 refine vT 10 S3 ?_;refine bP (by kernel_rfl) ?_ _;go_simp
 refine dF _ _ _ _ _ _ _ _ _ _ A3 c3 w3 nD ?_;exact(ag.of_below HB2).trans gN (fun b _ h=>h)
theorem BK (F:Nat→Prop) (lb lc kc:Nat) (kA:Option Addr) (w:World) (h:E1 w F lb kA kc):
  Calls prog 85 #[.slice (some ⟨lb,0,none⟩) 1 lc] w fun e w'=>∃A c,e= .returned (.tuple #[.slice A 7 c,.int .i64 0,.int .i64 0])∧OB w w' (.slice A 7 c) dS:=by
 have HE:=aa h;refine letter fun R HR=> ?_;clear h;go_enter func85,ntmps85
 go_upto_region 4 with(go_at_call 113;go_loud (refine(BL (some ⟨lb,0,none⟩) 1 lc _ [([107],[])] w HE.ents (by omega) (fun i e he=>by match i with|0=>simp at he;subst he;decide|i+1=>simp at he)).mono ?_;rintro e w1 ⟨rfl,hb1⟩;rw [show dJ [([107],[])]=(0,0) by decide];have HB1:=aa hb1;clear hb1))
 go_upto_region 7 with
  (go_at_call 114;go_loud (refine(qd 1 w1 (by decide)).mono ?_;rintro e w2 ⟨Uf,nw2,Ug,hn,rfl,ho⟩;simp only [List.length_cons,List.length_nil] at hn;subst hn;have VT:=aa ho;have Lw2:Hid (Below w1.heap.size w1 w2):=aa ho.bel;clear ho))
 have iV:Hid (OB w w2 (.slice Uf 1 Ug) [1]):=aa (VT.ahead HB1);have HE2:=aa (HE.below iV.bel);go_wp2;refine wp_loop_rounds 2 ?_;rw [rounds_succ];go_upto_region 13 with(at_builtin;go_loud (obtain⟨w3,hw3⟩:∃W,W=w2.alloc (.cells #[.int .u8 1,.int .u8 0] 5):=⟨_,rfl⟩;rw [←hw3];have nD:Hid (OB w2 w3 (.slice (some ⟨w2.heap.size,0,none⟩) 2 2) [1,0]):=aa (by rw [hw3];exact OB.lit w2 [1,0] _ rfl (by decide));clear hw3;refine bJ rfl (.tmp 40) (.tmp 49) rfl w2 (.slice none 0 0) [] rfl ⟨Ow.nil _ _,nD.bel⟩ _ (some ⟨w2.heap.size,0,none⟩) 2 2 [1,0] rfl nD.sb (by decide) ?_;intro A4 n4 c4 w4 hn ho hc;simp only [List.length_cons,List.length_nil,Nat.zero_add,Nat.reduceAdd] at hn;subst hn;simp only [List.nil_append] at ho;have lI:=aa ho;clear ho hc))
 have JV:=aa (HE2.below lI.bel);have VV:=aa (iV.after lI.bel);refine Pg F w lb lc Ug kc Uf kA w4 _ (aa (fun _ _ _ _ h=>h)) JV VV (aa (fun b hb e=>by have h1:=HE.out.own b hb;have h2:=(ah VV.own b e).1;omega)) ?_;intro v51 v52 v53 v54 v55 v56 v57 v58 v59 v60 A5 c5 w5 ho hc;have AY:=aa ho;have fQ:=aa hc;have TZ:Hid (SB w5 (fun b=>w2.heap.size≤b∧b<w4.heap.size) (.slice A4 2 c4) [1,0]):=aa (lI.sb.lt.chg hc (fun g hg e=>by have h1:=(ah iV.own g e).2;have h2:w2.heap.size≤g:=hg.1;omega));clear ho hc;go_wp2;rw [rounds_succ]
 go_wp2_with
  (at_builtin;go_loud (refine bJ rfl (.tmp 61) (.tmp 62) rfl w (.slice A5 5 c5) [1,0,1,0,107] rfl AY _ A4 2 c4 [1,0] rfl TZ (by decide) ?_;intro Aw6 nw6 cw6 w6 hn ho hc;simp only [List.length_cons,List.length_nil,Nat.zero_add,Nat.reduceAdd] at hn;subst hn;simp only [List.cons_append,List.nil_append] at ho;have XP:=aa ho;have Cw6:=aa hc;clear ho hc))
 go_ret3
 rw [HR.out];exact⟨_,_,rfl,XP⟩
end
end Go.Proofs.YtbjgeidjmhialaaGreatDoor
