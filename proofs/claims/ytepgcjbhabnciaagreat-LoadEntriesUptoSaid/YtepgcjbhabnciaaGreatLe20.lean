/- Part 20. -/
import Derived.Test.YtepgcjbhabnciaaGreatLe18
namespace Go.Proofs.YtepgcjbhabnciaaGreat
set_option maxRecDepth 100000
set_option maxHeartbeats 8000000
open Go.Proofs.Tryz Go.RowKit
open Go.Lib (compareBytes)
variable {i n:Nat} {x:Row} {l:List Row}
def Qn (l:List Nat):List Value:=l.map fun(x:Nat)=> .int .u64 (x:Int)
theorem JE (F:Nat->Prop) (base:Nat) (A:Option Addr) (n c:Nat) (l:List Nat) (w:World) (h:Rd w F 1 A n (Qn l)) (C:∀b,F b->b<base) (W:base<=w.heap.size) (hl:∀x∈l,x<18446744073709551616) (X:n<=1000):
  Calls prog 188 #[.slice A n c] w (C9 w base (l.flatMap aM)):=by
 have N:=aa h;have L:=aa hl;have J:=aa C;have I:=aa W;have M:Hid (n=l.length):=aa (by have:=h.1;simp [Qn] at this;omega);clear h hl C W;refine letter fun R p=> ?_;go_enter func188,ntmps188
 go_wp2
 go_loopg [8,3] n (fun S U P H=>∃i:Nat,S=n-i/\i<=n/\U= .int .i64 i/\Ow H base P ((l.take i).flatMap aM)/\ag (From base) w H/\((l.take i).flatMap aM).length<=10*i)
 case atStart=>exact⟨0,by omega,by omega,rfl,Ow.nil _ _,ag.refl _ _,by simp⟩
 case round=>
  obtain⟨i,E,hi,rfl,k,D,d⟩:=hrel;have K:=aa E;have z:=aa k;have m:=aa D;have B:=aa d;clear E k D d
  by_cases v:i<n
  ·have G:(i:Int)<(n:Int):=by omega
   obtain⟨b,o,u,rfl,_,y,s⟩:=(N.out.chg m (fun b W e=>by have:=J.out b W;have e:base<=b:=e;omega)).at_ v
   obtain⟨x,f,rfl⟩:∃x:Nat,l[i]? =some x/\u= .int .u64 (x:Int):=by
    simp only [Qn,List.getElem?_map,Option.map_eq_some_iff] at y;obtain⟨x,a,e⟩:=y;exact⟨x,a,e.symm⟩
   have O:=aa f;have q:=L.out x (List.mem_of_getElem? f);clear y f;go_wp2_with (go_at_call 205;go_loud (refine(Eo base x u3 ((l.take i).flatMap aM) wr z (by have:=B.out;omega) q (Nat.le_trans I m.size)).mono ?_);rintro e w2 ⟨v2,rfl,j,g⟩;have T:=aa j;have Q:=aa g;clear j g)
   go_roundg (n-(i+1))
   case measure=>have:=K.out;omega
   case rel=>
    have r:=lX x 9 (by omega);have V:=B.out;have e:(l.take (i+1)).flatMap aM=(l.take i).flatMap aM++aM x:=by rw [List.take_add_one,O.out,List.flatMap_append];simp
    exact⟨i+1,rfl,by omega,by go_num,by rw [e];exact T,m.out.trans Q (fun _ _ h=>h),by rw [e,List.length_append];omega⟩
  ·have t:i=n:=by omega
   subst t;go_wp2;rw [p.out];have r:=z.out;rw [List.take_of_length_le (by have:=M.out;omega)] at r;exact⟨_,rfl,r,m⟩
section
def lF (w:World) (F:Nat->Prop) (A:Option Addr) (n:Nat) (l:List Row):Prop:=
 Hid (n=l.length)/\∃vs,Rd w F 4 A n vs/\∀(i:Nat) (x:Row),l[i]? =some x->∃u,vs[i*4]? =some u/\vs[i*4+1]? =some (.int .i64 x.at_)/\vs[i*4+2]? =some (.int .i64 x.len)/\vs[i*4+3]? =some (.int .i64 x.ents)/\SB w F u x.last
section
variable {S F G:Nat->Prop} {w w':World} {A:Option Addr} {n:Nat} {l:List Row}
theorem lF.len (h:lF w F A n l):n=l.length:=h.1
theorem lF.weak (h:lF w F A n l) (k:∀b,F b->G b):lF w G A n l:=
 let⟨f,vs,g,j⟩:=h;⟨f,vs,g.weak k,fun i e m=>let⟨u,a,b,c,d,s⟩:=j i e m;⟨u,a,b,c,d,s.weak k⟩⟩
theorem lF.chg (h:lF w F A n l) (y:ag S w w') (K:∀b,F b->¬S b):lF w' F A n l:=
 let⟨f,vs,g,j⟩:=h;⟨f,vs,g.chg y K,fun i e k=>let⟨u,a,b,c,d,s⟩:=j i e k;⟨u,a,b,c,d,s.chg y K⟩⟩
theorem lF.below (h:lF w F A n l) (a:Below w.heap.size w w'):lF w' F A n l:=h.chg (ag.of_below (S:=Nil) a) (fun _ _ b=>b)
theorem lF.drewN (h:lF w F A n l) (k:Nat):lF (w.drewN k) F A n l:=h.chg ((ag.refl Nil w).drewN k) (fun _ _ a=>a)
theorem lF.at_ {k:Nat} (h:lF w F A n l) (z:k<n):∃b o L c a x,A=some ⟨b,o,none⟩/\F b/\l[k]? =some x/\w.cell? ⟨b,o+k*4,none⟩=some (.slice L c a)/\w.cell? ⟨b,o+k*4+1,none⟩=some (.int .i64 x.at_)/\w.cell? ⟨b,o+k*4+2,none⟩=some (.int .i64 x.len)/\w.cell? ⟨b,o+k*4+3,none⟩=some (.int .i64 x.ents)/\SB w F (.slice L c a) x.last:=by
 obtain⟨p,vs,q,r⟩:=h;have hl:k<l.length:=by have:n=l.length:=p;omega
 obtain⟨b,o,t,v,d⟩:=q.2 (by omega);obtain⟨u,g,i,j,m,s⟩:=r k l[k] (List.getElem?_eq_getElem hl);obtain⟨L,c,a,rfl,y⟩:=s;have c0:=d _ _ g;have c1:=d _ _ i;have e:=d _ _ j;have f:=d _ _ m;rw [<-Nat.add_assoc] at c1 e f;exact⟨b,o,L,c,a,l[k],t,v,List.getElem?_eq_getElem hl,c0,c1,e,f,⟨L,c,a,rfl,y⟩⟩
end
theorem pP {l:List Row} {i:Nat} {x:Row} (h:l[i]? =some x):bi (l.take (i+1))=bi (l.take i)+x.ents:=by
 unfold bi;rw [List.take_add_one,h];simp
theorem kQ {l:List Row} (h:∀x∈l,x.ents<=64):∀i,bi (l.take i)<=64*i
 |0=>by simp [bi]
 |i+1=>by
  have a:=kQ h i
  cases hx:l[i]? with
  |none=>rw [List.take_add_one,hx];simp;omega
  |some x=>rw [pP hx];have:=h x (List.mem_of_getElem? hx);omega
theorem Fp (F:Nat->Prop) (A:Option Addr) (n c:Nat) (l:List Row) (w:World) (h:lF w F A n l) (H:n<=8388608) (r:∀x∈l,x.ents<=64):
  Calls prog 189 #[.slice A n c] w fun e w'=>e= .returned (.int .i64 (bi l))/\Below w.heap.size w w':=by
 refine letter fun R y=> ?_;have u:=aa h;have v:Hid (n=l.length):=h.len;have q:=aa r;clear h r;go_enter func189,ntmps189
 go_wp2
 go_loopw [3,8] (fun C p D=>∃i:Nat,i<=n/\p= .int .i64 i/\C= .int .i64 (bi (l.take i))/\Hid (Below w.heap.size w D)) (fun _ p _=>n-(intOf p).toNat)
 case atStart=>exact⟨0,Nat.zero_le _,rfl,by simp [bi],aa (Below.refl _ _)⟩
 case round=>
  obtain⟨i,hi,rfl,rfl,f⟩:=hrel
  by_cases j:i<n
  ·have d:(i:Int)<(n:Int):=by omega
   obtain⟨b,o,L,J,I,x,rfl,_,m,c0,c1,E,G,s⟩:=(u.out.below f).at_ j;have g:Hid (bi (l.take (i+1))=bi (l.take i)+x.ents):=aa (pP m);obtain⟨t,k⟩:∃t,t=bi (l.take i):=⟨_,rfl⟩;have z:t<=64*i:=by rw [k];exact kQ q i
   have B:x.ents<=64:=q.out x (List.mem_of_getElem? m);rw [<-k] at g|-;clear k m s;go_wp2
   go_roundw
   case rel=>exact⟨i+1,by omega,by go_num,by rw [g.out];go_num,aa (f.alloc f.size _)⟩
   case measure=>simp [intOf];omega
  ·have d:¬((i:Int)<(n:Int)):=by omega
   have a:i=n:=by omega
   have g:Hid (bi (l.take i)=bi l):=aa (by rw [a,v.out,List.take_length]);clear a;go_wp2;rw [y.out];exact⟨by rw [g.out],f⟩
theorem DW (F:Nat->Prop) (A:Option Addr) (n c:Nat) (l:List Row) (w:World) (h:lF w F A n l) (E:n<=8388608) (q:∀x∈l,x.ents<=64):
  Calls prog 106 #[.slice A n c] w fun e w'=>e= .returned (.int .i64 (bi l))/\w=w':=by
 refine letter fun R v=> ?_;have r:=aa h;have u:Hid (n=l.length):=h.len;have p:=aa q;clear h q;go_enter func106,ntmps106
 go_wp2
 go_loop [3,4] (fun B m=>∃i:Nat,i<=n/\m= .int .i64 i/\B= .int .i64 (bi (l.take i))) (fun _ m=>n-(intOf m).toNat)
 case atStart=>exact⟨0,Nat.zero_le _,rfl,by simp [bi]⟩
 case round=>
  obtain⟨i,hi,rfl,rfl⟩:=hrel
  by_cases g:i<n
  ·have d:(i:Int)<(n:Int):=by omega
   obtain⟨b,o,L,H,G,x,rfl,_,k,c0,c1,C,D,s⟩:=r.out.at_ g;have f:Hid (bi (l.take (i+1))=bi (l.take i)+x.ents):=aa (pP k);obtain⟨t,j⟩:∃t,t=bi (l.take i):=⟨_,rfl⟩;have y:t<=64*i:=by rw [j];exact kQ p i
   have z:x.ents<=64:=p.out x (List.mem_of_getElem? k);rw [<-j] at f|-;clear j k s;go_wp2
   go_round
   case rel=>exact⟨i+1,by omega,by go_num,by rw [f.out];go_num⟩
   case measure=>simp [intOf];omega
  ·have d:¬((i:Int)<(n:Int)):=by omega
   have a:i=n:=by omega
   have f:Hid (bi (l.take i)=bi l):=aa (by rw [a,u.out,List.take_length]);clear a;go_wp2;rw [v.out];exact⟨by rw [f.out],rfl⟩
end
theorem aR (h:n<18446744073709551616):(aM n).length<=10:=lX n 9 (by omega)
theorem Qk (h:x.last.length<=64) (a:x.at_<18446744073709551616) (b:x.len<18446744073709551616) (c:x.ents<18446744073709551616):x.bytes.length<=104:=by
 unfold Row.bytes;simp only [List.length_append];have d:=aR (n:=x.last.length) (by omega);have e:=aR a;have f:=aR b;have g:=aR c;omega
theorem rU (h:l[i]? =some x):(l.take (i+1)).flatMap Row.bytes=(l.take i).flatMap Row.bytes++x.bytes:=by
 rw [List.take_add_one,h];simp
theorem uz {l:List Row} (h:∀x∈l,x.bytes.length<=104):∀i,((l.take i).flatMap Row.bytes).length<=104*i
 |0=>by simp
 |i+1=>by
  have a:=uz h i
  cases hx:l[i]? with
  |none=>rw [List.take_add_one,hx];simp only [Option.toList_none,List.append_nil];omega
  |some x=>rw [rU hx,List.length_append];have:=h x (List.mem_of_getElem? hx);omega
structure nY (l:List Row):Prop where
 many:l.length<=8388608
 key:∀x∈l,x.last.length<=64
 at_:∀x∈l,x.at_<=1152921504606
 len:∀x∈l,x.len<=131072
 ents:∀x∈l,x.ents<=64
theorem nY.bytes (h:nY l):∀x∈l,x.bytes.length<=104:=fun x a=>Qk (h.key x a) (by have:=h.at_ x a;omega) (by have:=h.len x a;omega) (by have:=h.ents x a;omega)
def XY (l:List Row) (w:World) (e:Ending) (w':World):Prop:=∃v,e= .returned (.tuple #[v,.int .i64 0,.int .i64 0])/\Ow w' w.heap.size v (aG l)/\Below w.heap.size w w'
theorem C9.below {w w':World} {bs:List UInt8} {e:Ending} (h:C9 w w.heap.size bs e w'):∃A n c,e= .returned (.slice A n c)/\n<=c/\c<=maxLen/\n=bs.length/\Ow w' w.heap.size (.slice A n c) bs/\Below w.heap.size w w':=by
 obtain⟨v,rfl,a,i⟩:=h;obtain⟨A,n,c,rfl,d,f,g,_⟩:=a.sb;exact⟨A,n,c,rfl,d,f,g,a,i.below_of (Nat.le_refl _) (fun b j e=>by have e:w.heap.size<=b:=e;omega)⟩
theorem Fh (F:Nat->Prop) (A:Option Addr) (n c:Nat) (l:List Row) (w:World) (h:lF w F A n l) (hf:nY l) (hF:∀b,F b->b<w.heap.size)
  (hc:Calls prog 186 #[.slice A n c] w fun e w'=>e= .returned (.tuple #[.int .i64 0,.int .i64 0])/\Below w.heap.size w w'):
  Calls prog 162 #[.slice A n c] w (XY l w):=by
 obtain⟨i0,O,Q,S,T⟩:=info_parts bu;refine letter fun R HR=> ?_;have HH:=aa h;have HN:Hid (n=l.length):=h.len;have HF:=aa hf;have Pm:=aa hF;have Um:=aa hc;have hn:n<=8388608:=by have:=HN.out;have:=hf.many;omega
 clear h hf hc hF;go_enter func162,ntmps162
 go_upto_region 4 with(go_at_call 186;go_loud (refine Um.mono ?_);rintro e w1 ⟨rfl,M⟩;have ab:=aa M;clear M)
 have Y5:=aa (pz w1.heap.size n w1 (by omega) (Nat.le_refl _));go_wp2_with (go_at_call 187;go_loud (refine Y5.mono ?_);intro e w2 v;obtain⟨V,vn,vc,rfl,q1,q2,Y,E,G⟩:=v.below;have HV:=aa E;have ar:=aa G;clear v q1 q2 Y E G)
 go_loopw [7,25] (fun bv iv wz=>∃i:Nat,i<=n/\iv= .int .i64 i/\Hid (Ow wz w.heap.size bv (aM n++(l.take i).flatMap Row.bytes))/\Hid (Below w.heap.size w wz)) (fun _ iv _=>n-(intOf iv).toNat)
 case atStart=>exact⟨0,Nat.zero_le _,rfl,aa (by have m:=nu HV ab.size;unfold Ow;simpa using m),aa (ab.out.trans (ar.mono ab.size))⟩
 case round=>
  obtain⟨i,hi,rfl,HO,X⟩:=hrel;obtain⟨bA,bc,ae,M,a9⟩:=au HO;obtain⟨U,K⟩:∃U,U=aM n++(l.take i).flatMap Row.bytes:=⟨_,rfl⟩;have am:=aa K
  have ba:U.length<=10+104*i:=by
   rw [K,List.length_append];have k:=aR (n:=n) (by omega);have p:=uz HF.bytes i;omega
  rw [<-K] at HO ae;obtain⟨bn,ad⟩:∃bn,bn=U.length:=⟨_,rfl⟩;rw [<-ad] at ae ba;have jN:=aa ad;subst ae;clear K M a9 ad
  by_cases be:i<n
  ·have aq:(i:Int)<(n:Int):=by omega
   obtain⟨g,o,L,d,lc,x,rfl,_,hx,c0,c1,c2,c3,s⟩:=(HH.out.below X).at_ be;have D:=List.mem_of_getElem? hx;have HT:Hid ((l.take (i+1)).flatMap Row.bytes=(l.take i).flatMap Row.bytes++x.bytes):=aa (rU hx);obtain⟨s1,s2,s3,s4⟩:=s.parts;have HS:=aa s;have eu:=aa s3;have bp:d<=64:=by have:=HF.out.key x D;omega
   have bE:x.at_<=1152921504606:=HF.out.at_ x D;have bL:x.len<=131072:=HF.out.len x D;have bK:x.ents<=64:=HF.out.ents x D;obtain⟨r,Tn⟩:∃r,r=wr.heap.size:=⟨_,rfl⟩;clear hx D s s1 s2 s3 s4;go_upto_region 8 with fail
   obtain⟨Z,P⟩:∃W,W=wr.alloc (.cells #[.slice L d lc,.int .i64 x.at_,.int .i64 x.len,.int .i64 x.ents] 100):=⟨_,rfl⟩;rw [<-P,<-Tn];have an:=aa Tn;have f:Hid (Below wr.heap.size wr Z):=aa (by rw [P];exact(Below.refl _ _).alloc (Nat.le_refl _) _);have ma:Hid (aj Z r 100 #[.slice L d lc,.int .i64 x.at_,.int .i64 x.len,.int .i64 x.ents]):=aa (by rw [P,Tn];exact aj.new _ _ _);have d9:=aa X.size;have y0:Z.cell? ⟨r,0,none⟩=some (.slice L d lc):=ma.out.cell 0;have a0:=aa (pz Z.heap.size d Z (by omega) (Nat.le_refl _));have oD:=aa (own_below HO f);have bx:=aR (n:=d) (by omega);clear P Tn c0 c1 c2 c3;go_upto_region 9 with(first|(go_at_call 187;go_loud (refine a0.mono ?_);intro e w4 v;obtain⟨V4,H,Y6,rfl,q1,q2,Y,E,G⟩:=v.below;have UC:=aa E;have I:=aa G;have bo:=aa Y;have a8:H<=10:=(by omega);clear v q1 q2 Y E G)|(at_builtin;go_loud (refine af _ rfl (.tmp 29) (.tmp 34) _ rfl w.heap.size 5 i0 _ 1 1 underlying24 O Q S T rfl (by omega) _ _ (aF U) rfl (by have m:=own_below oD I;rw [<-jN.out] at m;exact m) (From Z.heap.size) V4 H Y6 (aF (aM d)) rfl UC.sb.parts.2.2.2 (bC _) (by simp only [maxLen];omega) (by omega) (by have k:=d9.out;have p:=f.out.size;have h3:=I.out.size;omega) ?_);intro v5 w5 a z jP;have lG:=aa a;have vw:=aa z;have M9:=aa jP;clear a z jP))
   have UD:ag (fun g=>(Value.slice bA bn bc).ownBlock=some g) wr w5:=((ag.of_below f).then I).trans (ag.of_grown vw) (fun _ _ h=>h);have BZ:Hid (∀g,(Value.slice bA bn bc).ownBlock=some g->w.heap.size<=g/\g<wr.heap.size):=aa (fun g N=>ah HO g N);have dF:=aa UD;have Fj:Hid (aj w5 r 100 #[.slice L d lc,.int .i64 x.at_,.int .i64 x.len,.int .i64 x.ents]):=aa (((ma.below I)).chg (ag.of_grown vw) (fun e=>by have k:=BZ.out r e;have p:=an.out;omega));have aE:Hid (Rd w5 F 1 L d (aF x.last)):=aa ((HS.chg dF (fun b hb e=>by have k:=BZ.out b e;have p:=Pm.out b hb;omega)).parts.2.2.2);have Ql:Hid (w.heap.size<=w5.heap.size):=aa (Nat.le_trans d9 UD.size);obtain⟨B5,Qh⟩:∃B5,B5=U++aM d:=⟨_,rfl⟩;have a5:=aa Qh;have UE:Hid (w5.ownsRow w.heap.size 5 1 v5 (bn+H) (aF B5)):=aa (by have m:=lG.out;rw [Qh];simpa [aF] using m)
   have oI:Hid (v5.ownBlock≠some r):=aa (fun e=>by
    rcases M9.out with h|h
    ·have k:=BZ.out r (h▸e);have p:=an.out;omega
    ·rw [h] at e;injection e with e;have k:=ma.out.lt;have p:=I.out.size;omega)
   obtain⟨A5,c5,bj,_,_⟩:=au UE;subst bj;have y0:w5.cell? ⟨r,0,none⟩=some (.slice L d lc):=Fj.out.cell 0;clear Qh UD;go_upto_region 10 with((at_builtin;go_loud (refine af _ rfl (.tmp 36) (.tmp 38) _ rfl w.heap.size 5 i0 _ 1 1 underlying24 O Q S T rfl (by omega) (.slice A5 (bn+H) c5) _ (aF B5) rfl UE F L d lc (aF x.last) rfl aE (bC _) (by simp only [maxLen];omega) (by omega) Ql ?_);intro v6 q B fu dD;have lU:=aa B;have kE:=aa fu;clear B fu dD))
   have Na:Hid (aj q r 100 #[.slice L d lc,.int .i64 x.at_,.int .i64 x.len,.int .i64 x.ents]):=aa (Fj.chg (ag.of_grown kE) (fun e=>oI e));obtain⟨B6,iC⟩:∃B6,B6=B5++x.last:=⟨_,rfl⟩;have a6:=aa iC;have Qm:Hid (q.ownsRow w.heap.size 5 1 v6 (bn+H+d) (aF B6)):=aa (by have m:=lU.out;rw [iC];simpa [aF] using m);obtain⟨A6,c6,bk,_,_⟩:=au Qm;subst bk;have JD:Hid (w.heap.size<=q.heap.size):=aa (Nat.le_trans Ql (ag.of_grown kE).size);have y1:q.cell? ⟨r,1,none⟩=some (.int .i64 x.at_):=Na.out.cell 1;have y2:q.cell? ⟨r,2,none⟩=some (.int .i64 x.len):=Na.out.cell 2;have y3:q.cell? ⟨r,3,none⟩=some (.int .i64 x.ents):=Na.out.cell 3;obtain⟨w7,C⟩:∃W,W=q.alloc (.cells #[.int .u64 x.at_,.int .u64 x.len,.int .u64 x.ents] 154):=⟨_,rfl⟩;have jb:Hid (Below q.heap.size q w7):=aa (by rw [C];exact(Below.refl _ _).alloc (Nat.le_refl _) _);have HJ:=aa (JE (fun b=>b=q.heap.size) w7.heap.size (some ⟨q.heap.size,0,none⟩) 3 3 [x.at_,x.len,x.ents] w7 ⟨rfl,fun _=>⟨_,0,rfl,rfl,fun j u hj=>by rw [C,(aj.new q _ _).cell];simpa [Qn] using hj⟩⟩ (fun b hb=>by have hb:b=q.heap.size:=hb;rw [C,World.size_alloc];omega) (Nat.le_refl _) (fun y hy=>by simp at hy;rcases hy with h|h|h<;>omega) (by omega))
   have bb:([x.at_,x.len,x.ents].flatMap aM).length<=30:=by
    have a1:=aR (n:=x.at_) (by omega);have a2:=aR (n:=x.len) (by omega);have a3:=aR (n:=x.ents) (by omega);simp;omega
   have rV:=aa (own_below Qm jb);obtain⟨J,hJ⟩:∃J,J= [x.at_,x.len,x.ents].flatMap aM:=⟨_,rfl⟩;rw [<-hJ] at HJ bb;have ax:=aa hJ;have XZ:=aa C;clear y0 iC hJ C;go_wp2_with (first|(go_at_call 188;rw [<-XZ.out];go_loud (refine HJ.mono ?_);intro e w8 v;obtain⟨V8,al,bm,rfl,q1,q2,Y,E,G⟩:=v.below;have UF:=aa E;have Qo:=aa G;have bB:al<=30:=(by omega);clear v q1 q2 Y E G)|(at_builtin;go_loud (refine af _ rfl (.tmp 40) (.tmp 51) _ rfl w.heap.size 5 i0 _ 1 1 underlying24 O Q S T rfl (by omega) (.slice A6 (bn+H+d) c6) _ (aF B6) rfl (own_below rV Qo) (From w7.heap.size) V8 al bm (aF J) rfl UF.sb.parts.2.2.2 (bC _) (by simp only [maxLen];omega) (by omega) (by have k:=JD.out;have p:=jb.out.size;have h3:=Qo.out.size;omega) ?_);intro v9 w9 Tp ao a7;have aA:=aa Tp;have aw:=aa ao;clear Tp ao a7))
   go_roundw
   case rel=>
    refine⟨i+1,by omega,by go_num,aa ?_,aa ?_⟩
    ·have k:aM n++(l.take (i+1)).flatMap Row.bytes=B6++J:=by
      rw [a6.out,a5.out,am.out,ax.out,HT.out];unfold Row.bytes;rw [<-eu.out];simp
     rw [k];have m:=aA.out;have h8:=UF.out.1;rw [cO] at h8;unfold Ow
     have h7:bn+H+d+al=(B6++J).length:=by
      have a1:=Qm.out.1;rw [cO] at a1;rw [List.length_append];have a2:=UF.out.sb.parts.2.2.1;omega
     rw [<-h7]
     simpa [aF] using m
    ·have k:=X.out.trans (f.mono X.size);have p:=k.trans (I.mono k.size);have h3:=p.grown vw p.size (fun g N=>(BZ g N).1);have h4:=h3.grown kE h3.size (fun g N=>(ah UE g N).1);have h5:=h4.trans (jb.mono h4.size);have h6:=h5.trans (Qo.mono h5.size)
     exact h6.grown aw h6.size (fun g N=>(ah Qm g N).1)
   case measure=>simp [intOf];omega
  ·have aq:¬((i:Int)<(n:Int)):=by omega
   have ap:i=n:=by omega
   have xF:Hid (aG l=U++aM (bi l)):=aa (by
    unfold aG;rw [am.out,ap,HN.out,List.take_length])
   have zY:=aa (kQ HF.ents n);have bh:bi l<=64*n:=by have:=zY.out;rwa [HN.out,List.take_length,<-HN.out] at this
   have HT:=aa (Fp F A n c l wr (HH.below X) hn HF.ents);obtain⟨t,ht⟩:∃t,t=bi l:=⟨_,rfl⟩;rw [<-ht] at HT xF bh;have a4:=aa (fun(W:World)=>pz W.heap.size t W (by omega) (Nat.le_refl _));have bM:=aR (n:=t) (by omega);have d9:=aa X.size;clear ap ht;go_wp2_with (first|(go_at_call 189;go_loud (refine HT.mono ?_);rintro e Z ⟨rfl,ac⟩;have f:=aa ac;have oD:=aa (own_below HO ac);clear ac)|(go_at_call 187;go_loud (refine(a4 _).mono ?_);intro e w4 v;obtain⟨V4,H,Y6,rfl,q1,q2,Y,E,G⟩:=v.below;have UC:=aa E;have I:=aa G;have a8:H<=10:=(by omega);clear v q1 q2 Y E G)|(at_builtin;go_loud (refine af _ rfl (.tmp 54) (.tmp 58) _ rfl w.heap.size 5 i0 _ 1 1 underlying24 O Q S T rfl (by omega) (.slice bA bn bc) _ (aF U) rfl (by have m:=own_below oD I;rw [<-jN.out] at m;exact m) (From Z.heap.size) V4 H Y6 (aF (aM t)) rfl UC.sb.parts.2.2.2 (bC _) (by simp only [maxLen];omega) (by omega) (by have k:=d9.out;have p:=f.out.size;have h3:=I.out.size;omega) ?_);intro v5 w5 a z jP;have lG:=aa a;have vw:=aa z;clear a z jP))
   go_ret3
   rw [HR.out];unfold XY;rw [xF.out]
   refine⟨v5,rfl,?_,?_⟩
   ·have m:=lG.out;have h8:=UC.out.sb.parts.2.2.1;unfold Ow;rw [List.length_append,<-jN.out,<-h8]
    simpa [aF] using m
   ·have k:=X.out.trans (f.mono X.size);have p:=k.trans (I.mono k.size);exact p.grown vw p.size (fun g N=>(ah HO g N).1)
theorem Dg (F:Nat->Prop) (A:Option Addr) (n c:Nat) (l:List Row) (w:World) (h:lF w F A n l) (hf:nY l) (hF:∀b,F b->b<w.heap.size)
  (hc:Calls prog 104 #[.slice A n c] w fun e w'=>e= .returned (.tuple #[.int .i64 0,.int .i64 0])/\Below w.heap.size w w'):
  Calls prog 64 #[.slice A n c] w (XY l w):=by
 obtain⟨i0,m,p,q,r⟩:=info_parts bu;refine letter fun R HR=> ?_;have HH:=aa h;have HN:Hid (n=l.length):=h.len;have T:=aa hf;have Pm:=aa hF;have Um:=aa hc;have hn:n<=8388608:=by have:=HN.out;have:=hf.many;omega
 clear h hf hc hF;go_enter func64,ntmps64
 go_upto_region 4 with(go_at_call 104;go_loud (refine Um.mono ?_);rintro e w1 ⟨rfl,N⟩;have Q:=aa N;clear N)
 have Y5:=aa (fI w1.heap.size n w1 (by omega) (Nat.le_refl _));go_wp2_with (go_at_call 105;go_loud (refine Y5.mono ?_);intro e w2 d;obtain⟨V,vn,vc,rfl,E,G,H,j,k⟩:=d.below;have HV:=aa j;have a4:=aa k;clear d E G H j k)
 go_loopw [7,8] (fun bv iv wz=>∃i:Nat,i<=n/\iv= .int .i64 i/\Hid (Ow wz w.heap.size bv (aM n++(l.take i).flatMap Row.bytes))/\Hid (Below w.heap.size w wz)) (fun _ iv _=>n-(intOf iv).toNat)
 case atStart=>exact⟨0,Nat.zero_le _,rfl,aa (by have a:=nu HV Q.size;unfold Ow;simpa using a),aa (Q.out.trans (a4.mono Q.size))⟩
 case round=>
  obtain⟨i,hi,rfl,HO,HB⟩:=hrel;obtain⟨bA,bc,an,N,b7⟩:=au HO;obtain⟨I,M⟩:∃I,I=aM n++(l.take i).flatMap Row.bytes:=⟨_,rfl⟩;have ao:=aa M
  have b8:I.length<=10+104*i:=by
   rw [M,List.length_append];have v:=aR (n:=n) (by omega);have y:=uz T.bytes i;omega
  rw [<-M] at HO an;obtain⟨bn,am⟩:∃bn,bn=I.length:=⟨_,rfl⟩;rw [<-am] at an b8;have jN:=aa am;subst an;have Y:Hid (wr.ownsRow w.heap.size 5 1 (.slice bA bn bc) bn (aF I)):=aa (by have a:=HO.out;unfold Ow at a;rw [<-jN.out] at a;exact a);have Z:=HB;have ZP:=aa HB.size;clear M N b7 am
  by_cases cf:i<n
  ·have a3:(i:Int)<(n:Int):=by omega
   obtain⟨g,o,L,f,lc,x,rfl,UH,hx,c0,c1,c2,c3,s⟩:=HH.out.at_ cf;have D:=List.mem_of_getElem? hx;have HT:Hid ((l.take (i+1)).flatMap Row.bytes=(l.take i).flatMap Row.bytes++x.bytes):=aa (rU hx);obtain⟨s1,s2,s3,s4⟩:=s.parts;have HS:=aa s;have eu:=aa s3;have ct:f<=64:=by have:=T.out.key x D;omega
   have cC:x.at_<=1152921504606:=T.out.at_ x D;have b9:x.len<=131072:=T.out.len x D;have cD:x.ents<=64:=T.out.ents x D;have iZ:=aa c0;have jL:=aa c1;have bB:=aa c2;have eH:=aa c3;have y0:wr.cell? ⟨g,o+i*4,none⟩=some (.slice L f lc):=tH HB (Pm g UH) c0;clear hx D s s1 s2 s3 s4 c0 c1 c2 c3;have bm:=aa (fI wr.heap.size f wr (by omega) (Nat.le_refl _));have cu:=aR (n:=f) (by omega);go_upto_region 9 with(first|(go_at_call 105;go_loud (refine bm.mono ?_);intro e cI d;obtain⟨Va,u,cn,rfl,E,G,H,j,k⟩:=d.below;have be:=aa j;have LG:=aa k;have cE:u<=10:=(by omega);clear d E G H j k)|(at_builtin;go_loud (refine af _ rfl (.tmp 28) (.tmp 36) _ rfl w.heap.size 5 i0 _ 1 1 underlying24 m p q r rfl (by omega) (.slice bA bn bc) _ (aF I) rfl (own_below Y LG) (From wr.heap.size) Va u cn (aF (aM f)) rfl be.sb.parts.2.2.2 (bC _) (by simp only [maxLen];omega) (by omega) (by have v:=ZP.out;have y:=LG.out.size;omega) ?_);intro va wa TF aw bo;have bp:=aa TF;have a5:=aa aw;clear TF aw bo))
   obtain⟨Ba,ab⟩:∃B,B=I++aM f:=⟨_,rfl⟩;have bx:=aa ab;have Yc:Hid (wa.ownsRow w.heap.size 5 1 va (bn+u) (aF Ba)):=aa (by have a:=bp.out;rw [ab];simpa [aF] using a);have ZQ:Hid (Below w.heap.size w wa):=aa ((Z.out.trans (LG.mono Z.size)).grown a5 (by have v:=Z.out.size;have y:=LG.out.size;omega) (fun g z=>(ah Y g z).1));have bE:=aa ZQ.size;obtain⟨Aa,ca,ch,_,_⟩:=au Yc;subst ch;clear ab;have cr:wa.cell? ⟨g,o+i*4,none⟩=some (.slice L f lc):=tH ZQ (Pm g UH) iZ;have ba:Hid (Rd wa F 1 L f (aF x.last)):=aa ((HS.chg (ag.of_below_ ZQ (S:=fun b=>w.heap.size<=b) (fun b _ h=>h)) (fun b hb e=>by have v:=Pm.out b hb;have e:w.heap.size<=b:=e;omega)).parts.2.2.2);clear y0;go_upto_region 10 with(at_builtin;go_loud (refine af _ rfl (.tmp 38) (.tmp 43) _ rfl w.heap.size 5 i0 _ 1 1 underlying24 m p q r rfl (by omega) (.slice Aa (bn+u) ca) _ (aF Ba) rfl Yc F L f lc (aF x.last) rfl ba (bC _) (by simp only [maxLen];omega) (by omega) bE ?_);intro vb wb TG ax Vk;have bK:=aa TG;have a6:=aa ax;clear TG ax Vk)
   obtain⟨Bb,ac⟩:∃B,B=Ba++x.last:=⟨_,rfl⟩;have bL:=aa ac;have U:Hid (wb.ownsRow w.heap.size 5 1 vb (bn+u+f) (aF Bb)):=aa (by have a:=bK.out;rw [ac];simpa [aF] using a);have Yd:Hid (Below w.heap.size w wb):=aa (ZQ.grown a6 ZQ.size (fun g z=>(ah Yc g z).1));have bM:=aa Yd.size;obtain⟨Ab,cb,ci,_,_⟩:=au U;subst ci;have y1:wb.cell? ⟨g,o+i*4+1,none⟩=some (.int .i64 x.at_):=tH Yd (Pm g UH) jL;clear cr ac;have bN:=aa (fI wb.heap.size x.at_ wb (by omega) (Nat.le_refl _));have cv:=aR (n:=x.at_) (by omega);go_upto_region 11 with(first|(go_at_call 105;go_loud (refine bN.mono ?_);intro e cJ d;obtain⟨Vc,P,co,rfl,E,G,H,j,k⟩:=d.below;have bh:=aa j;have Vl:=aa k;have cF:P<=10:=(by omega);clear d E G H j k)|(at_builtin;go_loud (refine af _ rfl (.tmp 45) (.tmp 52) _ rfl w.heap.size 5 i0 _ 1 1 underlying24 m p q r rfl (by omega) (.slice Ab (bn+u+f) cb) _ (aF Bb) rfl (own_below U Vl) (From wb.heap.size) Vc P co (aF (aM x.at_)) rfl bh.sb.parts.2.2.2 (bC _) (by simp only [maxLen];omega) (by omega) (by have v:=bM.out;have y:=Vl.out.size;omega) ?_);intro vc wc TI aA bO;have bP:=aa TI;have a7:=aa aA;clear TI aA bO))
   obtain⟨Bc,ad⟩:∃B,B=Bb++aM x.at_:=⟨_,rfl⟩;have bQ:=aa ad;have W:Hid (wc.ownsRow w.heap.size 5 1 vc (bn+u+f+P) (aF Bc)):=aa (by have a:=bP.out;rw [ad];simpa [aF] using a);have ZR:Hid (Below w.heap.size w wc):=aa ((Yd.out.trans (Vl.mono Yd.size)).grown a7 (by have v:=Yd.out.size;have y:=Vl.out.size;omega) (fun g z=>(ah U g z).1));have bX:=aa ZR.size;obtain⟨Ac,cc,cj,_,_⟩:=au W;subst cj;clear ad;have y2:wc.cell? ⟨g,o+i*4+2,none⟩=some (.int .i64 x.len):=tH ZR (Pm g UH) bB;clear y1;have bY:=aa (fI wc.heap.size x.len wc (by omega) (Nat.le_refl _));have cw:=aR (n:=x.len) (by omega);go_upto_region 12 with(first|(go_at_call 105;go_loud (refine bY.mono ?_);intro e cL d;obtain⟨Vd,Ye,cp,rfl,E,G,H,j,k⟩:=d.below;have bj:=aa j;have J:=aa k;have cG:Ye<=10:=(by omega);clear d E G H j k)|(at_builtin;go_loud (refine af _ rfl (.tmp 54) (.tmp 61) _ rfl w.heap.size 5 i0 _ 1 1 underlying24 m p q r rfl (by omega) (.slice Ac (bn+u+f+P) cc) _ (aF Bc) rfl (own_below W J) (From wc.heap.size) Vd Ye cp (aF (aM x.len)) rfl bj.sb.parts.2.2.2 (bC _) (by simp only [maxLen];omega) (by omega) (by have v:=bX.out;have y:=J.out.size;omega) ?_);intro vd wd TJ aE bZ;have b0:=aa TJ;have a8:=aa aE;clear TJ aE bZ))
   obtain⟨Bd,ae⟩:∃B,B=Bc++aM x.len:=⟨_,rfl⟩;have b1:=aa ae;have X:Hid (wd.ownsRow w.heap.size 5 1 vd (bn+u+f+P+Ye) (aF Bd)):=aa (by have a:=b0.out;rw [ae];simpa [aF] using a);have ZS:Hid (Below w.heap.size w wd):=aa ((ZR.out.trans (J.mono ZR.size)).grown a8 (by have v:=ZR.out.size;have y:=J.out.size;omega) (fun g z=>(ah W g z).1));have b2:=aa ZS.size;obtain⟨Ad,cd,ck,_,_⟩:=au X;subst ck;clear ae;have y3:wd.cell? ⟨g,o+i*4+3,none⟩=some (.int .i64 x.ents):=tH ZS (Pm g UH) eH;clear y2;have b3:=aa (fI wd.heap.size x.ents wd (by omega) (Nat.le_refl _));have cx:=aR (n:=x.ents) (by omega);go_upto_region 7 with(first|(go_at_call 105;go_loud (refine b3.mono ?_);intro e cM d;obtain⟨Ve,O,cq,rfl,E,G,H,j,k⟩:=d.below;have bk:=aa j;have K:=aa k;have b9:O<=10:=(by omega);clear d E G H j k)|(at_builtin;go_loud (refine af _ rfl (.tmp 63) (.tmp 70) _ rfl w.heap.size 5 i0 _ 1 1 underlying24 m p q r rfl (by omega) (.slice Ad (bn+u+f+P+Ye) cd) _ (aF Bd) rfl (own_below X K) (From wd.heap.size) Ve O cq (aF (aM x.ents)) rfl bk.sb.parts.2.2.2 (bC _) (by simp only [maxLen];omega) (by omega) (by have v:=b2.out;have y:=K.out.size;omega) ?_);intro ve we TK a0 b4;have b5:=aa TK;have a9:=aa a0;clear TK a0 b4))
   obtain⟨Be,al⟩:∃B,B=Bd++aM x.ents:=⟨_,rfl⟩;have b6:=aa al;have ap:Hid (we.ownsRow w.heap.size 5 1 ve (bn+u+f+P+Ye+O) (aF Be)):=aa (by have a:=b5.out;rw [al];simpa [aF] using a);have aq:Hid (Below w.heap.size w we):=aa ((ZS.out.trans (K.mono ZS.size)).grown a9 (by have v:=ZS.out.size;have y:=K.out.size;omega) (fun g z=>(ah X g z).1));have cy:=aa aq.size;obtain⟨Ae,ce,cl,_,_⟩:=au ap;subst cl;clear al;clear y3;go_wp2
   go_roundw
   case rel=>
    refine⟨i+1,by omega,by go_num,aa ?_,aq⟩
    have v:aM n++(l.take (i+1)).flatMap Row.bytes=Be:=by
     rw [b6.out,b1.out,bQ.out,bL.out,bx.out,ao.out,HT.out];unfold Row.bytes;rw [<-eu.out];simp
    rw [v];have a:=ap.out;unfold Ow
    have h7:bn+u+f+P+Ye+O=Be.length:=by
     have a1:=a.1;rw [cO] at a1;omega
    rw [<-h7]
    exact a
   case measure=>simp [intOf];omega
  ·have a3:¬((i:Int)<(n:Int)):=by omega
   have a2:i=n:=by omega
   have xF:Hid (aG l=I++aM (bi l)):=aa (by
    unfold aG;rw [ao.out,a2,HN.out,List.take_length])
   have zY:=aa (kQ T.ents n);have cg:bi l<=64*n:=by have:=zY.out;rwa [HN.out,List.take_length,<-HN.out] at this
   have HT:=aa (DW F A n c l wr (HH.below HB) hn T.ents);obtain⟨t,ht⟩:∃t,t=bi l:=⟨_,rfl⟩;rw [<-ht] at HT xF cg;have bb:=aa (fI wr.heap.size t wr (by omega) (Nat.le_refl _));have cH:=aR (n:=t) (by omega);clear a2 ht;go_wp2_with (first|(go_at_call 106;go_loud (refine HT.mono ?_);rintro e w3 ⟨rfl,rfl⟩)|(go_at_call 105;go_loud (refine bb.mono ?_);intro e w4 d;obtain⟨V4,JC,Y6,rfl,E,G,H,j,k⟩:=d.below;have UC:=aa j;have dR:=aa k;have cA:JC<=10:=(by omega);clear d E G H j k)|(at_builtin;go_loud (refine af _ rfl (.tmp 72) (.tmp 76) _ rfl w.heap.size 5 i0 _ 1 1 underlying24 m p q r rfl (by omega) (.slice bA bn bc) _ (aF I) rfl (own_below Y dR) (From wr.heap.size) V4 JC Y6 (aF (aM t)) rfl UC.sb.parts.2.2.2 (bC _) (by simp only [maxLen];omega) (by omega) (by have v:=ZP.out;have h3:=dR.out.size;omega) ?_);intro v5 w5 C ar jP;have lG:=aa C;have vw:=aa ar;clear C ar jP))
   go_ret3
   rw [HR.out];unfold XY;rw [xF.out]
   refine⟨v5,rfl,?_,?_⟩
   ·have a:=lG.out;have h8:=UC.out.sb.parts.2.2.1;unfold Ow;rw [List.length_append,<-jN.out,<-h8]
    simpa [aF] using a
   ·have y:=HB.out.trans (dR.mono HB.size);exact y.grown vw y.size (fun g z=>(ah HO g z).1)
theorem Iv {k:List UInt8} (a:1<=k.length) (b:k.length<=64):mD k=0:=by unfold mD;rw [if_pos ⟨a,b⟩]
theorem rz (h:l[i]? =some x):bV (l.take (i+1))=x.at_+x.len:=by
 rw [List.take_add_one,h];exact rC _ _
theorem gD.few (h:gD l) (b:∀x∈l,x.at_<=1152921504606):nY l:=⟨h.many,fun x a=>(h.key x a).2,b,fun x a=>(h.len x a).2,fun x a=>(h.count x a).2⟩
theorem Dh (F:Nat->Prop) (A:Option Addr) (n c:Nat) (l:List Row) (w:World) (h:lF w F A n l) (S:gD l) (ha:∀x∈l,x.at_<=1152921504606) (hF:∀b,F b->b<w.heap.size):
  Calls prog 104 #[.slice A n c] w fun e w'=>e= .returned (.tuple #[.int .i64 0,.int .i64 0])/\Below w.heap.size w w':=by
 refine letter fun R HR=> ?_;have HH:=aa h;have HN:Hid (n=l.length):=h.len;have z:=aa S;have HA:=aa ha;have Pm:=aa hF;have hn:n<=8388608:=by have:=HN.out;have:=S.many;omega
 clear h S ha hF;go_enter func104,ntmps104
 go_wp2
 go_loopw [4,5] (fun av Y wz=>∃i:Nat,i<=n/\Y= .int .i64 i/\av= .int .i64 (bV (l.take i):Nat)/\Hid (Below w.heap.size w wz)) (fun _ Y _=>n-(intOf Y).toNat)
 case atStart=>exact⟨0,Nat.zero_le _,rfl,rfl,aa (Below.refl _ _)⟩
 case round=>
  obtain⟨i,hi,rfl,rfl,C⟩:=hrel
  by_cases V:i<n
  ·have G:(i:Int)<(n:Int):=by omega
   obtain⟨g,o,L,u,B,x,I,UH,H,c0,c1,c2,c3,s⟩:=(HH.out.below C).at_ V;have d:=List.mem_of_getElem? H;have ac:x.at_<=1152921504606:=HA.out x d;have al:=z.out.len x d;have ae:=z.out.count x d;have K:=z.out.key x d;have sU:Hid (x.at_=bV (l.take i)):=aa (z.place i x H);have Yf:Hid (bV (l.take (i+1))=x.at_+x.len):=aa (rz H);have HS:=aa s;have HX:=aa H;have eu:Hid (u=x.last.length):=aa s.parts.2.2.1;subst I;rw [<-sU.out];obtain⟨f,N⟩:∃f,f=wr.heap.size:=⟨_,rfl⟩;clear H d s;go_upto_region 8 with fail
   obtain⟨a,p⟩:∃W,W=wr.alloc (.cells #[.slice L u B,.int .i64 x.at_,.int .i64 x.len,.int .i64 x.ents] 100):=⟨_,rfl⟩;rw [<-p,<-N];have m:Hid (Below wr.heap.size wr a):=aa (by rw [p];exact(Below.refl _ _).alloc (Nat.le_refl _) _);have v:Hid (aj a f 100 #[.slice L u B,.int .i64 x.at_,.int .i64 x.len,.int .i64 x.ents]):=aa (by rw [p,N];exact aj.new _ _ _);have D:Hid (Below w.heap.size w a):=aa (C.out.trans (m.mono C.size));have y0:a.cell? ⟨f,0,none⟩=some (.slice L u B):=v.out.cell 0;have Pj:=aa (wL L u B x.last eu a);rw [Iv K.1 K.2] at Pj;clear p N c0 c1 c2 c3 K;go_upto_region 9 with(go_at_call 118;go_loud (refine Pj.mono ?_);rintro e w4 ⟨rfl,rfl⟩)
   by_cases i0:i=0
   ·have Q:decide (0<i)=false:=decide_eq_false (by omega);have r:decide ((0:Int)<(i:Int))=false:=decide_eq_false (by omega);clear i0;go_quiet (fail);clear Q r;have y1:(a.drewN nq).cell? ⟨f,1,none⟩=some (.int .i64 x.at_):=v.out.cell 1;have y2:(a.drewN nq).cell? ⟨f,2,none⟩=some (.int .i64 x.len):=v.out.cell 2;have y3:(a.drewN nq).cell? ⟨f,3,none⟩=some (.int .i64 x.ents):=v.out.cell 3;have t1:¬((x.len:Int)<1):=by omega
    have t2:¬((131072:Int)<(x.len:Int)):=by omega
    have t3:¬((x.ents:Int)<1):=by omega
    have t4:¬((64:Int)<(x.ents:Int)):=by omega
    have t5:((x.at_:Int) !=(x.at_:Int))=false:=by simp
    have t6:(x.at_:Int)+(x.len:Int)<=9223372036854775807:=by omega
    clear y0;go_wp2
    go_roundw
    case rel=>exact⟨i+1,by omega,by go_num,by rw [Yf.out];go_num,aa (below_drewN D nq)⟩
    case measure=>simp [intOf];omega
   ·obtain⟨j,hj⟩:∃j,i=j+1:=⟨i-1,by omega⟩;have Q:decide (0<i)=true:=decide_eq_true (by omega);have r:decide ((0:Int)<(i:Int))=true:=decide_eq_true (by omega);obtain⟨g2,o2,M,Z,mc,y,I,_,t,d0,d1,d2,d3,J⟩:=(HH.out.below C).at_ (k:=j) (by omega);injection I with I
    injection I with e1 e2
    subst e1;subst e2;have JF:Hid (compareBytes y.last x.last<0):=aa (z.rise j y x t (by rw [<-hj];exact HX));have zW:Hid (∀k,Calls prog 68 #[.slice M Z mc,.slice L u B] (a.drewN k) fun e w'=>e= .returned (.int .i64 (compareBytes y.last x.last))/\∃q,w'=(a.drewN k).drewN q):=aa (fun k=>eX M L Z u mc B F F y.last x.last (a.drewN k) ((J.below m).parts.2.2.2.drewN k) J.parts.2.2.1 ((HS.below m).parts.2.2.2.drewN k) eu (by have h1:=J.parts.2.2.1;have h2:=(z.out.key y (List.mem_of_getElem? t)).2;omega));have O:a.cell? ⟨g,o+j*4,none⟩=some (.slice M Z mc):=ak m d0;have X:IntKind.i64.wrap ((i:Int)-1)=(j:Int):=by rw [IntWalk.i64_in _ (by omega)];omega
    have U:j<n:=by omega
    have xI:(j:Int)<(n:Int):=by omega
    have T:(0:Int)<=(j:Int):=by omega
    obtain⟨P,E⟩:∃P,P=compareBytes y.last x.last:=⟨_,rfl⟩;rw [<-E] at zW JF;have ad:=JF.out;have ab:¬0<=P:=by omega
    clear i0 hj t d0 d1 d2 d3 J E;go_quiet ((go_at_call 68;exact Calls.quiet_of (zW _)));clear Q r O X U xI T;have y1:(a.drewN nq).cell? ⟨f,1,none⟩=some (.int .i64 x.at_):=v.out.cell 1;have y2:(a.drewN nq).cell? ⟨f,2,none⟩=some (.int .i64 x.len):=v.out.cell 2;have y3:(a.drewN nq).cell? ⟨f,3,none⟩=some (.int .i64 x.ents):=v.out.cell 3;have t1:¬((x.len:Int)<1):=by omega
    have t2:¬((131072:Int)<(x.len:Int)):=by omega
    have t3:¬((x.ents:Int)<1):=by omega
    have t4:¬((64:Int)<(x.ents:Int)):=by omega
    have t5:((x.at_:Int) !=(x.at_:Int))=false:=by simp
    have t6:(x.at_:Int)+(x.len:Int)<=9223372036854775807:=by omega
    clear y0;go_wp2
    go_roundw
    case rel=>exact⟨i+1,by omega,by go_num,by rw [Yf.out];go_num,aa (below_drewN D nq)⟩
    case measure=>simp [intOf];omega
  ·have G:¬((i:Int)<(n:Int)):=by omega
   go_wp2;rw [HR.out]
   exact⟨rfl,C⟩
end Go.Proofs.YtepgcjbhabnciaaGreat
