/- Part 16. -/
import Derived.Test.YtepgcjbhabnciaaGreatLp15
namespace Go.Proofs.YtepgcjbhabnciaaGreat
set_option maxRecDepth 100000
set_option maxHeartbeats 8000000
open Go.Proofs.Tryz Go.RowKit
open Go.Lib (compareBytes)
variable {bn n i B o gl bc:Nat} {b bs k:List UInt8} {w w':World} {bA A:Option Addr} {F:Nat->Prop} {x:Row} {l:List Row}
theorem below_drewN (h:Below B w w') (n:Nat):Below B w (w'.drewN n):=⟨h.os,h.tape,h.output,h.size,h.block⟩
def yw (b:List UInt8) (w:World) (e:Ending) (w':World):Prop:=
 ∃A n c,e= .returned (.tuple #[.slice A n c,.int .i64 (aH b).2.1,.int .i64 ((aH b).2.2:Nat)])/\n<=c/\c<=maxLen/\dh w' (From w) A n (aH b).1/\Below w w w'
theorem YW (c:ak w o 24 #[.slice bA bn bc]) (hL:ak w gl 58 #[()]) (h:Rd w F 1 bA bn (aI b)) (hn:bn=b.length) (m:bn<=bc) (n:bn<=1152921504606) (f:∀g,F g->g<w/\g≠gl):
  Calls prog 172 #[o,gl] w (yo gl b w):=by
 by_cases a:(ai b 0).2.2=0
 ·by_cases d:(ai b 0).1=0
  ·exact Dl gl c h hn n 61 0 (by unfold aH;rw [if_neg (fun h=>h a),if_pos (.inl d)]) (by decide) (Jd bc h hn n a d)
  ·by_cases e:64<(ai b 0).1
   ·exact Dl gl c h hn n 61 0 (by unfold aH;rw [if_neg (fun h=>h a),if_pos (.inr e)]) (by decide) (Je bc h hn n a e)
   ·exact YP c hL h hn m n f a (by omega) (by omega)
 ·exact Dl gl c h hn n _ _ (by unfold aH;rw [if_pos a]) a (Nb bc h hn n a)
theorem Nc (F:Nat->Prop) (bc:Nat) (h:Rd w F 1 bA bn (aI b)) (hn:bn=b.length) (m:bn<=bc) (hn2:bn<=1152921504606) (D:∀g,F g->g<w):
  Calls prog 141 #[.slice bA bn bc] w (yw b w):=by
 refine letter fun R J=> ?_;obtain⟨o,d⟩:=gF w.heap.size;obtain⟨w1,f⟩:=gF ((w.alloc (.cells #[.slice bA bn bc] 24)).alloc (.cells #[.slice none 0 0] 58));have a:Hid (Below w w w1):=aa (by rw [f];exact gV.alloc (by simp) _);have U:Hid (ak w1 o 24 #[.slice bA bn bc]):=aa (by rw [f,d];exact(ak.new _ _ _).alloc _);have I:Hid (ak w1 (o+1) 58 #[()]):=aa (by rw [f,d];have:=ak.new (w.alloc (.cells #[.slice bA bn bc] 24)) 58 #[()];rwa [World.size_alloc] at this);have V:=aa d;have T:=aa (Nf o (o+1) b w1 I.lt (fun w' y=>YW (U.below y) (I.below y) ((h.below a).below y) hn m hn2 (fun g q=>⟨by have v:=D g q;have C:=a.out.size;have E:=y.size;omega,by have v:=D g q;omega⟩)));have W:∀(L:Fn) (first cap:Array Value) (w:World),(Instr.makeFunc L first cap).run prog w= .ok (.func L first cap) w:=fun _ _ _ _=>rfl;obtain⟨er,K⟩:=gF ((aH b).2.1);obtain⟨G,r⟩:=gF ((aH b).2.2);have u:=aa K;have P:=aa r;clear h hn D K r;go_enter func141,ntmps141;go_upto_region 2 with fail
 rw [<-f];simp only [<-d];clear f d;go_upto_region 3 with(go_at_call 171;go_loud (refine T.mono ?_);intro e w2 x;obtain rfl:=x.ret;rw [<-u.out,<-P.out];have Q:=aa x.chg;have S:=aa x.ok;clear x)
 obtain⟨H,l⟩:=gF w2.heap.size;obtain⟨p,i⟩:=gF (w2.alloc (.cells #[.int .i64 er,.int .i64 G] 290));rw [<-i,<-l];have j:Hid (Below w2 w2 p):=aa (by rw [i];exact gV);have N:Hid (ak p H 290 #[(er:Int),(G:Int)]):=aa (by rw [i,l];exact ak.new _ _ _);have k:Below w w w2:=a.out.trans (Q.below_of a.size (fun g q e=>by have e:g=o+1:=e;have:=V.out;omega));have O:Hid (Below w w p):=aa (k.trans (j.mono k.size));have y0:p.cell? H=some (.int .i64 er):=N.out.cell 0;have y1:p.cell? ⟨H,1,none⟩=some (.int .i64 G):=N.out.cell 1;clear i l k
 by_cases t:er=0
 ·have s:Hid ((aH b).2.1=0):=aa (by rw [<-u.out];exact t);obtain⟨A,n,c,v,C,E,M⟩:=S.out s;have B:Hid ((aH b).2.2=0):=aa (wS s);have z5:p.cell? ⟨o+1,0,none⟩=some (.slice A n c):=(v.below j).cell 0;have z:=aa (And.intro C (And.intro E (M.below j)));clear v C E M;subst t;go_wp2;go_ret3;rw [J.out]
  refine⟨A,n,c,by rw [s.out,B.out];rfl,z.1,z.2.1,z.2.2.weak (fun g q=>by have Y:w1<=g:=q;have Z:=a.out.size;show w<=g;omega),O⟩
 ·have X:(er==0)=false:=by rw [mi];exact t
  have s:Hid ((aH b).2.1≠0):=aa (by rw [<-u.out];exact t);go_wp2;go_quiet (fail);go_wp2;go_ret3;rw [J.out];refine⟨none,0,0,by rw [<-u.out,<-P.out];rfl,jO,by simp [maxLen],by rw [Ng s.out];exact dh.nil _ _ _,below_drewN O _⟩
def UX (l:List Nat):List Value:=l.map fun(x:Nat)=> .int .u64 (x:Int)
theorem Nv (F:Nat->Prop) (base:Nat) (A:Option Addr) (n c:Nat) (l:List Nat) (h:Rd w F 1 A n (UX l)) (C:∀b,F b->b<base) (K:base<=w) (hl:∀x∈l,x<18446744073709551616) (hn:n<=1000):
  Calls prog 188 #[.slice A n c] w (F4 w base (l.flatMap aP)):=by
 have N:=aa h;have L:=aa hl;have I:=aa C;have H:=aa K;have M:Hid (n=l.length):=aa (by have:=h.1;simp [UX] at this;omega);clear h hl C K;refine letter fun R p=> ?_;go_enter func188,ntmps188;go_wp2
 go_loopg [8,3] n (fun S U P G=>∃i:Nat,S=n-i/\i<=n/\U= (i:Int)/\Ow G base P ((l.take i).flatMap aP)/\ag (From base) w G/\((l.take i).flatMap aP).length<=10*i)
 case atStart=>exact⟨0,by omega,by omega,rfl,Ow.nil _ _,ag.refl _ _,by simp⟩
 case round=>
  obtain⟨i,D,hi,rfl,k,hc,d⟩:=hrel;have J:=aa D;have z:=aa k;have m:=aa hc;have B:=aa d;clear D k hc d
  by_cases v:i<n
  ·have E:(i:Int)<(n:Int):=by omega
   obtain⟨b,o,u,rfl,_,y,s⟩:=(N.out.chg m (fun b K e=>by have:=I.out b K;have e:base<=b:=e;omega)).at_ v
   obtain⟨x,f,rfl⟩:∃x:Nat,l[i]? =some x/\u= .int .u64 (x:Int):=by
    simp only [UX,List.getElem?_map,Option.map_eq_some_iff] at y;obtain⟨x,a,e⟩:=y;exact⟨x,a,e.symm⟩
   have O:=aa f;have q:=L.out x (nT f);clear y f;go_wp2_with (go_at_call 205;go_loud (refine(IB x ((l.take i).flatMap aP) z (by have:=B.out;omega) q (ma H m.size)).mono ?_);rintro e w2 ⟨v2,rfl,j,g⟩;have T:=aa j;have Q:=aa g;clear j g)
   go_roundg (n-(i+1))
   case measure=>have:=J.out;omega
   case rel=>
    have r:=ow x 9 (by omega);have V:=B.out;have e:(l.take (i+1)).flatMap aP=(l.take i).flatMap aP++aP x:=by rw [List.take_add_one,O.out,List.flatMap_append];simp
    exact⟨i+1,rfl,by omega,by go_num,by rw [e];exact T,m.out.trans Q (fun _ _ h=>h),by rw [e,mq];omega⟩
  ·have t:i=n:=by omega
   subst t;go_wp2;rw [p.out];have r:=z.out;rw [List.take_of_length_le (by have:=M.out;omega)] at r;exact⟨_,rfl,r,m⟩
section
def mF (w:World) (F:Nat->Prop) (A:Option Addr) (n:Nat) (l:List Row):Prop:=
 Hid (n=l.length)/\∃vs,Rd w F 4 A n vs/\∀(i:Nat) (x:Row),l[i]? =some x->∃u,vs[i*4]? =some u/\vs[i*4+1]? =some (.int .i64 x.at_)/\vs[i*4+2]? =some (.int .i64 x.len)/\vs[i*4+3]? =some (.int .i64 x.ents)/\SB w F u x.last
section
variable {S F G:Nat->Prop} {w w':World} {A:Option Addr} {n:Nat} {l:List Row}
theorem mF.len (h:mF w F A n l):n=l.length:=h.1
theorem mF.weak (h:mF w F A n l) (K:∀b,F b->G b):mF w G A n l:=
 let⟨f,vs,g,j⟩:=h;⟨f,vs,g.weak K,fun i e k=>let⟨u,a,b,c,d,s⟩:=j i e k;⟨u,a,b,c,d,s.weak K⟩⟩
theorem mF.chg (h:mF w F A n l) (hc:ag S w w') (Q:∀b,F b->¬S b):mF w' F A n l:=
 let⟨f,vs,g,j⟩:=h;⟨f,vs,g.chg hc Q,fun i e k=>let⟨u,a,b,c,d,s⟩:=j i e k;⟨u,a,b,c,d,s.chg hc Q⟩⟩
theorem mF.below (h:mF w F A n l) (o:Below w w w'):mF w' F A n l:=h.chg (ag.of_below (S:=Nil) o) (fun _ _ a=>a)
theorem mF.drewN (h:mF w F A n l) (k:Nat):mF (w.drewN k) F A n l:=h.chg ((ag.refl Nil w).drewN k) (fun _ _ a=>a)
theorem mF.at_ {k:Nat} (h:mF w F A n l) (r:k<n):∃b o L ln lc x,A=some ⟨b,o,none⟩/\F b/\l[k]? =some x/\w.cell? ⟨b,o+k*4,none⟩=some (.slice L ln lc)/\w.cell? ⟨b,o+k*4+1,none⟩=some (.int .i64 x.at_)/\w.cell? ⟨b,o+k*4+2,none⟩=some (.int .i64 x.len)/\w.cell? ⟨b,o+k*4+3,none⟩=some (.int .i64 x.ents)/\SB w F (.slice L ln lc) x.last:=by
 obtain⟨i,vs,j,m⟩:=h;have hl:k<l.length:=by have:n=l.length:=i;omega
 obtain⟨b,o,hA,p,hc⟩:=j.2 (by omega);obtain⟨u,d,e,f,g,s⟩:=m k l[k] (mP hl);obtain⟨L,ln,lc,rfl,q⟩:=s;have c0:=hc _ _ d;have c1:=hc _ _ e;have a:=hc _ _ f;have c:=hc _ _ g;rw [<-Nat.add_assoc] at c1 a c;exact⟨b,o,L,ln,lc,l[k],hA,p,mP hl,c0,c1,a,c,⟨L,ln,lc,rfl,q⟩⟩
end
theorem sJ {l:List Row} {i:Nat} {x:Row} (h:l[i]? =some x):bK (l.take (i+1))=bK (l.take i)+x.ents:=by
 unfold bK;rw [List.take_add_one,h];simp
theorem mW {l:List Row} (h:∀x∈l,x.ents<=64):∀i,bK (l.take i)<=64*i
 |0=>by simp [bK]
 |i+1=>by
  have a:=mW h i
  cases hx:l[i]? with
  |none=>rw [List.take_add_one,hx];simp;omega
  |some x=>rw [sJ hx];have:=h x (nT hx);omega
theorem Jq {F:Nat->Prop} {A:Option Addr} {n:Nat} (c:Nat) {l:List Row} {w:World} (h:mF w F A n l) (hn:n<=8388608) (r:∀x∈l,x.ents<=64):
  Calls prog 189 #[.slice A n c] w fun e w'=>e= .returned (.int .i64 (bK l))/\Below w w w':=by
 refine letter fun R y=> ?_;have u:=aa h;have v:Hid (n=l.length):=h.len;have q:=aa r;clear h r;go_enter func189,ntmps189;go_wp2
 go_loopw [3,8] (fun C p D=>∃i:Nat,i<=n/\p= (i:Int)/\C= .int .i64 (bK (l.take i))/\Hid (Below w w D)) (fun _ p _=>n-(intOf p).toNat)
 case atStart=>exact⟨0,Nat.zero_le _,rfl,by simp [bK],aa mh⟩
 case round=>
  obtain⟨i,hi,rfl,rfl,f⟩:=hrel
  by_cases j:i<n
  ·have d:(i:Int)<(n:Int):=by omega
   obtain⟨b,o,L,ln,lc,x,rfl,_,m,c0,c1,E,G,s⟩:=(u.out.below f).at_ j;have g:Hid (bK (l.take (i+1))=bK (l.take i)+x.ents):=aa (sJ m);obtain⟨t,k⟩:=gF (bK (l.take i));have z:t<=64*i:=by rw [k];exact mW q i
   have B:x.ents<=64:=q.out x (nT m);rw [<-k] at g|-;clear k m s;go_wp2
   go_roundw
   case rel=>exact⟨i+1,by omega,by go_num,by rw [g.out];go_num,aa (f.alloc f.size _)⟩
   case measure=>simp [intOf];omega
  ·have d:¬((i:Int)<(n:Int)):=by omega
   have a:i=n:=by omega
   have g:Hid (bK (l.take i)=bK l):=aa (by rw [a,v.out,List.take_length]);clear a;go_wp2;rw [y.out];exact⟨by rw [g.out],f⟩
theorem Hr {F:Nat->Prop} {A:Option Addr} {n:Nat} (c:Nat) {l:List Row} {w:World} (h:mF w F A n l) (hn:n<=8388608) (q:∀x∈l,x.ents<=64):
  Calls prog 106 #[.slice A n c] w fun e w'=>e= .returned (.int .i64 (bK l))/\w=w':=by
 refine letter fun R v=> ?_;have r:=aa h;have u:Hid (n=l.length):=h.len;have p:=aa q;clear h q;go_enter func106,ntmps106;go_wp2
 go_loop [3,4] (fun B m=>∃i:Nat,i<=n/\m= (i:Int)/\B= .int .i64 (bK (l.take i))) (fun _ m=>n-(intOf m).toNat)
 case atStart=>exact⟨0,Nat.zero_le _,rfl,by simp [bK]⟩
 case round=>
  obtain⟨i,hi,rfl,rfl⟩:=hrel
  by_cases g:i<n
  ·have d:(i:Int)<(n:Int):=by omega
   obtain⟨b,o,L,ln,lc,x,rfl,_,k,c0,c1,C,D,s⟩:=r.out.at_ g;have f:Hid (bK (l.take (i+1))=bK (l.take i)+x.ents):=aa (sJ k);obtain⟨t,j⟩:=gF (bK (l.take i));have y:t<=64*i:=by rw [j];exact mW p i
   have z:x.ents<=64:=p.out x (nT k);rw [<-j] at f|-;clear j k s;go_wp2
   go_round
   case rel=>exact⟨i+1,by omega,by go_num,by rw [f.out];go_num⟩
   case measure=>simp [intOf];omega
  ·have d:¬((i:Int)<(n:Int)):=by omega
   have a:i=n:=by omega
   have f:Hid (bK (l.take i)=bK l):=aa (by rw [a,u.out,List.take_length]);clear a;go_wp2;rw [v.out];exact⟨by rw [f.out],rfl⟩
end
theorem aV (h:n<18446744073709551616):(aP n).length<=10:=ow n 9 (by omega)
theorem UU (h:x.last.length<=64) (a:x.at_<18446744073709551616) (b:x.len<18446744073709551616) (c:x.ents<18446744073709551616):x.bytes.length<=104:=by
 unfold Row.bytes;simp only [mq];have d:=aV (n:=x.last.length) (by omega);have e:=aV a;have f:=aV b;have g:=aV c;omega
theorem vK (h:l[i]? =some x):(l.take (i+1)).flatMap Row.bytes=(l.take i).flatMap Row.bytes++x.bytes:=by
 rw [List.take_add_one,h];simp
theorem xS {l:List Row} (h:∀x∈l,x.bytes.length<=104):∀i,((l.take i).flatMap Row.bytes).length<=104*i
 |0=>by simp
 |i+1=>by
  have a:=xS h i
  cases hx:l[i]? with
  |none=>rw [List.take_add_one,hx];simp only [Option.toList_none,List.append_nil];omega
  |some x=>rw [vK hx,mq];have:=h x (nT hx);omega
structure qp (l:List Row):Prop where
 many:l.length<=8388608
 key:∀x∈l,x.last.length<=64
 at_:∀x∈l,x.at_<=1152921504606
 len:∀x∈l,x.len<=131072
 ents:∀x∈l,x.ents<=64
theorem qp.bytes (h:qp l):∀x∈l,x.bytes.length<=104:=fun x a=>UU (h.key x a) (by have:=h.at_ x a;omega) (by have:=h.len x a;omega) (by have:=h.ents x a;omega)
def si (l:List Row) (w:World) (e:Ending) (w':World):Prop:=∃v,e= .returned (.tuple #[v,.int .i64 0,.int .i64 0])/\Ow w' w v (aJ l)/\Below w w w'
theorem F4.below {e:Ending} (h:F4 w w bs e w'):∃A n c,e= .returned (.slice A n c)/\n<=c/\c<=maxLen/\n=bs.length/\Ow w' w (.slice A n c) bs/\Below w w w':=by
 obtain⟨v,rfl,a,hc⟩:=h;obtain⟨A,n,c,rfl,d,f,g,_⟩:=a.sb;exact⟨A,n,c,rfl,d,f,g,a,hc.below_of jO (fun b i e=>by have e:w<=b:=e;omega)⟩
theorem Jp (c:Nat) (h:mF w F A n l) (hf:qp l) (a:∀b,F b->b<w)
  (hc:Calls prog 186 #[.slice A n c] w fun e w'=>e= .returned (.tuple #[.int .i64 0,.int .i64 0])/\Below w w w'):
  Calls prog 162 #[.slice A n c] w (si l w):=by
 obtain⟨i0,O,Q,S,T⟩:=info_parts bD;refine letter fun R HR=> ?_;have HH:=aa h;have HN:Hid (n=l.length):=h.len;have HF:=aa hf;have Uc:=aa a;have YR:=aa hc;have hn:n<=8388608:=by have:=HN.out;have:=hf.many;omega
 clear h hf hc a;go_enter func162,ntmps162;go_upto_region 4 with(go_at_call 186;go_loud (refine YR.mono ?_);rintro e w1 ⟨rfl,M⟩;have Z:=aa M;clear M)
 have a4:=aa (rP w1 n w1 (by omega) jO);go_wp2_with (go_at_call 187;go_loud (refine a4.mono ?_);intro e w2 r;obtain⟨V,vn,vc,rfl,q1,q2,X,D,E⟩:=r.below;have HV:=aa D;have au:=aa E;clear r q1 q2 X D E)
 go_loopw [7,25] (fun bv iv wz=>∃i:Nat,i<=n/\iv= (i:Int)/\Hid (Ow wz w bv (aP n++(l.take i).flatMap Row.bytes))/\Hid (Below w w wz)) (fun _ iv _=>n-(intOf iv).toNat)
 case atStart=>exact⟨0,Nat.zero_le _,rfl,aa (by have m:=kX HV Z.size;unfold Ow;simpa using m),aa (Z.out.trans (au.mono Z.size))⟩
 case round=>
  obtain⟨i,hi,rfl,HO,U⟩:=hrel;obtain⟨bA,bc,ae,M,be⟩:=ax HO;obtain⟨B0,K⟩:=gF (aP n++(l.take i).flatMap Row.bytes);have an:=aa K
  have bh:B0.length<=10+104*i:=by
   rw [K,mq];have k:=aV (n:=n) (by omega);have p:=xS HF.bytes i;omega
  rw [<-K] at HO ae;obtain⟨bn,ad⟩:=gF B0.length;rw [<-ad] at ae bh;have lD:=aa ad;subst ae;clear K M be ad
  by_cases bk:i<n
  ·have ar:(i:Int)<(n:Int):=by omega
   obtain⟨g,o,L,ln,lc,x,rfl,_,hx,c0,c1,c2,c3,s⟩:=(HH.out.below U).at_ bk;have C:=nT hx;have HT:Hid ((l.take (i+1)).flatMap Row.bytes=(l.take i).flatMap Row.bytes++x.bytes):=aa (vK hx);obtain⟨s1,s2,s3,s4⟩:=s.parts;have HS:=aa s;have fq:=aa s3;have bF:ln<=64:=by have:=HF.out.key x C;omega
   have bI:x.at_<=1152921504606:=HF.out.at_ x C;have bN:x.len<=131072:=HF.out.len x C;have bL:x.ents<=64:=HF.out.ents x C;obtain⟨G,X4⟩:=gF wr.heap.size;clear hx C s s1 s2 s3 s4;go_upto_region 8 with fail
   obtain⟨Y,P⟩:=gF (wr.alloc (.cells #[.slice L ln lc,.int .i64 x.at_,.int .i64 x.len,.int .i64 x.ents] 100));rw [<-P,<-X4];have ao:=aa X4;have f:Hid (Below wr wr Y):=aa (by rw [P];exact gV);have jN:Hid (ak Y G 100 #[.slice L ln lc,(x.at_:Int),(x.len:Int),(x.ents:Int)]):=aa (by rw [P,X4];exact ak.new _ _ _);have dW:=aa U.size;have y0:Y.cell? G=some (.slice L ln lc):=jN.out.cell 0;have a0:=aa (rP Y ln Y (by omega) jO);have qN:=aa (own_below HO f);have bE:=aV (n:=ln) (by omega);clear P X4 c0 c1 c2 c3;go_upto_region 9 with(first|(go_at_call 187;go_loud (refine a0.mono ?_);intro e w4 r;obtain⟨V4,H,al,rfl,q1,q2,X,D,E⟩:=r.below;have Y2:=aa D;have I:=aa E;have bz:=aa X;have ba:H<=10:=(by omega);clear r q1 q2 X D E)|(at_builtin;go_loud (refine af _ rfl (.tmp 29) (.tmp 34) _ rfl w 5 i0 _ 1 1 underlying24 O Q S T rfl (by omega) _ _ (aI B0) rfl (by have m:=own_below qN I;rw [<-lD.out] at m;exact m) (From Y) V4 H al (aI (aP ln)) rfl Y2.sb.parts.2.2.2 (bJ _) (by simp only [maxLen];omega) (by omega) (by have k:=dW.out;have p:=f.out.size;have h3:=I.out.size;omega) ?_);intro v5 w5 d v oz;have pq:=aa d;have DC:=aa v;have UV:=aa oz;clear d v oz));have Y3:ag (fun g=>(Value.slice bA bn bc).ownBlock=some g) wr w5:=((ag.of_below f).then I).trans (ag.of_grown DC) (fun _ _ h=>h);have E6:Hid (∀g,(Value.slice bA bn bc).ownBlock=some g->w<=g/\g<wr):=aa (fun g N=>ah HO g N);have ed:=aa Y3;have F5:Hid (ak w5 G 100 #[.slice L ln lc,(x.at_:Int),(x.len:Int),(x.ents:Int)]):=aa (((jN.below I)).chg (ag.of_grown DC) (fun e=>by have k:=E6.out G e;have p:=ao.out;omega));have aE:Hid (Rd w5 F 1 L ln (aI x.last)):=aa ((HS.chg ed (fun b hb e=>by have k:=E6.out b e;have p:=Uc.out b hb;omega)).parts.2.2.2);have PN:Hid (w.heap.size<=w5):=aa (ma dW Y3.size);obtain⟨B5,ab⟩:=gF (B0++aP ln);have a7:=aa ab;have Y4:Hid (w5.ownsRow w 5 1 v5 (bn+H) (aI B5)):=aa (by have m:=pq.out;rw [ab];simpa [aI] using m)
   have qQ:Hid (v5.ownBlock≠some G):=aa (fun e=>by
    rcases UV.out with h|h
    ·have k:=E6.out G (h▸e);have p:=ao.out;omega
    ·rw [h] at e;injection e with e;have k:=jN.out.lt;have p:=I.out.size;omega)
   obtain⟨A5,c5,bo,_,_⟩:=ax Y4;subst bo;have y0:w5.cell? G=some (.slice L ln lc):=F5.out.cell 0;clear ab Y3;go_upto_region 10 with((at_builtin;go_loud (refine af _ rfl (.tmp 36) (.tmp 38) _ rfl w 5 i0 _ 1 1 underlying24 O Q S T rfl (by omega) (.slice A5 (bn+H) c5) _ (aI B5) rfl Y4 F L ln lc (aI x.last) rfl aE (bJ _) (by simp only [maxLen];omega) (by omega) PN ?_);intro v6 q z eX dF;have lX:=aa z;have mE:=aa eX;clear z eX dF));have QS:Hid (ak q G 100 #[.slice L ln lc,(x.at_:Int),(x.len:Int),(x.ents:Int)]):=aa (F5.chg (ag.of_grown mE) (fun e=>qQ e));obtain⟨B6,jw⟩:=gF (B5++x.last);have a8:=aa jw;have UW:Hid (q.ownsRow w 5 1 v6 (bn+H+ln) (aI B6)):=aa (by have m:=lX.out;rw [jw];simpa [aI] using m);obtain⟨A6,c6,bp,_,_⟩:=ax UW;subst bp;have Nu:Hid (w.heap.size<=q):=aa (ma PN (ag.of_grown mE).size);have y1:q.cell? ⟨G,1,none⟩=some (.int .i64 x.at_):=QS.out.cell 1;have y2:q.cell? ⟨G,2,none⟩=some (.int .i64 x.len):=QS.out.cell 2;have y3:q.cell? ⟨G,3,none⟩=some (.int .i64 x.ents):=QS.out.cell 3;obtain⟨w7,B⟩:=gF (q.alloc (.cells #[.int .u64 x.at_,.int .u64 x.len,.int .u64 x.ents] 154));have iF:Hid (Below q q w7):=aa (by rw [B];exact gV);have HJ:=aa (Nv (fun b=>b=q.heap.size) w7 (some ⟨q,0,none⟩) 3 3 [x.at_,x.len,x.ents] ⟨rfl,fun _=>⟨_,0,rfl,rfl,fun j u hj=>by rw [B,(ak.new q _ _).cell];simpa [UX] using hj⟩⟩ (fun b hb=>by have hb:b=q.heap.size:=hb;rw [B,World.size_alloc];omega) jO (fun y hy=>by simp at hy;rcases hy with h|h|h<;>omega) (by omega))
   have bj:([x.at_,x.len,x.ents].flatMap aP).length<=30:=by
    have a1:=aV (n:=x.at_) (by omega);have a2:=aV (n:=x.len) (by omega);have a3:=aV (n:=x.ents) (by omega);simp;omega
   have nW:=aa (own_below UW iF);obtain⟨J,hJ⟩:=gF ( [x.at_,x.len,x.ents].flatMap aP);rw [<-hJ] at HJ bj;have aw:=aa hJ;have a6:=aa B;clear y0 jw hJ B;go_wp2_with (first|(go_at_call 188;rw [<-a6.out];go_loud (refine HJ.mono ?_);intro e w8 r;obtain⟨V8,am,bx,rfl,q1,q2,X,D,E⟩:=r.below;have Y5:=aa D;have Nw:=aa E;have bG:am<=30:=(by omega);clear r q1 q2 X D E)|(at_builtin;go_loud (refine af _ rfl (.tmp 40) (.tmp 51) _ rfl w 5 i0 _ 1 1 underlying24 O Q S T rfl (by omega) (.slice A6 (bn+H+ln) c6) _ (aI B6) rfl (own_below nW Nw) (From w7) V8 am bx (aI J) rfl Y5.sb.parts.2.2.2 (bJ _) (by simp only [maxLen];omega) (by omega) (by have k:=Nu.out;have p:=iF.out.size;have h3:=Nw.out.size;omega) ?_);intro v9 w9 X5 ap a9;have aA:=aa X5;have Y6:=aa ap;clear X5 ap a9))
   go_roundw
   case rel=>
    refine⟨i+1,by omega,by go_num,aa ?_,aa ?_⟩
    ·have k:aP n++(l.take (i+1)).flatMap Row.bytes=B6++J:=by
      rw [a8.out,a7.out,an.out,aw.out,HT.out];unfold Row.bytes;rw [<-fq.out];simp
     rw [k];have m:=aA.out;have h8:=Y5.out.1;rw [dO] at h8;unfold Ow
     have h7:bn+H+ln+am=(B6++J).length:=by
      have a1:=UW.out.1;rw [dO] at a1;rw [mq];have a2:=Y5.out.sb.parts.2.2.1;omega
     rw [<-h7]
     simpa [aI] using m
    ·have k:=U.out.trans (f.mono U.size);have p:=k.trans (I.mono k.size);have h3:=p.grown DC p.size (fun g N=>(E6 g N).1);have h4:=h3.grown mE h3.size (fun g N=>(ah Y4 g N).1);have h5:=h4.trans (iF.mono h4.size);have h6:=h5.trans (Nw.mono h5.size)
     exact h6.grown Y6 h6.size (fun g N=>(ah UW g N).1)
   case measure=>simp [intOf];omega
  ·have ar:¬((i:Int)<(n:Int)):=by omega
   have aq:i=n:=by omega
   have rF:Hid (aJ l=B0++aP (bK l)):=aa (by
    unfold aJ;rw [an.out,aq,HN.out,List.take_length])
   have Dw:=aa (mW HF.ents n);have bm:bK l<=64*n:=by have:=Dw.out;rwa [HN.out,List.take_length,<-HN.out] at this
   have HT:=aa (Jq c (HH.below U) hn HF.ents);obtain⟨t,ht⟩:=gF (bK l);rw [<-ht] at HT rF bm;have a5:=aa (fun(W:World)=>rP W t W (by omega) jO);have bP:=aV (n:=t) (by omega);have dW:=aa U.size;clear aq ht;go_wp2_with (first|(go_at_call 189;go_loud (refine HT.mono ?_);rintro e Y ⟨rfl,ac⟩;have f:=aa ac;have qN:=aa (own_below HO ac);clear ac)|(go_at_call 187;go_loud (refine(a5 _).mono ?_);intro e w4 r;obtain⟨V4,H,al,rfl,q1,q2,X,D,E⟩:=r.below;have Y2:=aa D;have I:=aa E;have ba:H<=10:=(by omega);clear r q1 q2 X D E)|(at_builtin;go_loud (refine af _ rfl (.tmp 54) (.tmp 58) _ rfl w 5 i0 _ 1 1 underlying24 O Q S T rfl (by omega) (.slice bA bn bc) _ (aI B0) rfl (by have m:=own_below qN I;rw [<-lD.out] at m;exact m) (From Y) V4 H al (aI (aP t)) rfl Y2.sb.parts.2.2.2 (bJ _) (by simp only [maxLen];omega) (by omega) (by have k:=dW.out;have p:=f.out.size;have h3:=I.out.size;omega) ?_);intro v5 w5 d v oz;have pq:=aa d;have DC:=aa v;clear d v oz));go_ret3
   rw [HR.out];unfold si;rw [rF.out]
   refine⟨v5,rfl,?_,?_⟩
   ·have m:=pq.out;have h8:=Y2.out.sb.parts.2.2.1;unfold Ow;rw [mq,<-lD.out,<-h8]
    simpa [aI] using m
   ·have k:=U.out.trans (f.mono U.size);have p:=k.trans (I.mono k.size);exact p.grown DC p.size (fun g N=>(ah HO g N).1)
theorem Gb (c:Nat) (h:mF w F A n l) (hf:qp l) (a:∀b,F b->b<w)
  (hc:Calls prog 104 #[.slice A n c] w fun e w'=>e= .returned (.tuple #[.int .i64 0,.int .i64 0])/\Below w w w'):
  Calls prog 64 #[.slice A n c] w (si l w):=by
 obtain⟨i0,m,p,q,r⟩:=info_parts bD;refine letter fun R HR=> ?_;have HH:=aa h;have HN:Hid (n=l.length):=h.len;have Z:=aa hf;have Uc:=aa a;have YR:=aa hc;have hn:n<=8388608:=by have:=HN.out;have:=hf.many;omega
 clear h hf hc a;go_enter func64,ntmps64;go_upto_region 4 with(go_at_call 104;go_loud (refine YR.mono ?_);rintro e w1 ⟨rfl,T⟩;have Y:=aa T;clear T)
 have bx:=aa (gW w1 n w1 (by omega) jO);go_wp2_with (go_at_call 105;go_loud (refine bx.mono ?_);intro e w2 f;obtain⟨V,vn,vc,rfl,J,K,M,j,k⟩:=f.below;have HV:=aa j;have be:=aa k;clear f J K M j k)
 go_loopw [7,8] (fun bv iv wz=>∃i:Nat,i<=n/\iv= (i:Int)/\Hid (Ow wz w bv (aP n++(l.take i).flatMap Row.bytes))/\Hid (Below w w wz)) (fun _ iv _=>n-(intOf iv).toNat)
 case atStart=>exact⟨0,Nat.zero_le _,rfl,aa (by have d:=kX HV Y.size;unfold Ow;simpa using d),aa (Y.out.trans (be.mono Y.size))⟩
 case round=>
  obtain⟨i,hi,rfl,HO,HB⟩:=hrel;obtain⟨bA,bc,aw,T,cn⟩:=ax HO;obtain⟨X,Q⟩:=gF (aP n++(l.take i).flatMap Row.bytes);have aA:=aa Q
  have co:X.length<=10+104*i:=by
   rw [Q,mq];have y:=aV (n:=n) (by omega);have E:=xS Z.bytes i;omega
  rw [<-Q] at HO aw;obtain⟨bn,au⟩:=gF X.length;rw [<-au] at aw co;have lD:=aa au;subst aw;have al:Hid (wr.ownsRow w 5 1 (.slice bA bn bc) bn (aI X)):=aa (by have d:=HO.out;unfold Ow at d;rw [<-lD.out] at d;exact d);have am:=HB;have a2:=aa HB.size;clear Q T cn au
  by_cases cq:i<n
  ·have ba:(i:Int)<(n:Int):=by omega
   obtain⟨g,o,L,ln,lc,x,rfl,Y8,hx,c0,c1,c2,c3,s⟩:=HH.out.at_ cq;have I:=nT hx;have HT:Hid ((l.take (i+1)).flatMap Row.bytes=(l.take i).flatMap Row.bytes++x.bytes):=aa (vK hx);obtain⟨s1,s2,s3,s4⟩:=s.parts;have HS:=aa s;have fq:=aa s3;have cL:ln<=64:=by have:=Z.out.key x I;omega
   have cN:x.at_<=1152921504606:=Z.out.at_ x I;have cp:x.len<=131072:=Z.out.len x I;have cO:x.ents<=64:=Z.out.ents x I;have jo:=aa c0;have kV:=aa c1;have bz:=aa c2;have fu:=aa c3;have y0:wr.cell? ⟨g,o+i*4,none⟩=some (.slice L ln lc):=iL HB (Uc g Y8) c0;clear hx I s s1 s2 s3 s4 c0 c1 c2 c3;have bN:=aa (gW wr ln wr (by omega) jO);have cG:=aV (n:=ln) (by omega);go_upto_region 9 with(first|(go_at_call 105;go_loud (refine bN.mono ?_);intro e cT f;obtain⟨Va,v,cA,rfl,J,K,M,j,k⟩:=f.below;have bF:=aa j;have PW:=aa k;have cP:v<=10:=(by omega);clear f J K M j k)|(at_builtin;go_loud (refine af _ rfl (.tmp 28) (.tmp 36) _ rfl w 5 i0 _ 1 1 underlying24 m p q r rfl (by omega) (.slice bA bn bc) _ (aI X) rfl (own_below al PW) (From wr) Va v cA (aI (aP ln)) rfl bF.sb.parts.2.2.2 (bJ _) (by simp only [maxLen];omega) (by omega) (by have y:=a2.out;have E:=PW.out.size;omega) ?_);intro va wa Yj a4 bP;have bQ:=aa Yj;have bh:=aa a4;clear Yj a4 bP))
   obtain⟨Ba,an⟩:=gF (X++aP ln);have bT:=aa an;have ab:Hid (wa.ownsRow w 5 1 va (bn+v) (aI Ba)):=aa (by have d:=bQ.out;rw [an];simpa [aI] using d);have z:Hid (Below w w wa):=aa ((am.out.trans (PW.mono am.size)).grown bh (by have y:=am.out.size;have E:=PW.out.size;omega) (fun g G=>(ah al g G).1));have bU:=aa z.size;obtain⟨Aa,ca,ct,_,_⟩:=ax ab;subst ct;clear an;have cF:wa.cell? ⟨g,o+i*4,none⟩=some (.slice L ln lc):=iL z (Uc g Y8) jo;have bp:Hid (Rd wa F 1 L ln (aI x.last)):=aa ((HS.chg (ag.of_below_ z (S:=fun b=>w<=b) (fun b _ h=>h)) (fun b hb e=>by have y:=Uc.out b hb;have e:w<=b:=e;omega)).parts.2.2.2);clear y0;go_upto_region 10 with(at_builtin;go_loud (refine af _ rfl (.tmp 38) (.tmp 43) _ rfl w 5 i0 _ 1 1 underlying24 m p q r rfl (by omega) (.slice Aa (bn+v) ca) _ (aI Ba) rfl ab F L ln lc (aI x.last) rfl bp (bJ _) (by simp only [maxLen];omega) (by omega) bU ?_);intro vb wb Yk a5 cl;have bX:=aa Yk;have bj:=aa a5;clear Yk a5 cl);obtain⟨Bb,ao⟩:=gF (Ba++x.last);have b0:=aa ao;have ac:Hid (wb.ownsRow w 5 1 vb (bn+v+ln) (aI Bb)):=aa (by have d:=bX.out;rw [ao];simpa [aI] using d);have B:Hid (Below w w wb):=aa (z.grown bj z.size (fun g G=>(ah ab g G).1));have b1:=aa B.size;obtain⟨Ab,cb,cu,_,_⟩:=ax ac;subst cu;have y1:wb.cell? ⟨g,o+i*4+1,none⟩=some (.int .i64 x.at_):=iL B (Uc g Y8) kV;clear cF ao;have b2:=aa (gW wb x.at_ wb (by omega) jO);have cH:=aV (n:=x.at_) (by omega);go_upto_region 11 with(first|(go_at_call 105;go_loud (refine b2.mono ?_);intro e cU f;obtain⟨Vc,W,cC,rfl,J,K,M,j,k⟩:=f.below;have bG:=aa j;have N:=aa k;have cQ:W<=10:=(by omega);clear f J K M j k)|(at_builtin;go_loud (refine af _ rfl (.tmp 45) (.tmp 52) _ rfl w 5 i0 _ 1 1 underlying24 m p q r rfl (by omega) (.slice Ab (bn+v+ln) cb) _ (aI Bb) rfl (own_below ac N) (From wb) Vc W cC (aI (aP x.at_)) rfl bG.sb.parts.2.2.2 (bJ _) (by simp only [maxLen];omega) (by omega) (by have y:=b1.out;have E:=N.out.size;omega) ?_);intro vc wc Ym a6 b3;have b4:=aa Ym;have bk:=aa a6;clear Ym a6 b3));obtain⟨Bc,ap⟩:=gF (Bb++aP x.at_);have b5:=aa ap;have ad:Hid (wc.ownsRow w 5 1 vc (bn+v+ln+W) (aI Bc)):=aa (by have d:=b4.out;rw [ap];simpa [aI] using d);have C:Hid (Below w w wc):=aa ((B.out.trans (N.mono B.size)).grown bk (by have y:=B.out.size;have E:=N.out.size;omega) (fun g G=>(ah ac g G).1));have b6:=aa C.size;obtain⟨Ac,cc,cv,_,_⟩:=ax ad;subst cv;clear ap;have y2:wc.cell? ⟨g,o+i*4+2,none⟩=some (.int .i64 x.len):=iL C (Uc g Y8) bz;clear y1;have b7:=aa (gW wc x.len wc (by omega) jO);have cI:=aV (n:=x.len) (by omega);go_upto_region 12 with(first|(go_at_call 105;go_loud (refine b7.mono ?_);intro e cV f;obtain⟨Vd,u,cD,rfl,J,K,M,j,k⟩:=f.below;have bI:=aa j;have O:=aa k;have cR:u<=10:=(by omega);clear f J K M j k)|(at_builtin;go_loud (refine af _ rfl (.tmp 54) (.tmp 61) _ rfl w 5 i0 _ 1 1 underlying24 m p q r rfl (by omega) (.slice Ac (bn+v+ln+W) cc) _ (aI Bc) rfl (own_below ad O) (From wc) Vd u cD (aI (aP x.len)) rfl bI.sb.parts.2.2.2 (bJ _) (by simp only [maxLen];omega) (by omega) (by have y:=b6.out;have E:=O.out.size;omega) ?_);intro vd wd Yn a7 b8;have b9:=aa Yn;have bm:=aa a7;clear Yn a7 b8));obtain⟨Bd,aq⟩:=gF (Bc++aP x.len);have cf:=aa aq;have ae:Hid (wd.ownsRow w 5 1 vd (bn+v+ln+W+u) (aI Bd)):=aa (by have d:=b9.out;rw [aq];simpa [aI] using d);have D:Hid (Below w w wd):=aa ((C.out.trans (O.mono C.size)).grown bm (by have y:=C.out.size;have E:=O.out.size;omega) (fun g G=>(ah ad g G).1));have cg:=aa D.size;obtain⟨Ad,cd,cw,_,_⟩:=ax ae;subst cw;clear aq;have y3:wd.cell? ⟨g,o+i*4+3,none⟩=some (.int .i64 x.ents):=iL D (Uc g Y8) fu;clear y2;have ch:=aa (gW wd x.ents wd (by omega) jO);have cJ:=aV (n:=x.ents) (by omega);go_upto_region 7 with(first|(go_at_call 105;go_loud (refine ch.mono ?_);intro e cW f;obtain⟨Ve,U,cE,rfl,J,K,M,j,k⟩:=f.below;have bL:=aa j;have P:=aa k;have cp:U<=10:=(by omega);clear f J K M j k)|(at_builtin;go_loud (refine af _ rfl (.tmp 63) (.tmp 70) _ rfl w 5 i0 _ 1 1 underlying24 m p q r rfl (by omega) (.slice Ad (bn+v+ln+W+u) cd) _ (aI Bd) rfl (own_below ae P) (From wd) Ve U cE (aI (aP x.ents)) rfl bL.sb.parts.2.2.2 (bJ _) (by simp only [maxLen];omega) (by omega) (by have y:=cg.out;have E:=P.out.size;omega) ?_);intro ve we Yo a8 ci;have cj:=aa Yo;have bo:=aa a8;clear Yo a8 ci));obtain⟨Be,ar⟩:=gF (Bd++aP x.ents);have ck:=aa ar;have aE:Hid (we.ownsRow w 5 1 ve (bn+v+ln+W+u+U) (aI Be)):=aa (by have d:=cj.out;rw [ar];simpa [aI] using d);have a0:Hid (Below w w we):=aa ((D.out.trans (P.mono D.size)).grown bo (by have y:=D.out.size;have E:=P.out.size;omega) (fun g G=>(ah ae g G).1));have cK:=aa a0.size;obtain⟨Ae,ce,cx,_,_⟩:=ax aE;subst cx;clear ar;clear y3;go_wp2
   go_roundw
   case rel=>
    refine⟨i+1,by omega,by go_num,aa ?_,a0⟩
    have y:aP n++(l.take (i+1)).flatMap Row.bytes=Be:=by
     rw [ck.out,cf.out,b5.out,b0.out,bT.out,aA.out,HT.out];unfold Row.bytes;rw [<-fq.out];simp
    rw [y];have d:=aE.out;unfold Ow
    have h7:bn+v+ln+W+u+U=Be.length:=by
     have a1:=d.1;rw [dO] at a1;omega
    rw [<-h7]
    exact d
   case measure=>simp [intOf];omega
  ·have ba:¬((i:Int)<(n:Int)):=by omega
   have a9:i=n:=by omega
   have rF:Hid (aJ l=X++aP (bK l)):=aa (by
    unfold aJ;rw [aA.out,a9,HN.out,List.take_length])
   have Dw:=aa (mW Z.ents n);have cr:bK l<=64*n:=by have:=Dw.out;rwa [HN.out,List.take_length,<-HN.out] at this
   have HT:=aa (Hr c (HH.below HB) hn Z.ents);obtain⟨t,ht⟩:=gF (bK l);rw [<-ht] at HT rF cr;have bE:=aa (gW wr t wr (by omega) jO);have cS:=aV (n:=t) (by omega);clear a9 ht;go_wp2_with (first|(go_at_call 106;go_loud (refine HT.mono ?_);rintro e w3 ⟨rfl,rfl⟩)|(go_at_call 105;go_loud (refine bE.mono ?_);intro e w4 f;obtain⟨V4,Nt,cy,rfl,J,K,M,j,k⟩:=f.below;have Y2:=aa j;have dE:=aa k;have cM:Nt<=10:=(by omega);clear f J K M j k)|(at_builtin;go_loud (refine af _ rfl (.tmp 72) (.tmp 76) _ rfl w 5 i0 _ 1 1 underlying24 m p q r rfl (by omega) (.slice bA bn bc) _ (aI X) rfl (own_below al dE) (From wr) V4 Nt cy (aI (aP t)) rfl Y2.sb.parts.2.2.2 (bJ _) (by simp only [maxLen];omega) (by omega) (by have y:=a2.out;have h3:=dE.out.size;omega) ?_);intro v5 w5 H a3 oz;have pq:=aa H;have DC:=aa a3;clear H a3 oz));go_ret3
   rw [HR.out];unfold si;rw [rF.out]
   refine⟨v5,rfl,?_,?_⟩
   ·have d:=pq.out;have h8:=Y2.out.sb.parts.2.2.1;unfold Ow;rw [mq,<-lD.out,<-h8]
    simpa [aI] using d
   ·have E:=HB.out.trans (dE.mono HB.size);exact E.grown DC E.size (fun g G=>(ah HO g G).1)
theorem LZ (a:1<=k.length) (b:k.length<=64):pz k=0:=by unfold pz;rw [if_pos ⟨a,b⟩]
theorem uQ (h:l[i]? =some x):dD (l.take (i+1))=x.at_+x.len:=by
 rw [List.take_add_one,h];exact uR _ _
theorem iy.few (h:iy l) (b:∀x∈l,x.at_<=1152921504606):qp l:=⟨h.many,fun x a=>(h.key x a).2,b,fun x a=>(h.len x a).2,fun x a=>(h.count x a).2⟩
theorem Gc (c:Nat) (h:mF w F A n l) (r:iy l) (ha:∀x∈l,x.at_<=1152921504606) (a:∀b,F b->b<w):
  Calls prog 104 #[.slice A n c] w fun e w'=>e= .returned (.tuple #[.int .i64 0,.int .i64 0])/\Below w w w':=by
 refine letter fun R HR=> ?_;have Y:=aa h;have HN:Hid (n=l.length):=h.len;have B:=aa r;have HA:=aa ha;have Uc:=aa a;have hn:n<=8388608:=by have:=HN.out;have:=r.many;omega
 clear h r ha a;go_enter func104,ntmps104;go_wp2
 go_loopw [4,5] (fun av W wz=>∃i:Nat,i<=n/\W= (i:Int)/\av= .int .i64 (dD (l.take i):Nat)/\Hid (Below w w wz)) (fun _ W _=>n-(intOf W).toNat)
 case atStart=>exact⟨0,Nat.zero_le _,rfl,rfl,aa mh⟩
 case round=>
  obtain⟨i,hi,rfl,rfl,C⟩:=hrel
  by_cases U:i<n
  ·have H:(i:Int)<(n:Int):=by omega
   obtain⟨g,o,L,ln,lc,x,J,Y8,I,c0,c1,c2,c3,s⟩:=(Y.out.below C).at_ U;have f:=nT I;have ac:x.at_<=1152921504606:=HA.out x f;have al:=B.out.len x f;have ae:=B.out.count x f;have N:=B.out.key x f;have qo:Hid (x.at_=dD (l.take i)):=aa (B.place i x I);have D:Hid (dD (l.take (i+1))=x.at_+x.len):=aa (uQ I);have HS:=aa s;have HX:=aa I;have fq:Hid (ln=x.last.length):=aa s.parts.2.2.1;subst J;rw [<-qo.out];obtain⟨t,O⟩:=gF wr.heap.size;clear I f s;go_upto_region 8 with fail;obtain⟨d,p⟩:=gF (wr.alloc (.cells #[.slice L ln lc,.int .i64 x.at_,.int .i64 x.len,.int .i64 x.ents] 100));rw [<-p,<-O];have m:Hid (Below wr wr d):=aa (by rw [p];exact gV);have z:Hid (ak d t 100 #[.slice L ln lc,(x.at_:Int),(x.len:Int),(x.ents:Int)]):=aa (by rw [p,O];exact ak.new _ _ _);have E:Hid (Below w w d):=aa (C.out.trans (m.mono C.size));have y0:d.cell? t=some (.slice L ln lc):=z.out.cell 0;have Ub:=aa (zu L ln lc x.last fq d);rw [LZ N.1 N.2] at Ub;clear p O c0 c1 c2 c3 N;go_upto_region 9 with(go_at_call 118;go_loud (refine Ub.mono ?_);rintro e w4 ⟨rfl,rfl⟩)
   by_cases i0:i=0
   ·have Q:decide (0<i)=false:=decide_eq_false (by omega);have u:decide ((0:Int)<(i:Int))=false:=decide_eq_false (by omega);clear i0;go_quiet (fail);clear Q u;have y1:(d.drewN nq).cell? ⟨t,1,none⟩=some (.int .i64 x.at_):=z.out.cell 1;have y2:(d.drewN nq).cell? ⟨t,2,none⟩=some (.int .i64 x.len):=z.out.cell 2;have y3:(d.drewN nq).cell? ⟨t,3,none⟩=some (.int .i64 x.ents):=z.out.cell 3;have t1:¬((x.len:Int)<1):=by omega
    have t2:¬((131072:Int)<(x.len:Int)):=by omega
    have t3:¬((x.ents:Int)<1):=by omega
    have t4:¬((64:Int)<(x.ents:Int)):=by omega
    have t5:((x.at_:Int) !=(x.at_:Int))=false:=by simp
    have t6:(x.at_:Int)+(x.len:Int)<=9223372036854775807:=by omega
    clear y0;go_wp2
    go_roundw
    case rel=>exact⟨i+1,by omega,by go_num,by rw [D.out];go_num,aa (below_drewN E nq)⟩
    case measure=>simp [intOf];omega
   ·obtain⟨j,hj⟩:∃j,i=j+1:=⟨i-1,by omega⟩;have Q:decide (0<i)=true:=decide_eq_true (by omega);have u:decide ((0:Int)<(i:Int))=true:=decide_eq_true (by omega);obtain⟨g2,o2,M,mn,mc,y,J,_,v,d0,d1,d2,d3,K⟩:=(Y.out.below C).at_ (k:=j) (by omega);injection J with J;injection J with e1 e2
    subst e1;subst e2;have Z:Hid (compareBytes y.last x.last<0):=aa (B.rise j y x v (by rw [<-hj];exact HX));have X:Hid (∀k,Calls prog 68 #[.slice M mn mc,.slice L ln lc] (d.drewN k) fun e w'=>e= .returned (.int .i64 (compareBytes y.last x.last))/\∃q,w'=(d.drewN k).drewN q):=aa (fun k=>dC mc lc ((K.below m).parts.2.2.2.drewN k) K.parts.2.2.1 ((HS.below m).parts.2.2.2.drewN k) fq (by have h1:=K.parts.2.2.1;have h2:=(B.out.key y (nT v)).2;omega));have P:d.cell? ⟨g,o+j*4,none⟩=some (.slice M mn mc):=aj m d0;have V:IntKind.i64.wrap ((i:Int)-1)=(j:Int):=by rw [IntWalk.i64_in _ (by omega)];omega
    have T:j<n:=by omega
    have yD:(j:Int)<(n:Int):=by omega
    have S:(0:Int)<=(j:Int):=by omega
    obtain⟨ce,G⟩:=gF (compareBytes y.last x.last);rw [<-G] at X Z;have ad:=Z.out;have ab:¬0<=ce:=by omega
    clear i0 hj v d0 d1 d2 d3 K G;go_quiet ((go_at_call 68;exact Calls.quiet_of (X _)));clear Q u P V T yD S;have y1:(d.drewN nq).cell? ⟨t,1,none⟩=some (.int .i64 x.at_):=z.out.cell 1;have y2:(d.drewN nq).cell? ⟨t,2,none⟩=some (.int .i64 x.len):=z.out.cell 2;have y3:(d.drewN nq).cell? ⟨t,3,none⟩=some (.int .i64 x.ents):=z.out.cell 3;have t1:¬((x.len:Int)<1):=by omega
    have t2:¬((131072:Int)<(x.len:Int)):=by omega
    have t3:¬((x.ents:Int)<1):=by omega
    have t4:¬((64:Int)<(x.ents:Int)):=by omega
    have t5:((x.at_:Int) !=(x.at_:Int))=false:=by simp
    have t6:(x.at_:Int)+(x.len:Int)<=9223372036854775807:=by omega
    clear y0;go_wp2
    go_roundw
    case rel=>exact⟨i+1,by omega,by go_num,by rw [D.out];go_num,aa (below_drewN E nq)⟩
    case measure=>simp [intOf];omega
  ·have H:¬((i:Int)<(n:Int)):=by omega
   go_wp2;rw [HR.out]
   exact⟨rfl,C⟩
end Go.Proofs.YtepgcjbhabnciaaGreat
