/- Part 33. -/
import Derived.Test.YtepgcjbhabnciaaGreatLp32
import Derived.StillTailTactics
import Derived.BigRegion
import Derived.Test.YtepgcjbhabnciaaGreatLp27
namespace Go.Proofs.YtepgcjbhabnciaaGreat
set_option maxRecDepth 100000
set_option maxHeartbeats 8000000
open Go.RowKit Go.Proofs.Tryz
open Go.Lib (compareBytes)
variable {d0 i inn fill n j d1 B o g:Nat} {nd lf fl bl lev a b:Int} {w W w1:World} {F q:Nat->Prop} {α:Type} {l:List aR} {A:Option Addr}
def wH (inn:Nat):Nat->Int->List aX->List Nd->List aX×Int
 |0,_,sl,_=>(sl,0)
 |f+1,lev,sl,lv=>if lv.length=1 then(sl++(List.range lv.length).map (il lv ((sl.length:Int)+1)),(sl.length:Int)+1) else
   wH inn f (lev+1) (sl++(List.range lv.length).map (il lv ((sl.length:Int)+1))) ((List.range (pn lv.length inn)).map (iA inn (lev+1) lv ((sl.length:Int)+1)))
def kJ (fill inn:Nat) (l:List aR):List aX×Int:=if l= [] then([(0,Nd.zero)],1) else wH inn 32 0 [] (bW fill l)
def eQ (lv:List Nd) (d0:Nat):List Kd:=(List.range lv.length).map fun(i:Nat)=>((d0:Int)+(i:Int)+1,(lv.getD i Nd.zero).high)
theorem lw (lv:List Nd) (d0:Nat):(eQ lv d0).length=lv.length:=by simp [eQ]
theorem CO {lv:List Nd} (h:i<lv.length):(eQ lv d0)[i]? =some ((d0:Int)+(i:Int)+1,(lv.getD i Nd.zero).high):=by
 unfold eQ;rw [List.getElem?_map,List.getElem?_range h];rfl
theorem pZ {l:List α} {d x:α} (h:l[i]? =some x):l.getD i d=x:=by rw [List.getD_eq_getElem?_getD,h];rfl
theorem zF {lv:List Nd} (c:j<(cZ inn lv i).length):(jk inn (eQ lv d0) i)[j]? =some ((d0:Int)+((i*inn+j:Nat):Int)+1,((cZ inn lv i).getD j Nd.zero).high):=by
 have hl:(cZ inn lv i).length=min inn (lv.length-i*inn):=by unfold cZ;rw [List.length_take,List.length_drop]
 have a:j<inn:=by omega
 have b:i*inn+j<lv.length:=by omega
 unfold jk;rw [List.getElem?_take,if_pos a,List.getElem?_drop,CO b];have:(cZ inn lv i)[j]? =lv[i*inn+j]? :=by unfold cZ;rw [List.getElem?_take,if_pos a,List.getElem?_drop]
 rw [List.getD_eq_getElem?_getD,List.getD_eq_getElem?_getD,this]
theorem OC {lv:List Nd}:(jk inn (eQ lv d0) i).length=(cZ inn lv i).length:=by
 unfold jk cZ;rw [List.length_take,List.length_take,List.length_drop,List.length_drop,lw]
theorem last_at {l:List α} (_h:l≠ []) (d:α):l.getLastD d=l.getD (l.length-1) d:=by
 rw [List.getLastD_eq_getLast?,List.getLast?_eq_getElem?,List.getD_eq_getElem?_getD]
theorem Ku {lv:List Nd} (f:cZ inn lv i≠ []) (M:Nat) (hi:i<M):
  kr inn lev (eQ lv d0) d1 M i=il ((List.range M).map (iA inn lev lv ((d0:Int)+1))) ((d1:Int)+1) i:=by
 have k:((List.range M).map (iA inn lev lv ((d0:Int)+1))).getD i Nd.zero=iA inn lev lv ((d0:Int)+1) i:=pZ (by rw [List.getElem?_map,List.getElem?_range hi];rfl);have hl:0<(cZ inn lv i).length:=List.length_pos_iff.2 f;have a:=OC (lv:=lv) (d0:=d0) (inn:=inn) (i:=i);have d:jk inn (eQ lv d0) i≠ []:=by intro e;rw [e] at a;simp at a;omega
 have h:ID inn (eQ lv d0) i=((cZ inn lv i).getLastD Nd.zero).high:=by
  unfold ID;rw [last_at d,last_at f,a];rw [pZ (zF (d0:=d0) (show(cZ inn lv i).length-1<(cZ inn lv i).length by omega))]
 have c:(jk inn (eQ lv d0) i).dropLast.map Prod.snd=(cZ inn lv i).dropLast.map Nd.high:=by
  apply List.ext_getElem?;intro j;rw [List.getElem?_map,List.getElem?_map,List.getElem?_dropLast,List.getElem?_dropLast,a]
  by_cases b:j<(cZ inn lv i).length-1
  ·rw [if_pos b,if_pos b,zF (show j<(cZ inn lv i).length by omega),mP (show j<(cZ inn lv i).length by omega)]
   simp [List.getD_eq_getElem?_getD,mP (show j<(cZ inn lv i).length by omega)]
  ·rw [if_neg b,if_neg b];rfl
 have g:(jk inn (eQ lv d0) i).map Prod.fst=(List.range (cZ inn lv i).length).map fun j=>(d0:Int)+1+((i*inn+j:Nat):Int):=by
  apply List.ext_getElem?;intro j;rw [List.getElem?_map,List.getElem?_map]
  by_cases b:j<(cZ inn lv i).length
  ·rw [zF b,List.getElem?_range b];simp only [Option.map_some];congr 1
   omega
  ·rw [List.getElem?_eq_none (by omega),List.getElem?_eq_none (by simpa using b)];rfl
 unfold kr il;rw [k,h,c,g];simp only [iA,List.length_map,List.length_range];congr 2
 split
 ·omega
 ·rfl
theorem S7 {lv:List Nd} (a:1<=inn) (hi:i<pn lv.length inn) (hl:1<=lv.length):cZ inn lv i≠ []:=by
 have c:=iU lv.length inn a hl
 have b:i*inn<lv.length:=by
  have:(i+1)*inn<=pn lv.length inn*inn:=Nat.mul_le_mul_right _ hi;rw [Nat.add_mul] at this;omega
 intro e;have:(cZ inn lv i).length=min inn (lv.length-i*inn):=by unfold cZ;rw [List.length_take,List.length_drop]
 rw [e] at this;simp at this;omega
theorem S8 (a:1<=inn):∀(f g:Nat) (lev:Int) (sl:List aX) (lv:List Nd),1<=lv.length->f<=g+1->(Go.Proofs.YtepgcjbhabnciaaGreat.lv nd inn f (lv.length:Int) (sl.length:Int)).2=0->
  (IL inn g (lev+1) (sl++(List.range lv.length).map (il lv ((sl.length:Int)+1))) (eQ lv sl.length)).1=(wH inn f lev sl lv).1/\
  ((IL inn g (lev+1) (sl++(List.range lv.length).map (il lv ((sl.length:Int)+1))) (eQ lv sl.length)).2.headD (0,[])).1=(wH inn f lev sl lv).2:=by
 intro f
 induction f with
 |zero=>intro g lev sl lv _ _ h;simp [Go.Proofs.YtepgcjbhabnciaaGreat.lv] at h
 |succ f B=>
  intro g lev sl lv hl z h
  by_cases c:lv.length=1
  ·rw [wH,if_pos c,tY (by rw [lw];omega)];refine⟨rfl,?_⟩;have n:=CO (lv:=lv) (d0:=sl.length) (i:=0) (by omega);obtain⟨x,r⟩:∃x,eQ lv sl.length= [x]:=List.length_eq_one_iff.1 (by rw [lw];exact c);rw [r] at n|-;simp at n
   simp [n]
  ·have y:¬nd-(sl.length:Int)<(lv.length:Int):=by
    intro r;rw [ja r] at h;simp at h
   rw [oG y (by omega),<-ik lv.length inn a] at h
   have A:∃l,g=l+1:=by
    cases g with
    |zero=>
     have:f=0:=by omega
     subst this
     simp [Go.Proofs.YtepgcjbhabnciaaGreat.lv] at h
    |succ l=>exact⟨l,rfl⟩
   obtain⟨l,rfl⟩:=A;obtain⟨M,m⟩:=gF (pn lv.length inn);obtain⟨done,b⟩:=gF (sl++(List.range lv.length).map (il lv ((sl.length:Int)+1)));obtain⟨e,j⟩:=gF ((List.range M).map (iA inn (lev+1) lv ((sl.length:Int)+1)));have o:done.length=sl.length+lv.length:=by rw [b];simp
   have k:e.length=M:=by rw [j];simp
   have w:1<=M:=by rw [m];exact oF _ _ a
   have q:∀i,i<M->cZ inn lv i≠ []:=fun i hi=>S7 a (by rw [<-m];exact hi) hl;have d:∀i,i<M->kr inn (lev+1) (eQ lv sl.length) done.length M i=il e ((done.length:Int)+1) i:=fun i hi=>by rw [j];exact Ku (q i hi) M hi
   rw [wH,if_neg c,<-b,<-m,<-j,IL,if_pos (by rw [lw];omega),lw,<-m]
   have u:(List.range M).map (kr inn (lev+1) (eQ lv sl.length) done.length M)=(List.range e.length).map (il e ((done.length:Int)+1)):=by
    rw [k];exact List.map_congr_left (fun i hi=>d i (by simpa using hi))
   have v:xG done.length M (ID inn (eQ lv sl.length))=eQ e done.length:=by
    unfold xG eQ;rw [k];refine List.map_congr_left (fun i hi=> ?_);have p:i<M:=by simpa using hi
    have:=congrArg (fun s:aX=>s.2.high) (d i p);have t:ID inn (eQ lv sl.length) i=(e.getD i Nd.zero).high:=this;unfold eQ at t;rw [t]
   rw [u,v];refine B l (lev+1) done e (by omega) (by omega) ?_;rw [k,o,m];have:((sl.length+lv.length:Nat):Int)=(sl.length:Int)+(lv.length:Int):=by omega
   rw [this];exact h
theorem xg (fill:Nat) (l:List aR):lz fill l= []++(List.range (bW fill l).length).map (il (bW fill l) ((([]:List aX).length:Int)+1))/\nP fill l=eQ (bW fill l) ([]:List aX).length:=by
 have b:(bW fill l).length=pn l.length fill:=by simp [bW]
 have c:∀i,i<pn l.length fill->(bW fill l).getD i Nd.zero=xh fill l i:=fun i hi=>pZ (by unfold bW;rw [List.getElem?_map,List.getElem?_range hi];rfl)
 constructor
 ·rw [List.nil_append,b];unfold lz;refine List.map_congr_left (fun i hi=> ?_);have a:i<pn l.length fill:=by simpa using hi
  unfold nu il;rw [c i a,b];simp only [xh,List.length_nil];congr 2
  split
  ·simp;omega
  ·rfl
 ·unfold nP xG eQ;rw [b];refine List.map_congr_left (fun i hi=> ?_);have a:i<pn l.length fill:=by simpa using hi
  rw [c i a];rfl
theorem CG (a:1<=inn) (w:1<=fill) (h:(lv nd inn 32 (parts l.length fill) 0).2=0):aY fill inn l=kJ fill inn l:=by
 by_cases hl:l= []
 ·subst hl;rfl
 ·rw [p8 hl,kJ,if_neg hl,(xg fill l).1,(xg fill l).2];have b:(bW fill l).length=pn l.length fill:=by simp [bW]
  have:=S8 (nd:=nd) a 32 32 0 [] (bW fill l) (by rw [b];exact oF _ _ w) (by omega) (by rw [b,ik _ _ w];exact h);exact Prod.ext this.1 this.2
theorem GX (n a b:Int) (w:World):
  Calls prog 89 #[n,a,b] w fun e w'=>e= .returned (.bool (decide (a<=n/\n<=b)))/\w=w':=by
 go_enter func89,ntmps89
 go_wp2;all_goals go_ret
 all_goals (refine⟨?_,rfl⟩)
 ·have h:a<=n:=by assumption
  simp [h]
 ·have h:n<a:=by assumption
  have c:¬a<=n:=by omega
  simp [c]
theorem pY {k:IntKind} (h:a=b):Ending.returned (.int k a)= .returned (.int k b):=by rw [h]
theorem rO (nd lf inn fl bl:Int) (w:World):
  Calls prog 50 #[.agg #[nd,lf,inn,fl,bl]] w fun e w'=>e= .returned (.int .i64 (Oj nd lf inn fl bl))/\Below w w w':=by
 go_enter func50,ntmps50
 go_wp2_with (go_at_call 89;refine(GX _ _ _ _).mono ?_;rintro e w' ⟨rfl,rfl⟩)
 all_goals go_ret
 all_goals (refine⟨pY ?_,gV⟩)
 ·rw [jH (by unfold bq;omega)]
 all_goals (rw [pO (by unfold bq;omega)])
theorem fP (nd lf inn fl bl:Int) (w:World):
  Calls prog 27 #[.agg #[nd,lf,inn,fl,bl]] w fun e w'=>e= .returned (.int .i64 (Oj nd lf inn fl bl))/\Below w w w':=by
 go_enter func27,ntmps27
 go_wp2;all_goals go_ret
 all_goals (refine⟨pY ?_,gV⟩)
 all_goals first|(rw [pO (by unfold bq;omega)])|(rw [jH (by unfold bq;omega)])
theorem Cx (n m:Int) (hn:0<=n) (f:n<=9223372036854775807) (c:1<=m) (d:m<=9223372036854775807) (w:World):
  Calls prog 120 #[n,m] w fun e w'=>e= .returned (.int .i64 (parts n m))/\w=w':=by
 have j:=Int.ediv_le_self m hn;have g:0<=n/m:=Int.ediv_nonneg hn (by omega);have k:=Int.emod_nonneg n (show m≠0 by omega);have l:=sF hn c
 by_cases a:n=0
 ·have b:(n==0)=true:=by simpa using a
  have i:n/m<=0:=by omega
  go_enter func120,ntmps120
  go_wp2;all_goals go_ret
  all_goals (refine⟨pY ?_,rfl⟩)
  all_goals (subst a;simp [parts])
 ·have b:(n==0)=false:=by simpa using a
  by_cases h:0<n%m
  ·go_enter func120,ntmps120
   go_wp2;go_ret
   exact⟨pY (by simp [parts,a,h]),rfl⟩
  ·go_enter func120,ntmps120
   go_wp2;go_ret
   exact⟨pY (by simp only [parts,a,if_false];omega),rfl⟩
def rD (p:Int×Int):Value:= .tuple #[(p.1:Int),(p.2:Int)]
theorem vZ (a:Below B W w1) {b:Nat} (h:b<B) {v:Value} (hv:W.cell? ⟨b,o,none⟩=some v):w1.cell? ⟨b,o,none⟩=some v:=
 (a.cell (p:=⟨b,o,none⟩) h).trans hv
theorem P9 {inn:Int} (n:Int) (w:World) (h:bq nd lf inn fl bl) (hn:¬n<0) (I:n<=9223372036854775807):
  Calls prog 57 #[.agg #[nd,lf,inn,fl,bl],n] w fun e w'=>e= .returned (rD (aT nd lf inn fl bl n))/\Below w w w':=by
 have X:=jH h;have y:=fU h hn;have v:=aa y;clear y;have hc:1<=nd/\nd<=65536/\2<=lf/\lf<=64/\3<=inn/\inn<=64/\1<=fl/\fl<=lf/\1<=bl/\bl<=64:=h;obtain⟨c1,O,P,Q,R,S,T,U,V,C⟩:=hc;go_enter func57,ntmps57;go_wp2_with (go_at_call 50;refine(rO _ _ _ _ _ _).mono ?_;rintro e w' ⟨rfl,o⟩)
 have x:Below w w w':=gV.trans (o.mono (by simp));have A:w'.cell? w=some (.int .i64 nd):=vZ o (by simp) (by simp);have k2:w'.cell? ⟨w,2,none⟩=some (.int .i64 inn):=vZ o (by simp) (by simp);have N:w'.cell? ⟨w,3,none⟩=some (.int .i64 fl):=vZ o (by simp) (by simp);clear o;go_quiet (fail);go_wp2
 go_loopw [6,7,8,19] (fun t many most i wr=>∃(a m q:Int) (k:Nat),k<=32/\t= (a:Int)/\many= (m:Int)/\most= (q:Int)/\i= (k:Int)/\0<=a/\a<=nd/\0<=m/\m<=9223372036854775807/\1<=q/\q<=64/\
   Hid (aT nd lf inn fl bl n=lv nd inn (32-k) (parts m q) a)/\Below w w wr/\wr.cell? w=some (.int .i64 nd)/\wr.cell? ⟨w,2,none⟩=some (.int .i64 inn))
  (fun _ _ _ i _=>32-(intOf i).toNat)
 case atStart=>exact⟨0,n,fl,0,by omega,rfl,rfl,rfl,rfl,by omega,by omega,by omega,by omega,by omega,by omega,v,below_drewN x _,by simpa using A,by simpa using k2⟩
 case round=>
  obtain⟨a,m,q,k,Y,rfl,rfl,rfl,rfl,W,F,g,H,u,L,r,c,D,E⟩:=hrel;clear A k2 N x v;have M:=Int.ediv_le_self q g;have K:0<=m/q:=Int.ediv_nonneg g (by omega);have Z:=Int.emod_nonneg m (show q≠0 by omega);have hs:m/q+m%q<=m:=sF g u;have d:=aa (Cy g u);have wU:=nC g u;have J:=GY (most:=q) g
  by_cases G:k<32
  ·obtain⟨j,z⟩:∃j,32-k=j+1:=⟨31-k,by omega⟩;have s:=aa z;clear z;go_wp2;go_region
   go_wp2
   ·have f:nd-a<max 1 (m/q+min 1 (m%q)):=by assumption
    rw [d.out] at f;have b:aT nd lf inn fl bl n=(0,2):=by rw [r.out];exact ja f
    go_ret2
    exact⟨by rw [b];rfl,(below_drewN c _)⟩
   ·have f:max 1 (m/q+min 1 (m%q))<=nd-a:=by assumption
    have l:(max 1 (m/q+min 1 (m%q))==1)=true:=by assumption
    rw [d.out] at f l;have b:aT nd lf inn fl bl n=(a+parts m q,0):=by rw [r.out,s.out];exact Dk (by omega) (by simpa using l)
    go_ret2
    exact⟨by rw [b,d.out];rfl,(below_drewN c _)⟩
   ·have f:max 1 (m/q+min 1 (m%q))<=nd-a:=by assumption
    have l:(max 1 (m/q+min 1 (m%q))==1)=false:=by assumption
    rw [d.out] at f l
    have b:aT nd lf inn fl bl n=lv nd inn (32-(k+1)) (parts (parts m q) inn) (a+parts m q):=by
     rw [r.out,s.out,oG (by omega) (by simpa using l)];congr 1;have:=s.out;omega
    go_roundw
    case rel=>exact⟨a+parts m q,parts m q,inn,k+1,by omega,by rw [d.out],by rw [d.out],rfl,by go_num,by omega,by omega,by omega,by omega,by omega,by omega,aa b,below_drewN c _,by simpa using D,by simpa using E⟩
    case measure=>simp [intOf];omega
  ·have p:k=32:=by omega
   have b:aT nd lf inn fl bl n=(0,2):=by rw [r.out,p];rfl
   have B:=aa b;clear p b;go_wp2;go_ret2;exact⟨by rw [B.out];rfl,c⟩
theorem qi {inn:Int} (n:Int) (w:World) (h:bq nd lf inn fl bl) (hn:¬n<0) (E:n<=9223372036854775807):
  Calls prog 71 #[.agg #[nd,lf,inn,fl,bl],n] w fun e w'=>e= .returned (rD (aT nd lf inn fl bl n))/\Below w w w':=by
 have N:=jH h;have r:=aa (fU h hn);have hc:1<=nd/\nd<=65536/\2<=lf/\lf<=64/\3<=inn/\inn<=64/\1<=fl/\fl<=lf/\1<=bl/\bl<=64:=h;obtain⟨c1,z,H,I,A,J,K,L,M,y⟩:=hc;have Q:=nC (n:=n) (most:=fl) (by omega) (by omega);have R:=zk (n:=n) (most:=fl) (by omega) (by omega);go_enter func71,ntmps71;go_wp2_with (go_at_call 27;refine(fP _ _ _ _ _ _).mono ?_;rintro e w' ⟨rfl,d⟩;have s:Below w w w':=gV.trans (d.mono (by simp));have O:w'.cell? w=some (.int .i64 nd):=vZ d (by simp) (by simp);have k2:w'.cell? ⟨w,2,none⟩=some (.int .i64 inn):=vZ d (by simp) (by simp);have P:w'.cell? ⟨w,3,none⟩=some (.int .i64 fl):=vZ d (by simp) (by simp);clear d)
 go_wp2_with (go_at_call 120;refine(Cx _ _ (by omega) (by omega) (by omega) (by omega) _).mono ?_;rintro e w' ⟨rfl,rfl⟩)
 go_loopg [7,8] 32 (fun g m o wr=>∃(a q:Int) (k:Nat),g=k+1/\o= (a:Int)/\m= (q:Int)/\0<=a/\a<=nd/\1<=q/\q<=9223372036854775807/\DW q k/\
   Hid (aT nd lf inn fl bl n=lv nd inn (k+1) q a)/\wr=w')
 case atStart=>exact⟨0,parts n fl,31,rfl,rfl,rfl,by omega,by omega,by omega,by omega,DY _,r,rfl⟩
 case round=>
  obtain⟨a,q,k,t,rfl,rfl,B,C,F,G,v,l,rfl⟩:=hrel;have x:=aa t;clear t r
  by_cases f:nd-a<q
  ·have b:=aa (l.out.trans (ja f));go_wp2;go_ret2
   exact⟨by rw [b.out];rfl,s⟩
  ·by_cases c:q=1
   ·have b:=aa (l.out.trans (Dk f c));subst c;go_wp2;go_ret2
    exact⟨by rw [b.out];rfl,s⟩
   ·obtain⟨j,u,i⟩:=GZ A B z F c f v;have b:=aa (l.out.trans (oG f c));have p:=aa u;clear u;have D:(q==1)=false:=by simpa using c
    have S:=nC (n:=q) (most:=inn) (by omega) (by omega);have T:=zk (n:=q) (most:=inn) (by omega) (by omega);go_wp2_with (go_at_call 120;refine(Cx _ _ (by omega) (by omega) (by omega) (by omega) _).mono ?_;rintro e w' ⟨rfl,rfl⟩)
    go_roundg k
    case measure=>have:=x.out;omega
    case rel=>exact⟨a+q,parts q inn,j,p,rfl,rfl,by omega,by omega,by omega,by omega,i,by have:=b.out;rw [p.out] at this;exact this,rfl⟩
theorem qj (A B:Option Addr) (n m c d:Nat) (x:aR) (hn:n=x.1.length) (a:m=x.2.length) (w:World):
  Calls prog 55 #[.agg #[.slice A n c,.slice B m d]] w fun e w'=>e= .returned (.int .i64 (jf x))/\Below w w w':=by
 have g:=aa hn;have f:=aa a;have b:=aa (zz x);clear hn a;go_enter func55,ntmps55;go_wp2;go_quiet (first|(go_at_call 97;exact dX (LY _ _ _ x.1 g _))|(go_at_call 98;exact dX (Oo _ _ _ x.2 f _)))
 go_wp2;go_ret
 refine⟨bR (by rw [b.out]),below_drewN gV _⟩
theorem fZ (A B:Option Addr) (n m c d:Nat) (x:aR) (hn:n=x.1.length) (h:m=x.2.length) (w:World):
  Calls prog 70 #[.agg #[.slice A n c,.slice B m d]] w fun e w'=>e= .returned (.int .i64 (jf x))/\Below w w w':=by
 have g:=aa hn;have i:=aa h;clear hn h
 rcases zw x.1 with a|a
 ·have f:=aa (SF a);have b:=aa a;clear a;go_enter func70,ntmps70;go_wp2_with (first|(go_at_call 118;refine(zu _ _ _ x.1 g _).mono ?_;rintro e w' ⟨rfl,rfl⟩;rw [b.out])|(go_at_call 119;refine(Kj _ _ _ x.2 i _).mono ?_;rintro e w' ⟨rfl,rfl⟩))
  go_ret
  exact⟨bR (by rw [f.out]),gV⟩
 ·have f:=aa (SE (e:=x) (by omega));have b:=aa a;clear a;go_enter func70,ntmps70;go_wp2_with (first|(go_at_call 118;refine(zu _ _ _ x.1 g _).mono ?_;rintro e w' ⟨rfl,rfl⟩;rw [b.out]))
  go_ret
  exact⟨bR (by rw [f.out,b.out]),gV⟩
theorem jS (c:Nat) (h:dh w F A n l) (K:n<=1152921504606) (D:∀(i:Nat) (e:aR),l[i]? =some e->e.1.length<=1152921504606):
  Calls prog 113 #[.slice A n c] w fun e w'=>e= .returned (.tuple #[.int .i64 (bB l).1,.int .i64 (bB l).2])/\Below w w w':=by
 have V:=aa h;have L:=aa h.len;have W:=aa D;clear h D;go_enter func113,ntmps113;go_wp2
 go_loopg [4] n (fun g i wr=>∃(k:Nat),g=n-k/\k<=n/\i= (k:Int)/\Hid (∀j,j<k->fO l j=0)/\Below w w wr)
 case atStart=>exact⟨0,by omega,by omega,rfl,fun j J=>absurd J (by omega),mh⟩
 case round=>
  obtain⟨k,hg,hk,rfl,E,a⟩:=hrel;have U:=aa hg;clear hg
  by_cases R:k<n
  ·obtain⟨b,o,Ak,nk,ck,Av,nv,cv,key,val,rfl,_,he,c1,X,h1,h2,t,Y,h5,h6,I,Z⟩:=V.out.at_ R;have d1:=aj a c1;have d2:=aj a X;have H:=aa he;have T:=aa Y;have H8:=aa Z;clear c1 X he Y Z
   rcases nY (key,val) with s|s
   ·have m:=aa s;clear s
    by_cases Q:k=0
    ·subst Q;simp only [Nat.zero_mul,Nat.add_zero] at d1 d2;have f:=aa (xc H m);go_wp2_with (first|(go_at_call 70;refine(fZ _ _ _ _ _ _ (key,val) t.out I.out _).mono ?_;rintro e w1 ⟨rfl,d⟩;rw [m.out];have r:Below w w w1:=a.trans (d.mono a.size)));go_quiet (fail);go_wp2
     go_roundg (n-1)
     case measure=>have:=U.out;omega
     case rel=>exact⟨1,rfl,by omega,rfl,aa (fun j J=>(show j=0 by omega)▸f.out),below_drewN r _⟩
    ·have C:k-1<n:=by omega
     obtain⟨b',o',Bk,mk,dk,Bv,mv,dv,q,ab,hA,_,B,x,M,ac,ad,p,z,ae,al,am,P⟩:=V.out.at_ C;obtain⟨rfl,rfl⟩:b'=b/\o'=o:=by injection hA with hA;injection hA with hA hB;exact⟨hA.symm,hB.symm⟩
     have y:=aj a x;have G:=aa B;have u:=aa z;have kp:0<k:=by omega
     have an:(0:Int)<(k:Int):=by omega
     clear x M B z P hA
     by_cases hc:0<=compareBytes q key
     ·have f:=aa (Hd H G m kp hc);have v:=aa (sorted_at (l:=l) (i:=k) (by have:=L.out;omega) E (by rw [f.out];decide));have N:=IntWalk.i64_in ((k:Int)-1) (by omega);have e2:0<=(k:Int)-1:=by omega
      have O:((k:Int)-1).toNat=k-1:=by omega
      have e4:(k:Int)-1<(n:Int):=by omega
      have S:=aa (W (k-1) _ G);go_wp2_with (first|(go_at_call 70;refine(fZ _ _ _ _ _ _ (key,val) t.out I.out _).mono ?_;rintro e w1 ⟨rfl,d⟩;rw [m.out];have r:Below w w w1:=a.trans (d.mono a.size);have q1:=aj d d1;have q2:=aj d y));go_quiet ((go_at_call 68;exact Calls.quiet_of (dC _ _ (((u.below a).below d).drewN _) p.out (((T.below a).below d).drewN _) t.out (by have:=S.out;have:=p.out;omega))));clear N O;go_wp2;go_ret2;rw [v.out,f.out]
      exact⟨rfl,below_drewN r _⟩
     ·have f:=aa (zA H G m (by show compareBytes q key<0;omega));have N:=IntWalk.i64_in ((k:Int)-1) (by omega);have e2:0<=(k:Int)-1:=by omega
      have O:((k:Int)-1).toNat=k-1:=by omega
      have e4:(k:Int)-1<(n:Int):=by omega
      have S:=aa (W (k-1) _ G);go_wp2_with (first|(go_at_call 70;refine(fZ _ _ _ _ _ _ (key,val) t.out I.out _).mono ?_;rintro e w1 ⟨rfl,d⟩;rw [m.out];have r:Below w w w1:=a.trans (d.mono a.size);have q1:=aj d d1;have q2:=aj d y));go_quiet ((go_at_call 68;exact Calls.quiet_of (dC _ _ (((u.below a).below d).drewN _) p.out (((T.below a).below d).drewN _) t.out (by have:=S.out;have:=p.out;omega))));clear N O;go_wp2
      go_roundg (n-(k+1))
      case measure=>have:=U.out;omega
      case rel=>exact⟨k+1,rfl,by omega,by go_num,aa (fun j J=>by
       rcases Nat.lt_or_ge j k with h|h
       ·exact E j h
       ·obtain rfl:j=k:=by omega
        exact f),below_drewN r _⟩
   ·have m:=aa s;have f:=aa (Ot H (by rw [s];decide));have v:=aa (sorted_at (l:=l) (i:=k) (by have:=L.out;omega) E (by rw [f.out,s];decide));clear s;go_wp2_with (first|(go_at_call 70;refine(fZ _ _ _ _ _ _ (key,val) t.out I.out _).mono ?_;rintro e w1 ⟨rfl,d⟩;rw [m.out];have r:Below w w w1:=a.trans (d.mono a.size)));go_ret2
    rw [v.out,f.out,m.out]
    exact⟨rfl,r⟩
  ·have v:=aa (ww (l:=l) (fun j J=>E j (by have:=L.out;omega)));go_wp2;go_ret2;rw [v.out];exact⟨rfl,a⟩
def OD (w:World) (nodes:Int) (e:Ending) (w':World):Prop:=
 ∃p g,e= .returned (.tuple #[.pointer (some ⟨p,0,none⟩),.int .i64 0])/\w.heap.size<=p/\w.heap.size<=g/\ak w' p 223 #[.int .i64 nodes,.slice (some ⟨g,0,none⟩) 1 1,.int .i64 1]/\ak w' g 229 #[.int .u64 0,.int .i64 0,(),.int .i64 0,(),(),()]/\Below w w w'
theorem Mx (nodes:Int) (a:1<=nodes) (b:nodes<=65536) (w:World):Calls prog 114 #[nodes] w (OD w nodes):=by
 go_enter func114,ntmps114
 go_wp2;go_ret2
 refine⟨_,w,rfl,?_,Nat.le_refl _,?_,?_,?_⟩
 ·omega
 ·have:=ak.new (w.alloc (.cells #[.int .u64 0,.int .i64 0,(),.int .i64 0,(),(),()] 229)) 223 #[nodes,.slice (some ⟨w,0,none⟩) 1 1,.int .i64 1]
  simpa using this
 ·exact(ak.new _ _ _).alloc _
 ·exact gV.alloc (by simp) _
theorem wZ (c:fill<=64) (a:∀e∈l,e.1.length<=1152921504606/\e.2.length<=1152921504606) (i:Nat):Small (xh fill l i):=
 r9 a _ _ (by omega) _ _ _ (zG (fun e b=>(a e b).1) i)
theorem uN {low:List Nd} (g:inn<=64) (d:∀s∈low,Small s) (lev first:Int) (i:Nat):Small (iA inn lev low first i):=by
 have hl:(cZ inn low i).length<=inn:=by unfold cZ;rw [List.length_take];exact Nat.min_le_left _ _
 have a:∀e∈cZ inn low i,e∈low:=fun e c=>List.mem_of_mem_drop (List.mem_of_mem_take c)
 refine⟨?_,?_,by simp [iA],?_,fun t f=> ?_,by simp [iA]⟩
 ·show((cZ inn low i).getLastD Nd.zero).high.length<=_
  rcases List.eq_nil_or_concat (cZ inn low i) with e|⟨L,b,e⟩
  ·rw [e];simp [Nd.zero]
  ·have:b∈cZ inn low i:=by rw [e];simp
   rw [e]
   simpa using (d b (a b this)).1
 ·show((cZ inn low i).dropLast.map Nd.high).length<=_;rw [List.length_map,List.length_dropLast];omega
 ·show((List.range (cZ inn low i).length).map _).length<=_;rw [List.length_map,List.length_range];omega
 ·obtain⟨e,c,rfl⟩:=List.mem_map.1 f;exact(d e (a e (List.dropLast_subset _ c))).1
def Cf (w:World) (g:Nat) (nd lf inn fl bl:Int):Prop:=w.cell? g=some (.int .i64 nd)/\w.cell? ⟨g,1,none⟩=some (.int .i64 lf)/\w.cell? ⟨g,2,none⟩=some (.int .i64 inn)/\w.cell? ⟨g,3,none⟩=some (.int .i64 fl)/\w.cell? ⟨g,4,none⟩=some (.int .i64 bl)
theorem gB {inn:Int} (h:ak w g 23 #[nd,lf,inn,fl,bl]):Cf w g nd lf inn fl bl:=⟨by rw [h.cell];rfl,by rw [h.cell];rfl,by rw [h.cell];rfl,by rw [h.cell];rfl,by rw [h.cell];rfl⟩
theorem Ki (nd lf inn fl bl:Int) (A:Option Addr) (n c:Nat) (w:World) (hc:¬bq nd lf inn fl bl):
  Calls prog 69 #[.agg #[nd,lf,inn,fl,bl],.slice A n c] w fun e w'=>e= .returned (.tuple #[.pointer none,.int .i64 1,.int .i64 0])/\Below w w w':=by
 have d:=pO hc;have f:=aa d;clear d hc;go_enter func69,ntmps69;go_wp2_with (go_at_call 27;refine(fP nd lf inn fl bl _).mono ?_;rintro e w1 ⟨rfl,a⟩;rw [f.out];have b:=aa a;clear a)
 go_ret3
 exact⟨rfl,gV.trans (b.mono (by simp))⟩
theorem Kh {inn:Int} (c:Nat) (h:dh w F A n l) (hn:n<=1152921504606) (j:∀e∈l,e.1.length<=1152921504606/\e.2.length<=1152921504606) (hc:bq nd lf inn fl bl) (q:(bB l).2≠0):
  Calls prog 69 #[.agg #[nd,lf,inn,fl,bl],.slice A n c] w fun e w'=>e= .returned (.tuple #[.pointer none,.int .i64 (bB l).2,.int .i64 (bB l).1])/\Below w w w':=by
 have k:=jH hc;have r:=aa k;have s:=aa h;have t:=aa j;obtain⟨x,d⟩:=gF ((bB l).1);obtain⟨v,a⟩:=gF ((bB l).2);rw [<-d,<-a];rw [<-a] at q;have u:(v==0)=false:=by rw [mi];exact q
 have p:=aa d;have o:=aa a;clear k hc h j d a q;go_enter func69,ntmps69;go_wp2_with (first|(go_at_call 27;refine(fP nd lf inn fl bl _).mono ?_;rintro e w1 ⟨rfl,f⟩;rw [r.out];have b:Hid (Below w w w1):=aa (gV.trans (f.mono (by simp)));clear f)|(go_at_call 113;refine(jS c (s.below b) hn (fun i e k=>(t e (nT k)).1)).mono ?_;rintro e w2 ⟨rfl,g⟩;rw [<-p.out,<-o.out];have m:=aa g;clear g))
 go_ret3
 exact⟨rfl,b.out.trans (m.mono b.size)⟩
theorem G9 {inn:Int} (c:Nat) (h:dh w F A n l) (hn:n<=1152921504606) (k:∀e∈l,e.1.length<=1152921504606/\e.2.length<=1152921504606) (hc:bq nd lf inn fl bl) (r:bB l=(0,0)) (q:(aT nd lf inn fl bl n).2≠0):
  Calls prog 69 #[.agg #[nd,lf,inn,fl,bl],.slice A n c] w fun e w'=>e= .returned (.tuple #[.pointer none,.int .i64 (aT nd lf inn fl bl n).2,.int .i64 0])/\Below w w w':=by
 have m:=jH hc;have t:=aa m;have s:=aa hc;have u:=aa h;have v:=aa k;obtain⟨z,b⟩:=gF (aT nd lf inn fl bl n);rw [<-b];rw [<-b] at q;have y:(z.2==0)=false:=by rw [mi];exact q
 have p:=aa b;have x:=aa r;clear m hc h k b q r;go_enter func69,ntmps69;go_wp2_with (first|(go_at_call 27;refine(fP nd lf inn fl bl _).mono ?_;rintro e w1 ⟨rfl,d⟩;rw [t.out];have a:Hid (Below w w w1):=aa (gV.trans (d.mono (by simp)));have B:=aa ((ak.new w 23 #[nd,lf,inn,fl,bl]).below d);clear d)|(go_at_call 113;refine(jS c (u.below a) hn (fun i e m=>(v e (nT m)).1)).mono ?_;rintro e w2 ⟨rfl,f⟩;rw [x.out];have g:=aa f;obtain⟨D,E,G,H,I⟩:=gB (B.below f);clear f)|(go_at_call 71;refine(qi n _ s (by omega) (by omega)).mono ?_;rintro e C ⟨rfl,j⟩;rw [<-p.out];unfold rD;have o:=aa j;clear j))
 go_ret3
 exact⟨rfl,(a.out.trans (g.mono a.size)).trans (o.mono (ma a.size g.size))⟩
def QF (w:World) (nodes:Int) (t:List aX×Int) (e:Ending) (w':World):Prop:=
 ∃p,e= .returned (.tuple #[.pointer (some ⟨p,0,none⟩),.int .i64 0,.int .i64 0])/\pG w' (From w.heap.size) p nodes t.1 t.2/\Below w.heap.size w w'
theorem QG (c:Nat) (hc:bq nd lf inn fill bl) (z:dh w q A n l) (j:n<=c) (t:c<=maxLen) (hn:n<=1152921504606)
  (g:∀e∈l,e.1.length<=1152921504606/\e.2.length<=1152921504606) (a:(aT nd lf inn fill bl n).2=0):
  Calls prog 54 #[.agg #[nd,lf,(inn:Int),(fill:Int),bl],.slice A n c] w (xR w nd (aY fill inn l)):=by
 obtain⟨c1,d,h,i,k,m,o,p,r,b⟩:=hc
 rcases Nat.eq_zero_or_pos n with f|f
 ·subst f;have:l= []:=List.eq_nil_of_length_eq_zero z.len.symm;subst this;rw [yx]
  exact QH nd lf bl inn fill A c w c1 d
 ·rw [fU ⟨c1,d,h,i,k,m,o,p,r,b⟩ (by omega)] at a;exact Nj nd lf bl inn fill c c1 d (by omega) (by omega) (by omega) (by omega) z j t hn f g a
theorem Kg (c:Nat) (C:dh w F A 0 []) (hc:bq nd lf inn fill bl) (y:(aT nd lf inn fill bl (0:Nat)).2=0):
  Calls prog 69 #[.agg #[nd,lf,(inn:Int),(fill:Int),bl],.slice A 0 c] w (QF w nd ([(0,Nd.zero)],1)):=by
 obtain⟨n,b⟩:∃n:Nat,n=0:=⟨0,rfl⟩;obtain⟨l,a⟩:∃l:List aR,l= []:=⟨[],rfl⟩;rw [<-b,<-a] at C;rw [<-b] at y|-;have hn:n<=1152921504606:=by omega
 have v:∀e∈l,e.1.length<=1152921504606/\e.2.length<=1152921504606:=by rw [a];simp
 have I:bB l=(0,0):=by rw [a];rfl
 have hz:((n:Int)==0)=true:=by rw [b];rfl
 clear b a;have x:=jH hc;have T:=aa x;have S:=aa hc;have U:=aa C;have V:=aa v;obtain⟨ni,q⟩:=gF (aT nd lf inn fill bl n);have HF:=aa y;have Y:(ni.2==0)=true:=by rw [q,beq_iff_eq];exact y
 have B:=aa q;have W:=aa I;have D:1<=nd:=hc.1;have E:nd<=65536:=hc.2.1;clear x hc C v q y I;go_enter func69,ntmps69;go_wp2_with (first|(go_at_call 27;refine(fP nd lf inn fill bl _).mono ?_;rintro e w1 ⟨rfl,h⟩;rw [T.out];have d:Hid (Below w w w1):=aa (gV.trans (h.mono (by simp)));have sO:=aa ((ak.new w 23 #[nd,lf,(inn:Int),(fill:Int),bl]).below h);clear h)|(go_at_call 113;refine(jS c (U.below d) hn (fun i e x=>(V e (nT x)).1)).mono ?_;rintro e w2 ⟨rfl,k⟩;rw [W.out];have r:Hid (Below w w w2):=aa (d.out.trans (k.mono d.size));have J:=aa (sO.below k);obtain⟨N,O,P,Q,R⟩:=gB J;clear k)|(go_at_call 71;refine(qi n _ S (by omega) (by omega)).mono ?_;rintro e H ⟨rfl,m⟩;rw [<-B.out];unfold rD;have f:Hid (Below w w H):=aa (r.out.trans (m.mono r.size));have G:=aa (J.below m);obtain⟨N,O,P,Q,R⟩:=gB G;clear m)|(go_at_call 114;refine(Mx nd D E _).mono ?_;rintro e M ⟨p,g,rfl,p1,p2,K,L,o⟩;have X:Hid (Below w w M):=aa (f.out.trans (o.mono f.size));have rH:=aa (G.below o);obtain⟨N,O,P,Q,R⟩:=gB rH;have z:=aa K;have vF:=aa L;have t:w.heap.size<=H:=f.out.size;have ac:M.cell? ⟨p,1,none⟩=some (.slice (some ⟨g,0,none⟩) 1 1):=(z.out.cell 1).trans rfl;have ad:=z.out.frozen;have ab:w.heap.size<H:=G.out.lt;clear o K L))
 go_ret3
 refine⟨p,rfl,?_,X⟩;refine⟨_,1,1,ma t p1,z,rfl,[.int .u64 0,.int .i64 0,(),.int .i64 0,(),(),()],⟨rfl,fun _=>⟨g,0,rfl,ma t p2,fun j u Z=>by rw [Nat.zero_add,vF.out.cell];simpa using Z⟩⟩,fun i s hi=> ?_⟩
 match i,hi with
 |0,hi=>
  have:s=(0,Nd.zero):=by simpa using hi.symm
  subst this
  exact⟨none,0,0,none,0,0,none,0,0,none,0,0,rfl,Bt.nil _ _,Tx.nil _ _,Tx.nil _ _,It.nil _ _⟩
 |i+1,hi=>simp at hi
theorem G8 (c:Nat) (hE:dh w F A n l) (j:n<=c) (t:c<=maxLen) (hn:n<=1152921504606) (H:0<n) (a7:∀e∈l,e.1.length<=1152921504606/\e.2.length<=1152921504606) (hc:bq nd lf inn fill bl) (a:bB l=(0,0)) (hf:(aT nd lf inn fill bl n).2=0):
  Calls prog 69 #[.agg #[nd,lf,(inn:Int),(fill:Int),bl],.slice A n c] w (QF w nd (kJ fill inn l)):=by
 have hz:((n:Int)==0)=false:=by rw [beq_eq_false_iff_ne];omega
 have C:1<=fill/\fill<=64/\3<=inn/\inn<=64:=by have:=hc;unfold bq at this;omega
 have he:=jH hc;have HC:=aa he;have Cn:=aa hc;have HE:=aa hE;have HS:=aa a7;obtain⟨ni,W⟩:=gF (aT nd lf inn fill bl n);have HF:=aa hf;have b0:(ni.2==0)=true:=by rw [W,beq_iff_eq];exact hf
 have ba:=aa W;have Zc:=aa a;have bG:1<=nd:=hc.1;have bI:nd<=65536:=hc.2.1;clear he hc hE a7 W hf a;go_enter func69,ntmps69;go_wp2_with (first|(go_at_call 27;refine(fP nd lf inn fill bl _).mono ?_;rintro e w1 ⟨rfl,Q⟩;rw [HC.out];have J:Hid (Below w w w1):=aa (gV.trans (Q.mono (by simp)));have sO:=aa ((ak.new w 23 #[nd,lf,(inn:Int),(fill:Int),bl]).below Q);clear Q)|(go_at_call 113;refine(jS c (HE.below J) hn (fun i e he=>(HS e (nT he)).1)).mono ?_;rintro e w2 ⟨rfl,R⟩;rw [Zc.out];have N:Hid (Below w w w2):=aa (J.out.trans (R.mono J.size));have l7:=aa (sO.below R);obtain⟨z0,z1,z2,z3,z4⟩:=gB l7;clear R)|(go_at_call 71;refine(qi n _ Cn (by omega) (by omega)).mono ?_;rintro e w3 ⟨rfl,S⟩;rw [<-ba.out];unfold rD;have K:Hid (Below w w w3):=aa (N.out.trans (S.mono N.size));have jN:=aa (l7.below S);obtain⟨z0,z1,z2,z3,z4⟩:=gB jN;clear S)|(go_at_call 114;refine(Mx nd bG bI _).mono ?_;rintro e E ⟨p,g,rfl,p1,p2,p3,p4,T⟩;have dE:Hid (Below w w E):=aa (K.out.trans (T.mono K.size));have rH:=aa (jN.below T);obtain⟨z0,z1,z2,z3,z4⟩:=gB rH;have DJ:=aa p3;have vF:=aa p4;have b6:w.heap.size<=w3:=K.out.size;have a8:E.cell? ⟨p,1,none⟩=some (.slice (some ⟨g,0,none⟩) 1 1):=(DJ.out.cell 1).trans rfl;have bL:=DJ.out.frozen;have b1:w.heap.size<w3:=jN.out.lt;clear T p3 p4)|(go_at_call 115;have aq:dh (E.setCell ⟨p,1,none⟩ ()) (fun b=>F b/\b<w) A n l:=(HE.out.lt.below dE).chg (ag.set1 E p 1 _) (fun b hb e=>by have e:b=p:=e;have:=hb.2;omega);go_loud (refine(Hq nd lf bl inn fill c C.1 C.2.1 aq j t hn H HS).mono ?_);rintro e G ⟨v,rfl,Ta,au⟩;have my:=aa Ta;have gG:=aa au;clear Ta au aq))
 have b4:w+1<=p:=by omega
 have M:(E.setCell ⟨p,1,none⟩ ()).heap.size=E.heap.size:=by simp [World.setCell]
 have b5:p<E:=DJ.out.lt;have dW:Hid (Below w w G):=aa ((dE.setCell (p:=⟨p,1,none⟩) (by show w<=p;omega) _).trans (gG.mono (by rw [M];exact dE.size)));have ab:Hid (ak G p 223 #[nd,(),.int .i64 1]):=aa ((DJ.set_ 1 ()).below gG);have PU:Hid (ak G w 23 #[nd,lf,(inn:Int),(fill:Int),bl]):=aa ((rH.far (p:=⟨p,1,none⟩) (by show w.heap.size≠p;omega) _).below gG)
 have al:Hid ((lv nd inn 32 ((bW fill l).length:Int) (([]:List aX).length:Int)).2=0):=aa (by
  have h1:=HF.out;rw [fU Cn.out (by omega)] at h1;have h2:(bW fill l).length=pn l.length fill:=by simp [bW]
  rw [h2,ik _ _ C.1,<-HE.out.len];exact h1)
 have bP:E.heap.size<=G:=by have:=gG.out.size;omega
 obtain⟨B,lo,lb,ln⟩:=my.out;obtain⟨A6,c6,rfl,bx,bE⟩:=ax lo;have bQ:1<=(bW fill l).length:=by have:=oF l.length fill C.1;simpa [bW] using this
 have am:l≠ []:=fun e=>by have:=HE.out.len;rw [e] at this;simp at this;omega
 have iq:=aa am;clear am;have u:∀y,y<G.heap.size->(((F y/\y<w.heap.size)/\y<(E.setCell ⟨p,1,none⟩ ()).heap.size)\/(E.setCell ⟨p,1,none⟩ ()).heap.size<=y)->y≠p/\y<G.heap.size:=fun y f h=>⟨by rw [M] at h;rcases h with h|h;have:=h.1.2;omega;omega,f⟩;have ad:Hid (Rd G (fun y=>y≠p/\y<G.heap.size) 6 A6 (bW fill l).length B):=aa ((fB lo lb).and (by omega) u);have fq:Hid (He G (fun y=>y≠p/\y<G) B (bW fill l)):=aa (He.next ln (ag.refl Nil _) (fun _ _ _ h=>h) u);clear u lo lb ln;have bN:(Value.slice none 0 0).ownBlock=none:=rfl
 go_loopg [11] 32 (fun g' ER wr=>∃(k:Nat) (lev:Int) (sl:List aX) (out:Value) (us:List Value) (Z:Nat->Prop) (A':Option Addr) (d c':Nat) (B:List Value) (I:List Nd),g'=k/\ER= .slice A' d c'/\IQ wr (w+1) p nd sl out us/\Rd wr Z 6 A' d B/\He wr Z B I/\Hid (I.length=d)/\(1<=d/\d<=c'/\c'<=maxLen)/\(∀y,Z y->y≠p/\out.ownBlock≠some y/\y<wr)/\(lv nd inn k (d:Int) (sl.length:Int)).2=0/\wH inn k lev sl I=kJ fill inn l/\(∀s∈I,Small s)/\(∀s,I[0]? =some s->s.lev=lev)/\(0<=lev/\lev+(k:Int)=32)/\Below w w wr/\ak wr w 23 #[nd,lf,(inn:Int),(fill:Int),bl])
 case atStart=>exact⟨32,0,[],(),[],_,A6,_,c6,B,bW fill l,rfl,rfl,⟨ab,World.ownsRow_nil _ _ _ _,fun i s h=>by simp at h⟩,ad,fq,rfl,⟨by omega,bx,bE⟩,fun y f=>⟨f.1,by simp [Value.ownBlock],f.2⟩,al,(by rw [kJ,if_neg iq.out]),(fun s a=>by obtain⟨i,_,rfl⟩:=List.mem_map.1 a;exact wZ C.2.1 HS i),(fun s a=>by unfold bW at a;rw [List.getElem?_map] at a;rcases h:(List.range (pn l.length fill))[0]? with _|x;rw [h] at a;simp at a;rw [h] at a;have a:xh fill l x=s:=(by simpa using a);subst a;rfl),⟨by omega,by omega⟩,dW,PU⟩
 case round=>
  obtain⟨k,lev,sl,out,us,Z,A',d,c',bU,I,hg,rfl,ar,a4,a3,m,X,aE,a2,a5,a6,a1,b2,aA,a0⟩:=hrel
  rename World=>wr
  have ES:=aa ar;have tL:=aa a4;have Yi:=aa a3;have Y:=aa aE;have Dc:=aa a2;have ae:=aa a5;have PH:=aa a6;have EU:=aa a1;have an:=aa aA;have ao:=aa a0;have HG:=aa hg;clear ar a4 a3 aE a2 a5 a6 a1 aA a0 hg ad fq ab PU al my dW gG DJ vF sO l7 jN rH J N K dE
  obtain⟨kk,rfl⟩:∃kk,k=kk+1:=by
   cases k with
   |zero=>have:=Dc.out;simp [lv] at this
   |succ kk=>exact⟨kk,rfl⟩
  have D:¬nd-(sl.length:Int)<(d:Int):=by
   intro hx;have:=Dc.out;rw [ja hx] at this;simp at this
  have bp:sl.length+d<=65536:=by omega
  obtain⟨A3,c3,rfl,bX,b3⟩:=ax ES.own;have a8:wr.cell? ⟨p,1,none⟩=some (.slice A3 sl.length c3):=(ES.out.blk.cell 1).trans rfl;have b7:=IntWalk.i64_in ((sl.length:Int)+1) (by omega);have U:w.heap.size+1<=wr.heap.size:=by have:=ao.out.lt;omega
  obtain⟨b,o,_,_,_,_,rfl,_⟩:=qG tL.out Yi (by have:=m.out;omega) X.1;clear D;go_wp2;refine OU ((sl.length:Int)+1) (aa (fun _ _ _ _ h=>h)) ES bp U tL Yi m Y (by omega) PH ?_;intro ca cb cd ce cf cg ch ci cj ck cl cn co cp cq cr ct cu cv cw cx cy cA cC cD cE cF cG cH sU cI sV cJ xF r Ho w7 ap O AM;have OE:=aa ap;have bT:=aa O;have qL:∀y,Z y->¬(y=p\/(Value.slice A3 sl.length c3).ownBlock=some y):=fun y f h=>h.elim (Y y f).1 (Y y f).2.1;have be:=aa (tL.chg O qL);have bh:=aa (Yi.next O (fun y _ f=>qL y f) (fun _ _ h=>h));have bj:=aa AM;have V:∀y,(Value.slice A3 sl.length c3).ownBlock=some y->w+1<=y:=fun y f=>(ah ES.own y f).1;have iF:Hid (Below w w w7):=aa (an.out.trans (O.below_of an.size (fun y f h=>h.elim (fun h=>by omega) (fun h=>by have:=V y h;omega))));have ac:Hid (ak w7 w 23 #[nd,lf,(inn:Int),(fill:Int),bl]):=aa (ao.chg O (fun h=>h.elim (fun h=>by omega) (fun h=>by have:=V _ h;omega)));have b8:wr.heap.size<=w7:=O.size;have a9:Hid ((sl++(List.range d).map (il I ((sl.length:Int)+1))).length=sl.length+d):=aa (by simp);clear ap O AM qL V a8
  by_cases q:d=1
  ·have h1:((d:Int)==1)=true:=by rw [beq_iff_eq];omega
   have b9:w7.cell? ⟨p,2,none⟩=some (.int .i64 1):=(OE.out.blk.cell 2).trans rfl;have bL:=OE.out.blk.frozen;have L:=aa q;clear q;go_wp2;go_ret3;have hd:=OE.out.done (by omega) ((sl.length:Int)+1)
   have hr:kJ fill inn l=(sl++(List.range d).map (il I ((sl.length:Int)+1)),(sl.length:Int)+1):=by
    rw [<-ae.out,wH,if_pos (by rw [m.out];exact L),m.out]
   refine⟨p,rfl,?_,iF.setCell (p:=⟨p,2,none⟩) (by show w<=p;omega) _⟩;rw [hr]
   exact hd.weak (fun y f=>by simp only [From] at f|-;omega)
  ·have h1:((d:Int)==1)=false:=by rw [mi];omega
   obtain⟨z0,z1,z2,z3,z4⟩:=gB ac;have L:=aa q;clear q;go_wp2_with (go_at_call 117;go_loud (refine(Kl nd lf bl fill inn (some ⟨b,o,none⟩) c' ((sl.length:Int)+1) (by omega) (by omega) be bh m X.2.1 X.2.2 (by omega) (by omega) (by omega) (aa EU) (by omega)).mono ?_);rintro e w8 ⟨v,rfl,Ta,aw⟩;have bk:=aa Ta;have Nw:=aa aw;clear Ta aw);obtain⟨P,lo,lb,ln⟩:=bk.out;rw [List.length_map,List.length_range] at lo;obtain⟨A8,c8,rfl,bz,bF⟩:=ax lo;have wU:=oF d inn (by omega)
   have u:∀y,y<w8.heap.size->((Z y/\y<w7.heap.size)\/w7.heap.size<=y)->(y≠p/\r.ownBlock≠some y/\y<w8.heap.size):=fun y f h=>by
    refine⟨fun e=> ?_,fun e=> ?_,f⟩
    ·subst e
     rcases h with h|h
     ·exact(Y y h.1).1 rfl
     ·have:=OE.out.blk.lt;omega
    ·rcases h with h|h
     ·rcases bj.out with e'|⟨z,hz,e'⟩
      ·exact(Y y h.1).2.1 (e'▸e)
      ·rw [e'] at e;injection e with e
       have:=(Y.out y h.1).2.2
       omega
     ·have:=(ah OE.own y e).2;omega
   have bm:Rd w8 (fun y=>y≠p/\r.ownBlock≠some y/\y<w8.heap.size) 6 A8 (pn d inn) P:=(fB lo lb).and (by omega) u;have bo:He w8 (fun y=>y≠p/\r.ownBlock≠some y/\y<w8) P ((List.range (pn d inn)).map (iA inn (lev+1) I ((sl.length:Int)+1))):=He.next ln (ag.refl Nil _) (fun _ _ _ h=>h) u
   go_roundg kk
   case measure=>have:=HG.out;omega
   case rel=>
    refine⟨kk,lev+1,_,r,Ho,_,A8,pn d inn,c8,P,_,rfl,rfl,OE.below Nw,bm,bo,aa (by simp),⟨wU,bz,bF⟩,fun y f=>f,?_,?_,?_,?_,by omega,iF.out.trans (Nw.mono iF.size),ac.below Nw⟩
    ·have h:=Dc.out
     have D:¬nd-(sl.length:Int)<(d:Int):=by
      intro hx;rw [ja hx] at h;simp at h
     rw [oG D (by have:=L.out;omega),<-ik d inn (by omega)] at h;rw [a9.out,Int.natCast_add]
     exact h
    ·have h:=ae.out;rw [wH,if_neg (by rw [m.out];exact L),m.out] at h
     exact h
    ·intro s a;obtain⟨i,_,rfl⟩:=List.mem_map.1 a
     exact uN (by omega) PH _ _ i
    ·intro s a;rw [List.getElem?_map] at a
     rcases h:(List.range (pn d inn))[0]? with _|x
     ·rw [h] at a;simp at a
     ·rw [h] at a;have a:iA inn (lev+1) I ((sl.length:Int)+1) x=s:=by simpa using a
      subst a;rfl
section
section
variable {S F:Nat->Prop} {w w':World} {B n c:Nat} {A:Option Addr} {l:List aR}
end
end
section
section
variable {F:Nat->Prop} {w:World} {g k n:Nat}
end
end
end Go.Proofs.YtepgcjbhabnciaaGreat
