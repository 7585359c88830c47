/- 'LoadPlays' returns true for every configuration and every feed (bytes, how they come, how they fail); each argument reads behind the call as before it. Condition: what comes in is of bulk at most 1048576. -/
import Derived.Test.YtepgcjbhabnciaaGreatLp41
import Derived.ProofKit
import Derived.Carry
import Derived.OpenShut
import Derived.ShutString
import Derived.ChangeOld
import Derived.JoinedCond
namespace Go.Proofs.YtepgcjbhabnciaaGreat
set_option maxRecDepth 100000
set_option maxHeartbeats 8000000
open Go.Proofs.Tryz
namespace lawLoadPlays
open Go.ChangeShapes Go.WideShapes Go.ChangeAt Go.RowKit
set_option linter.unusedVariables false
theorem own:ownKnob prog.godebug=none:=by kernel_rfl
theorem laidOut:laidOutB prog=true:=by kernel_rfl
theorem N8:prog.cellsOf 27=4:=by kernel_rfl
theorem VG:prog.cellsOf 23=5:=by kernel_rfl
theorem JX {H:Type} {enc:TypeId×Value->H} {w:World} {base e:Nat} {spare:Nat->Bool} {held:Bool} {v:Value} {y:DataW H×List MemPlace} (h:DataW.trod enc prog w base spare held e 25 [v]=some y):∃A n c gs,v= .slice A n c/\Rd w (fun _=>True) 1 A n (kw gs)/\gs.length+1<=Rows.uptoBulk y.1:=by
 rcases open_ints underlying25 underlying3 (by kernel_rfl) h with⟨d,rfl⟩|⟨a,len,cap,zs,d,_,hl,r,l,rfl,b,k⟩
 ·have hv:v= ():=by simpa using d
  subst hv
  exact⟨none,0,0,[],rfl,Rd.none_ _ _ _ _,by simp [Rows.uptoBulk]⟩
 ·have hv:v= .slice (some a) len cap:=by simpa using d
  subst hv;have m:len<=zs.length:=by rw [l];split<;>omega
  refine⟨some a,len,cap,zs.take len,rfl,⟨by simp [kw];omega,fun hn=> ?_⟩,?_⟩
  ·have i:=Ms (b 0 (by omega));refine⟨a.block,a.off,by rw [<-i],trivial,fun j u f=> ?_⟩
   have g:j<len:=by
    have:=(nE.1 f).1;simp [kw] at this;omega
   have hc:=b j (by omega);rw [i,jr] at hc;rw [hc];simp only [kw,List.getElem?_map,List.getElem?_take_of_lt g] at f;rw [mP (by omega)] at f;simp only [Option.map_some,Option.some.injEq] at f;rw [<-f,List.getD_eq_getElem?_getD,mP (by omega)]
   rfl
  ·have o:=y9 (lits (H:=H) IntKind.i64 (zs.take len)) (lits IntKind.i64 (zs.drop len));have p:=GL (lits (H:=H) IntKind.i64 (zs.take len));have q:(lits (H:=H) IntKind.i64 (zs.take len)).length=len:=by simp [lits];omega
   show(zs.take len).length+1<=Rows.uptoBulk (.slice (lits IntKind.i64 (zs.take len)) (lits IntKind.i64 (zs.drop len)));rw [List.length_take];omega
theorem contract {H:Type} {enc:TypeId×Value->H} {W:World} (base:Nat) {args:Array Value} {u gs:List (DataW H)} {f:List MemPlace}
  (c:∀(j:Nat) t v,f3.params[j]? =some t->args[j]? =some v->Value.okWide prog W .any base t v)
  (T:DataW.Whole enc prog f3.params.toList Rows.loadPlaysSpec.vars false W args.toList u gs f) (hk:Rows.uptoSmall H (u++gs)=true):
  Calls prog 3 args W fun e J=>∃v,e= .returned v/\Rows.loadPlaysSpec.post enc prog f3 false true false false W args v J:=by
 have a:∀(j:Nat) t v,f3.params[j]? =some t->args[j]? =some v->Value.okWide prog W .any base t v:=c;have y:=T;obtain⟨p,q,g,hV,rfl,am,ao⟩:=T;have hA:DataW.TrodAll enc prog W 0 (fun _=>true) true f3.params.toList args.toList u p:=g;rw [params3] at hA a;obtain⟨Y,ap,d0,ad,V,q0,z,rfl,rfl,R,r0⟩:=trodAll_cons hA;obtain⟨v1,aq,d1,ae,X,q1,rfl,rfl,rfl,S,r1⟩:=trodAll_cons r0;obtain⟨rfl,rfl,rfl⟩:=trodAll_nil r1;obtain rfl:args= #[Y,v1]:=by cases args;simp_all
 obtain⟨rfl,rfl⟩:=trodVars_none hV;have U:=R;have k1:=S;have E:∀x∈V,x.block<W:=by obtain⟨m,D⟩:=U;exact DataW.trod_lt m _ _ _ D
 have F:∀x∈X,x.block<W:=by obtain⟨m,D⟩:=k1;exact DataW.trod_lt m _ _ _ D
 obtain⟨c0,c1,c2,c3,c4,y0,y1,y2,y3,y4,n,rfl,_,_,t0,t1,t2,t3,t4⟩:=MV underlying23 (by kernel_rfl) VG (a 0 23 Y rfl rfl) R;obtain⟨i0,K,_,_⟩:=DataW.trod_int underlying3 t0;obtain⟨i1,L,_,_⟩:=DataW.trod_int underlying3 t1;obtain⟨i2,M,_,_⟩:=DataW.trod_int underlying3 t2;obtain⟨i3,N,_,_⟩:=DataW.trod_int underlying3 t3;obtain⟨i4,O,_,_⟩:=DataW.trod_int underlying3 t4;simp only [List.cons.injEq,and_true] at K L M N O;subst K L M N O;obtain⟨s,ab,Ur,ac,G,I,Z,z3,m,rfl,B,_,s0,s1,s2,s3⟩:=Joins.open_agg4 underlying27 (by kernel_rfl) N8 (a 1 27 v1 rfl rfl) S;obtain⟨i5,P,_,_⟩:=DataW.trod_int underlying3 s2;obtain⟨b6,Q,_⟩:=DataW.trod_bool underlying4 s3;simp only [List.cons.injEq,and_true] at P Q;subst P Q;obtain⟨o,al⟩:=JY s0;obtain⟨gA,gn,gc,w,rfl,C,an⟩:=JX s1
 have i:Rows.uptoBulk d1<=1048576:=by
  have h:Rows.uptoBulkAll ([_,d1]++([]:List (DataW H)))<=1048576:=of_decide_eq_true hk;simp only [List.append_nil,Rows.uptoBulkAll] at h;omega
 have k:(jy W s).length<=1048576/\w.length<=1048576:=by
  rw [B] at i;simp only [Rows.uptoBulk] at i;have V:=Cq (d:=G.1) (l:= [G.1,I.1,Z.1,z3.1]) (by simp);have X:=Cq (d:=I.1) (l:= [G.1,I.1,Z.1,z3.1]) (by simp);omega
 have r:=o;obtain⟨bA,bn,bc,rfl,_,_,_,_⟩:=r;clear g c;refine(NW i0 i1 i2 i3 i4 gc i5 b6 (o.lt.weak (fun b A=>A.2)) ((C.lt (by omega)).weak (fun b A=>A.2)) k.1 k.2).mono fun e J ⟨he,bel⟩=> ?_;subst he;exact⟨_,rfl,_,_,_,[],_,[],y,trodAll_mk1 (shut_bool underlying4 _),(trodAll_cons_mk (Below.trod laidOut (by kernel_rfl) (of_decide_eq_true (by kernel_rfl)) U bel E) (trodAll_cons_mk (Below.trod laidOut (by kernel_rfl) (of_decide_eq_true (by kernel_rfl)) k1 bel F) trodAll_mk0)),rfl,bel.frame _,fun h=>by cases h⟩
theorem lifted (os:Os) (a:os.Started) (H:Type) (enc:TypeId×Value->H) (F:Stop.Interp):
  ReturnsInHanded {} checked os 3 .any ((Rows.OpenSpec.upto Rows.loadPlaysSpec).pre6 enc prog f3 Rows.loadPlaysUptoRow.domain false) (((Rows.OpenSpec.upto Rows.loadPlaysSpec).at F).post enc prog f3 false true false false):=by
 refine returnsInHanded_of_cond (C:=checked) (s:=Rows.OpenSpec.upto Rows.loadPlaysSpec) (k:=Rows.uptoSmall) rfl own a (by kernel_rfl) func3
  (OpenSpec.witness (enc:=enc) (C:=checked) (s:=Rows.OpenSpec.upto Rows.loadPlaysSpec) (k:=Rows.uptoSmall) rfl false ⟨#[],#[.agg #[.int .i64 0,.int .i64 0,.int .i64 0,.int .i64 0,.int .i64 0],.agg #[(),(),.int .i64 0,false]],[]⟩ 8 (by kernel_rfl) (by kernel_rfl) (by kernel_rfl)
   (x:=([.agg [.lit (.int .i64 0),.lit (.int .i64 0),.lit (.int .i64 0),.lit (.int .i64 0),.lit (.int .i64 0)],.agg [.nil,.nil,.lit (.int .i64 0),.lit (.bool false)]],[],[])) (by kernel_rfl) rfl (by kernel_rfl)) ?_
 intro W base args f gs c b d _ e _;exact contract base b d e
theorem proved:Rows.LoadPlaysUptoSaid:=
 OpenClaim.holds_of_cond 3 f3 rfl rfl rfl rfl rfl rfl rfl ⟨rfl,rfl,rfl,rfl,rfl⟩ rfl rfl rfl rfl rfl (by kernel_rfl) func3 (by kernel_rfl)
  (of_decide_eq_true (by kernel_rfl)) (by unfold Func.isWrapper;rw [if_neg (of_decide_eq_false (by kernel_rfl))];exact⟨rfl,rfl⟩)
  (fun os a H enc _ F=>lifted os a H enc F)
end lawLoadPlays
end Go.Proofs.YtepgcjbhabnciaaGreat
