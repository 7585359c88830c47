/- 'LoadEntries' returns true for every feed (bytes, how they come, how they fail); the argument reads behind the call as before it. Condition: what comes in is of bulk at most 1048576. -/
import Derived.Test.YtepgcjbhabnciaaGreatLe48
import Derived.Test.YtepgcjbhabnciaaGreatLe49
import Derived.ProofKit
import Derived.Carry
import Derived.OpenShut
import Derived.ShutString
import Derived.ChangeOld
import Derived.JoinedCond
namespace Go.Proofs.YtepgcjbhabnciaaGreat
set_option maxRecDepth 100000
set_option maxHeartbeats 8000000
open Go.Proofs.Tryz
namespace lawLoadEntries
open Go.ChangeShapes Go.WideShapes Go.ChangeAt Go.RowKit
set_option linter.unusedVariables false
theorem own:ownKnob prog.godebug=none:=by kernel_rfl
theorem laidOut:laidOutB prog=true:=by kernel_rfl
theorem J7:prog.cellsOf 27=4:=by kernel_rfl
theorem FQ {H:Type} {enc:TypeId×Value->H} {w:World} {base e:Nat} {spare:Nat->Bool} {held:Bool} {v:Value} {y:DataW H×List MemPlace} (h:DataW.trod enc prog w base spare held e 25 [v]=some y):∃A n c i,v= .slice A n c/\Rd w (fun _=>True) 1 A n (jw i)/\i.length+1<=Rows.uptoBulk y.1:=by
 rcases open_ints underlying25 underlying3 (by kernel_rfl) h with⟨d,rfl⟩|⟨a,len,cap,zs,d,_,hl,t,o,rfl,b,m⟩
 ·have hv:v= .slice none 0 0:=by simpa using d
  subst hv
  exact⟨none,0,0,[],rfl,Rd.none_ _ _ _ _,by simp [Rows.uptoBulk]⟩
 ·have hv:v= .slice (some a) len cap:=by simpa using d
  subst hv;have p:len<=zs.length:=by rw [o];split<;>omega
  refine⟨some a,len,cap,zs.take len,rfl,⟨by simp [jw];omega,fun x=> ?_⟩,?_⟩
  ·have k:=IG (b 0 (by omega));refine⟨a.block,a.off,by rw [<-k],trivial,fun j u f=> ?_⟩
   have g:j<len:=by
    have:=(List.getElem?_eq_some_iff.1 f).1;simp [jw] at this;omega
   have l:=b j (by omega);rw [k,iT] at l;rw [l];simp only [jw,List.getElem?_map,List.getElem?_take_of_lt g] at f;rw [List.getElem?_eq_getElem (by omega)] at f;simp only [Option.map_some,Option.some.injEq] at f;rw [<-f,List.getD_eq_getElem?_getD,List.getElem?_eq_getElem (by omega)]
   rfl
  ·have q:=wh (lits (H:=H) IntKind.i64 (zs.take len)) (lits IntKind.i64 (zs.drop len));have r:=Dz (lits (H:=H) IntKind.i64 (zs.take len));have s:(lits (H:=H) IntKind.i64 (zs.take len)).length=len:=by simp [lits];omega
   show(zs.take len).length+1<=Rows.uptoBulk (.slice (lits IntKind.i64 (zs.take len)) (lits IntKind.i64 (zs.drop len)));rw [List.length_take];omega
theorem contract (H:Type) (enc:TypeId×Value->H) (W:World) (base:Nat) (args:Array Value) (u K:List (DataW H)) (c:List MemPlace)
  (a:∀(j:Nat) t v,f4.params[j]? =some t->args[j]? =some v->Value.okWide prog W .any base t v)
  (N:DataW.Whole enc prog f4.params.toList Rows.loadEntriesSpec.vars false W args.toList u K c) (hk:Rows.uptoSmall H (u++K)=true):
  Calls prog 4 args W fun e F=>∃v,e= .returned v/\Rows.loadEntriesSpec.post enc prog f4 false true false false W args v F:=by
 have f:∀(j:Nat) t v,f4.params[j]? =some t->args[j]? =some v->Value.okWide prog W .any base t v:=a;have w:=N;obtain⟨p,q,i,X,rfl,ab,ad⟩:=N;have M:DataW.TrodAll enc prog W 0 (fun _=>true) true f4.params.toList args.toList u p:=i;rw [params4] at M f;obtain⟨P,ae,G,V,O,q1,y,rfl,rfl,L,r1⟩:=trodAll_cons M;obtain⟨rfl,rfl,rfl⟩:=trodAll_nil r1;obtain rfl:args= #[P]:=by cases args;simp_all
 obtain⟨rfl,rfl⟩:=trodVars_none X;have k1:=L;have C:∀x∈O,x.block<W.heap.size:=by obtain⟨m,hm⟩:=k1;exact DataW.trod_lt m _ _ _ hm
 obtain⟨s,T,PG,U,D,E,Q,R,m,rfl,A,_,s0,s1,s2,s3⟩:=Joins.open_agg4 underlying27 (by kernel_rfl) J7 (f 0 27 P rfl rfl) L;obtain⟨i5,I,_,_⟩:=DataW.trod_int underlying3 s2;obtain⟨S,J,_⟩:=DataW.trod_bool underlying4 s3;simp only [List.cons.injEq,and_true] at I J;subst I J;obtain⟨o,Y⟩:=FR s0;obtain⟨gA,gn,gc,g,rfl,B,ac⟩:=FQ s1
 have k:Rows.uptoBulk G<=1048576:=by
  have h:Rows.uptoBulkAll ([G]++([]:List (DataW H)))<=1048576:=of_decide_eq_true hk;simp only [List.append_nil,Rows.uptoBulkAll] at h;omega
 have n:(iD W s).length<=1048576/\g.length<=1048576:=by
  rw [A] at k;simp only [Rows.uptoBulk] at k;have p0:=ze (d:=D.1) (l:= [D.1,E.1,Q.1,R.1]) (by simp);have O:=ze (d:=E.1) (l:= [D.1,E.1,Q.1,R.1]) (by simp);omega
 have r:=o;obtain⟨bA,bn,bc,rfl,_,_,_,_⟩:=r;clear i a;refine(Ff bA gA bn bc gn gc _ g i5 S W (o.lt.weak (fun b z=>z.2)) ((B.lt (by omega)).weak (fun b z=>z.2)) n.1 n.2).mono fun e F ⟨Z,bel⟩=> ?_;subst Z;exact⟨_,rfl,_,_,_,[],_,[],w,trodAll_mk1 (shut_bool underlying4 _),(trodAll_cons_mk (Below.trod laidOut (by kernel_rfl) (of_decide_eq_true (by kernel_rfl)) k1 bel C) trodAll_mk0),rfl,bel.frame _,fun h=>by cases h⟩
theorem lifted (os:Os) (a:os.Started) (H:Type) (enc:TypeId×Value->H) (F:Stop.Interp):
  ReturnsInHanded {} checked os 4 .any ((Rows.OpenSpec.upto Rows.loadEntriesSpec).pre6 enc prog f4 Rows.loadEntriesUptoRow.domain false) (((Rows.OpenSpec.upto Rows.loadEntriesSpec).at F).post enc prog f4 false true false false):=by
 refine returnsInHanded_of_cond (C:=checked) (s:=Rows.OpenSpec.upto Rows.loadEntriesSpec) (k:=Rows.uptoSmall) rfl own a (by kernel_rfl) func4
  (OpenSpec.witness (enc:=enc) (C:=checked) (s:=Rows.OpenSpec.upto Rows.loadEntriesSpec) (k:=Rows.uptoSmall) rfl false ⟨#[],#[.agg #[.slice none 0 0,.slice none 0 0,.int .i64 0,.bool false]],[]⟩ 8 (by kernel_rfl) (by kernel_rfl) (by kernel_rfl)
   (x:=([.agg [.nil,.nil,.lit (.int .i64 0),.lit (.bool false)]],[],[])) (by kernel_rfl) rfl (by kernel_rfl)) ?_
 intro W base args d e b c f _ g _;exact contract H enc W base args d e b c f g
theorem proved:Rows.LoadEntriesUptoSaid:=
 OpenClaim.holds_of_cond 4 f4 rfl rfl rfl rfl rfl rfl rfl ⟨rfl,rfl,rfl,rfl,rfl⟩ rfl rfl rfl rfl rfl (by kernel_rfl) func4 (by kernel_rfl)
  (of_decide_eq_true (by kernel_rfl)) (by unfold Func.isWrapper;rw [if_neg (of_decide_eq_false (by kernel_rfl))];exact⟨rfl,rfl⟩)
  (fun os a H enc _ F=>lifted os a H enc F)
end lawLoadEntries
end Go.Proofs.YtepgcjbhabnciaaGreat
