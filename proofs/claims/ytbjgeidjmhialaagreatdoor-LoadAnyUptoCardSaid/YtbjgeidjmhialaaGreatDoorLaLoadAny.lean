/- 'LoadAny' returns true for every configuration and every feed (bytes, how they come, how they fail); each argument reads behind the call as before it. Conditions: what comes in is of bulk at most 1048576; the variable errors.errorType reads as the program's text lays it (the card ties it). -/
import Derived.Test.YtbjgeidjmhialaaGreatDoorCards
import Derived.Test.YtbjgeidjmhialaaGreatDoorTie
import Derived.Test.YtbjgeidjmhialaaGreatDoorLa42
import Derived.ProofKit
import Derived.Test.YtbjgeidjmhialaaGreatDoorLa43
import Derived.Carry
import Derived.OpenShut
import Derived.ShutString
import Derived.ChangeOld
import Derived.JoinedCond
import Derived.Deep.DeepHandedRow
import Derived.LaidHandle
import Derived.LaidLaws
namespace Go.Proofs.YtbjgeidjmhialaaGreatDoor
set_option maxRecDepth 100000
set_option maxHeartbeats 8000000
open Go.Proofs.Tryz
namespace lawLoadAny
open Go.ChangeShapes Go.WideShapes Go.ChangeAt Go.RowKit
set_option linter.unusedVariables false
theorem own:ownKnob prog.godebug=none:=by kernel_rfl
theorem laidOut:laidOutB prog=true:=by kernel_rfl
theorem Ia:prog.cellsOf 27=4:=by kernel_rfl
theorem Pb:prog.cellsOf 23=5:=by kernel_rfl
theorem D9 {H:Type} {enc:TypeId×Value→H} {w:World} {base fuel:Nat} {spare:Nat→Bool} {held:Bool} {v:Value} {y:DataW H×List MemPlace} (h:DataW.trod enc prog w base spare held fuel 25 [v]=some y):∃A n c gs,v= .slice A n c∧Rd w (fun _=>True) 1 A n (lK gs)∧gs.length+1≤Rows.uptoBulk y.1:=by
 rcases open_ints underlying25 underlying3 (by kernel_rfl) h with⟨hcs,rfl⟩|⟨a,len,cap,zs,hcs,_,hl,hm,hz,rfl,hcell,hwz⟩
 ·have hv:v= .slice none 0 0:=by simpa using hcs
  subst hv
  exact⟨none,0,0,[],rfl,Rd.none_ _ _ _ _,by simp [Rows.uptoBulk]⟩
 ·have hv:v= .slice (some a) len cap:=by simpa using hcs
  subst hv;have hzl:len≤zs.length:=by rw [hz];split<;>omega
  refine⟨some a,len,cap,zs.take len,rfl,⟨by simp [lK];omega,fun hn=> ?_⟩,?_⟩
  ·have ha:=FI (hcell 0 (by omega));refine⟨a.block,a.off,by rw [←ha],trivial,fun j u hj=> ?_⟩
   have hj':j<len:=by
    have:=(List.getElem?_eq_some_iff.1 hj).1;simp [lK] at this;omega
   have hc:=hcell j (by omega);rw [ha,iP] at hc;rw [hc];simp only [lK,List.getElem?_map,List.getElem?_take_of_lt hj'] at hj;rw [List.getElem?_eq_getElem (by omega)] at hj;simp only [Option.map_some,Option.some.injEq] at hj;rw [←hj,List.getD_eq_getElem?_getD,List.getElem?_eq_getElem (by omega)]
   rfl
  ·have h1:=vE (lits (H:=H) IntKind.i64 (zs.take len)) (lits IntKind.i64 (zs.drop len));have h2:=BJ (lits (H:=H) IntKind.i64 (zs.take len));have h3:(lits (H:=H) IntKind.i64 (zs.take len)).length=len:=by simp [lits];omega
   show(zs.take len).length+1≤Rows.uptoBulk (.slice (lits IntKind.i64 (zs.take len)) (lits IntKind.i64 (zs.drop len)));rw [List.length_take];omega
theorem wf_i64 {n:Int} (h:(Lit.int .i64 n).wf=true):Jq n:=by simp [Lit.wf,IntKind.min,IntKind.max,IntKind.signed,IntKind.bits] at h;unfold Jq;omega
theorem et:prog.globalNamed "errors.errorType" =some 0:=by kernel_rfl
theorem rt:(prog.cutTypes.find? (·.1== "internal/reflectlite.rtype")).map (·.2)=some 153:=by kernel_rfl
theorem Sa:((List.range 342).filter fun t=>prog.rowNamed t [101,114,114,111,114])= [32]:=by kernel_rfl
theorem VS:prog.types.size=342:=by kernel_rfl
theorem vF {W:World} (h:laidMetH prog Rows.loadAnyUptoRow.laid W):W.cell? ⟨0,0,none⟩=some (.iface 153 (.agg #[.pointer (some ⟨2,32,none⟩)])):=by
 have h':laidMet prog [] W∧handlesMet prog Rows.loadAnyUptoRow.laid W:=h;obtain⟨name,u,ty,e1,e2,e3,e4,e5⟩:=h'.2 _ (List.mem_singleton.2 rfl);have en:name= [101,114,114,111,114]:=(Option.some.inj e1).symm;subst en;obtain rfl:=Option.some.inj (rt.symm.trans e2);have hm:ty∈(List.range 342).filter fun t=>prog.rowNamed t [101,114,114,111,114]:=List.mem_filter.2 ⟨List.mem_range.2 (by rw [←VS];exact e3),e4⟩;rw [Sa] at hm;obtain rfl:=List.mem_singleton.1 hm;have hh:typeHandle prog 32= .pointer (some ⟨2,32,none⟩):=by kernel_rfl
 rw [hh] at e5;simpa using World.var?_cell et e5 0
noncomputable def rH (os:Os):World:=
 {World.holding prog os ⟨#[],#[],[]⟩ with heap:=(World.holding prog os ⟨#[],#[],[]⟩).heap.modify 0 fun
   | .cells _ t frozen=> .cells #[.iface 153 (.agg #[.pointer (some ⟨2,32,none⟩)])] t frozen
   |o=>o}
def FJ:Array Value:= #[.agg #[.int .i64 0,.int .i64 0,.int .i64 0,.int .i64 0,.int .i64 0],.agg #[.slice none 0 0,.slice none 0 0,.int .i64 0,.bool false]]
theorem Me (os:Os):laidMetH prog Rows.loadAnyUptoRow.laid ((rH os).forCall (fun _ _=>0) ⟨#[],FJ,[]⟩).memory:=
 laidMetH_of_parts (laidMet_nil _ _) (by kernel_rfl)
theorem reads (os:Os) {H:Type} (enc:TypeId×Value→H):∃places,DataW.whole enc prog ((rH os).forCall (fun _ _=>0) ⟨#[],FJ,[]⟩).memory f3.params.toList Rows.loadAnySpec.vars false FJ.toList 8=some ([.agg [.lit (.int .i64 0),.lit (.int .i64 0),.lit (.int .i64 0),.lit (.int .i64 0),.lit (.int .i64 0)],.agg [.nil,.nil,.lit (.int .i64 0),.lit (.bool false)]],[],places):=
 ⟨[],by kernel_rfl⟩
theorem contract (H:Type) (enc:TypeId×Value→H) (W:World) (base:Nat) (args:Array Value) (ds gs:List (DataW H)) (before:List MemPlace)
  (hval0:∀(j:Nat) t v,f3.params[j]? =some t→args[j]? =some v→Value.okWide prog W .any base t v)
  (hW:DataW.Whole enc prog f3.params.toList Rows.loadAnySpec.vars false W args.toList ds gs before) (hk:Rows.uptoSmall H (ds++gs)=true) (hL:laidMetH prog Rows.loadAnyUptoRow.laid W):
  Calls prog 3 args W fun e W'=>∃v,e= .returned v∧Rows.loadAnySpec.post enc prog f3 false true false false W args v W':=by
 have hval:∀(j:Nat) t v,f3.params[j]? =some t→args[j]? =some v→Value.okWide prog W .any base t v:=hval0;have hW':=hW;obtain⟨p,q,Ue,hV,rfl,hfz,hnd⟩:=hW;have hA:DataW.TrodAll enc prog W 0 (fun _=>true) true f3.params.toList args.toList ds p:=Ue;rw [params3] at hA hval;obtain⟨v0,vs0,d0,ds0,p0,q0,hargs,rfl,rfl,h0,r0⟩:=trodAll_cons hA;obtain⟨v1,vs1,d1,ds1,p1,q1,rfl,rfl,rfl,h1,r1⟩:=trodAll_cons r0;obtain⟨rfl,rfl,rfl⟩:=trodAll_nil r1;obtain rfl:args= #[v0,v1]:=by cases args;simp_all
 obtain⟨rfl,rfl⟩:=trodVars_none hV;have k0:=h0;have k1:=h1;have lt0:∀x∈p0,x.block<W.heap.size:=by obtain⟨m,hm⟩:=k0;exact DataW.trod_lt m _ _ _ hm
 have lt1:∀x∈p1,x.block<W.heap.size:=by obtain⟨m,hm⟩:=k1;exact DataW.trod_lt m _ _ _ hm
 obtain⟨c0,c1,c2,c3,c4,y0,y1,y2,y3,y4,n,rfl,_,_,t0,t1,t2,t3,t4⟩:=F6 underlying23 (by kernel_rfl) Pb (hval 0 23 v0 rfl rfl) h0;obtain⟨i0,e0,_,q0⟩:=DataW.trod_int underlying3 t0;obtain⟨i1,e1,_,q1⟩:=DataW.trod_int underlying3 t1;obtain⟨i2,e2,_,q2⟩:=DataW.trod_int underlying3 t2;obtain⟨i3,e3,_,q3⟩:=DataW.trod_int underlying3 t3;obtain⟨i4,e4,_,q4⟩:=DataW.trod_int underlying3 t4;simp only [List.cons.injEq,and_true] at e0 e1 e2 e3 e4;subst e0 e1 e2 e3 e4;obtain⟨d0',d1',QT,d3',z0,z1,z2,z3,m,rfl,hd1,_,s0,s1,s2,s3⟩:=Joins.open_agg4 underlying27 (by kernel_rfl) Ia (hval 1 27 v1 rfl rfl) h1;obtain⟨i5,e5,_,_⟩:=DataW.trod_int underlying3 s2;obtain⟨b6,e6,_⟩:=DataW.trod_bool underlying4 s3;simp only [List.cons.injEq,and_true] at e5 e6;subst e5 e6;obtain⟨hsb,hbl⟩:=Ea s0;obtain⟨gA,gn,gc,gs',rfl,hgr,hgl⟩:=D9 s1
 have hbk:Rows.uptoBulk d1≤1048576:=by
  have h:Rows.uptoBulkAll ([_,d1]++([]:List (DataW H)))≤1048576:=of_decide_eq_true hk;simp only [List.append_nil,Rows.uptoBulkAll] at h;omega
 have hl0:(iB W d0').length≤1048576∧gs'.length≤1048576:=by
  rw [hd1] at hbk;simp only [Rows.uptoBulk] at hbk;have p0:=xC (d:=z0.1) (l:= [z0.1,z1.1,z2.1,z3.1]) (by simp);have p1:=xC (d:=z1.1) (l:= [z0.1,z1.1,z2.1,z3.1]) (by simp);omega
 have ZO:=hsb;obtain⟨bA,bn,bc,rfl,_,_,_,_⟩:=ZO;clear Ue hval0;refine(CR i0 i1 i2 i3 i4 (wf_i64 q0) (wf_i64 q1) (wf_i64 q2) (wf_i64 q3) (wf_i64 q4) bA gA bn bc gn gc _ gs' i5 b6 W (hsb.lt.weak (fun b hb=>hb.2)) ((hgr.lt (by omega)).weak (fun b hb=>hb.2)) hl0.1 hl0.2 (vF hL)).mono fun e W' ⟨he,bel⟩=> ?_;subst he;exact⟨_,rfl,_,_,_,[],_,[],hW',trodAll_mk1 (shut_bool underlying4 _),(trodAll_cons_mk (Below.trod laidOut (by kernel_rfl) (of_decide_eq_true (by kernel_rfl)) k0 bel lt0) (trodAll_cons_mk (Below.trod laidOut (by kernel_rfl) (of_decide_eq_true (by kernel_rfl)) k1 bel lt1) trodAll_mk0)),rfl,bel.frame _,fun h=>by cases h⟩
theorem Eb (os:Os) (started:os.Started) (H:Type) (enc:TypeId×Value→H) (F:Stop.Interp):
  ReturnsInHanded {} checked os 3 .any ((Rows.OpenSpec.upto Rows.loadAnySpec).preRow enc prog f3 Rows.loadAnyUptoRow.domain false Rows.loadAnyUptoRow.laid) (((Rows.OpenSpec.upto Rows.loadAnySpec).at F).post enc prog f3 false true false false):=by
 obtain⟨places,hx⟩:=reads os enc
 refine returnsInHanded_of_row (C:=checked) (s:=Rows.OpenSpec.upto Rows.loadAnySpec) own started (by kernel_rfl) func3
  (witness_row_at (enc:=enc) (C:=checked) false (rH os) FJ rfl (by kernel_rfl) (by kernel_rfl) (by kernel_rfl)
   (OpenSpec.preRow_of_cond 8 hx (by kernel_rfl) (fun k hk=>by cases hk;kernel_rfl) (by kernel_rfl) (Me os))) ?_
 intro W base args ds gs before hval hW _ hcond _ hL _ _;exact contract H enc W base args ds gs before hval hW (hcond _ rfl) hL
theorem Mf:Rows.LoadAnyUptoSaid:=
 OpenClaim.holds_of_cond 3 f3 rfl rfl rfl rfl rfl rfl rfl ⟨rfl,rfl,rfl,rfl,rfl⟩ rfl rfl rfl rfl rfl (by kernel_rfl) func3 (by kernel_rfl)
  (of_decide_eq_true (by kernel_rfl)) (by unfold Func.isWrapper;first|(rw [if_pos (by decide+kernel)];kernel_rfl)|(rw [if_neg (by decide+kernel)];exact⟨rfl,rfl⟩))
  (fun os started H enc _ F=>by rw [OpenClaim.pre_eq_preRow];exact Eb os started H enc F)
theorem plain (f:FuncId) (fn:Func) (hf:Tryz.pinned.checked.prog.funcNamed "coppice/coppicelaw22.LoadAny" =some f) (hfn:Tryz.pinned.checked.prog.funcs[f]? =some fn):
  true=Tryz.pinned.checked.prog.looks []∧∀(j:Nat) t,fn.params[j]? =some t→Tryz.pinned.checked.prog.wantsStandIn t=false:=by
 obtain rfl:f=3:=Option.some.inj ((show prog.funcNamed "coppice/coppicelaw22.LoadAny" =some 3 by kernel_rfl).symm.trans hf)|>.symm;obtain rfl:fn=f3:=(Option.some.inj (func3.symm.trans hfn)).symm;refine⟨by kernel_rfl,fun j t ht=> ?_⟩;rw [params3] at ht;have hm:=Array.mem_of_getElem? ht;simp only [List.mem_toArray,List.mem_cons,List.not_mem_nil,or_false] at hm
 rcases hm with rfl|rfl
 ·exact(show prog.wantsStandIn 23=false by kernel_rfl)
 ·exact(show prog.wantsStandIn 27=false by kernel_rfl)
theorem proved:Rows.LoadAnyUptoCardSaid:=
 Claim7.holds_tied_plain_at .later [] _ _ _ _ Mf (fun _ h=>by cases h) (by kernel_rfl) (fun _ h=>by cases h) loadAnyUpto_row_tie rfl ⟨rfl,rfl⟩ (by kernel_rfl) rfl plain (by kernel_rfl)
end lawLoadAny
end Go.Proofs.YtbjgeidjmhialaaGreatDoor
