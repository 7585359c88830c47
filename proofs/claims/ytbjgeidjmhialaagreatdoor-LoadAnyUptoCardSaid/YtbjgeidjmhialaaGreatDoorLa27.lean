/- Part 27. -/
import Derived.Test.YtbjgeidjmhialaaGreatDoorLa26
import Derived.StillTailTactics
import Derived.BigRegion
namespace Go.Proofs.YtbjgeidjmhialaaGreatDoor
set_option maxRecDepth 100000
set_option maxHeartbeats 8000000
section
open Go.RowKit
def nb (us:List Value) (j:Nat):List Value:=(us.drop (j*6)).take 6
section
variable {S F G D D':Nat→Prop} {w w':World} {vs:List Value} {s:Nd}
end
section
variable {S E:Nat→Prop} {w w':World} {base k:Nat} {out:Value} {f:Nat→Nd} {lev:Int} {h kv vv dv:Value} {us:List Value}
end
end
section
open Go.RowKit
end
section
open Go.RowKit
end
section
open Go.RowKit
def FO (fill:Nat) (l:List aH) (j:Nat):Nd:=⟨0,iU fill l j,0,((l.drop (j*fill)).take fill).map Prod.fst,((l.drop (j*fill)).take fill).map Prod.snd,[]⟩
def fD (fill:Nat) (l:List aH):List Nd:=(List.range (pn l.length fill)).map (FO fill l)
theorem Rd.lit (w:World) (cs:Array Value) (t:TypeId) (n:Nat) (hn:cs.size=n):Rd (w.alloc (.cells cs t)) (From w.heap.size) n (some ⟨w.heap.size,0,none⟩) 1 cs.toList:=
 ⟨by simp [hn],fun _=>⟨w.heap.size,0,rfl,Nat.le_refl _,fun j x hj=>by
  rw [(ai.new w t cs).cell,Nat.zero_add];simpa using hj⟩⟩
end
section
open Go.RowKit
def bT (inn:Nat) (low:List Nd) (i:Nat):List Nd:=(low.drop (i*inn)).take inn
def kW (inn:Nat) (lev:Int) (low:List Nd) (first:Int) (i:Nat):Nd:=
 ⟨lev,((bT inn low i).getLastD Nd.zero).high,0,(bT inn low i).dropLast.map Nd.high,[],(List.range (bT inn low i).length).map fun j=>first+((i*inn+j:Nat):Int)⟩
end
section
open Go.RowKit
end
section
open Go.RowKit
end
section
open Go.RowKit
section
variable {w w' wa w2:World} {base p:Nat} {nodes:Int} {sl:List bB} {out:Value} {us:List Value}
end
end
section
open Go.RowKit
def lq (lv:List Nd) (first:Int) (i:Nat):bB:=(2,⟨(lv.getD i Nd.zero).lev,(lv.getD i Nd.zero).high,if i+1<lv.length then first+(i:Int)+1 else(lv.getD i Nd.zero).right,(lv.getD i Nd.zero).keys,(lv.getD i Nd.zero).vals,(lv.getD i Nd.zero).kids⟩)
theorem MP {α:Type} {l:List α} {i:Nat} {d:α} (h:i<l.length):l.getD i d∈l:=by rw [List.getD_eq_getElem?_getD,List.getElem?_eq_getElem h];exact List.getElem_mem h
end
section
open Go.RowKit
def wT (inn:Nat):Nat→Int→List bB→List Nd→List bB×Int
 |0,_,sl,_=>(sl,0)
 |f+1,lev,sl,lv=>if lv.length=1 then(sl++(List.range lv.length).map (lq lv ((sl.length:Int)+1)),(sl.length:Int)+1) else
   wT inn f (lev+1) (sl++(List.range lv.length).map (lq lv ((sl.length:Int)+1))) ((List.range (pn lv.length inn)).map (kW inn (lev+1) lv ((sl.length:Int)+1)))
def yO (fill inn:Nat) (l:List aH):List bB×Int:=if l= [] then([(0,Nd.zero)],1) else wT inn 32 0 [] (fD fill l)
def dE (lv:List Nd) (d0:Nat):List Kd:=(List.range lv.length).map fun(i:Nat)=>((d0:Int)+(i:Int)+1,(lv.getD i Nd.zero).high)
theorem jm (lv:List Nd) (d0:Nat):(dE lv d0).length=lv.length:=by simp [dE]
theorem xK {lv:List Nd} {d0 i:Nat} (h:i<lv.length):(dE lv d0)[i]? =some ((d0:Int)+(i:Int)+1,(lv.getD i Nd.zero).high):=by
 unfold dE;rw [List.getElem?_map,List.getElem?_range h];rfl
theorem mo {α:Type} {l:List α} {i:Nat} {d x:α} (h:l[i]? =some x):l.getD i d=x:=by rw [List.getD_eq_getElem?_getD,h];rfl
theorem vV {lv:List Nd} {d0 inn i j:Nat} (hj:j<(bT inn lv i).length):(gU inn (dE lv d0) i)[j]? =some ((d0:Int)+((i*inn+j:Nat):Int)+1,((bT inn lv i).getD j Nd.zero).high):=by
 have hl:(bT inn lv i).length=min inn (lv.length-i*inn):=by unfold bT;rw [List.length_take,List.length_drop]
 have h1:j<inn:=by omega
 have h2:i*inn+j<lv.length:=by omega
 unfold gU;rw [List.getElem?_take,if_pos h1,List.getElem?_drop,xK h2];have:(bT inn lv i)[j]? =lv[i*inn+j]? :=by unfold bT;rw [List.getElem?_take,if_pos h1,List.getElem?_drop]
 rw [List.getD_eq_getElem?_getD,List.getD_eq_getElem?_getD,this]
theorem I1 {lv:List Nd} {d0 inn i:Nat}:(gU inn (dE lv d0) i).length=(bT inn lv i).length:=by
 unfold gU bT;rw [List.length_take,List.length_take,List.length_drop,List.length_drop,jm]
theorem last_at {α:Type} {l:List α} (h:l≠ []) (d:α):l.getLastD d=l.getD (l.length-1) d:=by
 rw [List.getLastD_eq_getLast?,List.getLast?_eq_getElem?,List.getD_eq_getElem?_getD]
theorem Ew {inn:Nat} {lev:Int} {lv:List Nd} {d0 d1 i:Nat} (hne:bT inn lv i≠ []) (M:Nat) (hi:i<M):
  iQ inn lev (dE lv d0) d1 M i=lq ((List.range M).map (kW inn lev lv ((d0:Int)+1))) ((d1:Int)+1) i:=by
 have hg:((List.range M).map (kW inn lev lv ((d0:Int)+1))).getD i Nd.zero=kW inn lev lv ((d0:Int)+1) i:=mo (by rw [List.getElem?_map,List.getElem?_range hi];rfl);have hl:0<(bT inn lv i).length:=List.length_pos_iff.2 hne;have hkl:=I1 (lv:=lv) (d0:=d0) (inn:=inn) (i:=i);have hkne:gU inn (dE lv d0) i≠ []:=by intro e;rw [e] at hkl;simp at hkl;omega
 have hhi:Cx inn (dE lv d0) i=((bT inn lv i).getLastD Nd.zero).high:=by
  unfold Cx;rw [last_at hkne,last_at hne,hkl];rw [mo (vV (d0:=d0) (show(bT inn lv i).length-1<(bT inn lv i).length by omega))]
 have hkeys:(gU inn (dE lv d0) i).dropLast.map Prod.snd=(bT inn lv i).dropLast.map Nd.high:=by
  apply List.ext_getElem?;intro j;rw [List.getElem?_map,List.getElem?_map,List.getElem?_dropLast,List.getElem?_dropLast,hkl]
  by_cases hj:j<(bT inn lv i).length-1
  ·rw [if_pos hj,if_pos hj,vV (show j<(bT inn lv i).length by omega),List.getElem?_eq_getElem (show j<(bT inn lv i).length by omega)]
   simp [List.getD_eq_getElem?_getD,List.getElem?_eq_getElem (show j<(bT inn lv i).length by omega)]
  ·rw [if_neg hj,if_neg hj];rfl
 have Wm:(gU inn (dE lv d0) i).map Prod.fst=(List.range (bT inn lv i).length).map fun j=>(d0:Int)+1+((i*inn+j:Nat):Int):=by
  apply List.ext_getElem?;intro j;rw [List.getElem?_map,List.getElem?_map]
  by_cases hj:j<(bT inn lv i).length
  ·rw [vV hj,List.getElem?_range hj];simp only [Option.map_some];congr 1
   omega
  ·rw [List.getElem?_eq_none (by omega),List.getElem?_eq_none (by simpa using hj)];rfl
 unfold iQ lq;rw [hg,hhi,hkeys,Wm];simp only [kW,List.length_map,List.length_range];congr 2
 split
 ·omega
 ·rfl
theorem MW {inn:Nat} {lv:List Nd} {i:Nat} (h1:1≤inn) (hi:i<pn lv.length inn) (hl:1≤lv.length):bT inn lv i≠ []:=by
 have hb:=iA lv.length inn h1 hl
 have h2:i*inn<lv.length:=by
  have:(i+1)*inn≤pn lv.length inn*inn:=Nat.mul_le_mul_right _ hi;rw [Nat.add_mul] at this;omega
 intro e;have:(bT inn lv i).length=min inn (lv.length-i*inn):=by unfold bT;rw [List.length_take,List.length_drop]
 rw [e] at this;simp at this;omega
theorem MX {nd:Int} {inn:Nat} (h1:1≤inn):∀(f g:Nat) (lev:Int) (sl:List bB) (lv:List Nd),1≤lv.length→f≤g+1→(Go.Proofs.YtbjgeidjmhialaaGreatDoor.lv nd inn f (lv.length:Int) (sl.length:Int)).2=0→
  (CG inn g (lev+1) (sl++(List.range lv.length).map (lq lv ((sl.length:Int)+1))) (dE lv sl.length)).1=(wT inn f lev sl lv).1∧
  ((CG inn g (lev+1) (sl++(List.range lv.length).map (lq lv ((sl.length:Int)+1))) (dE lv sl.length)).2.headD (0,[])).1=(wT inn f lev sl lv).2:=by
 intro f
 induction f with
 |zero=>intro g lev sl lv _ _ h;simp [Go.Proofs.YtbjgeidjmhialaaGreatDoor.lv] at h
 |succ f ih=>
  intro g lev sl lv hl hfg h
  by_cases hone:lv.length=1
  ·rw [wT,if_pos hone,pZ (by rw [jm];omega)];refine⟨rfl,?_⟩;have h0:=xK (lv:=lv) (d0:=sl.length) (i:=0) (by omega);obtain⟨x,hx⟩:∃x,dE lv sl.length= [x]:=List.length_eq_one_iff.1 (by rw [jm];exact hone);rw [hx] at h0⊢;simp at h0
   simp [h0]
  ·have hf:¬nd-(sl.length:Int)<(lv.length:Int):=by
    intro hx;rw [jH hx] at h;simp at h
   rw [p9 hf (by omega),←gK lv.length inn h1] at h
   have hg:∃g',g=g'+1:=by
    cases g with
    |zero=>
     have:f=0:=by omega
     subst this
     simp [Go.Proofs.YtbjgeidjmhialaaGreatDoor.lv] at h
    |succ g'=>exact⟨g',rfl⟩
   obtain⟨g',rfl⟩:=hg;obtain⟨M,hM⟩:∃M,M=pn lv.length inn:=⟨_,rfl⟩;obtain⟨done,hdone⟩:∃d,d=sl++(List.range lv.length).map (lq lv ((sl.length:Int)+1)):=⟨_,rfl⟩;obtain⟨ym,SH⟩:∃x,x=(List.range M).map (kW inn (lev+1) lv ((sl.length:Int)+1)):=⟨_,rfl⟩;have hdl:done.length=sl.length+lv.length:=by rw [hdone];simp
   have hll:ym.length=M:=by rw [SH];simp
   have hMp:1≤M:=by rw [hM];exact o6 _ _ h1
   have hne:∀i,i<M→bT inn lv i≠ []:=fun i hi=>MW h1 (by rw [←hM];exact hi) hl;have hsame:∀i,i<M→iQ inn (lev+1) (dE lv sl.length) done.length M i=lq ym ((done.length:Int)+1) i:=fun i hi=>by rw [SH];exact Ew (hne i hi) M hi
   rw [wT,if_neg hone,←hdone,←hM,←SH,CG,if_pos (by rw [jm];omega),jm,←hM]
   have e1:(List.range M).map (iQ inn (lev+1) (dE lv sl.length) done.length M)=(List.range ym.length).map (lq ym ((done.length:Int)+1)):=by
    rw [hll];exact List.map_congr_left (fun i hi=>hsame i (by simpa using hi))
   have e2:tu done.length M (Cx inn (dE lv sl.length))=dE ym done.length:=by
    unfold tu dE;rw [hll];refine List.map_congr_left (fun i hi=> ?_);have hi':i<M:=by simpa using hi
    have:=congrArg (fun s:bB=>s.2.high) (hsame i hi');have h2:Cx inn (dE lv sl.length) i=(ym.getD i Nd.zero).high:=this;unfold dE at h2;rw [h2]
   rw [e1,e2];refine ih g' (lev+1) done ym (by omega) (by omega) ?_;rw [hll,hdl,hM];have:((sl.length+lv.length:Nat):Int)=(sl.length:Int)+(lv.length:Int):=by omega
   rw [this];exact h
theorem sO (fill:Nat) (l:List aH):jo fill l= []++(List.range (fD fill l).length).map (lq (fD fill l) ((([]:List bB).length:Int)+1))∧kr fill l=dE (fD fill l) ([]:List bB).length:=by
 have hll:(fD fill l).length=pn l.length fill:=by simp [fD]
 have hg:∀i,i<pn l.length fill→(fD fill l).getD i Nd.zero=FO fill l i:=fun i hi=>mo (by unfold fD;rw [List.getElem?_map,List.getElem?_range hi];rfl)
 constructor
 ·rw [List.nil_append,hll];unfold jo;refine List.map_congr_left (fun i hi=> ?_);have hi':i<pn l.length fill:=by simpa using hi
  unfold j6 lq;rw [hg i hi',hll];simp only [FO,List.length_nil];congr 2
  split
  ·simp;omega
  ·rfl
 ·unfold kr tu dE;rw [hll];refine List.map_congr_left (fun i hi=> ?_);have hi':i<pn l.length fill:=by simpa using hi
  rw [hg i hi'];rfl
theorem Iy {nd:Int} {fill inn:Nat} {l:List aH} (h1:1≤inn) (hf:1≤fill) (h:(lv nd inn 32 (parts l.length fill) 0).2=0):aO fill inn l=yO fill inn l:=by
 by_cases hl:l= []
 ·subst hl;rfl
 ·rw [mq hl,yO,if_neg hl,(sO fill l).1,(sO fill l).2];have hll:(fD fill l).length=pn l.length fill:=by simp [fD]
  have:=MX (nd:=nd) h1 32 32 0 [] (fD fill l) (by rw [hll];exact o6 _ _ hf) (by omega) (by rw [hll,gK _ _ hf];exact h);exact Prod.ext this.1 this.2
end
section
open Go.Proofs.Tryz
open Go.RowKit
theorem fI (n a b:Int) (w:World):
  Calls prog 76 #[.int .i64 n,.int .i64 a,.int .i64 b] w fun e w'=>e= .returned (.bool (decide (a≤n∧n≤b)))∧w=w':=by
 go_enter func76,ntmps76
 go_wp2;all_goals go_ret
 all_goals (refine⟨?_,rfl⟩)
 ·have h:a≤n:=by assumption
  simp [h]
 ·have h:n<a:=by assumption
  have h2:¬a≤n:=by omega
  simp [h2]
theorem vK {k:IntKind} {a b:Int} (h:a=b):Ending.returned (.int k a)= .returned (.int k b):=by rw [h]
theorem jh (nd lf inn fl bl:Int) (w:World):
  Calls prog 53 #[.agg #[.int .i64 nd,.int .i64 lf,.int .i64 inn,.int .i64 fl,.int .i64 bl]] w fun e w'=>e= .returned (.int .i64 (MJ nd lf inn fl bl))∧Below w.heap.size w w':=by
 go_enter func53,ntmps53
 go_wp2_with (go_at_call 76;refine(fI _ _ _ _).mono ?_;rintro e w' ⟨rfl,rfl⟩)
 all_goals go_ret
 all_goals (refine⟨vK ?_,(Below.refl _ _).alloc (Nat.le_refl _) _⟩)
 ·rw [pW (by unfold aY;omega)]
 all_goals (rw [MK (by unfold aY;omega)])
def JR (p:Int×Int):Value:= .tuple #[.int .i64 p.1,.int .i64 p.2]
theorem Ej {B:Nat} {W w1:World} (hb:Below B W w1) {b o:Nat} (h:b<B) {v:Value} (hv:W.cell? ⟨b,o,none⟩=some v):w1.cell? ⟨b,o,none⟩=some v:=
 (hb.cell (p:=⟨b,o,none⟩) h).trans hv
theorem JQ (nd lf inn fl bl n:Int) (w:World) (h:aY nd lf inn fl bl) (hn:¬n<0) (hn2:n≤9223372036854775807):
  Calls prog 71 #[.agg #[.int .i64 nd,.int .i64 lf,.int .i64 inn,.int .i64 fl,.int .i64 bl],.int .i64 n] w fun e w'=>e= .returned (JR (aS nd lf inn fl bl n))∧Below w.heap.size w w':=by
 have he:=pW h;have hN:=gq h hn;have HN:=aa hN;clear hN;have hc:1≤nd∧nd≤65536∧2≤lf∧lf≤64∧3≤inn∧inn≤64∧1≤fl∧fl≤lf∧1≤bl∧bl≤64:=h;obtain⟨c1,c2,c3,c4,c5,c6,c7,c8,c9,c10⟩:=hc;go_enter func71,ntmps71
 go_wp2_with (go_at_call 53;refine(jh _ _ _ _ _ _).mono ?_;rintro e w' ⟨rfl,hb⟩)
 have b1:Below w.heap.size w w':=((Below.refl _ _).alloc (Nat.le_refl _) _).trans (hb.mono (by simp));have k0:w'.cell? ⟨w.heap.size,0,none⟩=some (.int .i64 nd):=Ej hb (by simp) (by simp);have k2:w'.cell? ⟨w.heap.size,2,none⟩=some (.int .i64 inn):=Ej hb (by simp) (by simp);have k3:w'.cell? ⟨w.heap.size,3,none⟩=some (.int .i64 fl):=Ej hb (by simp) (by simp);clear hb;go_quiet (fail);go_wp2
 go_loopw [6,7,8,19] (fun all many most i wr=>∃(a m q:Int) (k:Nat),k≤32∧all= .int .i64 a∧many= .int .i64 m∧most= .int .i64 q∧i= .int .i64 k∧0≤a∧a≤nd∧0≤m∧m≤9223372036854775807∧1≤q∧q≤64∧
   Hid (aS nd lf inn fl bl n=lv nd inn (32-k) (parts m q) a)∧Below w.heap.size w wr∧wr.cell? ⟨w.heap.size,0,none⟩=some (.int .i64 nd)∧wr.cell? ⟨w.heap.size,2,none⟩=some (.int .i64 inn))
  (fun _ _ _ i _=>32-(intOf i).toNat)
 case atStart=>exact⟨0,n,fl,0,by omega,rfl,rfl,rfl,rfl,by omega,by omega,by omega,by omega,by omega,by omega,HN,below_drewN b1 _,by simpa using k0,by simpa using k2⟩
 case round=>
  obtain⟨a,m,q,k,hk,rfl,rfl,rfl,rfl,ha,ha2,hm,hm2,hq,hq2,HR,hbl,e0,e2⟩:=hrel;clear k0 k2 k3 b1 HN;have hqq:=Int.ediv_le_self q hm;have hq0:0≤m/q:=Int.ediv_nonneg hm (by omega);have hr:=Int.emod_nonneg m (show q≠0 by omega);have hs:m/q+m%q≤m:=El hm hq;have HP:=aa (xF hm hq);have Jz:=ko hm hq;have hpb:=BU (most:=q) hm
  by_cases hlt:k<32
  ·obtain⟨j,hj⟩:∃j,32-k=j+1:=⟨31-k,by omega⟩;have HJ:=aa hj;clear hj;go_wp2;go_region
   go_wp2
   ·have hf:nd-a<max 1 (m/q+min 1 (m%q)):=by assumption
    rw [HP.out] at hf;have hfin:aS nd lf inn fl bl n=(0,2):=by rw [HR.out];exact jH hf
    go_ret2
    exact⟨by rw [hfin];rfl,(below_drewN hbl _)⟩
   ·have hf:max 1 (m/q+min 1 (m%q))≤nd-a:=by assumption
    have h1:(max 1 (m/q+min 1 (m%q))==1)=true:=by assumption
    rw [HP.out] at hf h1;have hfin:aS nd lf inn fl bl n=(a+parts m q,0):=by rw [HR.out,HJ.out];exact uw (by omega) (by simpa using h1)
    go_ret2
    exact⟨by rw [hfin,HP.out];rfl,(below_drewN hbl _)⟩
   ·have hf:max 1 (m/q+min 1 (m%q))≤nd-a:=by assumption
    have h1:(max 1 (m/q+min 1 (m%q))==1)=false:=by assumption
    rw [HP.out] at hf h1
    have hfin:aS nd lf inn fl bl n=lv nd inn (32-(k+1)) (parts (parts m q) inn) (a+parts m q):=by
     rw [HR.out,HJ.out,p9 (by omega) (by simpa using h1)];congr 1
     have:=HJ.out;omega
    go_roundw
    case rel=>exact⟨a+parts m q,parts m q,inn,k+1,by omega,by rw [HP.out],by rw [HP.out],rfl,by go_num,by omega,by omega,by omega,by omega,by omega,by omega,aa hfin,below_drewN hbl _,by simpa using e0,by simpa using e2⟩
    case measure=>simp [intOf];omega
  ·have hk2:k=32:=by omega
   have hfin:aS nd lf inn fl bl n=(0,2):=by rw [HR.out,hk2];rfl
   have HF:=aa hfin;clear hk2 hfin;go_wp2;go_ret2
   exact⟨by rw [HF.out];rfl,hbl⟩
end
section
open Go.RowKit
end
section
open Go.Proofs.Tryz
open Go.RowKit
open Go.Lib (compareBytes)
theorem mG (A B:Option Addr) (n m c d:Nat) (x:aH) (hn:n=x.1.length) (hm:m=x.2.length) (w:World):
  Calls prog 69 #[.agg #[.slice A n c,.slice B m d]] w fun e w'=>e= .returned (.int .i64 (gT x))∧Below w.heap.size w w':=by
 have HN:=aa hn;have HM:=aa hm;have HE:=aa (vR x);clear hn hm;go_enter func69,ntmps69
 go_wp2;go_quiet (first|(go_at_call 93;exact dZ (Fz _ _ _ x.1 HN _))|(go_at_call 94;exact dZ (IW _ _ _ x.2 HM _)))
 go_wp2;go_ret
 refine⟨bH (by rw [HE.out]),below_drewN ((Below.refl _ _).alloc (Nat.le_refl _) _) _⟩
theorem jk (A B:Option Addr) (n m c d:Nat) (x:aH) (hn:n=x.1.length) (hm:m=x.2.length) (w:World):
  Calls prog 61 #[.agg #[.slice A n c,.slice B m d]] w fun e w'=>e= .returned (.int .i64 (gT x))∧Below w.heap.size w w':=by
 have HN:=aa hn;have HM:=aa hm;clear hn hm
 rcases vP x.1 with hk|hk
 ·have HE:=aa (MR hk);have HK:=aa hk;clear hk;go_enter func61,ntmps61
  go_wp2_with (first|(go_at_call 82;refine(vO _ _ _ x.1 HN _).mono ?_;rintro e w' ⟨rfl,rfl⟩;rw [HK.out])|(go_at_call 83;refine(Ev _ _ _ x.2 HM _).mono ?_;rintro e w' ⟨rfl,rfl⟩))
  go_ret
  exact⟨bH (by rw [HE.out]),(Below.refl _ _).alloc (Nat.le_refl _) _⟩
 ·have HE:=aa (MQ (e:=x) (by omega));have HK:=aa hk;clear hk;go_enter func61,ntmps61
  go_wp2_with (first|(go_at_call 82;refine(vO _ _ _ x.1 HN _).mono ?_;rintro e w' ⟨rfl,rfl⟩;rw [HK.out]))
  go_ret
  exact⟨bH (by rw [HE.out,HK.out]),(Below.refl _ _).alloc (Nat.le_refl _) _⟩
theorem BL (A:Option Addr) (n c:Nat) (F:Nat→Prop) (l:List aH) (w:World) (h:bO w F A n l) (hn2:n≤1152921504606) (hsm:∀(i:Nat) (e:aH),l[i]? =some e→e.1.length≤1152921504606):
  Calls prog 113 #[.slice A n c] w fun e w'=>e= .returned (.tuple #[.int .i64 (dJ l).1,.int .i64 (dJ l).2])∧Below w.heap.size w w':=by
 have HH:=aa h;have HL:=aa h.len;have HS:=aa hsm;clear h hsm;go_enter func113,ntmps113
 go_wp2
 go_loopg [4] n (fun g i wr=>∃(k:Nat),g=n-k∧k≤n∧i= .int .i64 k∧Hid (∀j,j<k→dQ l j=0)∧Below w.heap.size w wr)
 case atStart=>exact⟨0,by omega,by omega,rfl,fun j hj=>absurd hj (by omega),Below.refl _ _⟩
 case round=>
  obtain⟨k,hg,hk,rfl,HB,hbl⟩:=hrel;have HG:=aa hg;clear hg
  by_cases hlt:k<n
  ·obtain⟨b,o,Ak,nk,ck,Av,nv,cv,key,val,rfl,_,he,c1,c2,h1,h2,h3,h4,h5,h6,h7,h8⟩:=HH.out.at_ hlt;have d1:=ak hbl c1;have d2:=ak hbl c2;have HE:=aa he;have H4:=aa h4;have H8:=aa h8;clear c1 c2 he h4 h8
   rcases nX (key,val) with hx|hx
   ·have HX:=aa hx;clear hx
    by_cases hk0:k=0
    ·subst hk0;simp only [Nat.zero_mul,Nat.add_zero] at d1 d2;have HB0:=aa (sN HE HX);go_wp2_with (first|(go_at_call 61;refine(jk _ _ _ _ _ _ (key,val) h3.out h7.out _).mono ?_;rintro e w1 ⟨rfl,hb1⟩;rw [HX.out];have EC:Below w.heap.size w w1:=hbl.trans (hb1.mono hbl.size)))
     go_quiet (fail);go_wp2
     go_roundg (n-1)
     case measure=>have:=HG.out;omega
     case rel=>exact⟨1,rfl,by omega,rfl,aa (fun j hj=>(show j=0 by omega)▸HB0.out),below_drewN EC _⟩
    ·have hlt1:k-1<n:=by omega
     obtain⟨b',o',Bk,mk,dk,Bv,mv,dv,key',PH,hA,_,he',c1',c2',h1',h2',h3',h4',h5',h6',h7',h8'⟩:=HH.out.at_ hlt1;obtain⟨rfl,rfl⟩:b'=b∧o'=o:=by injection hA with hA;injection hA with hA hB;exact⟨hA.symm,hB.symm⟩
     have d1':=ak hbl c1';have HD:=aa he';have H4':=aa h4';have kp:0<k:=by omega
     have kp2:(0:Int)<(k:Int):=by omega
     clear c1' c2' he' h4' h8' hA
     by_cases hc:0≤compareBytes key' key
     ·have HB0:=aa (Cb HE HD HX kp hc);have HR:=aa (sorted_at (l:=l) (i:=k) (by have:=HL.out;omega) HB (by rw [HB0.out];decide));have e1:=IntWalk.i64_in ((k:Int)-1) (by omega);have e2:0≤(k:Int)-1:=by omega
      have e3:((k:Int)-1).toNat=k-1:=by omega
      have e4:(k:Int)-1<(n:Int):=by omega
      have tL:=aa (HS (k-1) _ HD);go_wp2_with (first|(go_at_call 61;refine(jk _ _ _ _ _ _ (key,val) h3.out h7.out _).mono ?_;rintro e w1 ⟨rfl,hb1⟩;rw [HX.out];have EC:Below w.heap.size w w1:=hbl.trans (hb1.mono hbl.size);have q1:=ak hb1 d1;have q2:=ak hb1 d1'))
      go_quiet ((go_at_call 62;exact Calls.quiet_of (kU _ _ _ _ _ _ F F key' key _ (((H4'.below hbl).below hb1).drewN _) h3'.out (((H4.below hbl).below hb1).drewN _) h3.out (by have:=tL.out;have:=h3'.out;omega))));clear e1 e3;go_wp2;go_ret2
      rw [HR.out,HB0.out]
      exact⟨rfl,below_drewN EC _⟩
     ·have HB0:=aa (vS HE HD HX (by show compareBytes key' key<0;omega));have e1:=IntWalk.i64_in ((k:Int)-1) (by omega);have e2:0≤(k:Int)-1:=by omega
      have e3:((k:Int)-1).toNat=k-1:=by omega
      have e4:(k:Int)-1<(n:Int):=by omega
      have tL:=aa (HS (k-1) _ HD);go_wp2_with (first|(go_at_call 61;refine(jk _ _ _ _ _ _ (key,val) h3.out h7.out _).mono ?_;rintro e w1 ⟨rfl,hb1⟩;rw [HX.out];have EC:Below w.heap.size w w1:=hbl.trans (hb1.mono hbl.size);have q1:=ak hb1 d1;have q2:=ak hb1 d1'))
      go_quiet ((go_at_call 62;exact Calls.quiet_of (kU _ _ _ _ _ _ F F key' key _ (((H4'.below hbl).below hb1).drewN _) h3'.out (((H4.below hbl).below hb1).drewN _) h3.out (by have:=tL.out;have:=h3'.out;omega))));clear e1 e3;go_wp2
      go_roundg (n-(k+1))
      case measure=>have:=HG.out;omega
      case rel=>exact⟨k+1,rfl,by omega,by go_num,aa (fun j hj=>by
       rcases Nat.lt_or_ge j k with h|h
       ·exact HB j h
       ·obtain rfl:j=k:=by omega
        exact HB0),below_drewN EC _⟩
   ·have HX:=aa hx;have HB0:=aa (IY HE (by rw [hx];decide));have HR:=aa (sorted_at (l:=l) (i:=k) (by have:=HL.out;omega) HB (by rw [HB0.out,hx];decide));clear hx;go_wp2_with (first|(go_at_call 61;refine(jk _ _ _ _ _ _ (key,val) h3.out h7.out _).mono ?_;rintro e w1 ⟨rfl,hb1⟩;rw [HX.out];have EC:Below w.heap.size w w1:=hbl.trans (hb1.mono hbl.size)))
    go_ret2
    rw [HR.out,HB0.out,HX.out]
    exact⟨rfl,EC⟩
  ·have HR:=aa (xI (l:=l) (fun j hj=>HB j (by have:=HL.out;omega)));go_wp2;go_ret2
   rw [HR.out];exact⟨rfl,hbl⟩
end
section
open Go.RowKit
theorem Ca {l:List aH} {fill:Nat} (hf:fill≤64) (hs:∀e∈l,e.1.length≤1152921504606∧e.2.length≤1152921504606) (i:Nat):Small (FO fill l i):=
 oZ hs _ _ (by omega) _ _ _ (vW (fun e he=>(hs e he).1) i)
theorem yN {low:List Nd} {inn:Nat} (hf:inn≤64) (hs:∀s∈low,Small s) (lev first:Int) (i:Nat):Small (kW inn lev low first i):=by
 have hl:(bT inn low i).length≤inn:=by unfold bT;rw [List.length_take];exact Nat.min_le_left _ _
 have hmem:∀e∈bT inn low i,e∈low:=fun e he=>List.mem_of_mem_drop (List.mem_of_mem_take he)
 refine⟨?_,?_,by simp [kW],?_,fun t ht=> ?_,by simp [kW]⟩
 ·show((bT inn low i).getLastD Nd.zero).high.length≤_
  rcases List.eq_nil_or_concat (bT inn low i) with e|⟨L,b,e⟩
  ·rw [e];simp [Nd.zero]
  ·have:b∈bT inn low i:=by rw [e];simp
   rw [e]
   simpa using (hs b (hmem b this)).1
 ·show((bT inn low i).dropLast.map Nd.high).length≤_;rw [List.length_map,List.length_dropLast];omega
 ·show((List.range (bT inn low i).length).map _).length≤_;rw [List.length_map,List.length_range];omega
 ·obtain⟨e,he,rfl⟩:=List.mem_map.1 ht;exact(hs e (hmem e (List.dropLast_subset _ he))).1
def Cf (w:World) (g:Nat) (nd lf inn fl bl:Int):Prop:=w.cell? ⟨g,0,none⟩=some (.int .i64 nd)∧w.cell? ⟨g,1,none⟩=some (.int .i64 lf)∧w.cell? ⟨g,2,none⟩=some (.int .i64 inn)∧w.cell? ⟨g,3,none⟩=some (.int .i64 fl)∧w.cell? ⟨g,4,none⟩=some (.int .i64 bl)
theorem fK {w:World} {g:Nat} {nd lf inn fl bl:Int} (h:ai w g 23 #[.int .i64 nd,.int .i64 lf,.int .i64 inn,.int .i64 fl,.int .i64 bl]):Cf w g nd lf inn fl bl:=⟨by rw [h.cell];rfl,by rw [h.cell];rfl,by rw [h.cell];rfl,by rw [h.cell];rfl,by rw [h.cell];rfl⟩
end
section
open Go.Proofs.Tryz
open Go.RowKit
theorem KH (nd lf bl:Int) (inn fill:Nat) (A:Option Addr) (n c:Nat) (F0:Nat→Prop) (l:List aH) (w:World) (hc:aY nd lf inn fill bl) (hE:bO w F0 A n l) (hnc:n≤c) (hcm:c≤maxLen) (hn:n≤1152921504606)
  (hsm:∀e∈l,e.1.length≤1152921504606∧e.2.length≤1152921504606) (hlv:(aS nd lf inn fill bl n).2=0):
  Calls prog 68 #[.agg #[.int .i64 nd,.int .i64 lf,.int .i64 inn,.int .i64 fill,.int .i64 bl],.slice A n c] w (tN w nd (aO fill inn l)):=by
 obtain⟨c1,c2,c3,c4,c5,c6,c7,c8,c9,c10⟩:=hc
 rcases Nat.eq_zero_or_pos n with h0|h0
 ·subst h0;have:l= []:=List.eq_nil_of_length_eq_zero hE.len.symm;subst this;rw [uH]
  exact KI nd lf bl inn fill A c w c1 c2
 ·rw [gq ⟨c1,c2,c3,c4,c5,c6,c7,c8,c9,c10⟩ (by omega)] at hlv;exact Gr nd lf bl inn fill A n c F0 l w c1 c2 (by omega) (by omega) (by omega) (by omega) hE hnc hcm hn h0 hsm hlv
end
section
open Go.RowKit
end
section
open Go.RowKit
section
variable {S F:Nat→Prop} {w w':World} {B n c:Nat} {A:Option Addr} {l:List aH}
end
end
section
open Go.RowKit
section
variable {F:Nat→Prop} {w:World} {g k n:Nat}
end
end
section
open Go.RowKit
def cK (nd lf inn fl bl:Int) (l:List aH):Int×Int:=
 if¬aY nd lf inn fl bl then(1,0) else if(dJ l).2≠0 then((dJ l).2,(dJ l).1) else((aS nd lf inn fl bl l.length).2,0)
section
variable (nd lf inn fl bl:Int) (A:Option Addr) (n c:Nat) (F:Nat→Prop) (l:List aH) (w:World)
end
theorem Pt {nd:Int} {inn:Nat} (h1:1≤inn) (hi:inn≤64):∀(f:Nat) (lev:Int) (sl:List bB) (JE:List Nd),(lv nd inn f (JE.length:Int) (sl.length:Int)).2=0→(∀s∈sl,Small s.2∧s.1=2)→(∀s∈JE,Small s)→
  (∀s∈(wT inn f lev sl JE).1,Small s.2∧s.1=2)∧((wT inn f lev sl JE).1.length:Int)≤nd:=by
 intro f
 induction f with
 |zero=>intro lev sl JE h;simp [lv] at h
 |succ f ih=>
  intro lev sl JE h hs hl
  have hf:¬nd-(sl.length:Int)<(JE.length:Int):=by
   intro hx;rw [jH hx] at h;simp at h
  have hs':∀s∈sl++(List.range JE.length).map (lq JE ((sl.length:Int)+1)),Small s.2∧s.1=2:=by
   intro s hm
   rcases List.mem_append.1 hm with hm|hm
   ·exact hs s hm
   ·obtain⟨i,hi',rfl⟩:=List.mem_map.1 hm;have:=hl _ (MP (d:=Nd.zero) (show i<JE.length by simpa using hi'));exact⟨⟨this.1,this.2.1,this.2.2.1,this.2.2.2.1,this.2.2.2.2.1,this.2.2.2.2.2⟩,rfl⟩
  by_cases hone:JE.length=1
  ·rw [wT,if_pos hone]
   exact⟨hs',by simp;omega⟩
  ·rw [wT,if_neg hone];rw [p9 hf (by omega),←gK JE.length inn h1] at h
   refine ih (lev+1) _ _ ?_ hs' ?_
   ·simp only [List.length_append,List.length_map,List.length_range,Int.natCast_add]
    exact h
   ·intro s hm;obtain⟨i,_,rfl⟩:=List.mem_map.1 hm;exact yN hi hl _ _ i
theorem yI {nd lf bl:Int} {inn fill:Nat} {l:List aH} (hc:aY nd lf inn fill bl) (hsm:∀e∈l,e.1.length≤1152921504606∧e.2.length≤1152921504606) (hf:(aS nd lf inn fill bl l.length).2=0):
  (aO fill inn l).1.length≤65536∧(∀s∈(aO fill inn l).1,Small s.2)∧∀s∈(aO fill inn l).1,0≤s.1∧s.1≤4611686018427387904∧s.1%2=0:=by
 rw [gq hc (by omega)] at hf;obtain⟨c1,c2,c3,c4,c5,c6,c7,c8,c9,c10⟩:=hc;rw [Iy (nd:=nd) (by omega) (by omega) hf];unfold yO
 by_cases hl:l= []
 ·rw [if_pos hl]
  refine⟨by simp,fun s hs=> ?_,fun s hs=> ?_⟩
  ·have:s=(0,Nd.zero):=by simpa using hs
   subst this
   exact⟨by simp [Nd.zero],by simp [Nd.zero],by simp [Nd.zero],by simp [Nd.zero],by simp [Nd.zero],by simp [Nd.zero]⟩
  ·have:s=(0,Nd.zero):=by simpa using hs
   subst this
   decide
 ·rw [if_neg hl];have hll:(fD fill l).length=pn l.length fill:=by simp [fD]
  obtain⟨h1,h2⟩:=Pt (nd:=nd) (inn:=inn) (by omega) (by omega) 32 0 [] (fD fill l) (by rw [hll,gK _ _ (by omega)];exact hf) (by simp) (fun s hs=>by obtain⟨i,_,rfl⟩:=List.mem_map.1 hs;exact Ca (by omega) hsm i);exact⟨by omega,fun s hs=>(h1 s hs).1,fun s hs=>by have:=(h1 s hs).2;omega⟩
theorem Gz {nd lf inn fl bl:Int} {l:List aH} (h:(cK nd lf inn fl bl l).1=0):aY nd lf inn fl bl∧(aS nd lf inn fl bl l.length).2=0:=by
 unfold cK at h
 by_cases hc:aY nd lf inn fl bl
 ·rw [if_neg (by simpa using hc)] at h
  by_cases hs:(dJ l).2=0
  ·rw [if_neg (by simpa using hs)] at h;exact⟨hc,h⟩
  ·rw [if_pos (by simpa using hs)] at h;exact absurd h hs
 ·rw [if_pos (by simpa using hc)] at h;cases h
end
section
open Go.RowKit
open Go.Lib (compareBytes)
def Bd (w:World) (T:TypeId) (F In:Nat→Prop) (p:Nat) (nd lf inn fl bl:Int) (l:List aH):Prop:=
 ∃A n c us,F p∧(∀b,F b→b<w.heap.size)∧T≠57∧ai w p T #[.int .i64 nd,.int .i64 lf,.int .i64 inn,.int .i64 fl,.int .i64 bl,.slice A n c]∧w.ownsRow 0 57 2 (.slice A n c) n us∧(∀g,(Value.slice A n c).ownBlock=some g→F g)∧Hid (n=l.length)∧
  ∀(i:Nat) (e:aH),l[i]? =some e→∃u v,us[2*i]? =some u∧us[2*i+1]? =some v∧SB w (fun b=>(F b∨In b)∧(Value.slice A n c).ownBlock≠some b∧b≠p) u e.1∧SB w (fun b=>(F b∨In b)∧(Value.slice A n c).ownBlock≠some b∧b≠p) v e.2
section
variable {S F In:Nat→Prop} {w w':World} {T:TypeId} {p:Nat} {nd lf inn fl bl:Int} {l:List aH}
theorem Bd.chg (h:Bd w T F In p nd lf inn fl bl l) (hc:ag S w w') (hs:∀b,F b→¬S b) (hi:∀b,In b→¬S b):Bd w' T F In p nd lf inn fl bl l:=by
 obtain⟨A,n,c,us,h1,h2,h3,h4,h5,h6,h7,h8⟩:=h;refine⟨A,n,c,us,h1,fun b hb=>Nat.lt_of_lt_of_le (h2 b hb) hc.size,h3,h4.chg hc (hs _ h1),aF h5 hc (fun g hg=>hs g (h6 g hg)),h6,h7,fun i e he=> ?_⟩;obtain⟨u,v,a,b,s1,s2⟩:=h8 i e he;exact⟨u,v,a,b,s1.chg hc (fun b hb=>hb.1.elim (hs b) (hi b)),s2.chg hc (fun b hb=>hb.1.elim (hs b) (hi b))⟩
theorem Bd.below (h:Bd w T F In p nd lf inn fl bl l) (hb:Below w.heap.size w w'):Bd w' T F In p nd lf inn fl bl l:=h.chg (S:=Nil) (ag.of_below hb) (fun _ _ h=>h) (fun _ _ h=>h)
theorem Bd.empty (h:Bd w T F In p nd lf inn fl bl l):Bd (w.setCell ⟨p,5,none⟩ (.slice none 0 0)) T F In p nd lf inn fl bl []:=by
 obtain⟨A,n,c,us,h1,h2,h3,h4,h5,h6,h7,h8⟩:=h;exact⟨none,0,0,[],h1,fun b hb=>by simpa [World.setCell] using h2 b hb,h3,h4.set_ 5 _,World.ownsRow_nil _ _ _ _,fun g hg=>by simp [Value.ownBlock] at hg,rfl,fun i e he=>by simp at he⟩
theorem Bd.push {wa w2:World} {A:Option Addr} {n c:Nat} {us:List Value} {v2 u v:Value} {e:aH} (h1:F p) (h2:∀b,F b→b<w.heap.size) (h3:T≠57) (h4:ai w p T #[.int .i64 nd,.int .i64 lf,.int .i64 inn,.int .i64 fl,.int .i64 bl,.slice A n c]) (h5:w.ownsRow 0 57 2 (.slice A n c) n us) (h6:∀g,(Value.slice A n c).ownBlock=some g→F g) (h7:Hid (n=l.length))
  (h8:∀(i:Nat) (e:aH),l[i]? =some e→∃u v,us[2*i]? =some u∧us[2*i+1]? =some v∧SB w (fun b=>(F b∨In b)∧(Value.slice A n c).ownBlock≠some b∧b≠p) u e.1∧SB w (fun b=>(F b∨In b)∧(Value.slice A n c).ownBlock≠some b∧b≠p) v e.2)
  (hb:Below w.heap.size w wa) (ho:w2.ownsRow 0 57 2 v2 (n+1) (us++ [u,v])) (hg:wa.grownBy w2 (Value.slice A n c).ownBlock) (hat:v2.ownBlock=(Value.slice A n c).ownBlock∨v2.ownBlock=some wa.heap.size)
  (hu:SB wa (fun b=>(F b∨In b∨w.heap.size≤b)∧(Value.slice A n c).ownBlock≠some b∧b≠p) u e.1) (hv:SB wa (fun b=>(F b∨In b∨w.heap.size≤b)∧(Value.slice A n c).ownBlock≠some b∧b≠p) v e.2) (hIn:∀b,In b→b<w.heap.size):
  Bd (w2.setCell ⟨p,5,none⟩ v2) T (Grown F w (w2.setCell ⟨p,5,none⟩ v2)) In p nd lf inn fl bl (l++ [e])∧ag F w (w2.setCell ⟨p,5,none⟩ v2):=by
 have hop:(Value.slice A n c).ownBlock≠some p:=ic h5 h4 (fun e=>h3 e.symm);have hc2:ag (fun b=>(Value.slice A n c).ownBlock=some b) wa w2:=ag.of_grown hg;have hws:=hb.size;have hw2:=hg.size;have hpw:=h2 p h1;have hvp:v2.ownBlock≠some p:=fun e=>hat.elim (fun e'=>hop (e'▸e)) (fun e'=>by rw [e'] at e;injection e with e;omega);have hch:ag F w (w2.setCell ⟨p,5,none⟩ v2):=((ag.of_below (S:=F) hb).trans hc2 (fun b _ h=>h6 b h)).setCell (p:=⟨p,5,none⟩) (fun _=>h1) v2;have hsz:(w2.setCell ⟨p,5,none⟩ v2).heap.size=w2.heap.size:=by simp [World.setCell]
 have hnew:∀b,b<wa.heap.size→v2.ownBlock=some b→(Value.slice A n c).ownBlock=some b:=fun b hb' e=>hat.elim (fun e'=>e'▸e) (fun e'=>by rw [e'] at e;injection e with e;omega)
 have hsb:∀(x:Value) (bs:List UInt8),SB wa (fun b=>(F b∨In b∨w.heap.size≤b)∧(Value.slice A n c).ownBlock≠some b∧b≠p) x bs→SB (w2.setCell ⟨p,5,none⟩ v2) (fun b=>(Grown F w (w2.setCell ⟨p,5,none⟩ v2) b∨In b)∧v2.ownBlock≠some b∧b≠p) x bs:=by
  intro x bs hx;have s1:=((hx.lt.chg hc2 (fun b hb e=>hb.1.2.1 e)).chg (ag.set1 w2 p 5 v2) (fun b hb e=>hb.1.2.2 e));refine s1.weak (fun b hb=>⟨?_,fun e=>hb.1.2.1 (hnew b hb.2 e),hb.1.2.2⟩)
  rcases hb.1.1 with h|h|h
  ·exact .inl (.inl h)
  ·exact .inr h
  ·exact .inl (.inr ⟨h,by rw [hsz];have:=hb.2;omega⟩)
 have hus:us.length=n*2:=h5.1;refine⟨?_,hch⟩;obtain⟨A2,c2,rfl,_,_⟩:=ay ho
 refine⟨A2,n+1,c2,us++ [u,v],.inl h1,fun b hb=>hb.elim (fun h=>Nat.lt_of_lt_of_le (h2 b h) hch.size) (fun h=>h.2),h3,?_,?_,?_,aa (by have:=h7.out;simp [this]),?_⟩
 ·exact((h4.below hb).chg hc2 hop).set_ 5 _
 ·exact aF ho (ag.set1 w2 p 5 _) (fun g hg' e=>hvp (by rw [hg',show g=p from e]))
 ·intro g hg'
  rcases hat with e'|e'
  ·exact .inl (h6 g (e'▸hg'))
  ·rw [e'] at hg';injection hg' with hg'
   have:=(ah ho g (by rw [e',hg'])).2
   exact .inr ⟨by omega,by rw [hsz];exact this⟩
 ·intro i e' hi
  rcases Nat.lt_or_ge i l.length with hl|hl
  ·rw [List.getElem?_append_left hl] at hi;obtain⟨x,y,a,b,s1,s2⟩:=h8 i e' hi;have hl':i<n:=by have:=h7.out;omega
   refine⟨x,y,by rw [List.getElem?_append_left (by omega)];exact a,by rw [List.getElem?_append_left (by omega)];exact b,hsb x _ ((s1.below hb).weak (fun b hb=>⟨hb.1.imp id .inl,hb.2⟩)),hsb y _ ((s2.below hb).weak (fun b hb=>⟨hb.1.imp id .inl,hb.2⟩))⟩
  ·rw [List.getElem?_append_right hl] at hi;have hi0:i=l.length:=by have:=(List.getElem?_eq_some_iff.1 hi).1;simp at this;omega
   subst hi0;simp at hi;subst hi;have hn':=h7.out
   refine⟨u,v,?_,?_,hsb u _ hu,hsb v _ hv⟩
   ·rw [List.getElem?_append_right (by omega),show 2*l.length-us.length=0 by omega];rfl
   ·rw [List.getElem?_append_right (by omega),show 2*l.length+1-us.length=1 by omega];rfl
end
def iG (nd lf inn fl bl:Int) (l:List aH) (e:aH):Int:=
 if gT e≠0 then gT e else if 0<l.length∧0≤compareBytes (l.getD (l.length-1) ([],[])).1 e.1 then 51 else(aS nd lf inn fl bl ((l.length+1:Nat):Int)).2
def tY (nd lf inn fl bl:Int) (l:List aH) (e:aH):List aH:=if iG nd lf inn fl bl l e=0 then l++ [e] else l
theorem gp {nd lf inn fl bl:Int} {l:List aH}:(cK nd lf inn fl bl l).1=0↔aY nd lf inn fl bl∧bu l∧(aS nd lf inn fl bl l.length).2=0:=by
 unfold cK
 by_cases hc:aY nd lf inn fl bl
 ·rw [if_neg (by simpa using hc)]
  by_cases hs:(dJ l).2=0
  ·rw [if_neg (by simpa using hs)];exact⟨fun h=>⟨hc,(nZ l).1 hs,h⟩,fun h=>h.2.2⟩
  ·rw [if_pos (by simpa using hs)];exact⟨fun h=>absurd h hs,fun h=>absurd ((nZ l).2 h.2.1) hs⟩
 ·rw [if_pos (by simpa using hc)];exact⟨fun h=>(by cases h),fun h=>absurd h.1 hc⟩
theorem C8 {nd lf inn fl bl:Int} (hc:aY nd lf inn fl bl):(cK nd lf inn fl bl []).1=0:=by
 rw [gp];refine⟨hc,fun j hj=>by simp at hj,?_⟩;rw [gq hc (by simp)];have h1:=hc.1;rw [show(([]:List aH).length:Int)=0 by rfl,show parts 0 fl=1 by unfold parts;simp,uw (by omega) rfl]
theorem Ag {l:List aH} {e:aH} (h:bu l) (he:gT e=0) (hk:¬(0<l.length∧0≤compareBytes (l.getD (l.length-1) ([],[])).1 e.1)):bu (l++ [e]):=by
 intro j hj
 rcases Nat.lt_or_ge j l.length with hl|hl
 ·have:=h j hl;unfold dQ at this⊢;have e1:(l++ [e]).getD j ([],[])=l.getD j ([],[]):=by rw [List.getD_eq_getElem?_getD,List.getD_eq_getElem?_getD,List.getElem?_append_left hl]
  have e2:(l++ [e]).getD (j-1) ([],[])=l.getD (j-1) ([],[]):=by rw [List.getD_eq_getElem?_getD,List.getD_eq_getElem?_getD,List.getElem?_append_left (by omega)]
  rw [e1,e2];exact this
 ·have hj0:j=l.length:=by simp at hj;omega
  subst hj0;unfold dQ;have e1:(l++ [e]).getD l.length ([],[])=e:=by rw [List.getD_eq_getElem?_getD,List.getElem?_append_right (Nat.le_refl _)];simp
  rw [e1,if_neg (by simpa using he)]
  by_cases h0:0<l.length
  ·have e2:(l++ [e]).getD (l.length-1) ([],[])=l.getD (l.length-1) ([],[]):=by rw [List.getD_eq_getElem?_getD,List.getD_eq_getElem?_getD,List.getElem?_append_left (by omega)]
   rw [e2,if_neg (fun h=>hk ⟨h0,h.2⟩)]
  ·rw [if_neg (fun h=>h0 h.1)]
theorem E5 {nd lf inn fl bl:Int} {l:List aH} {e:aH} (h:(cK nd lf inn fl bl l).1=0):(cK nd lf inn fl bl (tY nd lf inn fl bl l e)).1=0:=by
 unfold tY
 by_cases ha:iG nd lf inn fl bl l e=0
 ·rw [if_pos ha];obtain⟨h1,h2,h3⟩:=gp.1 h;unfold iG at ha
  by_cases he:gT e=0
  ·rw [if_neg (by simpa using he)] at ha
   by_cases hk:0<l.length∧0≤compareBytes (l.getD (l.length-1) ([],[])).1 e.1
   ·rw [if_pos hk] at ha;cases ha
   ·rw [if_neg hk] at ha
    exact gp.2 ⟨h1,Ag h2 he hk,by rw [List.length_append,List.length_singleton];exact ha⟩
  ·rw [if_pos (by simpa using he)] at ha;exact absurd ha he
 ·rw [if_neg ha];exact h
end
end Go.Proofs.YtbjgeidjmhialaaGreatDoor
