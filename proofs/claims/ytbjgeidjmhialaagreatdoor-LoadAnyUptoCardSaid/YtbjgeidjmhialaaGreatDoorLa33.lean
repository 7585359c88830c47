/- Part 33. -/
import Derived.RowKitTokens
import Derived.Test.YtbjgeidjmhialaaGreatDoorLa27
import Derived.Maps.OwnOps
import Derived.Maps.Views
import Derived.WalkArith
namespace Go.Proofs.YtbjgeidjmhialaaGreatDoor
set_option maxRecDepth 100000
set_option maxHeartbeats 8000000
section
open Go.Proofs.Tryz
open Go.RowKit Go.Extern.Stop Go.Stop Go.Extern
theorem yA (t:Addr) (w:World):(ReflectliteValue.unpack (.iface 43 (.pointer (some t)))).run prog w
  = .ok (.agg #[.pointer (some ⟨2,43,none⟩),.pointer (some ⟨w.heap.size,0,none⟩),.int .u64 150]) (w.alloc (.cells #[.pointer (some t)] 43)):=by kernel_rfl
theorem GG (a:Addr) (w:World):(ReflectliteValue.methodAny (ReflectliteValue.valueError "reflectlite.Value.Type" 0) (fun t _ _ _=>ReflectliteType.toType t) #[.agg #[.pointer (some ⟨2,43,none⟩),.pointer (some a),.int .u64 150]]).run prog w
  = .ok (.iface 153 (.agg #[.pointer (some ⟨2,43,none⟩)])) w:=by kernel_rfl
theorem wO (h:Value) (w:World):(Go.method 442 153 (.agg #[h]) "Kind").run prog w= .ok (197,h) w:=by kernel_rfl
theorem GH (w:World):((ReflectliteType.abiMethod fun t=>(fun a:Nat=>Value.int IntKind.u8 (a:Int))<$>Rtype.kind t) #[.pointer (some ⟨2,43,none⟩)]).run prog w= .ok (.int .u8 22) w:=by kernel_rfl
theorem GI (w:World):((ReflectliteType.abiMethod fun t=>(fun a:Nat=>Value.int IntKind.u8 (a:Int))<$>Rtype.kind t) #[.pointer (some ⟨2,41,none⟩)]).run prog w= .ok (.int .u8 22) w:=by kernel_rfl
theorem rlm (z:Sem Value) (f:TypeId→Addr→Nat→Nat→Sem Value) (v:Value):
  ReflectliteValue.method z f #[v]=(do match ←ReflectliteValue.parts v with|none=>z|some (t,a,fl)=>f t a fl (fl%32)):=rfl
theorem uO (a:Addr) (w:World):(ReflectliteValue.parts (.agg #[.pointer (some ⟨2,43,none⟩),.pointer (some a),.int .u64 150])).run prog w= .ok (some (43,a,150)) w:=by kernel_rfl
theorem Dy (a p:Addr) (W:World) (ha:W.cell? a=some (.pointer (some p))):
  (ReflectliteValue.method (ReflectliteValue.valueError "reflectlite.Value.IsNil" 0) ReflectliteValue.isNil #[.agg #[.pointer (some ⟨2,43,none⟩),.pointer (some a),.int .u64 150]]).run prog W= .ok (.bool false) W:=by
 rw [rlm];simp only [Sem.run_bind,uO,Result.andThen];simp [ReflectliteValue.isNil,loadVar,isAgg,underlying,underlying43,ha,Result.andThen]
theorem wP (h:Value) (w:World):(Go.method 442 153 (.agg #[h]) "Elem").run prog w= .ok (213,.agg #[h]) w:=by kernel_rfl
theorem nz (h:Value) (w:World):(Go.method 442 153 (.agg #[h]) "Implements").run prog w= .ok (214,.agg #[h]) w:=by kernel_rfl
theorem lw (h:Value) (w:World):(Go.method 442 153 (.agg #[h]) "AssignableTo").run prog w= .ok (211,.agg #[h]) w:=by kernel_rfl
theorem GJ (w:World):(ReflectliteType.method ReflectliteType.elem #[.agg #[.pointer (some ⟨2,43,none⟩)]]).run prog w= .ok (.iface 153 (.agg #[.pointer (some ⟨2,41,none⟩)])) w:=by kernel_rfl
theorem sW (w:World):(ReflectliteType.relation "Implements" ReflectliteType.implements_ #[.agg #[.pointer (some ⟨2,41,none⟩)],.iface 153 (.agg #[.pointer (some ⟨2,32,none⟩)])]).run prog w= .ok (.bool true) w:=by kernel_rfl
theorem AQ (v:Value) (w:World):(ReflectliteType.typeOf #[.iface 41 v]).run prog w= .ok (.iface 153 (.agg #[.pointer (some ⟨2,41,none⟩)])) w:=by kernel_rfl
theorem sZ (w:World):(ReflectliteType.relation "AssignableTo" ReflectliteType.assignableTo #[.agg #[.pointer (some ⟨2,41,none⟩)],.iface 153 (.agg #[.pointer (some ⟨2,41,none⟩)])]).run prog w= .ok (.bool true) w:=by kernel_rfl
theorem yB (e:Addr) (w:World):(ReflectliteValue.unpack (.iface 41 (.pointer (some e)))).run prog w
  = .ok (.agg #[.pointer (some ⟨2,41,none⟩),.pointer (some ⟨w.heap.size,0,none⟩),.int .u64 150]) (w.alloc (.cells #[.pointer (some e)] 41)):=by kernel_rfl
theorem AR (w:World):(Rtype.elem? 43).run prog w= .ok (some 41) w:=by kernel_rfl
theorem Oz (p:Addr) (w:World):(ReflectliteValue.mk 41 p ReflectliteValue.flagAddr).run prog w= .ok (.agg #[.pointer (some ⟨2,41,none⟩),.pointer (some p),.int .u64 406]) w:=by kernel_rfl
theorem Dz (a p:Addr) (W:World) (ha:W.cell? a=some (.pointer (some p))):
  (ReflectliteValue.method (ReflectliteValue.valueError "reflectlite.Value.Elem" 0) ReflectliteValue.elem #[.agg #[.pointer (some ⟨2,43,none⟩),.pointer (some a),.int .u64 150]]).run prog W
   = .ok (.agg #[.pointer (some ⟨2,41,none⟩),.pointer (some p),.int .u64 406]) W:=by
 rw [rlm];simp only [Sem.run_bind,uO,Result.andThen];simp [ReflectliteValue.elem,loadVar,isAgg,underlying,underlying43,ha,Result.andThen,AR,Oz]
theorem rls (v x:Value):ReflectliteValue.set #[v,x]=(do
  let(some (dst,a,fl),some (src,b,_)):=(←ReflectliteValue.parts v,←ReflectliteValue.parts x)
   |unsupported (.noEntry "extern/(internal/reflectlite.Value).Set.zeroValue")
  if fl/ReflectliteValue.flagAddr%2==0 then unsupported (.noEntry "extern/(internal/reflectlite.Value).Set.unaddressable")
  let val ←loadVar src b
  if←Rtype.directlyAssignable dst src then storeVar dst a val
  else if←Rtype.implements dst src then
   if(←Rtype.kind src)==20 then
    match val with
    | .nilIface=>unsupported (.noEntry "extern/reflectlite: a nil value of one interface type handed on as a value of another")
    |_=>storeVar dst a val
   else storeVar dst a (.iface src val)
  else panicString ("reflectlite.Set: value of type " ++(←Rtype.spelt src)++ " is not assignable to type " ++(←Rtype.spelt dst))
  pure (.tuple #[])):=rfl
theorem AU (a:Addr) (w:World):(ReflectliteValue.parts (.agg #[.pointer (some ⟨2,41,none⟩),.pointer (some a),.int .u64 406])).run prog w= .ok (some (41,a,406)) w:=by kernel_rfl
theorem DC (a:Addr) (w:World):(ReflectliteValue.parts (.agg #[.pointer (some ⟨2,41,none⟩),.pointer (some a),.int .u64 150])).run prog w= .ok (some (41,a,150)) w:=by kernel_rfl
theorem AV (w:World):(Rtype.directlyAssignable 41 41).run prog w= .ok true w:=by kernel_rfl
theorem Lc (ta b e:Addr) (old:Value) (W:World) (hb:W.cell? b=some (.pointer (some e))) (ht:W.cell? ta=some old) (hf:W.frozen? ta=false):
  (ReflectliteValue.set #[.agg #[.pointer (some ⟨2,41,none⟩),.pointer (some ta),.int .u64 406],.agg #[.pointer (some ⟨2,41,none⟩),.pointer (some b),.int .u64 150]]).run prog W
   = .ok (.tuple #[]) (W.setCell ta (.pointer (some e))):=by
 rw [rls];simp only [Sem.run_bind,AU,DC,Result.andThen];simp [ReflectliteValue.flagAddr,loadVar,isAgg,underlying,underlying41,hb,Result.andThen,AV,storeVar,Value.cells,storeCells,Addr.add];rw [run_store prog W ta _ _ (by rfl)];simp [ht,hf]
theorem RF (e t:Addr) (old:Value) (w:World) (hg:w.cell? ⟨0,0,none⟩=some (.iface 153 (.agg #[.pointer (some ⟨2,32,none⟩)]))) (ht0:w.cell? t=some old) (hf0:w.frozen? t=false):
  Calls prog 9 #[.iface 41 (.pointer (some e)),.iface 43 (.pointer (some t))] w fun ev w'=>ev= .returned (.bool true)∧w'=((((w.alloc (.cells #[.pointer (some t)] 43)).alloc (.cells #[.pointer (some ⟨2,43,none⟩),.pointer (some ⟨w.heap.size,0,none⟩),.int .u64 150] 83)).alloc (.cells #[.pointer (some ⟨2,43,none⟩),.pointer (some ⟨w.heap.size,0,none⟩),.int .u64 150] 83)).alloc (.cells #[.pointer (some e)] 41)).setCell t (.pointer (some e)):=by
 have h6:= @run_callFunc_extern prog 27 _ (fun args=>ReflectliteValue.unpack (args.getD 0 (.tuple #[]))) func27 (by kernel_rfl) (by kernel_rfl) (by kernel_rfl) (by kernel_rfl);have h7:= @run_callFunc_extern prog 28 _ (ReflectliteValue.methodAny (ReflectliteValue.valueError "reflectlite.Value.Type" 0) (fun t _ _ _=>ReflectliteType.toType t)) func28 (by kernel_rfl) (by kernel_rfl) (by kernel_rfl) (by kernel_rfl);have h8:= @run_callFunc_extern prog 29 _ (ReflectliteValue.method (ReflectliteValue.valueError "reflectlite.Value.IsNil" 0) ReflectliteValue.isNil) func29 (by kernel_rfl) (by kernel_rfl) (by kernel_rfl) (by kernel_rfl);have h27:= @run_callFunc_extern prog 197 _ (ReflectliteType.abiMethod fun t=>do pure (.int .u8 (←Rtype.kind t))) func197 (by kernel_rfl) (by kernel_rfl) (by kernel_rfl) (by kernel_rfl);have h37:= @run_callFunc_extern prog 213 _ (ReflectliteType.method ReflectliteType.elem) func213 (by kernel_rfl) (by kernel_rfl) (by kernel_rfl) (by kernel_rfl);have h38:= @run_callFunc_extern prog 214 _ (ReflectliteType.relation "Implements" ReflectliteType.implements_) func214 (by kernel_rfl) (by kernel_rfl) (by kernel_rfl) (by kernel_rfl);have h10:= @run_callFunc_extern prog 48 _ ReflectliteType.typeOf func48 (by kernel_rfl) (by kernel_rfl) (by kernel_rfl) (by kernel_rfl);have h35:= @run_callFunc_extern prog 211 _ (ReflectliteType.relation "AssignableTo" ReflectliteType.assignableTo) func211 (by kernel_rfl) (by kernel_rfl) (by kernel_rfl) (by kernel_rfl);have h11:= @run_callFunc_extern prog 49 _ (ReflectliteValue.method (ReflectliteValue.valueError "reflectlite.Value.Elem" 0) ReflectliteValue.elem) func49 (by kernel_rfl) (by kernel_rfl) (by kernel_rfl) (by kernel_rfl);have h12:= @run_callFunc_extern prog 50 _ ReflectliteValue.set func50 (by kernel_rfl) (by kernel_rfl) (by kernel_rfl) (by kernel_rfl);have tO:=AQ;have mA:=lw;have a25:=sZ;have v25:=yB;have f6:=yA;have f7:=GG;have mK:=wO;have mE:=wP;have mI:=nz;have k27:=GH;have k25:=GI;have e27:=GJ;have i25:=sW;have n8:=Dy ⟨w.heap.size,0,none⟩ t ((w.alloc (.cells #[.pointer (some t)] 43)).alloc (.cells #[.pointer (some ⟨2,43,none⟩),.pointer (some ⟨w.heap.size,0,none⟩),.int .u64 150] 83)) (by simp)
 have hlt:0<w.heap.size:=by
  rcases Nat.eq_zero_or_pos w.heap.size with h0|h
  ·simp [World.cell?,h0] at hg
  ·exact h
 have hg2:((w.alloc (.cells #[.pointer (some t)] 43)).alloc (.cells #[.pointer (some ⟨2,43,none⟩),.pointer (some ⟨w.heap.size,0,none⟩),.int .u64 150] 83)).cell? ⟨0,0,none⟩=some (.iface 153 (.agg #[.pointer (some ⟨2,32,none⟩)])):=by
  rw [World.cell?_alloc_lt _ _ ⟨0,0,none⟩ (by simp),World.cell?_alloc_lt _ _ ⟨0,0,none⟩ hlt];exact hg
 have htl:t.block<w.heap.size:=by
  rcases Nat.lt_or_ge t.block w.heap.size with h|h
  ·exact h
  ·simp [World.cell?,Array.getElem?_eq_none h] at ht0
 have el:=Dz ⟨w.heap.size,0,none⟩ t (((w.alloc (.cells #[.pointer (some t)] 43)).alloc (.cells #[.pointer (some ⟨2,43,none⟩),.pointer (some ⟨w.heap.size,0,none⟩),.int .u64 150] 83)).alloc (.cells #[.pointer (some ⟨2,43,none⟩),.pointer (some ⟨w.heap.size,0,none⟩),.int .u64 150] 83)) (by rw [World.cell?_alloc_lt _ _ ⟨w.heap.size,0,none⟩ (by simp;omega)];simp)
 have st:=Lc t ⟨w.heap.size+1+1+1,0,none⟩ e old ((((w.alloc (.cells #[.pointer (some t)] 43)).alloc (.cells #[.pointer (some ⟨2,43,none⟩),.pointer (some ⟨w.heap.size,0,none⟩),.int .u64 150] 83)).alloc (.cells #[.pointer (some ⟨2,43,none⟩),.pointer (some ⟨w.heap.size,0,none⟩),.int .u64 150] 83)).alloc (.cells #[.pointer (some e)] 41))
  (by rw [World.cell?_alloc_at _ _ _ _ (by simp)];rfl)
  (by rw [World.cell?_alloc_lt _ _ t (by simp;omega),World.cell?_alloc_lt _ _ t (by simp;omega),World.cell?_alloc_lt _ _ t (by simp;omega),World.cell?_alloc_lt _ _ t htl];exact ht0)
  (by rw [World.frozen?_alloc_old _ _ t (by simp;omega),World.frozen?_alloc_old _ _ t (by simp;omega),World.frozen?_alloc_old _ _ t (by simp;omega),World.frozen?_alloc_old _ _ t (Nat.ne_of_lt htl)];exact hf0)
 go_enter func9,ntmps9
 go_wp2;refine wp_loop_rounds 1 ?_
 rw [rounds_succ];go_wp2;go_ret
 exact⟨rfl,rfl⟩
theorem ug (e t:Nat) (w:World) (hg:w.cell? ⟨0,0,none⟩=some (.iface 153 (.agg #[.pointer (some ⟨2,32,none⟩)]))) (ht:ai w t 41 #[.pointer none]):
  Calls prog 9 #[.iface 41 (.pointer (some ⟨e,0,none⟩)),.iface 43 (.pointer (some ⟨t,0,none⟩))] w fun ev w'=>ev= .returned (.bool true)∧ai w' t 41 #[.pointer (some ⟨e,0,none⟩)]∧ag (fun b=>b=t) w w':=
 (RF ⟨e,0,none⟩ ⟨t,0,none⟩ _ w hg (ht.cell 0) (ht.frozen 0)).mono fun _ _ ⟨h1,h2⟩=>by
  refine⟨h1,?_,?_⟩
  ·rw [h2];exact((((ht.alloc _).alloc _).alloc _).alloc _).set_ 0 _
  ·rw [h2];exact(((((ag.refl (fun b=>b=t) w).alloc _).alloc _).alloc _).alloc _).setCell (p:=⟨t,0,none⟩) (fun _=>rfl) _
end
section
open Go.Proofs.Tryz
open Go.RowKit
open Go.Lib (compareBytes)
theorem eH (x y:Int) (w:World):Calls prog 52 #[.bool true,.int .i64 x,.int .i64 y] w fun e w'=>e= .returned (.tuple #[])∧w=w':=by
 go_enter func52,ntmps52
 go_wp2;go_end0
 exact⟨rfl,rfl⟩
def pick (c n:Int):Int:=(if c<0 then-(c+1) else c)%n
theorem iD {c n:Int} (hn:1≤n):0≤pick c n∧pick c n<n:=by
 unfold pick;exact⟨Int.emod_nonneg _ (by omega),Int.emod_lt_of_pos _ (by omega)⟩
theorem mg (c n:Int) (hc: -9223372036854775808≤c) (hc2:c≤9223372036854775807) (hn:1≤n) (hn2:n≤100) (w:World):Calls prog 17 #[.int .i64 c,.int .i64 n] w fun e w'=>e= .returned (.int .i64 (pick c n))∧w=w':=by
 by_cases h:c<0
 ·have h1:=IntWalk.i64_in (c+1) (by omega);have h2:=IntWalk.i64_in (-(c+1)) (by omega);have hr:=Int.emod_nonneg (-(c+1)) (show n≠0 by omega);have hr2:=Int.emod_lt_of_pos (-(c+1)) (show 0<n by omega);have ht:(-(c+1)).tmod n=(-(c+1))%n:=Int.tmod_eq_emod_of_nonneg (by omega);go_enter func17,ntmps17
  go_wp2;go_ret
  exact⟨vK (by simp only [pick,if_pos h]),rfl⟩
 ·have hr:=Int.emod_nonneg c (show n≠0 by omega);have hr2:=Int.emod_lt_of_pos c (show 0<n by omega);have ht:c.tmod n=c%n:=Int.tmod_eq_emod_of_nonneg (by omega);go_enter func17,ntmps17
  go_wp2;go_ret
  exact⟨vK (by simp only [pick,if_neg (Int.not_lt.2 h)]),rfl⟩
noncomputable def Pp:Code:=aP (f106.body.bind (aA 4))
theorem Ei (F:Nat→Prop) (A:Option Addr) (b o n c i:Nat) (x y:List UInt8) (Ak Bk:Option Addr) (nk ck mk dk:Nat) (w:World) {u1 u2 u4 u5 u6 u7 u8 u9 u10 u11 u12 u13 bN bq u16 u17 bC bD u20 u21 u22 u23 u24:Value} (Q:Exit→Act→World→Prop) (nC:Hid (∀c t (a:Act) w,Q (.panic c) ⟨t,a.defers⟩ w→Q (.panic c) a w))
  (hA:A=some ⟨b,o,none⟩) (hi:i+1<n) (hn:n≤1152921504606) (c1:w.cell? ⟨b,o+i,none⟩=some (.slice Ak nk ck)) (c2:w.cell? ⟨b,o+(i+1),none⟩=some (.slice Bk mk dk))
  (H1:Hid (Rd w F 1 Ak nk (aK x))) (l1:Hid (nk=x.length)) (H2:Hid (Rd w F 1 Bk mk (aK y))) (l2:Hid (mk=y.length)) (hlt:qA x y)
  (au:∀(v13 v14 v15 v16 v17 v18 v19 v20 v21 v22:Value) (w':World),Below w.heap.size w w'→Q .normal ⟨(.slice A n c::u1::u2:: .int .i64 i::u4::u5::u6::u7::u8::u9::u10::u11::u12::v13::v14::v15::v16::v17::v18::v19::v20::v21::v22:: .bool false::u24:: []).toArray,[]⟩ w'):
  Code.wp prog Pp Q ⟨(.slice A n c::u1::u2:: .int .i64 i::u4::u5::u6::u7::u8::u9::u10::u11::u12::u13::bN::bq::u16::u17::bC::bD::u20::u21::u22::u23::u24:: []).toArray,[]⟩ w:=by
 subst hA;have dF:=aa au;have Qo:=aa hlt;have hw:=IntWalk.i64_in ((i:Int)+1) (by omega);have h1:(i:Int)<(n:Int):=by omega
 have h2:(i:Int)+1<(n:Int):=by omega
 have h3:0≤(i:Int)+1:=by omega
 have h4:((i:Int)+1).toNat=i+1:=by omega
 have S0:w.drew.cell? ⟨b,o+i,none⟩=some (.slice Ak nk ck)∧w.drew.cell? ⟨b,o+(i+1),none⟩=some (.slice Bk mk dk):=⟨c1,c2⟩;have hcb:compareBytes x y<0:=hlt;have hge:decide (0≤compareBytes x y)=false:=by simp;omega
 clear au c1 c2 hlt hcb;conv=>arg 2;whnf
 refine aX (fun w'=>w'.cell? ⟨b,o+i,none⟩=some (.slice Ak nk ck)∧w'.cell? ⟨b,o+(i+1),none⟩=some (.slice Bk mk dk)) (by kernel_rfl) ?_;refine vT 0 S0 ?_;refine vT 1 S0 ?_;refine vT 2 S0 ?_;refine vT 4 S0 ?_;refine vT 5 S0 ?_;refine vT 6 S0 ?_;refine vT 7 S0 ?_;refine vT 3 S0 ?_;refine vT 8 S0 ?_;refine aR (i:=9) (by kernel_rfl) rfl (fun K hK=> ?_);go_simp
 refine(bi _ _ _ _ _ _ F F x y _ (H1.below (Below.refl _ _).drew) l1.out (H2.below (Below.refl _ _).drew) l2.out).mono ?_;rintro e w' ⟨rfl,rfl⟩;refine hK.out _ _ S0 ?_;clear hK K;try simp only [aL,aN,aZ,aC]
 refine vT 10 S0 ?_;refine bP (by kernel_rfl) ?_ _;exact dF _ _ _ _ _ _ _ _ _ _ _ (Below.refl _ _).drew
theorem vL (F:Nat→Prop) (A:Option Addr) (n c:Nat) (ts:List (List UInt8)) (w:World) (h:Tx w F A n c ts) (hn:n≤1152921504606) (hup:∀j a b,ts[j]? =some a→ts[j+1]? =some b→qA a b):
  Calls prog 106 #[.slice A n c] w fun e w'=>e= .returned (.bool true)∧Below w.heap.size w w':=by
 have HT:=aa h;have HU:=aa hup;have hnc:=h.1;have hcm:=h.2.1;clear h hup;obtain⟨m,hm⟩:∃m:Nat,m=n-(min 1 (n:Int)).toNat:=⟨_,rfl⟩;have hmn:m=n-1:=by omega
 go_enter func106,ntmps106
 go_wp2
 all_goals
  rw [←hm]
  go_loopg [10] m (fun g' iv wr=>∃i:Nat,g'=m-i∧i≤m∧iv= .int .i64 i∧Below w.heap.size w wr)
  case atStart=>exact⟨0,by omega,by omega,rfl,Below.refl _ _⟩
  case round=>
   obtain⟨i,hg,hi,rfl,hb⟩:=hrel;have HG:=aa hg;have HB:=aa hb
   rename World=>wr
   clear hg hb
   by_cases hlt:i<m
   ·have hlt':(i:Int)<(m:Int):=by omega
    obtain⟨b,o,Ak,nk,ck,x,hA,hF,he,c1,q1,q2,q3,q4⟩:=HT.out.at_ (k:=i) (by omega);obtain⟨b',o',Bk,mk,dk,y,hA',hF',he',c2,r1,r2,r3,r4⟩:=HT.out.at_ (k:=i+1) (by omega);have BQ:b'=b∧o'=o:=by rw [hA] at hA';injection hA' with hA';injection hA' with e1 e2;exact⟨e1.symm,e2.symm⟩
    obtain⟨rfl,rfl⟩:=BQ;have hxy:=HU.out i x y he he';go_upto_region 4 with fail
    all_goals
     refine Ei F A b' o' n c i x y Ak Bk nk ck mk dk wr _ (by exact aa (fun _ _ _ _ h=>h)) hA (by omega) hn (ak HB c1) (ak HB c2) (aa (q4.below HB)) q3 (aa (r4.below HB)) r3 hxy ?_;intro v13 v14 v15 v16 v17 v18 v19 v20 v21 v22 w' hbw;have Vf:=aa (HB.out.trans (hbw.mono HB.size));clear hbw;go_wp2
     go_roundg (m-(i+1))
     case measure=>have:=HG.out;omega
     case rel=>exact⟨i+1,rfl,by omega,by go_num,Vf⟩
   ·have hlt':¬(i:Int)<(m:Int):=by omega
    go_wp2;go_ret
    exact⟨rfl,HB⟩
end
section
open Go.Proofs.Tryz
open Go.RowKit
open Go.Lib (compareBytes)
structure ni (w:World) (F:Nat→Prop) (x:Nd) (hA kA vA dA:Option Addr) (hn hc kn kc vn vc dn dc:Nat):Prop where
 h:Bt w F hA hn hc x.high
 k:Tx w F kA kn kc x.keys
 v:Tx w F vA vn vc x.vals
 d:It w F dA dn dc x.kids
theorem ni.below {w w':World} {F:Nat→Prop} {x:Nd} {hA kA vA dA:Option Addr} {hn hc kn kc vn vc dn dc:Nat} (h:ni w F x hA kA vA dA hn hc kn kc vn vc dn dc) (hb:Below w.heap.size w w'):ni w' F x hA kA vA dA hn hc kn kc vn vc dn dc:=
 ⟨h.h.below hb,h.k.below hb,h.v.below hb,h.d.below hb⟩
theorem ni.chg {S F:Nat→Prop} {w w':World} {x:Nd} {hA kA vA dA:Option Addr} {hn hc kn kc vn vc dn dc:Nat} (h:ni w F x hA kA vA dA hn hc kn kc vn vc dn dc) (hb:ag S w w') (hs:∀b,F b→¬S b):ni w' F x hA kA vA dA hn hc kn kc vn vc dn dc:=
 ⟨h.h.chg hb hs,h.k.chg hb hs,h.v.chg hb hs,h.d.chg hb hs⟩
theorem ni.weak {F G:Nat→Prop} {w:World} {x:Nd} {hA kA vA dA:Option Addr} {hn hc kn kc vn vc dn dc:Nat} (h:ni w F x hA kA vA dA hn hc kn kc vn vc dn dc) (hs:∀b,F b→G b):ni w G x hA kA vA dA hn hc kn kc vn vc dn dc:=
 ⟨h.h.weak hs,h.k.weak hs,h.v.weak hs,h.d.weak hs⟩
theorem ed {w:World} {q:Nat} {t:TypeId} {a b c d e f:Value} (h:ai w q t #[a,b,c,d,e,f]):w.cell? ⟨q,0,none⟩=some a∧w.cell? ⟨q,1,none⟩=some b∧w.cell? ⟨q,2,none⟩=some c∧w.cell? ⟨q,3,none⟩=some d∧w.cell? ⟨q,4,none⟩=some e∧w.cell? ⟨q,5,none⟩=some f:=
 ⟨h.cell 0,h.cell 1,h.cell 2,h.cell 3,h.cell 4,h.cell 5⟩
theorem Im (F G:Nat→Prop) (high key:List UInt8) (lev rg k0 v0 d0:Value) (hA A:Option Addr) (hn hc n c:Nat) (w:World) (hh:Bt w F hA hn hc high) (hk:Bt w G A n c key) (hlt:high= []∨qA key high):
  Calls prog 109 #[.agg #[lev,.slice hA hn hc,rg,k0,v0,d0],.slice A n c] w fun e w'=>e= .returned (.bool false)∧Below w.heap.size w w':=by
 have HH:=aa hh;have HK:=aa hk;have hl:=hh.len;have hl2:=hk.len;have hnn:high= []→hn=0:=fun e=>by rw [hl,e];rfl
 by_cases h0:hn=0
 ·subst h0;clear hh hk hl hl2 hlt hnn;go_enter func109,ntmps109
  go_wp2;go_ret
  exact⟨rfl,(Below.refl _ _).alloc (Nat.le_refl _) _⟩
 ·have hlt':compareBytes key high<0:=hlt.resolve_left (fun e=>h0 (hnn e));have hp:(0:Int)<(hn:Int):=by omega
  have HL:=aa hl;have HL2:=aa hl2;have hb:Below w.heap.size w (w.alloc (.cells #[lev,.slice hA hn hc,rg,k0,v0,d0] 104)):=(Below.refl _ _).alloc (Nat.le_refl _) _;have HB:=aa hb;have hd:decide (0≤compareBytes key high)=false:=decide_eq_false (by omega);clear hh hk hl hl2 hlt hnn hb hlt';go_enter func109,ntmps109
  go_wp2_with (go_at_call 70;refine(bi _ _ _ _ _ _ G F key high _ (HK.below HB).2.2.2 HL2 (HH.below HB).2.2.2 HL).mono ?_;rintro e w' ⟨rfl,rfl⟩)
  go_ret
  exact⟨rfl,HB⟩
def Qu (high key:List UInt8):Prop:=1≤key.length∧key.length≤64∧(high= []∨qA key high)
theorem ME (F G:Nat→Prop) (high key:List UInt8) (lev rg k0 v0 d0:Value) (q:Nat) (hA A:Option Addr) (hn hc n c:Nat) (w:World) (hq:ai w q 104 #[lev,.slice hA hn hc,rg,k0,v0,d0]) (hh:Bt w F hA hn hc high) (hk:Bt w G A n c key) (hok:Qu high key):
  Calls prog 108 #[.slice A n c,.pointer (some ⟨q,0,none⟩)] w fun e w'=>e= .returned (.bool false)∧Below w.heap.size w w':=by
 have HH:=aa hh;have HK:=aa hk;have HO:=aa hok.2.2;have h1:=hok.1;have h2:=hok.2.1;have hl:=hk.len;have hd:decide ((1:Int)≤(n:Int)∧(n:Int)≤64)=true:=by simp;omega
 have hd2:(1:Int)≤(n:Int)∧(n:Int)≤64:=by omega
 obtain⟨z0,z1,z2,z3,z4,z5⟩:=ed hq;clear hh hk hok hq h1 h2 hl;go_enter func108,ntmps108
 go_wp2_with (first|(go_at_call 76;refine(fI _ _ _ _).mono ?_;rintro e w' ⟨rfl,rfl⟩;rw [hd])|(go_at_call 109;refine(Im F G high key lev rg k0 v0 d0 hA A hn hc n c _ HH HK HO).mono ?_;rintro e w' ⟨rfl,hb⟩))
 go_ret
 exact⟨rfl,hb⟩
theorem Sj (A:Option Addr) (n c:Nat) (w:World) (hn:n≤256):
  Calls prog 141 #[.slice A n c] w fun e w'=>e= .returned (.bool false)∧Below w.heap.size w w':=by
 have h:¬(256:Int)<(n:Int):=by omega
 go_enter func141,ntmps141
 go_wp2;go_ret
 exact⟨by simp,Below.refl _ _⟩
theorem MF (cap:Array Value) (F:Nat→Prop) (A:Option Addr) (n c:Nat) (ts:List (List UInt8)) (w:World) (h:Tx w F A n c ts) (hn:n≤1152921504606)
  (hp:∀(W:World) (Ak:Option Addr) (nk ck:Nat) (t:List UInt8),Below w.heap.size w W→t∈ts→Bt W F Ak nk ck t→Calls prog 108 (#[.slice Ak nk ck]++cap) W fun e w'=>e= .returned (.bool false)∧Below W.heap.size W w'):
  Calls prog 140 #[.slice A n c,.func (.func 108) #[] cap] w fun e w'=>e= .returned (.int .i64 (-1))∧Below w.heap.size w w':=by
 have HT:=aa h;have HP:=aa hp;clear h hp;go_enter func140,ntmps140
 go_wp2
 go_loopg [8] n (fun g' iv wr=>∃i:Nat,g'=n-i∧i≤n∧iv= .int .i64 i∧Below w.heap.size w wr)
 case atStart=>exact⟨0,by omega,by omega,rfl,Below.refl _ _⟩
 case round=>
  obtain⟨i,hg,hi,rfl,hb⟩:=hrel;have HG:=aa hg;have HB:=aa hb
  rename World=>wr
  clear hg hb
  by_cases hlt:i<n
  ·have hlt':(i:Int)<(n:Int):=by omega
   obtain⟨b,o,Ak,nk,ck,x,rfl,hF,he,c1',q1,q2,q3,q4⟩:=HT.out.at_ (k:=i) hlt;have c1:=ak HB c1';have HE:=aa (List.mem_of_getElem? he);clear c1' he;go_wp2_with (go_at_call 108;refine(HP wr Ak nk ck x HB HE ⟨q1,q2,q3,q4.below HB⟩).mono ?_;rintro e w' ⟨rfl,hb'⟩)
   go_roundg (n-(i+1))
   case measure=>have:=HG.out;omega
   case rel=>exact⟨i+1,rfl,by omega,by go_num,HB.out.trans (hb'.mono HB.size)⟩
  ·have hlt':¬(i:Int)<(n:Int):=by omega
   go_wp2;go_ret
   exact⟨rfl,HB⟩
theorem sK (cap:Array Value) (F:Nat→Prop) (A:Option Addr) (n c:Nat) (ts:List (List UInt8)) (w:World) (h:Tx w F A n c ts) (hn:n≤1152921504606)
  (hp:∀(W:World) (Ak:Option Addr) (nk ck:Nat) (t:List UInt8),Below w.heap.size w W→t∈ts→Bt W F Ak nk ck t→Calls prog 108 (#[.slice Ak nk ck]++cap) W fun e w'=>e= .returned (.bool false)∧Below W.heap.size W w'):
  Calls prog 107 #[.slice A n c,.func (.func 108) #[] cap] w fun e w'=>e= .returned (.bool false)∧Below w.heap.size w w':=by
 have HT:=aa h;have HP:=aa hp;clear h hp;go_enter func107,ntmps107
 go_wp2_with (go_at_call 140;refine(MF cap F A n c ts _ HT hn HP).mono ?_;rintro e w' ⟨rfl,hb'⟩)
 go_ret
 exact⟨rfl,hb'⟩
theorem MG (cap:Array Value) (F:Nat→Prop) (A:Option Addr) (n c:Nat) (ts:List (List UInt8)) (w:World) (h:Tx w F A n c ts) (hn:n≤1152921504606)
  (hp:∀(W:World) (Ak:Option Addr) (nk ck:Nat) (t:List UInt8),Below w.heap.size w W→t∈ts→Bt W F Ak nk ck t→Calls prog 141 (#[.slice Ak nk ck]++cap) W fun e w'=>e= .returned (.bool false)∧Below W.heap.size W w'):
  Calls prog 140 #[.slice A n c,.func (.func 141) #[] cap] w fun e w'=>e= .returned (.int .i64 (-1))∧Below w.heap.size w w':=by
 have HT:=aa h;have HP:=aa hp;clear h hp;go_enter func140,ntmps140
 go_wp2
 go_loopg [8] n (fun g' iv wr=>∃i:Nat,g'=n-i∧i≤n∧iv= .int .i64 i∧Below w.heap.size w wr)
 case atStart=>exact⟨0,by omega,by omega,rfl,Below.refl _ _⟩
 case round=>
  obtain⟨i,hg,hi,rfl,hb⟩:=hrel;have HG:=aa hg;have HB:=aa hb
  rename World=>wr
  clear hg hb
  by_cases hlt:i<n
  ·have hlt':(i:Int)<(n:Int):=by omega
   obtain⟨b,o,Ak,nk,ck,x,rfl,hF,he,c1',q1,q2,q3,q4⟩:=HT.out.at_ (k:=i) hlt;have c1:=ak HB c1';have HE:=aa (List.mem_of_getElem? he);clear c1' he;go_wp2_with (go_at_call 141;refine(HP wr Ak nk ck x HB HE ⟨q1,q2,q3,q4.below HB⟩).mono ?_;rintro e w' ⟨rfl,hb'⟩)
   go_roundg (n-(i+1))
   case measure=>have:=HG.out;omega
   case rel=>exact⟨i+1,rfl,by omega,by go_num,HB.out.trans (hb'.mono HB.size)⟩
  ·have hlt':¬(i:Int)<(n:Int):=by omega
   go_wp2;go_ret
   exact⟨rfl,HB⟩
theorem BS (cap:Array Value) (F:Nat→Prop) (A:Option Addr) (n c:Nat) (ts:List (List UInt8)) (w:World) (h:Tx w F A n c ts) (hn:n≤1152921504606)
  (hp:∀(W:World) (Ak:Option Addr) (nk ck:Nat) (t:List UInt8),Below w.heap.size w W→t∈ts→Bt W F Ak nk ck t→Calls prog 141 (#[.slice Ak nk ck]++cap) W fun e w'=>e= .returned (.bool false)∧Below W.heap.size W w'):
  Calls prog 107 #[.slice A n c,.func (.func 141) #[] cap] w fun e w'=>e= .returned (.bool false)∧Below w.heap.size w w':=by
 have HT:=aa h;have HP:=aa hp;clear h hp;go_enter func107,ntmps107
 go_wp2_with (go_at_call 140;refine(MG cap F A n c ts _ HT hn HP).mono ?_;rintro e w' ⟨rfl,hb'⟩)
 go_ret
 exact⟨rfl,hb'⟩
end
section
open Go.RowKit
abbrev Lk:=Int×List UInt8×Nd
def lb (us:List Value) (j:Nat):List Value:=(us.drop (j*8)).take 8
theorem Hy {us xs:List Value} {n j:Nat} (hl:us.length=n*8) (hj:j<n):lb (us++xs) j=lb us j:=by
 unfold lb;rw [List.drop_append_of_le_length (by omega),List.take_append_of_le_length (by rw [List.length_drop];omega)]
theorem Hz {us xs:List Value} {n:Nat} (hl:us.length=n*8) (hx:xs.length=8):lb (us++xs) n=xs:=by
 unfold lb;rw [List.drop_append,List.drop_of_length_le (by omega),hl,Nat.sub_self,List.nil_append,List.drop_zero,List.take_of_length_le (by omega)]
theorem VR {us:List Value} {k c:Nat} {u:Value} (hc:c<8) (h:(lb us k)[c]? =some u):us[k*8+c]? =some u:=by
 unfold lb at h;rwa [List.getElem?_take,if_pos hc,List.getElem?_drop] at h
theorem ni.lt {w:World} {F:Nat→Prop} {x:Nd} {hA kA vA dA:Option Addr} {hn hc kn kc vn vc dn dc:Nat} (h:ni w F x hA kA vA dA hn hc kn kc vn vc dn dc):ni w (fun b=>F b∧b<w.heap.size) x hA kA vA dA hn hc kn kc vn vc dn dc:=
 ⟨h.h.lt,h.k.lt,h.v.lt,h.d.lt⟩
def Nu (w:World) (F:Nat→Prop) (vs:List Value) (k:Lk):Prop:=
 ∃lA hA kA vA dA ln lc hn hc kn kc vn vc dn dc,vs= [.int .i64 k.1,.slice lA ln lc,.int .i64 k.2.2.lev,.slice hA hn hc,.int .i64 k.2.2.right,.slice kA kn kc,.slice vA vn vc,.slice dA dn dc]∧Bt w F lA ln lc k.2.1∧ni w F k.2.2 hA kA vA dA hn hc kn kc vn vc dn dc
def sD (w:World) (D:Nat→Prop) (A:Option Addr) (n:Nat) (l:List Lk):Prop:=
 Hid (n=l.length)∧∃us,Rd w D 8 A n us∧∀(j:Nat) (k:Lk),l[j]? =some k→Nu w D (lb us j) k
structure Ch (w:World) (base:Nat) (out:Value) (i:Nat) (us:List Value) (f:Nat→Lk):Prop where
 own:w.ownsRow base 106 8 out i us
 full:∀j,j<i→Nu w (fun b=>base≤b∧out.ownBlock≠some b) (lb us j) (f j)
section
variable {S D D':Nat→Prop} {w w':World} {vs us:List Value} {k:Lk} {A:Option Addr} {n base i:Nat} {l:List Lk} {out:Value} {f:Nat→Lk}
theorem Nu.next (h:Nu w D vs k) (hc:ag S w w') (hs:∀b,b<w.heap.size→D b→¬S b) (hD:∀b,b<w.heap.size→D b→D' b):Nu w' D' vs k:=by
 obtain⟨lA,hA,kA,vA,dA,ln,lc,hn,hc',kn,kc,vn,vc,dn,dc,h1,h2,h3⟩:=h;exact⟨lA,hA,kA,vA,dA,ln,lc,hn,hc',kn,kc,vn,vc,dn,dc,h1,(h2.lt.chg hc (fun b hb=>hs b hb.2 hb.1)).weak (fun b hb=>hD b hb.2 hb.1),(h3.lt.chg hc (fun b hb=>hs b hb.2 hb.1)).weak (fun b hb=>hD b hb.2 hb.1)⟩
theorem Nu.weak (h:Nu w D vs k) (hD:∀b,D b→D' b):Nu w D' vs k:=h.next (ag.refl Nil w) (fun _ _ _ h=>h) (fun b _ hb=>hD b hb)
theorem sD.next (h:sD w D A n l) (hc:ag S w w') (hs:∀b,b<w.heap.size→D b→¬S b) (hD:∀b,b<w.heap.size→D b→D' b):sD w' D' A n l:=
 let⟨h1,us,h2,h3⟩:=h;⟨h1,us,((h2.lt (by omega)).chg hc (fun b hb=>hs b hb.2 hb.1)).weak (fun b hb=>hD b hb.2 hb.1),fun j k hk=>(h3 j k hk).next hc hs hD⟩
theorem sD.weak (h:sD w D A n l) (hD:∀b,D b→D' b):sD w D' A n l:=h.next (ag.refl Nil w) (fun _ _ _ h=>h) (fun b _ hb=>hD b hb)
theorem sD.below (h:sD w D A n l) (hb:Below w.heap.size w w'):sD w' D A n l:=h.next (ag.of_below (S:=Nil) hb) (fun _ _ _ h=>h) (fun _ _ hb=>hb)
theorem sD.at_ {j:Nat} (h:sD w D A n l) (hj:j<n):∃b o k lA hA kA vA dA ln lc hn hc kn kc vn vc dn dc,A=some ⟨b,o,none⟩∧D b∧l[j]? =some k∧
  w.cell? ⟨b,o+j*8,none⟩=some (.int .i64 k.1)∧w.cell? ⟨b,o+j*8+1,none⟩=some (.slice lA ln lc)∧w.cell? ⟨b,o+j*8+2,none⟩=some (.int .i64 k.2.2.lev)∧w.cell? ⟨b,o+j*8+3,none⟩=some (.slice hA hn hc)∧
  w.cell? ⟨b,o+j*8+4,none⟩=some (.int .i64 k.2.2.right)∧w.cell? ⟨b,o+j*8+5,none⟩=some (.slice kA kn kc)∧w.cell? ⟨b,o+j*8+6,none⟩=some (.slice vA vn vc)∧w.cell? ⟨b,o+j*8+7,none⟩=some (.slice dA dn dc)∧
  Bt w D lA ln lc k.2.1∧ni w D k.2.2 hA kA vA dA hn hc kn kc vn vc dn dc:=by
 obtain⟨h1,us,h2,h3⟩:=h;have hl:j<l.length:=by have:=h1.out;omega
 obtain⟨b,o,hA',hD,hcell⟩:=h2.2 (by omega);obtain⟨lA,hA,kA,vA,dA,ln,lc,hn,hc',kn,kc,vn,vc,dn,dc,e,q1,q2⟩:=h3 j l[j] (List.getElem?_eq_getElem hl)
 have c:∀(t:Nat) (u:Value),t<8→(lb us j)[t]? =some u→w.cell? ⟨b,o+j*8+t,none⟩=some u:=fun t u ht hu=>by
  rw [Nat.add_assoc];exact hcell _ _ (VR ht hu)
 rw [e] at c;exact⟨b,o,l[j],lA,hA,kA,vA,dA,ln,lc,hn,hc',kn,kc,vn,vc,dn,dc,hA',hD,List.getElem?_eq_getElem hl,c 0 _ (by omega) rfl,c 1 _ (by omega) rfl,c 2 _ (by omega) rfl,c 3 _ (by omega) rfl,c 4 _ (by omega) rfl,c 5 _ (by omega) rfl,c 6 _ (by omega) rfl,c 7 _ (by omega) rfl,q1,q2⟩
theorem Ch.nil (w:World) (base:Nat) (f:Nat→Lk):Ch w base (.slice none 0 0) 0 [] f:=⟨World.ownsRow_nil _ _ _ _,fun j hj=>absurd hj (by omega)⟩
theorem Ch.chg (h:Ch w base out i us f) (hc:ag S w w') (hs:∀b,base≤b→¬S b):Ch w' base out i us f:=
 ⟨aF h.own hc (fun g hg=>hs g (ah h.own g hg).1),fun j hj=>(h.full j hj).next hc (fun b _ hb=>hs b hb.1) (fun _ _ hb=>hb)⟩
theorem Ch.below (h:Ch w base out i us f) (hb:Below w.heap.size w w'):Ch w' base out i us f:=
 ⟨own_below h.own hb,fun j hj=>(h.full j hj).next (ag.of_below (S:=Nil) hb) (fun _ _ _ h=>h) (fun _ _ hb=>hb)⟩
theorem Ch.push {v2:Value} {xs:List Value} (h:Ch w base out i us f) (ho:w'.ownsRow base 106 8 v2 (i+1) (us++xs)) (hg:w.grownBy w' out.ownBlock) (hat:v2.ownBlock=out.ownBlock∨v2.ownBlock=some w.heap.size)
  (hx:Nu w (fun b=>base≤b∧out.ownBlock≠some b) xs (f i)) (GU:xs.length=8):Ch w' base v2 (i+1) (us++xs) f:=by
 have hl:us.length=i*8:=h.own.1
 have key:∀b,b<w.heap.size→(base≤b∧out.ownBlock≠some b)→(base≤b∧v2.ownBlock≠some b):=fun b hb hx=>⟨hx.1,fun e=>by
  rcases hat with h|h
  ·exact hx.2 (h▸e)
  ·rw [h] at e;injection e with e;omega⟩
 refine⟨ho,fun j hj=> ?_⟩
 by_cases hji:j=i
 ·subst hji;rw [Hz hl GU]
  exact hx.next (ag.of_grown hg) (fun b _ hb e=>hb.2 e) key
 ·rw [Hy hl (by omega)];exact(h.full j (by omega)).next (ag.of_grown hg) (fun b _ hb e=>hb.2 e) key
theorem Ch.links {c:Nat} (h:Ch w base (.slice A n c) n us f):sD w (From base) A n ((List.range n).map f):=by
 refine⟨aa (by simp),us,Rd.of_own h.own,fun j k hk=> ?_⟩;have hj:j<n:=by have:=(List.getElem?_eq_some_iff.1 hk).1;simpa using this
 rw [List.getElem?_map,List.getElem?_range hj] at hk;injection hk with hk
 subst hk;exact(h.full j hj).weak (fun b hb=>hb.1)
end
end
section
open Go.Proofs.Tryz
open Go.RowKit Go.Maps
theorem BO:Keyed prog 3:=int_keyed underlying3
theorem Pn (w:World):(zeroValue 3).run prog w= .ok (.int .i64 0) w:=by kernel_rfl
theorem Si {a:Int} (h: -9223372036854775808≤a) (h2:a≤9223372036854775807):(Lit.int .i64 a).wf=true:=by simp [Lit.wf,IntKind.min,IntKind.max,IntKind.signed,IntKind.bits];omega
theorem Po {H:Type} {a b:Int} (h:(DataW.lit (.int .i64 a):DataW H)= .lit (.int .i64 b)):a=b:=by
 injection h with h
 injection h
def bF (w:World) (b n:Nat) (f:Int→Int):Prop:=
 ∃D:DataW Unit,w.ownsMap prog 3 (plainElem prog 3) b n D∧IsMap D∧∀k:Int,D.atKey (.int .i64 k) (.lit (.int .i64 0))= .lit (.int .i64 (f k))
section
variable {w w':World} {b n:Nat} {f:Int→Int}
theorem bF.made (w:World):bF (w.alloc (.map #[] 0)) w.heap.size 0 (fun _=>0):=
 ⟨.map [],World.ownsMap_made _ _ _ _,isMap_empty,fun _=>rfl⟩
theorem bF.lt (h:bF w b n f):b<w.heap.size:=by obtain⟨D,h,_⟩:=h;exact h.lt
theorem bF.chg {S:Nat→Prop} (h:bF w b n f) (hc:ag S w w') (hs:¬S b):bF w' b n f:=by
 have hlt:=h.lt;obtain⟨D,⟨es,clock,hb,F,hs',hD⟩,hm,hf⟩:=h;exact⟨D,⟨es,clock,(hc.block b hlt hs).trans hb,F,hs',hD⟩,hm,hf⟩
theorem bF.below (h:bF w b n f) (hb:Below w.heap.size w w'):bF w' b n f:=h.chg (S:=Nil) (ag.of_below hb) (fun hf=>hf)
theorem bF.mono {m:Nat} (h:bF w b n f) (hm:n≤m):bF w b m f:=let⟨D,a,c⟩:=h;⟨D,a.mono hm,c⟩
theorem bF.look (h:bF w b n f) {k:Int} (h1: -9223372036854775808≤k) (h2:k≤9223372036854775807):(Instr.lookup 107 (.map (some b)) (.int .i64 k) false).run prog w= .ok (.int .i64 (f k)) w:=by
 obtain⟨D,a,_,hf⟩:=h;obtain⟨c,hrun,hat,_⟩:=a.lookup_int BO underlying107 underlying3 (Pn w) (keyOf_int_mk underlying3 (Si h1 h2));rw [hf k] at hat;have:f k=c:=Po hat;rw [this];exact hrun
theorem dw {ops:Array Oper} {rest:List Oper} {o:Oper} {a:Act} {Q:Exit→Act→World→Prop}
  (hg:o.guard=none) (m x v:Operand) (hop:o.op=Op.mapUpdate 107 m x v) (hm:a.eval m= .map (some b)) (hown:bF w b n f) (hn:n<maxLen) (k u:Int) (hx:a.eval x= .int .i64 k) (hv:a.eval v= .int .i64 u)
  (h1: -9223372036854775808≤k) (h2:k≤9223372036854775807) (h3: -9223372036854775808≤u) (h4:u≤9223372036854775807)
  (hK:∀w',bF w' b (n+1) (fun j=>if j=k then u else f j)→ag (jK b) w w'→wpList prog ops Q rest (a.put o.dst undef) w'):
  wpList prog ops Q (o::rest) a w:=by
 obtain⟨D,hD,hM,hf⟩:=hown;refine wpList_mapUpdate_own w hg m x v 107 hop 3 3 BO underlying107 _ b n D hm hD hn (.int .i64 k) (.int .i64 u) (.int .i64 k) hx hv (keyOf_int_mk underlying3 (Si h1 h2)) (.lit (.int .i64 u)) [] (plainElem_int underlying3 (Si h3 h4)) ?_;intro w' hw' hg';refine hK w' ⟨_,hw',hM.put _ _,fun j=> ?_⟩ ((ag.refl _ _).grown hg' (fun c hc _=>by injection hc with hc;exact hc.symm))
 by_cases hj:j=k
 ·subst hj;show _=DataW.lit (Lit.int .i64 (if j=j then u else f j))
  rw [if_pos rfl,atKey_put_same hM (by simp [WideAt.IsKeyLit])]
 ·show _=DataW.lit (Lit.int .i64 (if j=k then u else f j));rw [if_neg hj,atKey_put_other (fun e=>hj (by injection e)),hf j]
end
end
end Go.Proofs.YtbjgeidjmhialaaGreatDoor
