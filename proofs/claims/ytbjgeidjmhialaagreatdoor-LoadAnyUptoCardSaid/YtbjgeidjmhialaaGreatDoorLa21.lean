/- Part 21. -/
import Derived.Test.YtbjgeidjmhialaaGreatDoorLa20
namespace Go.Proofs.YtbjgeidjmhialaaGreatDoor
set_option maxRecDepth 100000
set_option maxHeartbeats 8000000
section
open Go.Proofs.Tryz
open Go.RowKit
open Go.Lib (compareBytes)
theorem DI (F G:Nat→Prop) (A L:Option Addr) (n c ln lc:Nat) (l:List Row) (key:List UInt8) (w:World) (h:kz w F A n l) (hk:SB w G (.slice L ln lc) key) (hn:n≤8388608) (hlt:∀x,l[n-1]? =some x→compareBytes x.last key<0):
  Calls prog 168 #[.slice A n c,.slice L ln lc] w fun e w'=>e= .returned (.bool true)∧w=w':=by
 refine letter fun R HR=> ?_;have HH:=aa h;have HK:=aa hk;have HL:=aa hlt;clear h hk hlt
 by_cases n0:n=0
 ·subst n0;go_enter func168,ntmps168
  go_wp2;rw [HR.out]
  exact⟨rfl,rfl⟩
 ·obtain⟨j,hj⟩:∃j,n=j+1:=⟨n-1,by omega⟩;obtain⟨g,o,M,mn,mc,y,rfl,_,hyj,d0,d1,d2,d3,sy⟩:=HH.out.at_ (k:=j) (by omega);have Jv:=aa (bi M L mn ln mc lc F G y.last key w sy.parts.2.2.2 sy.parts.2.2.1 HK.parts.2.2.2 HK.parts.2.2.1);have Qo:=HL.out y (by rw [show n-1=j by omega];exact hyj);obtain⟨ce,hce⟩:∃ce,ce=compareBytes y.last key:=⟨_,rfl⟩;rw [←hce] at Jv Qo;have e1:((n:Int)-1)=(j:Int):=by omega
  have hjl:j<n:=by omega
  have GN:(j:Int)<(n:Int):=by omega
  have Zd:((n:Int)==0)=false:=by rw [beq_eq_false_iff_ne];omega
  have Ze:¬((n:Int)=0):=by omega
  clear hj hyj d1 d2 d3 sy hce n0;go_enter func168,ntmps168
  go_wp2_with (go_at_call 70;go_loud (refine Jv.mono ?_);rintro e w2 ⟨rfl,rfl⟩)
  rw [HR.out];exact⟨by simp [Qo],rfl⟩
theorem Ld (F:Nat→Prop) (A:Option Addr) (n c:Nat) (l:List Row) (w:World) (h:kz w F A n l) (hn:n≤8388608) (ha:∀x∈l,x.at_≤1152921504606∧x.len≤131072):
  Calls prog 169 #[.slice A n c] w fun e w'=>e= .returned (.int .i64 (bK l:Nat))∧Below w.heap.size w w':=by
 refine letter fun R HR=> ?_;have HH:=aa h;have HN:Hid (n=l.length):=h.len;clear h
 by_cases n0:n=0
 ·have HE:Hid (bK l=8):=aa (by have:l= []:=List.eq_nil_of_length_eq_zero (by rw [←HN.out];exact n0);rw [this];rfl);clear ha;subst n0;go_enter func169,ntmps169
  go_wp2;rw [HR.out]
  exact⟨by rw [HE.out];rfl,Below.refl _ _⟩
 ·obtain⟨j,hj⟩:∃j,n=j+1:=⟨n-1,by omega⟩;obtain⟨g,o,M,mn,mc,y,rfl,_,hyj,d0,d1,d2,d3,sy⟩:=HH.out.at_ (k:=j) (by omega)
  have HE:Hid (bK l=y.at_+y.len):=aa (by
   unfold bK;rw [List.getLast?_eq_getElem?,←HN.out,show n-1=j by omega,hyj])
  obtain⟨b1,b2⟩:=ha y (List.mem_of_getElem? hyj);have e1:((n:Int)-1)=(j:Int):=by omega
  have hjl:j<n:=by omega
  have GN:(j:Int)<(n:Int):=by omega
  have Zd:((n:Int)==0)=false:=by rw [beq_eq_false_iff_ne];omega
  have Ze:¬((n:Int)=0):=by omega
  clear hj hyj sy n0 ha;go_enter func169,ntmps169
  go_wp2;rw [HR.out]
  exact⟨by rw [HE.out];simp,(Below.refl _ _).alloc (Nat.le_refl _) _⟩
def gJ:Array Value:= #[.func (.func 176) #[] #[],.func (.func 177) #[] #[],.int .i64 73,.func (.func 178) #[] #[],.func (.func 179) #[] #[],.int .i64 74,.func (.func 180) #[] #[],.func (.func 181) #[] #[],.int .i64 75]
theorem DJ (w:World):Calls prog 167 #[] w fun e w'=>e= .returned (.agg gJ)∧Below w.heap.size w w':=by
 obtain⟨q,hq⟩:∃q,q=w.heap.size:=⟨_,rfl⟩;obtain⟨w1,hw1⟩:∃W,W=w.alloc (.cells #[.nilFunc,.nilFunc,.int .i64 0,.nilFunc,.nilFunc,.int .i64 0,.nilFunc,.nilFunc,.int .i64 0] 299):=⟨_,rfl⟩;have hb:ai w1 q 299 #[.nilFunc,.nilFunc,.int .i64 0,.nilFunc,.nilFunc,.int .i64 0,.nilFunc,.nilFunc,.int .i64 0]:=by rw [hw1,hq];exact ai.new _ _ _
 have HB:=aa hb;have q8:Hid (Below w.heap.size w w1):=aa (by rw [hw1];exact(Below.refl _ _).alloc (Nat.le_refl _) _);have HQ:=aa hq;have y0:w1.cell? ⟨q,0,none⟩=some .nilFunc:=hb.cell 0;have y1:w1.cell? ⟨q,1,none⟩=some .nilFunc:=hb.cell 1;have y2:w1.cell? ⟨q,2,none⟩=some (.int .i64 0):=hb.cell 2;have y3:w1.cell? ⟨q,3,none⟩=some .nilFunc:=hb.cell 3;have y4:w1.cell? ⟨q,4,none⟩=some .nilFunc:=hb.cell 4;have y5:w1.cell? ⟨q,5,none⟩=some (.int .i64 0):=hb.cell 5;have y6:w1.cell? ⟨q,6,none⟩=some .nilFunc:=hb.cell 6;have y7:w1.cell? ⟨q,7,none⟩=some .nilFunc:=hb.cell 7;have y8:w1.cell? ⟨q,8,none⟩=some (.int .i64 0):=hb.cell 8;have f0:=hb.frozen 0;have f1:=hb.frozen 1;have f2:=hb.frozen 2;have f3:=hb.frozen 3;have f4:=hb.frozen 4;have f5:=hb.frozen 5;have f6:=hb.frozen 6;have f7:=hb.frozen 7;have f8:=hb.frozen 8;obtain⟨R,hR⟩:∃R:Ending→World→Prop,R=fun e w'=>e= .returned (.agg gJ)∧Below w.heap.size w w':=⟨_,rfl⟩;have HR:=aa hR;rw [←hR];clear hR hb;go_enter func167,ntmps167
 go_upto_region 1 with fail
 rw [←hw1];simp only [←hq];clear hw1 hq;go_wp2;have hf:=(((((((((HB.set_ 0 (.func (.func 176) #[] #[])).set_ 1 (.func (.func 177) #[] #[])).set_ 2 (.int .i64 73)).set_ 3 (.func (.func 178) #[] #[])).set_ 4 (.func (.func 179) #[] #[])).set_ 5 (.int .i64 74)).set_ 6 (.func (.func 180) #[] #[])).set_ 7 (.func (.func 181) #[] #[])).set_ 8 (.int .i64 75));have v0:=hf.cell 0;have v1:=hf.cell 1;have v2:=hf.cell 2;have v3:=hf.cell 3;have v4:=hf.cell 4;have v5:=hf.cell 5;have v6:=hf.cell 6;have v7:=hf.cell 7;have v8:=hf.cell 8;simp at v0 v1 v2 v3 v4 v5 v6 v7 v8;refine bodyPost_ret (v:= .agg gJ) (by simp [results,results167,go_sem,gJ,v0,v1,v2,v3,v4,v5,v6,v7,v8]) rfl ?_;rw [HR.out];refine⟨rfl,?_⟩;have hz:w.heap.size≤q:=by rw [HQ.out];exact Nat.le_refl _
 have B0:=q8.out;have B1:=B0.setCell (p:=⟨q,0,none⟩) hz (.func (.func 176) #[] #[]);have B2:=B1.setCell (p:=⟨q,1,none⟩) hz (.func (.func 177) #[] #[]);have B3:=B2.setCell (p:=⟨q,2,none⟩) hz (.int .i64 73);have B4:=B3.setCell (p:=⟨q,3,none⟩) hz (.func (.func 178) #[] #[]);have B5:=B4.setCell (p:=⟨q,4,none⟩) hz (.func (.func 179) #[] #[]);have B6:=B5.setCell (p:=⟨q,5,none⟩) hz (.int .i64 74);have B7:=B6.setCell (p:=⟨q,6,none⟩) hz (.func (.func 180) #[] #[]);have B8:=B7.setCell (p:=⟨q,7,none⟩) hz (.func (.func 181) #[] #[]);have B9:=B8.setCell (p:=⟨q,8,none⟩) hz (.int .i64 75);exact B9
end
section
open Go.Proofs.Tryz
open Go.RowKit
open Go.Lib (compareBytes)
theorem GQ (w:World):(sizeOf (prog.elem 143)).run prog w= .ok 4 w:=by kernel_rfl
theorem OG:prog.underlying 143=some (.slice (prog.elem 143)):=by kernel_rfl
theorem kz.take {w:World} {F:Nat→Prop} {A:Option Addr} {n:Nat} {l:List Row} (h:kz w F A n l) {k:Nat} (hk:k≤n):kz w F A k (l.take k):=by
 obtain⟨h1,vs,h2,h3⟩:=h;refine⟨by have h1':n=l.length:=h1;show k=_;rw [List.length_take];omega,vs.take (k*4),h2.take hk,fun i e he=> ?_⟩
 have hi:i<k:=by
  have:=(List.getElem?_eq_some_iff.mp he).1;rw [List.length_take] at this;omega
 rw [List.getElem?_take_of_lt hi] at he;obtain⟨u,a0,a1,a2,a3,s⟩:=h3 i e he
 refine⟨u,?_,?_,?_,?_,s⟩
 ·rw [List.getElem?_take_of_lt (by omega)];exact a0
 ·rw [List.getElem?_take_of_lt (by omega)];exact a1
 ·rw [List.getElem?_take_of_lt (by omega)];exact a2
 ·rw [List.getElem?_take_of_lt (by omega)];exact a3
theorem kz.cut0 {w:World} {F:Nat→Prop} {A:Option Addr} {n c:Nat} {l:List Row} (h:kz w F A n l) (hnc:n≤c):kz w F (if c=0 then A else A.map (·.add 0)) n l:=by
 obtain⟨h1,vs,h2,h3⟩:=h;have h4:=h2.cut (k:=0) (cap:=c) (by omega) hnc;rw [Nat.zero_mul,List.drop_zero] at h4;exact⟨h1,vs,h4,h3⟩
theorem Le {w:World} {F:Nat→Prop} {A:Option Addr} {n c:Nat} {l:List Row} {p:Nat} (h:kz w F A n l) (hp:p≤n) (hnc:n≤c):
  ∃A',(∀w',(Instr.slice 143 (.slice A n c) none (some (.int .i64 p)) none).run prog w'= .ok (.slice A' p c) w')∧kz w F A' p (l.take p):=by
 refine⟨if c=0 then A else A.map (·.add 0),fun w'=> ?_,(h.cut0 hnc).take hp⟩;rw [run_slice_h w' _ A n c OG .i64 p (by omega) (by omega),GQ];simp [Result.andThen,sliced]
theorem OH (x:Nat) (w:World):Calls prog 176 #[.pointer (some ⟨x,0,none⟩)] w fun e w'=>e= .returned (.pointer (some ⟨x,1,none⟩))∧w=w':=by
 refine letter fun R HR=> ?_;go_enter func176,ntmps176
 go_wp2;rw [HR.out]
 exact⟨rfl,rfl⟩
theorem OI (x:Nat) (w:World):Calls prog 178 #[.pointer (some ⟨x,0,none⟩)] w fun e w'=>e= .returned (.pointer (some ⟨x,2,none⟩))∧w=w':=by
 refine letter fun R HR=> ?_;go_enter func178,ntmps178
 go_wp2;rw [HR.out]
 exact⟨rfl,rfl⟩
theorem OJ (x:Nat) (w:World):Calls prog 180 #[.pointer (some ⟨x,0,none⟩)] w fun e w'=>e= .returned (.pointer (some ⟨x,3,none⟩))∧w=w':=by
 refine letter fun R HR=> ?_;go_enter func180,ntmps180
 go_wp2;rw [HR.out]
 exact⟨rfl,rfl⟩
theorem OK (v:Nat) (w:World) (hv:v<18446744073709551616):Calls prog 177 #[.int .u64 v,.int .i64 v] w fun e w'=>e= .returned (.bool true)∧w=w':=by
 refine letter fun R HR=> ?_;have hw:IntKind.u64.wrap (v:Int)=(v:Int):=IntWalk.u64_in _ (by omega);go_enter func177,ntmps177
 go_wp2;rw [HR.out]
 exact⟨by simp,rfl⟩
theorem OL (v:Nat) (u:Value) (w:World) (h1:1≤v) (h2:v≤131072):Calls prog 179 #[.int .u64 v,u] w fun e w'=>e= .returned (.bool true)∧w=w':=by
 refine letter fun R HR=> ?_;have h1':(1:Int)≤(v:Int):=by omega
 have h2':(v:Int)≤131072:=by omega
 go_enter func179,ntmps179
 go_wp2;rw [HR.out]
 exact⟨by simp<;>omega,rfl⟩
theorem OM (v:Nat) (u:Value) (w:World) (h1:1≤v) (h2:v≤64):Calls prog 181 #[.int .u64 v,u] w fun e w'=>e= .returned (.bool true)∧w=w':=by
 refine letter fun R HR=> ?_;have h1':(1:Int)≤(v:Int):=by omega
 have h2':(v:Int)≤64:=by omega
 go_enter func181,ntmps181
 go_wp2;rw [HR.out]
 exact⟨by simp<;>omega,rfl⟩
noncomputable def Vq:Code:=aP (f152.body.bind (aA 13))
theorem uP (F:Nat→Prop) (A:Option Addr) (n c i v x8:Nat) (fk:Nat) (gv kv:Value) (l:List Row) (w:World) {u1 u2 u3 u4 u6 u7 u10 u11 u12 u13 bN bq u16 u17 bC bD u20 u21 u22 u23 u24 u25 u26 u27 u28 u29 u30 u31 u32 u33 u34 u35 u36 u37 u38 dh u40 bX u42 bY u44 u45 u46 di u48 u49 bV u51 u52 u53 bW u55 dz dB u58 u59 u60 dH dG:Value} (Q:Exit→Act→World→Prop) (nC:Hid (∀c t (a:Act) w,Q (.panic c) ⟨t,a.defers⟩ w→Q (.panic c) a w))
  (HB:Hid (ai w x8 298 #[gv,.func (.func fk) #[] #[],kv])) (HS:Hid (kz w F A n l)) (hi:i≤n) (hnc:n≤c) (hn:n≤8388608) (hv:v<9223372036854775808) (ha:Hid (∀x∈l,x.at_≤1152921504606∧x.len≤131072))
  (HF:Hid (∀w',Calls prog fk #[.int .u64 v,.int .i64 (bK (l.take i):Nat)] w' fun e w2=>e= .returned (.bool true)∧w'=w2))
  (Vm:∀args w',(callFunc fk args).run prog w'= .ok (.enter fk args) w')
  (au:∀(v44 v45 v46 v47 v48 v49 v50 v51 v52 v53 v54 v55 v56:Value) (w':World),Below w.heap.size w w'→Q .normal ⟨(.slice A n c::u1::u2::u3::u4:: .int .i64 (i:Nat)::u6::u7:: .pointer (some ⟨x8,0,none⟩):: .int .i64 (v:Nat)::u10::u11::u12::u13::bN::bq::u16::u17::bC::bD::u20::u21::u22::u23::u24::u25::u26::u27::u28::u29::u30::u31::u32::u33::u34::u35::u36::u37::u38::dh::u40::bX::u42::bY::v44::v45::v46::v47::v48::v49::v50::v51::v52::v53::v54::v55::v56:: .bool false::u58::u59::u60::dH::dG:: []).toArray,[]⟩ w'):
  Code.wp prog Vq Q ⟨(.slice A n c::u1::u2::u3::u4:: .int .i64 (i:Nat)::u6::u7:: .pointer (some ⟨x8,0,none⟩):: .int .i64 (v:Nat)::u10::u11::u12::u13::bN::bq::u16::u17::bC::bD::u20::u21::u22::u23::u24::u25::u26::u27::u28::u29::u30::u31::u32::u33::u34::u35::u36::u37::u38::dh::u40::bX::u42::bY::u44::u45::u46::di::u48::u49::bV::u51::u52::u53::bW::u55::dz::dB::u58::u59::u60::dH::dG:: []).toArray,[]⟩ w:=by
 have dF:=aa au;obtain⟨A',hcut,hsp⟩:=Le HS hi hnc;have Zf:=aa hsp;have hend:∀w1,Below w.heap.size w w1→Calls prog 169 #[.slice A' i c] w1 fun e w'=>e= .returned (.int .i64 (bK (l.take i):Nat))∧Below w1.heap.size w1 w':=fun w1 hb=>Ld F A' i c _ w1 (Zf.below hb) (by omega) (fun x hx=>ha.out x (List.mem_of_mem_take hx));have wH:=aa hend;have hw:IntKind.u64.wrap (v:Int)=(v:Int):=IntWalk.u64_in _ (by omega);have hv0:¬((v:Int)<0):=by omega
 have hv1:decide ((v:Int)<0)=false:=decide_eq_false hv0;have S0:w.drew.cell? ⟨x8,1,none⟩=some (.func (.func fk) #[] #[]):=(HB.out.cell 1).trans rfl;clear au hsp hend;conv=>arg 2;whnf
 refine aX (fun w'=>w'.cell? ⟨x8,1,none⟩=some (.func (.func fk) #[] #[])) (by kernel_rfl) ?_;refine vT 0 S0 ?_;refine vT 1 S0 ?_;refine vT 2 S0 ?_;refine vT 3 S0 ?_;refine vT 5 S0 ?_;refine vT 7 S0 ?_;refine vT 8 S0 ?_;refine vT 9 S0 ?_;refine vT 4 S0 ?_;refine vT 6 S0 ?_;refine aR (i:=10) (by kernel_rfl) rfl (fun K hK=> ?_);go_simp
 go_loud (refine(wH _ ((Below.refl _ _).drew)).mono ?_);rintro e w2 ⟨rfl,hb2⟩;have HB2:Hid (Below w.heap.size w w2):=aa ((Below.refl _ _).drew.trans hb2);have S1:w2.cell? ⟨x8,1,none⟩=some (.func (.func fk) #[] #[]):=ak hb2 S0;clear hb2
 refine hK.out _ _ S1 ?_;clear hK K;try simp only [aL,aN,aZ,aC]
 refine aR (i:=11) (by kernel_rfl) rfl (fun K hK=> ?_);go_simp
 go_loud (refine(HF _).mono ?_);rintro e w3 ⟨rfl,rfl⟩
 refine hK.out _ _ S1 ?_;clear hK K;try simp only [aL,aN,aZ,aC]
 refine vT 12 S1 ?_;refine vT 13 S1 ?_;refine bP (by kernel_rfl) ?_ _;exact dF _ _ _ _ _ _ _ _ _ _ _ _ _ _ HB2
end
section
open Go.Proofs.Tryz
open Go.RowKit
open Go.Lib (compareBytes)
theorem AZ (w:World):(Instr.index 299 (.agg gJ) (.int .i64 0)).run prog w= .ok (.agg #[.func (.func 176) #[] #[],.func (.func 177) #[] #[],.int .i64 73]) w:=by kernel_rfl
theorem A9 (w:World):(Instr.index 299 (.agg gJ) (.int .i64 1)).run prog w= .ok (.agg #[.func (.func 178) #[] #[],.func (.func 179) #[] #[],.int .i64 74]) w:=by kernel_rfl
theorem Bg (w:World):(Instr.index 299 (.agg gJ) (.int .i64 2)).run prog w= .ok (.agg #[.func (.func 180) #[] #[],.func (.func 181) #[] #[],.int .i64 75]) w:=by kernel_rfl
theorem DK (F:Nat→Prop) (A:Option Addr) (n c:Nat) (l:List Row) (w:World) (h:kz w F A n l) (hnc:n≤c) (hk:gu l) (ha:∀x∈l,x.at_≤1152921504606) (hF:∀b,F b→b<w.heap.size):
  Calls prog 152 #[.slice A n c] w fun e w'=>e= .returned (.tuple #[.int .i64 0,.int .i64 0])∧Below w.heap.size w w':=by
 refine letter fun R HR=> ?_;have HH:=aa h;have HN:Hid (n=l.length):=h.len;have HK:=aa hk;have HA:=aa ha;have Nw:=aa hF;have hn:n≤8388608:=by have:=HN.out;have:=hk.many;omega
 have hn':¬((8388608:Int)<(n:Int)):=by omega
 have HRU:=aa (DJ w);have hrl:gJ.toList= [.func (.func 176) #[] #[],.func (.func 177) #[] #[],.int .i64 73,.func (.func 178) #[] #[],.func (.func 179) #[] #[],.int .i64 74,.func (.func 180) #[] #[],.func (.func 181) #[] #[],.int .i64 75]:=rfl;clear h hk ha hF;go_enter func152,ntmps152
 go_upto_region 4 with(go_at_call 167;go_loud (refine HRU.mono ?_);rintro e w1 ⟨rfl,hb1⟩;have HB1:=aa hb1;clear hb1)
 obtain⟨x4,hx4⟩:∃x4,x4=w1.heap.size:=⟨_,rfl⟩;obtain⟨w2,hw2⟩:∃W,W=w1.alloc (.cells #[.func (.func 176) #[] #[],.func (.func 177) #[] #[],.int .i64 73,.func (.func 178) #[] #[],.func (.func 179) #[] #[],.int .i64 74,.func (.func 180) #[] #[],.func (.func 181) #[] #[],.int .i64 75] 299):=⟨_,rfl⟩;rw [←hw2,←hx4];have iH:Hid (ai w2 x4 299 gJ):=aa (by rw [hw2,hx4];exact ai.new _ _ _);have HB2:Hid (Below w.heap.size w w2):=aa (by rw [hw2];exact HB1.alloc HB1.size _);clear hw2 hx4 hn' hrl;go_wp2
 go_loopw [16] (fun iv wz=>∃i:Nat,i≤n∧iv= .int .i64 i∧Hid (Below w.heap.size w wz)∧Hid (ai wz x4 299 gJ)) (fun iv _=>n-(intOf iv).toNat)
 case atStart=>exact⟨0,Nat.zero_le _,rfl,HB2,iH⟩
 case round=>
  obtain⟨i,hi,rfl,HB,RI⟩:=hrel
  by_cases hlt:i<n
  ·have hlt':(i:Int)<(n:Int):=by omega
   obtain⟨g,o,L,ln,lc,x,DL,RJ,hx,c0,c1,c2,c3,s⟩:=(HH.out.below HB).at_ hlt;have hxm:=List.mem_of_getElem? hx;have hat:x.at_≤1152921504606:=HA.out x hxm;have hle:=HK.out.len x hxm;have hen:=HK.out.count x hxm;have Dl:=HK.out.key x hxm;have wE:Hid (x.at_=bK (l.take i)):=aa (HK.place i x hx);have HS:=aa s;have HX:=aa hx;have jv:Hid (ln=x.last.length):=aa s.parts.2.2.1;obtain⟨x6,hx6⟩:∃x6,x6=wr.heap.size:=⟨_,rfl⟩;subst DL;clear hx hxm s;go_upto_region 7 with fail
   obtain⟨w3,hw3⟩:∃W,W=wr.alloc (.cells #[.slice L ln lc,.int .i64 x.at_,.int .i64 x.len,.int .i64 x.ents] 146):=⟨_,rfl⟩;rw [←hw3,←hx6];have HB3:Hid (Below wr.heap.size wr w3):=aa (by rw [hw3];exact(Below.refl _ _).alloc (Nat.le_refl _) _);have jw:Hid (ai w3 x6 146 #[.slice L ln lc,.int .i64 x.at_,.int .i64 x.len,.int .i64 x.ents]):=aa (by rw [hw3,hx6];exact ai.new _ _ _);have Zg:Hid (ai w3 x4 299 gJ):=aa (RI.below HB3);have HW3:Hid (Below w.heap.size w w3):=aa (HB.out.trans (HB3.mono HB.size));have y0:w3.cell? ⟨x6,0,none⟩=some (.slice L ln lc):=jw.out.cell 0;have Np:Hid (∀w',Calls prog 93 #[.slice L ln lc] w' fun e w2=>e= .returned (.int .i64 0)∧w'=w2):=aa (fun w'=>by have h9:=Fz L ln lc x.last jv w';rw [FB Dl.1 Dl.2] at h9;exact h9)
   have HAS:Hid (∀y,(l.take i)[i-1]? =some y→compareBytes y.last x.last<0):=aa (fun y hy=>by
    have h1:=(List.getElem?_eq_some_iff.mp hy).1;rw [List.length_take] at h1;rw [List.getElem?_take_of_lt (by omega)] at hy;exact HK.rise (i-1) y x hy (by rw [show i-1+1=i by omega];exact HX))
   obtain⟨A',hcut,hsp⟩:=Le (HH.below HW3) hi hnc;have HAB:Hid (∀k,Calls prog 168 #[.slice A' i c,.slice L ln lc] (w3.drewN k) fun e w'=>e= .returned (.bool true)∧(w3.drewN k)=w'):=aa (fun k=>DI F F A' L i c ln lc (l.take i) x.last (w3.drewN k) (hsp.drewN k) ((HS.below HB3).chg ((ag.refl Nil w3).drewN k) (fun _ _ h=>h)) (by omega) HAS);have dN:Hid (∀nq,Below w.heap.size w (w3.drewN nq)):=aa (fun nq=>below_drewN HW3 nq);clear hw3 hx6 c0 c1 c2 c3 Dl hsp;go_quiet (first|(go_at_call 93;exact dZ (Np _))|(go_at_call 168;exact dZ (HAB _)));have lH:Hid (ai (w3.drewN nq) x6 146 #[.slice L ln lc,.int .i64 x.at_,.int .i64 x.len,.int .i64 x.ents]):=aa (jw.drewN nq);have Bh:Hid (Below w.heap.size w (w3.drewN nq)):=aa (below_drewN HW3 nq);have uQ:Hid (ai (w3.drewN nq) x4 299 gJ):=aa (Zg.drewN nq);obtain⟨w4,hw4⟩:∃W,W=w3.drewN nq:=⟨_,rfl⟩;rw [←hw4] at lH Bh uQ⊢;clear hw4 y0;have v0:w4.cell? ⟨x4,0,none⟩=some (.func (.func 176) #[] #[]):=uQ.out.cell 0;have v1:w4.cell? ⟨x4,1,none⟩=some (.func (.func 177) #[] #[]):=uQ.out.cell 1;have v2:w4.cell? ⟨x4,2,none⟩=some (.int .i64 73):=uQ.out.cell 2;have v3:w4.cell? ⟨x4,3,none⟩=some (.func (.func 178) #[] #[]):=uQ.out.cell 3;have v4:w4.cell? ⟨x4,4,none⟩=some (.func (.func 179) #[] #[]):=uQ.out.cell 4;have v5:w4.cell? ⟨x4,5,none⟩=some (.int .i64 74):=uQ.out.cell 5;have v6:w4.cell? ⟨x4,6,none⟩=some (.func (.func 180) #[] #[]):=uQ.out.cell 6;have v7:w4.cell? ⟨x4,7,none⟩=some (.func (.func 181) #[] #[]):=uQ.out.cell 7;have v8:w4.cell? ⟨x4,8,none⟩=some (.int .i64 75):=uQ.out.cell 8;go_upto_region 10 with fail
   have hrc:(#[.func (.func 176) #[] #[],.func (.func 177) #[] #[],.int .i64 73,.func (.func 178) #[] #[],.func (.func 179) #[] #[],.int .i64 74,.func (.func 180) #[] #[],.func (.func 181) #[] #[],.int .i64 75]:Array Value)=gJ:=rfl;rw [hrc];clear hrc v0 v1 v2 v3 v4 v5 v6 v7 v8
   go_loopw [36] (fun kv wz=>∃k:Nat,k≤3∧kv= .int .i64 k∧Hid (Below w.heap.size w wz)∧Hid (ai wz x4 299 gJ)∧Hid (ai wz x6 146 #[.slice L ln lc,.int .i64 x.at_,.int .i64 x.len,.int .i64 x.ents])) (fun kv _=>3-(intOf kv).toNat)
   case atStart=>exact⟨0,by omega,rfl,Bh,uQ,lH⟩
   case round=>
    obtain⟨k,hk,rfl,uE,XB,GR⟩:=hrel;have hk4:k=0∨k=1∨k=2∨k=3:=by omega
    rcases hk4 with rfl|rfl|rfl|rfl
    ·show Code.wp _ _ _ _ _;have Qp:=AZ;obtain⟨x8,GU⟩:∃x8,x8=wr.heap.size:=⟨_,rfl⟩;go_upto_region 12 with fail
     obtain⟨w5,jg⟩:∃W,W=wr.alloc (.cells #[.func (.func 176) #[] #[],.func (.func 177) #[] #[],.int .i64 73] 298):=⟨_,rfl⟩;rw [←jg,←GU];have hb5:Below wr.heap.size wr w5:=by rw [jg];exact(Below.refl _ _).alloc (Nat.le_refl _) _
     have fO:=aa hb5;have kw:Hid (ai w5 x8 298 #[.func (.func 176) #[] #[],.func (.func 177) #[] #[],.int .i64 73]):=aa (by rw [jg,GU];exact ai.new _ _ _);have Bi:=aa (GR.below hb5);have z0:w5.cell? ⟨x8,0,none⟩=some (.func (.func 176) #[] #[]):=kw.out.cell 0;have z1:w5.cell? ⟨x6,1,none⟩=some (.int .i64 x.at_):=Bi.out.cell 1;clear jg GU Qp hb5;go_upto_region 13 with(go_at_call 176;go_loud (refine(OH x6 _).mono ?_);rintro e w6 ⟨rfl,rfl⟩)
     refine uP F (some ⟨g,o,none⟩) n c i x.at_ x8 177 _ _ l _ _ (aa (fun _ _ _ _ h=>h)) kw (aa (HH.below (uE.out.trans (fO.mono uE.size)))) hi hnc hn (by omega) (aa (fun y hy=>⟨HA y hy,(HK.len y hy).2⟩)) (aa (fun w'=>by rw [←wE.out];exact OK x.at_ w' (by omega))) (fun args w'=>by kernel_rfl) ?_;intro v44 v45 v46 v47 v48 v49 v50 v51 v52 v53 v54 v55 v56 w6 hb6;have lg:=aa hb6;have ek:Hid (Below w.heap.size w w6):=aa ((uE.out.trans (fO.mono uE.size)).trans (hb6.mono (Nat.le_trans uE.size fO.size)));have Lf:=aa ((XB.below fO).below hb6);have Lg:=aa (Bi.below hb6);clear z0 z1 hb6;go_wp2
     go_roundw
     case rel=>exact⟨0+1,by omega,by go_num,ek,Lf,Lg⟩
     case measure=>simp [intOf]
    ·show Code.wp _ _ _ _ _;have Qp:=A9;obtain⟨x8,GU⟩:∃x8,x8=wr.heap.size:=⟨_,rfl⟩;go_upto_region 12 with fail
     obtain⟨w5,jg⟩:∃W,W=wr.alloc (.cells #[.func (.func 178) #[] #[],.func (.func 179) #[] #[],.int .i64 74] 298):=⟨_,rfl⟩;rw [←jg,←GU];have hb5:Below wr.heap.size wr w5:=by rw [jg];exact(Below.refl _ _).alloc (Nat.le_refl _) _
     have fO:=aa hb5;have kw:Hid (ai w5 x8 298 #[.func (.func 178) #[] #[],.func (.func 179) #[] #[],.int .i64 74]):=aa (by rw [jg,GU];exact ai.new _ _ _);have Bi:=aa (GR.below hb5);have z0:w5.cell? ⟨x8,0,none⟩=some (.func (.func 178) #[] #[]):=kw.out.cell 0;have z1:w5.cell? ⟨x6,2,none⟩=some (.int .i64 x.len):=Bi.out.cell 2;clear jg GU Qp hb5;go_upto_region 13 with(go_at_call 178;go_loud (refine(OI x6 _).mono ?_);rintro e w6 ⟨rfl,rfl⟩)
     refine uP F (some ⟨g,o,none⟩) n c i x.len x8 179 _ _ l _ _ (aa (fun _ _ _ _ h=>h)) kw (aa (HH.below (uE.out.trans (fO.mono uE.size)))) hi hnc hn (by omega) (aa (fun y hy=>⟨HA y hy,(HK.len y hy).2⟩)) (aa (fun w'=>OL x.len _ w' hle.1 hle.2)) (fun args w'=>by kernel_rfl) ?_;intro v44 v45 v46 v47 v48 v49 v50 v51 v52 v53 v54 v55 v56 w6 hb6;have lg:=aa hb6;have ek:Hid (Below w.heap.size w w6):=aa ((uE.out.trans (fO.mono uE.size)).trans (hb6.mono (Nat.le_trans uE.size fO.size)));have Lf:=aa ((XB.below fO).below hb6);have Lg:=aa (Bi.below hb6);clear z0 z1 hb6;go_wp2
     go_roundw
     case rel=>exact⟨1+1,by omega,by go_num,ek,Lf,Lg⟩
     case measure=>simp [intOf]
    ·show Code.wp _ _ _ _ _;have Qp:=Bg;obtain⟨x8,GU⟩:∃x8,x8=wr.heap.size:=⟨_,rfl⟩;go_upto_region 12 with fail
     obtain⟨w5,jg⟩:∃W,W=wr.alloc (.cells #[.func (.func 180) #[] #[],.func (.func 181) #[] #[],.int .i64 75] 298):=⟨_,rfl⟩;rw [←jg,←GU];have hb5:Below wr.heap.size wr w5:=by rw [jg];exact(Below.refl _ _).alloc (Nat.le_refl _) _
     have fO:=aa hb5;have kw:Hid (ai w5 x8 298 #[.func (.func 180) #[] #[],.func (.func 181) #[] #[],.int .i64 75]):=aa (by rw [jg,GU];exact ai.new _ _ _);have Bi:=aa (GR.below hb5);have z0:w5.cell? ⟨x8,0,none⟩=some (.func (.func 180) #[] #[]):=kw.out.cell 0;have z1:w5.cell? ⟨x6,3,none⟩=some (.int .i64 x.ents):=Bi.out.cell 3;clear jg GU Qp hb5;go_upto_region 13 with(go_at_call 180;go_loud (refine(OJ x6 _).mono ?_);rintro e w6 ⟨rfl,rfl⟩)
     refine uP F (some ⟨g,o,none⟩) n c i x.ents x8 181 _ _ l _ _ (aa (fun _ _ _ _ h=>h)) kw (aa (HH.below (uE.out.trans (fO.mono uE.size)))) hi hnc hn (by omega) (aa (fun y hy=>⟨HA y hy,(HK.len y hy).2⟩)) (aa (fun w'=>OM x.ents _ w' hen.1 hen.2)) (fun args w'=>by kernel_rfl) ?_;intro v44 v45 v46 v47 v48 v49 v50 v51 v52 v53 v54 v55 v56 w6 hb6;have lg:=aa hb6;have ek:Hid (Below w.heap.size w w6):=aa ((uE.out.trans (fO.mono uE.size)).trans (hb6.mono (Nat.le_trans uE.size fO.size)));have Lf:=aa ((XB.below fO).below hb6);have Lg:=aa (Bi.below hb6);clear z0 z1 hb6;go_wp2
     go_roundw
     case rel=>exact⟨2+1,by omega,by go_num,ek,Lf,Lg⟩
     case measure=>simp [intOf]
    ·go_wp2
     go_roundw
     case rel=>exact⟨i+1,by omega,by go_num,uE,XB⟩
     case measure=>simp [intOf];omega
  ·have hlt':¬((i:Int)<(n:Int)):=by omega
   go_wp2;rw [HR.out]
   exact⟨rfl,HB⟩
theorem GV (F:Nat→Prop) (A:Option Addr) (n c:Nat) (l:List Row) (w:World) (h:kz w F A n l) (hnc:n≤c) (hk:gu l) (ha:∀x∈l,x.at_≤1152921504606) (hF:∀b,F b→b<w.heap.size):
  Calls prog 127 #[.slice A n c] w (TY l w):=DD F A n c l w h (hk.few ha) hF (DK F A n c l w h hnc hk ha hF)
theorem DN (F:Nat→Prop) (A:Option Addr) (n c:Nat) (l:List Row) (w:World) (h:kz w F A n l) (hk:gu l) (ha:∀x∈l,x.at_≤1152921504606) (hF:∀b,F b→b<w.heap.size):
  Calls prog 87 #[.slice A n c] w (TY l w):=Bj F A n c l w h (hk.few ha) hF (Bl F A n c l w h hk ha hF)
end
end Go.Proofs.YtbjgeidjmhialaaGreatDoor
