/- Part 17. -/
import Derived.Test.YtepgcjbhabnciaaGreatLp16
namespace Go.Proofs.YtepgcjbhabnciaaGreat
set_option maxRecDepth 100000
set_option maxHeartbeats 8000000
open Go.Proofs.Tryz Go.RowKit
open Go.Lib (compareBytes)
variable {n c p B z q ln lc i v x8 a base hv K cc:Nat} {w w1 w2 w':World} {F G:Nat->Prop} {A L:Option Addr} {l:List Row} {s:Src}
theorem Jr (c:Nat) {key:List UInt8} (h:mF w F A n l) (r:SB w G (.slice L ln lc) key) (hn:n<=8388608) (b:∀x,l[n-1]? =some x->compareBytes x.last key<0):
  Calls prog 203 #[.slice A n c,.slice L ln lc] w fun e w'=>e= .returned true/\w=w':=by
 refine letter fun R p=> ?_;have t:=aa h;have m:=aa r;have u:=aa b;clear h r b
 by_cases s:n=0
 ·subst s;go_enter func203,ntmps203;go_wp2;rw [p.out]
  exact⟨rfl,rfl⟩
 ·obtain⟨j,C⟩:∃j,n=j+1:=⟨n-1,by omega⟩;obtain⟨g,o,M,J,mc,y,rfl,_,d,d0,d1,z,B,f⟩:=t.out.at_ (k:=j) (by omega);have i:=aa (eu mc lc f.parts.2.2.2 f.parts.2.2.1 m.parts.2.2.2 m.parts.2.2.1);have q:=u.out y (by rw [show n-1=j by omega];exact d);obtain⟨H,a⟩:=gF (compareBytes y.last key);rw [<-a] at i q;have I:((n:Int)-1)=(j:Int):=by omega
  have D:j<n:=by omega
  have K:(j:Int)<(n:Int):=by omega
  have E:((n:Int)==0)=false:=by rw [mi];omega
  have v:¬((n:Int)=0):=by omega
  clear C d d1 z B f a s;go_enter func203,ntmps203;go_wp2_with (go_at_call 56;go_loud (refine i.mono ?_);rintro e w2 ⟨rfl,rfl⟩)
  rw [p.out];exact⟨by simp,rfl⟩
theorem QT (c:Nat) (h:mF w F A n l) (hn:n<=8388608) (d:∀x∈l,x.at_<=1152921504606/\x.len<=131072):
  Calls prog 204 #[.slice A n c] w fun e w'=>e= .returned (.int .i64 (dD l:Nat))/\Below w w w':=by
 refine letter fun R m=> ?_;have p:=aa h;have i:Hid (n=l.length):=h.len;clear h
 by_cases f:n=0
 ·have b:Hid (dD l=8):=aa (by have:l= []:=List.eq_nil_of_length_eq_zero (by rw [<-i.out];exact f);rw [this];rfl);clear d;subst f;go_enter func204,ntmps204;go_wp2;rw [m.out]
  exact⟨by rw [b.out];rfl,mh⟩
 ·obtain⟨j,r⟩:∃j,n=j+1:=⟨n-1,by omega⟩;obtain⟨g,o,M,E,mc,y,rfl,_,a,d0,d1,B,C,u⟩:=p.out.at_ (k:=j) (by omega)
  have b:Hid (dD l=y.at_+y.len):=aa (by
   unfold dD;rw [List.getLast?_eq_getElem?,<-i.out,show n-1=j by omega,a])
  obtain⟨v,z⟩:=d y (nT a);have D:((n:Int)-1)=(j:Int):=by omega
  have s:j<n:=by omega
  have G:(j:Int)<(n:Int):=by omega
  have t:((n:Int)==0)=false:=by rw [mi];omega
  have q:¬((n:Int)=0):=by omega
  clear r a u f d;go_enter func204,ntmps204;go_wp2;rw [m.out]
  exact⟨by rw [b.out];simp,gV⟩
def iZ:Array Value:= #[.func (.func 211) #[] #[],.func (.func 212) #[] #[],.int .i64 73,.func (.func 213) #[] #[],.func (.func 214) #[] #[],.int .i64 74,.func (.func 215) #[] #[],.func (.func 216) #[] #[],.int .i64 75]
theorem Js (w:World):Calls prog 202 #[] w fun e w'=>e= .returned (.agg iZ)/\Below w w w':=by
 obtain⟨q,f⟩:=gF w.heap.size;obtain⟨w1,c⟩:=gF (w.alloc (.cells #[.nilFunc,.nilFunc,.int .i64 0,.nilFunc,.nilFunc,.int .i64 0,.nilFunc,.nilFunc,.int .i64 0] 321));have a:ak w1 q 321 #[.nilFunc,.nilFunc,.int .i64 0,.nilFunc,.nilFunc,.int .i64 0,.nilFunc,.nilFunc,.int .i64 0]:=by rw [c,f];exact ak.new _ _ _
 have C:=aa a;have F:Hid (Below w w w1):=aa (by rw [c];exact gV);have D:=aa f;have P:w1.cell? q=some .nilFunc:=a.cell 0;have Q:w1.cell? ⟨q,1,none⟩=some .nilFunc:=a.cell 1;have S:w1.cell? ⟨q,2,none⟩=some (.int .i64 0):=a.cell 2;have T:w1.cell? ⟨q,3,none⟩=some .nilFunc:=a.cell 3;have U:w1.cell? ⟨q,4,none⟩=some .nilFunc:=a.cell 4;have V:w1.cell? ⟨q,5,none⟩=some (.int .i64 0):=a.cell 5;have W:w1.cell? ⟨q,6,none⟩=some .nilFunc:=a.cell 6;have X:w1.cell? ⟨q,7,none⟩=some .nilFunc:=a.cell 7;have Y:w1.cell? ⟨q,8,none⟩=some (.int .i64 0):=a.cell 8;have G:=a.frozen 0;have H:=a.frozen 1;have I:=a.frozen 2;have J:=a.frozen 3;have K:=a.frozen 4;have L:=a.frozen 5;have M:=a.frozen 6;have N:=a.frozen 7;have O:=a.frozen 8;obtain⟨R,g⟩:∃R:Ending->World->Prop,R=fun e w'=>e= .returned (.agg iZ)/\Below w w w':=⟨_,rfl⟩;have E:=aa g;rw [<-g];clear g a;go_enter func202,ntmps202;go_upto_region 1 with fail
 rw [<-c];simp only [<-f];clear c f;go_wp2;have b:=(((((((((C.set_ 0 (.func (.func 211) #[] #[])).set_ 1 (.func (.func 212) #[] #[])).set_ 2 (.int .i64 73)).set_ 3 (.func (.func 213) #[] #[])).set_ 4 (.func (.func 214) #[] #[])).set_ 5 (.int .i64 74)).set_ 6 (.func (.func 215) #[] #[])).set_ 7 (.func (.func 216) #[] #[])).set_ 8 (.int .i64 75));have h:=b.cell 0;have v1:=b.cell 1;have v2:=b.cell 2;have i:=b.cell 3;have j:=b.cell 4;have k:=b.cell 5;have l:=b.cell 6;have m:=b.cell 7;have n:=b.cell 8;simp at h v1 v2 i j k l m n;refine bodyPost_ret (v:= .agg iZ) (by simp [results,results202,go_sem,iZ,h,v1,v2,i,j,k,l,m,n]) rfl ?_;rw [E.out];refine⟨rfl,?_⟩;have d:w<=q:=by rw [D.out];exact jO
 have o:=F.out;have r:=o.setCell (p:=q) d (.func (.func 211) #[] #[]);have s:=r.setCell (p:=⟨q,1,none⟩) d (.func (.func 212) #[] #[]);have t:=s.setCell (p:=⟨q,2,none⟩) d (.int .i64 73);have u:=t.setCell (p:=⟨q,3,none⟩) d (.func (.func 213) #[] #[]);have x:=u.setCell (p:=⟨q,4,none⟩) d (.func (.func 214) #[] #[]);have y:=x.setCell (p:=⟨q,5,none⟩) d (.int .i64 74);have z:=y.setCell (p:=⟨q,6,none⟩) d (.func (.func 215) #[] #[]);have A:=z.setCell (p:=⟨q,7,none⟩) d (.func (.func 216) #[] #[]);have B:=A.setCell (p:=⟨q,8,none⟩) d (.int .i64 75);exact B
theorem Nz (w:World):(sizeOf (prog.elem 97)).run prog w= .ok 4 w:=by kernel_rfl
theorem UY:prog.underlying 97=some (.slice (prog.elem 97)):=by kernel_rfl
theorem mF.take {w:World} {F:Nat->Prop} {A:Option Addr} {n:Nat} {l:List Row} (h:mF w F A n l) {k:Nat} (p:k<=n):mF w F A k (l.take k):=by
 obtain⟨g,vs,m,o⟩:=h;refine⟨by have j:n=l.length:=g;show k=_;rw [List.length_take];omega,vs.take (k*4),m.take p,fun i e a=> ?_⟩
 have hi:i<k:=by
  have:=(nE.mp a).1;rw [List.length_take] at this;omega
 rw [List.getElem?_take_of_lt hi] at a;obtain⟨u,b,c,d,f,s⟩:=o i e a
 refine⟨u,?_,?_,?_,?_,s⟩
 ·rw [List.getElem?_take_of_lt (by omega)];exact b
 ·rw [List.getElem?_take_of_lt (by omega)];exact c
 ·rw [List.getElem?_take_of_lt (by omega)];exact d
 ·rw [List.getElem?_take_of_lt (by omega)];exact f
theorem mF.cut0 (h:mF w F A n l) (j:n<=c):mF w F (if c=0 then A else A.map (·.add 0)) n l:=by
 obtain⟨b,vs,d,e⟩:=h;have a:=d.cut (k:=0) (cap:=c) (by omega) j;rw [Nat.zero_mul,List.drop_zero] at a;exact⟨b,vs,a,e⟩
theorem QU (h:mF w F A n l) (G:p<=n) (j:n<=c):
  ∃a,(∀w',(Instr.slice 97 (.slice A n c) none (some (.int .i64 p)) none).run prog w'= .ok (.slice a p c) w')/\mF w F a p (l.take p):=by
 refine⟨if c=0 then A else A.map (·.add 0),fun w'=> ?_,(h.cut0 j).take G⟩;rw [run_slice_h w' _ A n c UY .i64 p (by omega) (by omega),Nz];simp [Result.andThen,sliced]
theorem UZ (x:Nat) (w:World):Calls prog 211 #[x] w fun e w'=>e= .returned (.pointer (some ⟨x,1,none⟩))/\w=w':=by
 refine letter fun R a=> ?_;go_enter func211,ntmps211;go_wp2;rw [a.out]
 exact⟨rfl,rfl⟩
theorem U1 (x:Nat) (w:World):Calls prog 213 #[x] w fun e w'=>e= .returned (.pointer (some ⟨x,2,none⟩))/\w=w':=by
 refine letter fun R a=> ?_;go_enter func213,ntmps213;go_wp2;rw [a.out]
 exact⟨rfl,rfl⟩
theorem U2 (x:Nat) (w:World):Calls prog 215 #[x] w fun e w'=>e= .returned (.pointer (some ⟨x,3,none⟩))/\w=w':=by
 refine letter fun R a=> ?_;go_enter func215,ntmps215;go_wp2;rw [a.out]
 exact⟨rfl,rfl⟩
theorem U6 (v:Nat) (w:World) (hv:v<18446744073709551616):Calls prog 212 #[.int .u64 v,(v:Int)] w fun e w'=>e= .returned true/\w=w':=by
 refine letter fun R a=> ?_;have b:IntKind.u64.wrap (v:Int)=(v:Int):=IntWalk.u64_in _ (by omega);go_enter func212,ntmps212;go_wp2;rw [a.out]
 exact⟨by simp,rfl⟩
theorem U7 (v:Nat) (u:Value) (w:World) (d:1<=v) (f:v<=131072):Calls prog 214 #[.int .u64 v,u] w fun e w'=>e= .returned true/\w=w':=by
 refine letter fun R a=> ?_;have b:(1:Int)<=(v:Int):=by omega
 have c:(v:Int)<=131072:=by omega
 go_enter func214,ntmps214
 go_wp2;rw [a.out]
 exact⟨by simp<;>omega,rfl⟩
theorem U8 (v:Nat) (u:Value) (w:World) (d:1<=v) (f:v<=64):Calls prog 216 #[.int .u64 v,u] w fun e w'=>e= .returned true/\w=w':=by
 refine letter fun R a=> ?_;have b:(1:Int)<=(v:Int):=by omega
 have c:(v:Int)<=64:=by omega
 go_enter func216,ntmps216
 go_wp2;rw [a.out]
 exact⟨by simp<;>omega,rfl⟩
noncomputable def Bw:Code:=aQ (f186.body.bind (aF 13))
theorem yE (A:Option Addr) (s:Nat) {gv kv:Value} {u1 y B J u u7 L E O W Z U G f C I M P V d u24 z D m r T j g u32 p u34 u35 h b u38 N u40 R u42 X u44 u45 u46 dG u48 u49 H u51 dP u53 dR u55 dY q:Value} {Y:List Value} {Q:Exit->Act->World->Prop} (kF:Hid (∀c t (a:Act) w,Q (.panic c) ⟨t,a.defers⟩ w->Q (.panic c) a w))
  (HB:Hid (ak w x8 320 #[gv,.func (.func s) #[] #[],kv])) (HS:Hid (mF w F A n l)) (hi:i<=n) (hnc:n<=c) (hn:n<=8388608) (hv:v<9223372036854775808) (ha:Hid (∀x∈l,x.at_<=1152921504606/\x.len<=131072))
  (HF:Hid (∀w',Calls prog s #[.int .u64 v,.int .i64 (dD (l.take i):Nat)] w' fun e w2=>e= .returned true/\w'=w2))
  (Ud:∀args w',(callFunc s args).run prog w'= .ok (.enter s args) w')
  (au:∀(am an ao ap aq ar aw aA aE a0 a1 a2 a3:Value) (w':World),Below w w w'->Q .normal ⟨(.slice A n c::u1::y::B::J:: .int .i64 (i:Nat)::u::u7:: .pointer (some ⟨x8,0,none⟩):: .int .i64 (v:Nat)::L::E::O::W::Z::U::G::f::C::I::M::P::V::d::u24::z::D::m::r::T::j::g::u32::p::u34::u35::h::b::u38::N::u40::R::u42::X::am::an::ao::ap::aq::ar::aw::aA::aE::a0::a1::a2::a3:: .bool false::Y).toArray,[]⟩ w'):
  Code.wp prog Bw Q ⟨(.slice A n c::u1::y::B::J:: .int .i64 (i:Nat)::u::u7:: .pointer (some ⟨x8,0,none⟩):: .int .i64 (v:Nat)::L::E::O::W::Z::U::G::f::C::I::M::P::V::d::u24::z::D::m::r::T::j::g::u32::p::u34::u35::h::b::u38::N::u40::R::u42::X::u44::u45::u46::dG::u48::u49::H::u51::dP::u53::dR::u55::dY::q::Y).toArray,[]⟩ w:=by
 have dz:=aa au;obtain⟨A',hcut,ac⟩:=QU HS hi hnc;have ae:=aa ac;have o:∀w1,Below w w w1->Calls prog 204 #[.slice A' i c] w1 fun e w'=>e= .returned (.int .i64 (dD (l.take i):Nat))/\Below w1 w1 w':=fun w1 hb=>QT c (ae.below hb) (by omega) (fun x hx=>ha.out x (List.mem_of_mem_take hx));have qX:=aa o;have hw:IntKind.u64.wrap (v:Int)=(v:Int):=IntWalk.u64_in _ (by omega);have al:¬((v:Int)<0):=by omega
 have a4:decide ((v:Int)<0)=false:=decide_eq_false al;have k:w.drew.cell? ⟨x8,1,none⟩=some (.func (.func s) #[] #[]):=(HB.out.cell 1).trans rfl;clear au ac o;conv=>arg 2;whnf
 refine aO (S:=(fun w'=>w'.cell? ⟨x8,1,none⟩=some (.func (.func s) #[] #[]))) (by kernel_rfl) ?_;refine vT 0 k ?_;refine vT 1 k ?_;refine vT 2 k ?_;refine vT 3 k ?_;refine vT 5 k ?_;refine vT 7 k ?_;refine vT 8 k ?_;refine vT 9 k ?_;refine vT 4 k ?_;refine vT 6 k ?_;refine nZ 10 fun K hK=> ?_;go_simp;go_loud (refine(qX _ (mh.drew)).mono ?_);rintro e w2 ⟨rfl,ab⟩;have ad:Hid (Below w w w2):=aa (mh.drew.trans ab);have S1:w2.cell? ⟨x8,1,none⟩=some (.func (.func s) #[] #[]):=aj ab k;clear ab
 refine hK.out _ _ S1 ?_;clear hK K;try simp only [aL,aN,aZ,aC]
 refine nZ 11 fun K hK=> ?_;go_simp;go_loud (refine(HF _).mono ?_);rintro e w3 ⟨rfl,rfl⟩
 refine hK.out _ _ S1 ?_;clear hK K;try simp only [aL,aN,aZ,aC]
 refine vT 12 S1 ?_;refine vT 13 S1 ?_;refine bf (by kernel_rfl) ?_ _;exact dz _ _ _ _ _ _ _ _ _ _ _ _ _ _ ad
theorem F6 (w:World):(Instr.index 321 (.agg iZ) (.int .i64 0)).run prog w= .ok (.agg #[.func (.func 211) #[] #[],.func (.func 212) #[] #[],.int .i64 73]) w:=by kernel_rfl
theorem F7 (w:World):(Instr.index 321 (.agg iZ) (.int .i64 1)).run prog w= .ok (.agg #[.func (.func 213) #[] #[],.func (.func 214) #[] #[],.int .i64 74]) w:=by kernel_rfl
theorem F8 (w:World):(Instr.index 321 (.agg iZ) (.int .i64 2)).run prog w= .ok (.agg #[.func (.func 215) #[] #[],.func (.func 216) #[] #[],.int .i64 75]) w:=by kernel_rfl
theorem Jt (c:Nat) (h:mF w F A n l) (j:n<=c) (r:iy l) (ha:∀x∈l,x.at_<=1152921504606) (a:∀b,F b->b<w):
  Calls prog 186 #[.slice A n c] w fun e w'=>e= .returned (.tuple #[.int .i64 0,.int .i64 0])/\Below w w w':=by
 refine letter fun R HR=> ?_;have X:=aa h;have HN:Hid (n=l.length):=h.len;have N:=aa r;have HA:=aa ha;have Uc:=aa a;have hn:n<=8388608:=by have:=HN.out;have:=r.many;omega
 have be:¬((8388608:Int)<(n:Int)):=by omega
 have a7:=aa (Js w);have bh:iZ.toList= [.func (.func 211) #[] #[],.func (.func 212) #[] #[],.int .i64 73,.func (.func 213) #[] #[],.func (.func 214) #[] #[],.int .i64 74,.func (.func 215) #[] #[],.func (.func 216) #[] #[],.int .i64 75]:=rfl;clear h r ha a;go_enter func186,ntmps186;go_upto_region 4 with(go_at_call 202;go_loud (refine a7.mono ?_);rintro e w1 ⟨rfl,ab⟩;have W:=aa ab;clear ab)
 obtain⟨u,T⟩:=gF w1.heap.size;obtain⟨w2,H⟩:=gF (w1.alloc (.cells #[.func (.func 211) #[] #[],.func (.func 212) #[] #[],.int .i64 73,.func (.func 213) #[] #[],.func (.func 214) #[] #[],.int .i64 74,.func (.func 215) #[] #[],.func (.func 216) #[] #[],.int .i64 75] 321));rw [<-H,<-T];have l7:Hid (ak w2 u 321 iZ):=aa (by rw [H,T];exact ak.new _ _ _);have a6:Hid (Below w w w2):=aa (by rw [H];exact W.alloc W.size _);clear H T be bh;go_wp2
 go_loopw [16] (fun iv V=>∃i:Nat,i<=n/\iv= (i:Int)/\Hid (Below w w V)/\Hid (ak V u 321 iZ)) (fun iv _=>n-(intOf iv).toNat)
 case atStart=>exact⟨0,Nat.zero_le _,rfl,a6,l7⟩
 case round=>
  obtain⟨i,hi,rfl,HB,Y7⟩:=hrel
  by_cases ba:i<n
  ·have ae:(i:Int)<(n:Int):=by omega
   obtain⟨g,o,L,ln,lc,x,yF,Y8,hx,c0,c1,c2,c3,s⟩:=(X.out.below HB).at_ ba;have C:=nT hx;have bj:x.at_<=1152921504606:=HA.out x C;have ad:=N.out.len x C;have ac:=N.out.count x C;have Jk:=N.out.key x C;have qo:Hid (x.at_=dD (l.take i)):=aa (N.place i x hx);have HS:=aa s;have HX:=aa hx;have fq:Hid (ln=x.last.length):=aa s.parts.2.2.1;obtain⟨E,U⟩:=gF wr.heap.size;subst yF;clear hx C s;go_upto_region 7 with fail;obtain⟨v,I⟩:=gF (wr.alloc (.cells #[.slice L ln lc,.int .i64 x.at_,.int .i64 x.len,.int .i64 x.ents] 100));rw [<-I,<-U];have Q:Hid (Below wr wr v):=aa (by rw [I];exact gV);have jN:Hid (ak v E 100 #[.slice L ln lc,(x.at_:Int),(x.len:Int),(x.ents:Int)]):=aa (by rw [I,U];exact ak.new _ _ _);have a8:Hid (ak v u 321 iZ):=aa (Y7.below Q);have S:Hid (Below w w v):=aa (HB.out.trans (Q.mono HB.size));have y0:v.cell? E=some (.slice L ln lc):=jN.out.cell 0;have Ub:Hid (∀w',Calls prog 97 #[.slice L ln lc] w' fun e w2=>e= .returned (.int .i64 0)/\w'=w2):=aa (fun w'=>by have h9:=LY L ln lc x.last fq w';rw [LZ Jk.1 Jk.2] at h9;exact h9)
   have a5:Hid (∀y,(l.take i)[i-1]? =some y->compareBytes y.last x.last<0):=aa (fun y z=>by
    have h1:=(nE.mp z).1;rw [List.length_take] at h1;rw [List.getElem?_take_of_lt (by omega)] at z;exact N.rise (i-1) y x z (by rw [show i-1+1=i by omega];exact HX))
   obtain⟨A',hcut,am⟩:=QU (X.below S) hi j;have ES:Hid (∀k,Calls prog 203 #[.slice A' i c,.slice L ln lc] (v.drewN k) fun e w'=>e= .returned true/\(v.drewN k)=w'):=aa (fun k=>Jr c (am.drewN k) ((HS.below Q).chg ((ag.refl Nil v).drewN k) (fun _ _ h=>h)) (by omega) a5);have dE:Hid (∀nq,Below w w (v.drewN nq)):=aa (fun nq=>below_drewN S nq);clear I U c0 c1 c2 c3 Jk am;go_quiet (first|(go_at_call 97;exact dX (Ub _))|(go_at_call 203;exact dX (ES _)));have rH:Hid (ak (v.drewN nq) E 100 #[.slice L ln lc,(x.at_:Int),(x.len:Int),(x.ents:Int)]):=aa (jN.drewN nq);have F9:Hid (Below w w (v.drewN nq)):=aa (below_drewN S nq);have D:Hid (ak (v.drewN nq) u 321 iZ):=aa (a8.drewN nq);obtain⟨J,an⟩:=gF (v.drewN nq);rw [<-an] at rH F9 D|-;clear an y0;have v0:J.cell? u=some (.func (.func 211) #[] #[]):=D.out.cell 0;have v1:J.cell? ⟨u,1,none⟩=some (.func (.func 212) #[] #[]):=D.out.cell 1;have v2:J.cell? ⟨u,2,none⟩=some (.int .i64 73):=D.out.cell 2;have v3:J.cell? ⟨u,3,none⟩=some (.func (.func 213) #[] #[]):=D.out.cell 3;have v4:J.cell? ⟨u,4,none⟩=some (.func (.func 214) #[] #[]):=D.out.cell 4;have v5:J.cell? ⟨u,5,none⟩=some (.int .i64 74):=D.out.cell 5;have v6:J.cell? ⟨u,6,none⟩=some (.func (.func 215) #[] #[]):=D.out.cell 6;have v7:J.cell? ⟨u,7,none⟩=some (.func (.func 216) #[] #[]):=D.out.cell 7;have v8:J.cell? ⟨u,8,none⟩=some (.int .i64 75):=D.out.cell 8;go_upto_region 10 with fail;have al:(#[.func (.func 211) #[] #[],.func (.func 212) #[] #[],.int .i64 73,.func (.func 213) #[] #[],.func (.func 214) #[] #[],.int .i64 74,.func (.func 215) #[] #[],.func (.func 216) #[] #[],.int .i64 75]:Array Value)=iZ:=rfl;rw [al];clear al v0 v1 v2 v3 v4 v5 v6 v7 v8
   go_loopw [36] (fun kv V=>∃k:Nat,k<=3/\kv= (k:Int)/\Hid (Below w w V)/\Hid (ak V u 321 iZ)/\Hid (ak V E 100 #[.slice L ln lc,(x.at_:Int),(x.len:Int),(x.ents:Int)])) (fun kv _=>3-(intOf kv).toNat)
   case atStart=>exact⟨0,by omega,rfl,F9,D,rH⟩
   case round=>
    obtain⟨k,r,rfl,m,G,U9⟩:=hrel;have a9:k=0\/k=1\/k=2\/k=3:=by omega
    rcases a9 with rfl|rfl|rfl|rfl
    ·show Code.wp _ _ _ _ _;have Y:=F6;obtain⟨P,B⟩:=gF wr.heap.size;go_upto_region 12 with fail
     obtain⟨t,q⟩:=gF (wr.alloc (.cells #[.func (.func 211) #[] #[],.func (.func 212) #[] #[],.int .i64 73] 320));rw [<-q,<-B];have f:Below wr wr t:=by rw [q];exact gV
     have p:=aa f;have K:Hid (ak t P 320 #[.func (.func 211) #[] #[],.func (.func 212) #[] #[],.int .i64 73]):=aa (by rw [q,B];exact ak.new _ _ _);have M:=aa (U9.below f);have z0:t.cell? P=some (.func (.func 211) #[] #[]):=K.out.cell 0;have z1:t.cell? ⟨E,1,none⟩=some (.int .i64 x.at_):=M.out.cell 1;clear q B Y f;go_upto_region 13 with(go_at_call 211;go_loud (refine(UZ E _).mono ?_);rintro e O ⟨rfl,rfl⟩)
     refine yE (some ⟨g,o,none⟩) 212 (aa (fun _ _ _ _ h=>h)) K (aa (X.below (m.out.trans (p.mono m.size)))) hi j hn (by omega) (aa (fun y z=>⟨HA y z,(N.len y z).2⟩)) (aa (fun w'=>by rw [<-qo.out];exact U6 x.at_ w' (by omega))) (fun args w'=>by kernel_rfl) ?_;intro ao ap aq ar au aw aA aE a0 a1 a2 a3 a4 O d;have gG:=aa d;have dW:Hid (Below w w O):=aa ((m.out.trans (p.mono m.size)).trans (d.mono (ma m.size p.size)));have Z:=aa ((G.below p).below d);have QY:=aa (M.below d);clear z0 z1 d;go_wp2
     go_roundw
     case rel=>exact⟨0+1,by omega,by go_num,dW,Z,QY⟩
     case measure=>simp [intOf]
    ·show Code.wp _ _ _ _ _;have Y:=F7;obtain⟨P,B⟩:=gF wr.heap.size;go_upto_region 12 with fail
     obtain⟨t,q⟩:=gF (wr.alloc (.cells #[.func (.func 213) #[] #[],.func (.func 214) #[] #[],.int .i64 74] 320));rw [<-q,<-B];have f:Below wr wr t:=by rw [q];exact gV
     have p:=aa f;have K:Hid (ak t P 320 #[.func (.func 213) #[] #[],.func (.func 214) #[] #[],.int .i64 74]):=aa (by rw [q,B];exact ak.new _ _ _);have M:=aa (U9.below f);have z0:t.cell? P=some (.func (.func 213) #[] #[]):=K.out.cell 0;have z1:t.cell? ⟨E,2,none⟩=some (.int .i64 x.len):=M.out.cell 2;clear q B Y f;go_upto_region 13 with(go_at_call 213;go_loud (refine(U1 E _).mono ?_);rintro e O ⟨rfl,rfl⟩)
     refine yE (some ⟨g,o,none⟩) 214 (aa (fun _ _ _ _ h=>h)) K (aa (X.below (m.out.trans (p.mono m.size)))) hi j hn (by omega) (aa (fun y z=>⟨HA y z,(N.len y z).2⟩)) (aa (fun w'=>U7 x.len _ w' ad.1 ad.2)) (fun args w'=>by kernel_rfl) ?_;intro ao ap aq ar au aw aA aE a0 a1 a2 a3 a4 O d;have gG:=aa d;have dW:Hid (Below w w O):=aa ((m.out.trans (p.mono m.size)).trans (d.mono (ma m.size p.size)));have Z:=aa ((G.below p).below d);have QY:=aa (M.below d);clear z0 z1 d;go_wp2
     go_roundw
     case rel=>exact⟨1+1,by omega,by go_num,dW,Z,QY⟩
     case measure=>simp [intOf]
    ·show Code.wp _ _ _ _ _;have Y:=F8;obtain⟨P,B⟩:=gF wr.heap.size;go_upto_region 12 with fail
     obtain⟨t,q⟩:=gF (wr.alloc (.cells #[.func (.func 215) #[] #[],.func (.func 216) #[] #[],.int .i64 75] 320));rw [<-q,<-B];have f:Below wr wr t:=by rw [q];exact gV
     have p:=aa f;have K:Hid (ak t P 320 #[.func (.func 215) #[] #[],.func (.func 216) #[] #[],.int .i64 75]):=aa (by rw [q,B];exact ak.new _ _ _);have M:=aa (U9.below f);have z0:t.cell? P=some (.func (.func 215) #[] #[]):=K.out.cell 0;have z1:t.cell? ⟨E,3,none⟩=some (.int .i64 x.ents):=M.out.cell 3;clear q B Y f;go_upto_region 13 with(go_at_call 215;go_loud (refine(U2 E _).mono ?_);rintro e O ⟨rfl,rfl⟩)
     refine yE (some ⟨g,o,none⟩) 216 (aa (fun _ _ _ _ h=>h)) K (aa (X.below (m.out.trans (p.mono m.size)))) hi j hn (by omega) (aa (fun y z=>⟨HA y z,(N.len y z).2⟩)) (aa (fun w'=>U8 x.ents _ w' ac.1 ac.2)) (fun args w'=>by kernel_rfl) ?_;intro ao ap aq ar au aw aA aE a0 a1 a2 a3 a4 O d;have gG:=aa d;have dW:Hid (Below w w O):=aa ((m.out.trans (p.mono m.size)).trans (d.mono (ma m.size p.size)));have Z:=aa ((G.below p).below d);have QY:=aa (M.below d);clear z0 z1 d;go_wp2
     go_roundw
     case rel=>exact⟨2+1,by omega,by go_num,dW,Z,QY⟩
     case measure=>simp [intOf]
    ·go_wp2
     go_roundw
     case rel=>exact⟨i+1,by omega,by go_num,m,G⟩
     case measure=>simp [intOf];omega
  ·have ae:¬((i:Int)<(n:Int)):=by omega
   go_wp2;rw [HR.out]
   exact⟨rfl,HB⟩
theorem NA (c:Nat) (h:mF w F A n l) (j:n<=c) (r:iy l) (d:∀x∈l,x.at_<=1152921504606) (a:∀b,F b->b<w):
  Calls prog 162 #[.slice A n c] w (si l w):=Jp c h (r.few d) a (Jt c h j r d a)
theorem yH (c:Nat) (h:mF w F A n l) (r:iy l) (d:∀x∈l,x.at_<=1152921504606) (a:∀b,F b->b<w):
  Calls prog 64 #[.slice A n c] w (si l w):=Gb c h (r.few d) a (Gc c h r d a)
theorem kL (h:ag (Cs q p w) w w1) (k:ag (Cs q p w1) w1 w2):ag (Cs q p w) w w2:=
 h.trans k (fun b a e=>by rcases e with e|e|e;exact .inl e;exact .inr (.inl e);exact .inr (.inr (ma h.size e)))
theorem p9 (h:ag (Cs q p w) w w1) (k:Below w1 w1 w2):ag (Cs q p w) w w2:=h.then k
structure Zs (z q p B:Nat):Prop where
 zq:z≠q
 zp:z≠p
 lt:z<B
theorem Zs.no (h:Zs z q p B):¬Cs q p B z:=fun e=>by rcases e with e|e|e;exact h.zq e;exact h.zp e;have:=h.lt;omega
theorem Zs.up (h:Zs z q p B) (b:B<=a):Zs z q p a:=⟨h.zq,h.zp,mU h.lt b⟩
theorem Ii {v:Value} {bs:List UInt8} (h:Ow w1 base v bs) (a:Sit F q p base) (k:ag (Cs q p w1) w1 w2):Ow w2 base v bs:=
 h.chg k (fun g b e=>by
  obtain⟨c,d⟩:=ah h g b;have f:=a.pB;have i:=a.qB
  rcases e with e|e|e
  ·omega
  ·omega
  ·omega)
theorem ig.nil (h:ig w F q s) (hc:ag Nil w w'):ig w' F q s:=h.chg hc (fun h=>h) (fun _ _ h=>h)
theorem ig.own (h:ig w F q s) (hc:ag (fun b=>b=z) w w') (a:z≠q) (c:¬F z):ig w' F q s:=h.chg hc (fun e=>a e.symm) (fun b d e=>c ((show b=z from e)▸d))
def TT (F:Nat->Prop) (z q p:Nat) (v2:Value) (A:Option Addr) (n cc:Nat) (x:dM) (w:World) (a:Ending) (w':World):Prop:=
 ig w' F p x.cur.src/\a= .returned (.tuple #[(),false])/\ak w' z 140 #[q,.func (.func 135) #[z] #[],v2,.slice A n cc,(x.err:Int),(x.bad:Int)]/\ag (fun b=>b=z\/Cs q p w b) w w'
theorem Li (n:Nat):1<=(aP n).length:=by
 unfold aP;split<;>simp
theorem zN (h:qp l):1<=(aJ l).length/\(aJ l).length<=872415300:=by
 have a:=xS h.bytes l.length;rw [List.take_length] at a;have b:=mW h.ents l.length;rw [List.take_length] at b;have f:=h.many;have c:=aV (n:=l.length) (by omega);have d:=aV (n:=bK l) (by omega);have e:=Li l.length;unfold aJ;simp only [mq];omega
theorem Pn (G:Nat->Prop) (at_:Nat) {v1 v2:Value} {r:dM} {c:ay} (s:Sit F q p w) (zs:Zs z q p w) (CU:¬F z)
  (O:ak w z 140 #[q,v1,v2,.slice A n cc,(r.err:Int),(r.bad:Int)]) (hr:mF w G A n r.rows) (hG:∀b,G b->b<w) (ch:n<=cc) (a1:iy r.rows) (a0:∀x∈r.rows,x.at_<=1152921504606)
  (h:oU w F q p c hv) (Q:c.Ok K) (t:c.held=none) (hK:K<=1152921504606846976) (cd:at_<9223372036854775808):
  Calls prog 138 #[z,(at_:Int)] w (TT F z q p v2 A n cc (r.footR c at_) w):=by
 refine letter fun R L=> ?_;have HS:=aa s;have V:=aa zs;have HB:=aa O;have HI:=aa h;have jE:=aa (zN (a1.few a0));have Ze:=aa (NA cc hr ch a1 a0 hG);have co:w.cell? z=some (q:Value):=O.cell 0;have cp:w.cell? ⟨z,3,none⟩=some (.slice A n cc):=O.cell 3;obtain⟨fb,Uk⟩:=gF (aJ r.rows);obtain⟨N,hN⟩:=gF c.number;obtain⟨D,hD⟩:=gF (N.2.2.body fb.length);obtain⟨T,hT⟩:=gF (D.cur.bytes 12);obtain⟨E,hE⟩:=gF T.2.2.end_
 have m:Hid (r.footR c at_=if N.2.1≠0 then r.fail N.2.2 N.2.1 c.at_ else if N.1≠fb.length then r.fail N.2.2 84 c.at_ else if D.err≠0 then r.fail D.cur D.err D.place
  else if comm D.body fb<fb.length then r.fail D.cur 84 (N.2.2.at_+comm D.body fb) else if T.2.1≠0 then r.fail T.2.2 T.2.1 D.cur.at_ else if T.1≠dV at_ then r.fail T.2.2 85 D.cur.at_
  else if E.2.1≠0 then r.fail E.2.2 E.2.1 T.2.2.at_ else if E.1=false then r.fail E.2.2 86 T.2.2.at_ else{r with cur:=E.2.2,st:=2}):=aa (by subst hE;subst hT;subst hD;subst hN;subst Uk;rfl)
 have TC:=ay.number_ok Q;rw [<-hN] at TC;have oQ:=aa TC;have TE:=aa hN;have b9:=aa Q;have a7:=aa hD;have Tc:=aa hT;have NK:=aa hE;have TD:=ay.number_step Q t;rw [<-hN] at TD;have ad:=aa TD;rw [<-Uk] at jE;have b7:=aa Uk
 have d:Hid (∀(x:dM) (cu:ay) (e:Int) (a:Nat) (wk:World) (en:Ending) (w':World),ig wk F p cu.src->r.footR c at_=r.fail cu e a->ag (Cs q p w) w wk->MO z q v2 (.slice A n cc) e a wk en w'->TT F z q p v2 A n cc (r.footR c at_) w en w'):=aa (fun x cu e a wk en w' hs hx hc hf=>by
  rw [hx];exact⟨hs.own hf.2.2 zs.zp CU,hf.1,hf.2.1,(hc.mono (fun b _ O=> .inr O)).trans hf.2.2 (fun b O e=> .inl e)⟩)
 have AQ:=aa CU;clear s zs CU O h Q Uk hN hD hT hE hr a1 a0 hG TC TD;go_enter func138,ntmps138;go_upto_region 2 with(go_at_call 162;go_loud (refine Ze.mono ?_);rintro e w1 ⟨vB,rfl,j,X⟩;rw [<-b7.out] at j;have HO:=aa j;have C:=aa X;clear j X)
 obtain⟨fA,fn,fc,rfl,_,_,bp,_⟩:=HO.out.sb;have U:=aa bp;have kV:Hid (ag (Cs q p w) w w1):=aa (ag.of_below C);have a4:=aa (HB.below C);have a8:Hid (oU w1 F q p c hv):=aa (HI.chg (S:=Nil) (ag.of_below C) (fun h=>h) (fun h=>h) (fun _ _ h=>h));have ca:w1.cell? z=some (q:Value):=a4.out.cell 0;have bk:w1.cell? q=some (.int .i64 c.at_):=a8.out.blk.cell 0;have bX:=aa (jK (c.at_:Nat) bk);have Ca:=aa (yM (HS.up C.size) a8 b9 hK);clear co cp bp;go_upto_region 3 with(go_at_call 136;go_loud (refine bX.mono ?_);rintro e w2 ⟨rfl,rfl⟩);go_upto_region 4 with(go_at_call 139;go_loud (refine Ca.mono ?_);rintro e w2 ⟨cF,rfl,H,y⟩;rw [<-TE.out] at H|-;have J:=aa H;have bz:=aa (kL kV y);have TB:=aa y;clear H y)
 have I:=aa (a4.chg TB (V.up C.size).no);have iG:=aa (Ii HO HS TB);obtain⟨e1,aq⟩:=gF N.2.1;rw [<-aq] at m oQ ad|-;have wO:=aa aq;clear ca bk aq
 by_cases M:e1=0
 ·subst M;obtain⟨Y,aE⟩:=gF N.1;rw [<-aE] at m|-;have Ca:=aa aE;have cD:IntKind.u64.wrap (fn:Int)=(fn:Int):=IntWalk.u64_in _ (by have W:=jE.out;rw [<-U.out] at W;omega);clear aE
  by_cases h2:Y=fn
  ·subst h2;have Ul:=aa m;have ba:1<=Y:=by have W:=jE.out;rw [<-U.out] at W;omega
   have be:Y<=872415300:=by have W:=jE.out;rw [<-U.out] at W;omega
   have bh:w2.cell? z=some (q:Value):=I.out.cell 0;have bm:w2.cell? q=some (.int .i64 N.2.2.at_):=J.out.blk.cell 0;have a2:w.heap.size<=w2:=bz.out.size;have b0:=aa (jK (N.2.2.at_:Nat) bm);have yT:=aa (CZ Y (HS.up a2) bh (V.up a2).lt V.zq V.zp J oQ.1 ad.1 hK (by omega) (by omega));have Z:=ay.body_ok oQ.1 ad.1 Y (by omega);rw [U.out,<-a7.out] at Z;have Up:=aa Z;clear Z;go_upto_region 9 with(go_at_call 136;go_loud (refine b0.mono ?_);rintro e w3 ⟨rfl,rfl⟩)
   go_upto_region 10 with(go_at_call 140;go_loud (refine yT.mono ?_);rintro e w3 ⟨vD,cj,rfl,j,H,y⟩;rw [U.out,<-a7.out] at j H|-;have qN:=aa j;have ae:=aa H;have fu:=aa (kL bz y);have zO:=aa y;clear j H y)
   have a5:=aa (I.chg zO (V.up a2).no);have Po:=aa (Ii iG HS zO);obtain⟨ln,aw⟩:=gF fb.length;rw [U.out] at ba be m;rw [U.out] at Po;rw [<-aw] at m ba be Po Up|-;have fq:=aa aw;obtain⟨eD,ar⟩:=gF D.err;rw [<-ar] at m qN|-;have FF:=aa ar;clear bh bm ar aw
   by_cases h3:eD=0
   ·subst h3;obtain⟨dA,dn,dc,rfl,_,_,ao,ap⟩:=(qN.out rfl).sb;obtain⟨_,_,_,bx⟩:=Po.out.sb.parts;have an:dn=ln:=by rw [ao];exact Up.len FF.out.symm
    have lm:Hid (ln=D.body.length):=aa (by rw [<-an];exact ao);rw [an] at ap|-;have b6:=aa ap;have qW:Hid (Rd w3 (From w) 1 fA ln (aI fb)):=aa bx;clear an ao ap bx;go_upto_region 12 with fail
    go_wp2
    go_loopw [86] (fun iv wz=>∃i:Nat,i<=ln/\iv= (i:Int)/\Hid (∀k,k<i->D.body[k]? =fb[k]?)/\Hid (ag Nil w3 wz)) (fun iv _=>ln-(intOf iv).toNat)
    case atStart=>exact⟨0,Nat.zero_le _,rfl,aa (fun k hk=>absurd hk (by omega)),aa (ag.refl Nil w3)⟩
    case round=>
     obtain⟨i,hi,rfl,oP,KI⟩:=hrel;have ab:=aa (a5.chg KI (fun h=>h));have ac:Hid (ag (Cs q p w) w wr):=aa (fu.out.trans KI (fun _ _ h=>h.elim))
     by_cases aA:i<ln
     ·have bF:(i:Int)<(ln:Int):=by omega
      obtain⟨b1,o1,u1,rfl,_,bN,ck⟩:=((b6).chg KI (fun _ _ h=>h)).at_ aA;obtain⟨b2,o2,u2,rfl,_,bP,cl⟩:=((qW).chg KI (fun _ _ h=>h)).at_ aA;obtain⟨x1,bT,rfl⟩:=eO bN;obtain⟨x2,bU,rfl⟩:=eO bP;have oO:=aa bT;have nV:=aa bU;unfold bv at ck cl;clear bN bP bT bU;go_upto_region 15 with fail;go_quiet (fail)
      by_cases zJ:x1=x2
      ·subst zJ;go_wp2
       go_roundw
       case rel=>
        refine⟨i+1,by omega,by go_num,aa (fun k hk=> ?_),aa (KI.drewN nq)⟩
        by_cases cg:k=i
        ·rw [cg,oO.out,nV.out]
        ·exact oP k (by omega)
       case measure=>simp [intOf];omega
      ·have cn:¬((x1.toNat:Int)=(x2.toNat:Int)):=fun e=>zJ (UInt8.toNat_inj.mp (by omega));have ct:((x1.toNat:Int)==(x2.toNat:Int))=false:=by rw [mi];exact cn
       have l:Hid (i=comm D.body fb):=aa (jF _ _ i oP (by have M:=lm.out;omega) (by have M:=fq.out;omega) (.inr (.inr (by rw [oO.out,nV.out];intro e;exact zJ (Option.some.inj e)))));have Ny:Hid (comm D.body fb<ln):=aa (by rw [<-l.out];exact aA)
       have cE:IntKind.i64.wrap ((N.2.2.at_:Int)+(i:Int))=((N.2.2.at_+i:Nat):Int):=by
        rw [IntWalk.i64_in _ (by have M:=oQ.out.1.sum;omega)];omega
       clear zJ;have b4:=aa (ab.drewN nq);have b5:=aa (ac.drewN nq);go_wp2_with (go_at_call 91;go_loud (refine(bS 84 ((N.2.2.at_+i:Nat)) b4).mono ?_);rintro e9 B ⟨rfl,f,g⟩;have u:=aa f;have v:=aa g;clear f g);rw [L.out]
       exact d r D.cur 84 ((N.2.2.at_+i:Nat)) (wr.drewN nq) _ B (ae.src.nil (KI.drewN nq)) (by rw [m.out,if_neg (by simp),if_neg (by simp),if_neg (by simp),if_pos Ny.out,<-l.out]) b5 ⟨rfl,u,v⟩
     ·have bF:¬((i:Int)<(ln:Int)):=by omega
      have cf:i=ln:=by omega
      have l:Hid (¬comm D.body fb<ln):=aa (by
       have W:=jF D.body fb i oP (by have M:=lm.out;omega) (by have M:=fq.out;omega) (.inl (by have M:=lm.out;omega));omega)
      have a9:Hid (oU wr F q p D.cur cj):=aa (ae.chg KI (fun h=>h) (fun h=>h) (fun _ _ h=>h));have cq:wr.cell? z=some (q:Value):=ab.out.cell 0;have bo:wr.cell? q=some (.int .i64 D.cur.at_):=a9.out.blk.cell 0;have AF:w.heap.size<=wr:=ac.out.size;have b3:=aa (jK (D.cur.at_:Nat) bo);have rQ:=aa (mY 12 (HS.up AF) a9 Up.ok hK (by omega) (by omega));clear cf;go_upto_region 19 with(go_at_call 136;go_loud (refine b3.mono ?_);rintro e w4 ⟨rfl,rfl⟩)
      go_upto_region 20 with(go_at_call 90;go_loud (refine rQ.mono ?_);rintro e w4 ⟨vT,bQ,rfl,j,H,y⟩;rw [<-Tc.out] at j H|-;have jM:=aa j;have al:=aa H;have gK:=aa (kL ac y);have wL:=aa y;clear j H y)
      have dE:=aa (ab.chg wL (V.up AF).no);obtain⟨eT,au⟩:=gF T.2.1;rw [<-au] at m jM|-;have cr:=aa au;clear cq bo au
      by_cases h5:eT=0
      ·subst h5;obtain⟨tA,tn,tc,rfl,_,_,bI,bL⟩:=(jM.out rfl).sb;have LW:=aa bI;have b8:=aa bL;have bG:w.heap.size<=w4:=gK.out.size;have Dw:=aa (Pp at_ w4 cd);have PE:Hid (T.2.2.Ok K/\T.2.2.held=none):=aa ⟨by rw [Tc.out];exact ay.bytes_ok Up.ok 12,by rw [Tc.out];exact ay.bytes_held Up.ok 12 Up.held⟩;clear bI bL;obtain⟨bt,am⟩:∃b:Bool,b=decide (T.1=dV at_):=⟨_,rfl⟩;have a6:=aa am
       have HQ:Hid (∀o A2 n2 c2,Below w4 w4 o->Ow o w4 (.slice A2 n2 c2) (dV at_)->Calls prog 163 #[.slice tA tn tc,.slice A2 n2 c2] o fun e w'=>e= .returned bt/\o=w'):=aa (fun o A2 n2 c2 ce ci=>by
        obtain⟨_,_,h7,h8⟩:=ci.sb.parts;have W:=Pq tc c2 (b8.below ce) LW h8 h7;rw [am];exact W)
       clear am
       cases bt with
       |false=>
        have iq:Hid (T.1≠dV at_):=aa (of_decide_eq_false a6.out.symm);go_upto_region 23 with(first|(go_at_call 164;go_loud (refine Dw.mono ?_);rintro e o ⟨vU,rfl,j,X⟩;obtain⟨uA,un,uc,rfl,-,-,-,-⟩:=j.sb;have pq:=aa j;have P:=aa X;clear j X)|(go_at_call 163;go_loud (refine(HQ o _ _ _ P pq).mono ?_);rintro e w6 ⟨rfl,rfl⟩))
        have AR:Hid (oU o F q p T.2.2 bQ):=aa (al.chg (S:=Nil) (ag.of_below P) (fun h=>h) (fun h=>h) (fun _ _ h=>h));have eF:=aa (dE.below P);have ed:=aa (p9 gK P);have a3:w.heap.size<=o:=ed.out.size;clear bG;go_wp2_with (go_at_call 91;go_loud (refine(bS 85 (D.cur.at_:Nat) eF).mono ?_);rintro e9 B ⟨rfl,f,g⟩;have u:=aa f;have v:=aa g;clear f g);rw [L.out]
        exact d r T.2.2 85 (D.cur.at_:Nat) o _ B AR.src (by rw [m.out,if_neg (by simp),if_neg (by simp),if_neg (by simp),if_neg l.out,if_neg (by simp),if_pos iq.out]) ed ⟨rfl,u,v⟩
       |true=>
        have iq:Hid (¬T.1≠dV at_):=aa (fun h=>h (of_decide_eq_true a6.out.symm));go_upto_region 24 with(first|(go_at_call 164;go_loud (refine Dw.mono ?_);rintro e o ⟨vU,rfl,j,X⟩;obtain⟨uA,un,uc,rfl,-,-,-,-⟩:=j.sb;have pq:=aa j;have P:=aa X;clear j X)|(go_at_call 163;go_loud (refine(HQ o _ _ _ P pq).mono ?_);rintro e w6 ⟨rfl,rfl⟩))
        have AR:Hid (oU o F q p T.2.2 bQ):=aa (al.chg (S:=Nil) (ag.of_below P) (fun h=>h) (fun h=>h) (fun _ _ h=>h));have eF:=aa (dE.below P);have ed:=aa (p9 gK P);have a3:w.heap.size<=o:=ed.out.size;clear bG;have Tk:o.cell? z=some (q:Value):=eF.out.cell 0;have lF:o.cell? q=some (.int .i64 T.2.2.at_):=AR.out.blk.cell 0;have UV:=aa (jK (T.2.2.at_:Nat) lF);have qX:=aa (Vm (HS.up a3) AR PE.1 PE.2 hK);go_upto_region 25 with(go_at_call 136;go_loud (refine UV.mono ?_);rintro e w6 ⟨rfl,rfl⟩)
        go_upto_region 26 with(go_at_call 165;go_loud (refine qX.mono ?_);rintro e w6 ⟨rfl,hS,y⟩;rw [<-NK.out] at hS|-;have Nu:=aa hS;have eY:=aa (kL ed y);have cb:=aa y;clear y hS)
        have gG:=aa (eF.chg cb (V.up a3).no);obtain⟨eE,Yr⟩:=gF E.2.1;obtain⟨bE,bj⟩:=gF E.1;rw [<-Yr,<-bj] at m|-;clear Tk lF Yr bj
        by_cases h7:eE=0
        ·subst h7
         cases bE with
         |false=>
          go_wp2_with (go_at_call 91;go_loud (refine(bS 86 (T.2.2.at_:Nat) gG).mono ?_);rintro e9 B ⟨rfl,f,g⟩;have u:=aa f;have v:=aa g;clear f g)
          rw [L.out]
          exact d r E.2.2 86 (T.2.2.at_:Nat) w6 _ B Nu (by rw [m.out,if_neg (by simp),if_neg (by simp),if_neg (by simp),if_neg l.out,if_neg (by simp),if_neg iq.out,if_neg (by simp),if_pos (by simp)]) eY ⟨rfl,u,v⟩
         |true=>
          have z1:w6.cell? ⟨z,1,none⟩=some v1:=gG.out.cell 1;have xP:=gG.out.frozen 1;go_wp2;rw [L.out];unfold TT;rw [m.out,if_neg (by simp),if_neg (by simp),if_neg (by simp),if_neg l.out,if_neg (by simp),if_neg iq.out,if_neg (by simp),if_neg (by simp)]
          exact⟨Nu.own ((ag.refl (fun b=>b=z) w6).setCell (p:=⟨z,1,none⟩) (fun _=>rfl) _) V.zp AQ,rfl,gG.set_ 1 _,(eY.mono (fun b _ O=> .inr O)).setCell (p:=⟨z,1,none⟩) (fun _=> .inl rfl) _⟩
        ·have cC:(eE==0)=false:=by rw [mi];exact h7
         have H7:=aa h7;go_wp2_with (go_at_call 91;go_loud (refine(bS eE (T.2.2.at_:Nat) gG).mono ?_);rintro e9 B ⟨rfl,f,g⟩;have u:=aa f;have v:=aa g;clear f g);rw [L.out]
         exact d r E.2.2 eE (T.2.2.at_:Nat) w6 _ B Nu (by rw [m.out,if_neg (by simp),if_neg (by simp),if_neg (by simp),if_neg l.out,if_neg (by simp),if_neg iq.out,if_pos H7.out]) eY ⟨rfl,u,v⟩
      ·have cA:(eT==0)=false:=by rw [mi];exact h5
       have H5:=aa h5;go_wp2_with (go_at_call 91;go_loud (refine(bS eT (D.cur.at_:Nat) dE).mono ?_);rintro e9 B ⟨rfl,f,g⟩;have u:=aa f;have v:=aa g;clear f g);rw [L.out]
       exact d r T.2.2 eT (D.cur.at_:Nat) w4 _ B al.src (by rw [m.out,if_neg (by simp),if_neg (by simp),if_neg (by simp),if_neg l.out,if_pos H5.out]) gK ⟨rfl,u,v⟩
   ·have cy:(eD==0)=false:=by rw [mi];exact h3
    have H3:=aa h3;go_wp2_with (go_at_call 91;go_loud (refine(bS eD (D.place:Nat) a5).mono ?_);rintro e9 B ⟨rfl,f,g⟩;have u:=aa f;have v:=aa g;clear f g);rw [L.out]
    exact d r D.cur eD (D.place:Nat) w3 _ B ae.src (by rw [m.out,if_neg (by simp),if_neg (by simp),if_pos H3.out]) fu ⟨rfl,u,v⟩
  ·have cx:((Y:Int)==(fn:Int))=false:=by rw [mi];omega
   have cv:¬((Y:Int)=(fn:Int)):=by omega
   have H2:Hid (Y≠fb.length):=aa (by rw [<-U.out];exact h2);go_wp2_with (go_at_call 91;go_loud (refine(bS 84 (c.at_:Nat) I).mono ?_);rintro e9 B ⟨rfl,f,g⟩;have u:=aa f;have v:=aa g;clear f g);rw [L.out]
   exact d r N.2.2 84 (c.at_:Nat) w2 _ B J.src (by rw [m.out,if_neg (by simp),if_pos H2.out]) bz ⟨rfl,u,v⟩
 ·have cw:(e1==0)=false:=by rw [mi];exact M
  have H1:=aa M;go_wp2_with (go_at_call 91;go_loud (refine(bS e1 (c.at_:Nat) I).mono ?_);rintro e9 B ⟨rfl,f,g⟩;have u:=aa f;have v:=aa g;clear f g);rw [L.out];exact d r N.2.2 e1 (c.at_:Nat) w2 _ B J.src (by rw [m.out,if_pos H1.out]) bz ⟨rfl,u,v⟩
end Go.Proofs.YtepgcjbhabnciaaGreat
