/- Part 23. -/
import Derived.Lib.AppendStr
import Derived.Test.YtepgcjbhabnciaaGreatLe22
namespace Go.Proofs.YtepgcjbhabnciaaGreat
set_option maxRecDepth 100000
set_option maxHeartbeats 8000000
open Go.Proofs.Tryz Go.RowKit
theorem Rd.lit1 (w:World) (cs:Array Value) (t:TypeId):Rd (w.alloc (.cells cs t)) (From w.heap.size) 1 (some ⟨w.heap.size,0,none⟩) cs.size cs.toList:=
 ⟨by simp,fun _=>⟨w.heap.size,0,rfl,Nat.le_refl _,fun j x a=>by
  rw [(aj.new w t cs).cell];simpa using a⟩⟩
theorem MN (s:Nat) (w:World) (o:s<4294967296):Calls prog 190 #[.slice none 0 0,.int .u32 s] w (mR w (four s)):=by
 obtain⟨l,d,e,f,g⟩:=info_parts bu;refine letter fun R h=> ?_;go_enter func190,ntmps190
 go_wp2_with (at_builtin;go_loud (refine af _ rfl (.tmp 5) (.tmp 17) _ rfl w.heap.size 5 l _ 1 1 underlying24 d e f g rfl (by omega) (.slice none 0 0) 0 [] rfl (World.ownsRow_nil _ _ _ _) (From w.heap.size) (some ⟨w.heap.size,0,none⟩) 4 4 _ rfl (Rd.lit1 _ _ _) (by simp [Value.oneCell']) (by simp only [maxLen];omega) (by omega) (by simp) ?_);intro q w1 a b p)
 rw [h.out];simp only [List.nil_append,Nat.zero_add] at a
 have i: [Value.int .u8 ((s:Int)%256),Value.int .u8 ((s:Int)/256%256),Value.int .u8 ((s:Int)/65536%256),Value.int .u8 ((s:Int)/16777216)]=aF (four s):=by
  simp only [four,aF,List.map_cons,List.map_nil,bv,UInt8.toNat_ofNat'];congr 2
  congr 2
  congr 2
  congr 2
  omega
 rw [i] at a;obtain⟨A,c,rfl,m,n⟩:=au a;exact⟨A,4,c,rfl,L8 a,((Below.refl _ _).alloc (Nat.le_refl _) _).grown b (by simp) (fun k j=>by simp [Value.ownBlock] at j)⟩
noncomputable def mU:Code:=aV (f169.body.bind (aJ 4))
theorem Qa (F:Nat->Prop) (b o m c:Nat) (bs q:List UInt8) (w:World) {u1 J L v d B r u9 M E I Z N U Y O f C s V P:Value} {S:List Value} (Q:Exit->Act->World->Prop) (mQ:Hid (∀c t (a:Act) w,Q (.panic c) ⟨t,a.defers⟩ w->Q (.panic c) a w))
  (H:Hid (Rd w F 1 (some ⟨b,o,none⟩) (m+4) (aF (bs++q)))) (D:Hid (m=bs.length)) (T:Hid (q.length=4)) (hc:m+4<=c) (ab:m<=1152921504606)
  (ax:∀(ad ae al am an ao ap aq ar:Value) (rb:Bool) (w':World),rb= !(decide (four (aW bs)=q))->Below w.heap.size w w'->Q .normal ⟨(.slice (some ⟨b,o,none⟩) (m+4) c::u1::J::L:: .slice (some ⟨b,o,none⟩) m c::v::d::B::r::u9::M::E::I::ad::ae::al::am::an::ao::ap::aq::ar:: .bool rb::S).toArray,[]⟩ w'):
  Code.wp prog mU Q ⟨(.slice (some ⟨b,o,none⟩) (m+4) c::u1::J::L:: .slice (some ⟨b,o,none⟩) m c::v::d::B::r::u9::M::E::I::Z::N::U::Y::O::f::C::s::V::P::S).toArray,[]⟩ w:=by
 have dP:=aa ax;have X:Hid (Below w.heap.size w w.drew):=aa (Below.refl _ _).drew;have HT:=aa ((H.below X).take1 (k:=m) (by omega))
 have HU:Hid (Rd w.drew F 1 (some ⟨b,o+m,none⟩) 4 (aF q)):=aa (by
  refine⟨by rw [cO,T.out],fun _=> ?_⟩;obtain⟨b',o',e,hF,hx⟩:=(H.out.below X).2 (by omega);injection e with e;injection e with e1 e2
  subst e1;subst e2;refine⟨b,o+m,rfl,hF,fun j u hj=> ?_⟩;rw [Nat.add_assoc];refine hx (m+j) u ?_;simp only [aF,List.map_append] at hj|-;rw [List.getElem?_append_right (by rw [List.length_map,<-D.out];omega),List.length_map,<-D.out,Nat.add_sub_cancel_left];exact hj)
 have aE:(m:Int)<=(m:Int)+4:=by omega
 have aA:¬(c=m):=by omega
 have l:=bf w.drew F (some ⟨b,o+m,none⟩) 4 (c-m) q HU T.out.symm;have e3:((lV (four (aW bs))).toList==(lV q).toList)=decide (four (aW bs)=q):=rQ;obtain⟨G,p⟩:∃G,G=four (aW bs):=⟨_,rfl⟩;obtain⟨R,x⟩:∃R,R=aW bs:=⟨_,rfl⟩;have yT:=aa p;have y:=aa x;have ac:R<4294967296:=by rw [x];exact CQ _
 rw [<-p] at e3 dP;clear ax p x;have A:bs=(bs++q).take m:=by rw [D.out];simp
 have XR:=aa A;clear A;conv=>arg 2;whnf
 refine aU (fun w'=>(convert 24 9 (.slice (some ⟨b,o+m,none⟩) 4 (c-m))).run prog w'= .ok (.string (lV q)) w') (by kernel_rfl) ?_;refine vT 0 l ?_;refine vT 4 l ?_;refine vT 5 l ?_;refine vT 6 l ?_;refine vT 7 l ?_;refine vT 8 l ?_;refine aO (i:=1) (by kernel_rfl) rfl (fun K z=> ?_);go_simp
 go_loud (refine(P9 (some ⟨b,o,none⟩) m c F bs _ (by have:=HT.out;rw [<-XR.out] at this;exact this) D ab).mono ?_);rintro e w2 ⟨rfl,rfl⟩;rw [<-y.out]
 refine z.out _ _ l ?_;clear z K;try simp only [aL,aN,aZ,aC]
 refine aO (i:=2) (by kernel_rfl) rfl (fun K z=> ?_);go_simp
 go_loud (refine(MN R w.drew ac).mono ?_);rintro e w2 ⟨A2,n2,c2,rfl,g,n⟩;rw [y.out,<-yT.out] at g;have aw:=aa g;have W:=aa n;have S1:=bf w2 _ A2 n2 c2 G g.parts.2.2.2 g.parts.2.2.1;have S2:=bf w2 F (some ⟨b,o+m,none⟩) 4 (c-m) q (HU.below n) T.out.symm;clear g n
 refine z.out _ _ S2 ?_;clear z K;try simp only [aL,aN,aZ,aC]
 refine iM (S':=fun w'=>(convert 24 9 (.slice (some ⟨b,o+m,none⟩) 4 (c-m))).run prog w'= .ok (.string (lV q)) w'/\(convert 24 9 (.slice A2 n2 c2)).run prog w'= .ok (.string (lV G)) w') (fun _ h=>h.1) ?_;refine vT 3 ⟨S2,S1⟩ ?_;refine vT 9 ⟨S2,S1⟩ ?_;refine bG (by kernel_rfl) ?_ _;go_simp
 refine dP _ _ _ _ _ _ _ _ _ _ _ ?_ (X.out.trans W);rw [<-e3]
theorem Jq (F:Nat->Prop) (b o m c:Nat) (bs q:List UInt8) (w:World) (h:Rd w F 1 (some ⟨b,o,none⟩) (m+4) (aF (bs++q))) (y:m=bs.length) (x:q.length=4) (D:m+4<=c) (_E:c<=maxLen) (n:m<=1152921504606):
  Calls prog 169 #[.slice (some ⟨b,o,none⟩) (m+4) c] w fun e w'=>∃v,e= .returned (.tuple #[v,.int .i64 (if four (aW bs)=q then 0 else 22)])/\Below w.heap.size w w':=by
 obtain⟨H,l,r,s,t⟩:=info_parts bu;have u:=aa h;have B:=aa y;have A:=aa x;clear h y x;refine letter fun R f=> ?_;go_enter func169,ntmps169
 go_upto_region 4 with fail
 refine Qa F b o m c bs q w _ (by exact aa (fun _ _ _ _ h=>h)) u B A D n ?_;intro J K L M N O P Q S I w2 g d;have z:=aa g;have a:=aa d;have C:=aa ((u.below d).take1 (k:=m) (by omega));clear g d
 cases I with
 |true=>
  go_wp2;rw [f.out]
  have i:¬(four (aW bs)=q):=of_decide_eq_false (by have:=z.out;simpa using this.symm);rw [if_neg i]
  exact⟨_,rfl,a⟩
 |false=>
  go_wp2_with (at_builtin;go_loud (refine af _ rfl (.tmp 23) (.tmp 24) _ rfl w2.heap.size 5 H _ 1 1 underlying24 l r s t rfl (by omega) (.slice (some ⟨w2.heap.size,0,none⟩) 0 0) 0 [] rfl (gp w2 _ 1) F (some ⟨b,o,none⟩) m c _ rfl (C.alloc _) (bC _) (by simp only [maxLen];omega) (by omega) (by simp) ?_);intro U V p j T)
  rw [f.out];have i:four (aW bs)=q:=of_decide_eq_true (by have:=z.out;simpa using this.symm);rw [if_pos i];refine⟨_,rfl,a.out.trans ((((Below.refl _ _).alloc (Nat.le_refl _) _).grown j (by simp) (fun k G=> ?_)).mono a.size)⟩;simp [Value.ownBlock] at G;omega
def tb (a k:Nat):Value:=bv (UInt8.ofNat (a/256^k))
def BC (a k:Nat):Array Value:= #[if 0<k then tb a 0 else .int .u8 0,if 1<k then tb a 1 else .int .u8 0,if 2<k then tb a 2 else .int .u8 0,if 3<k then tb a 3 else .int .u8 0,if 4<k then tb a 4 else .int .u8 0,if 5<k then tb a 5 else .int .u8 0,if 6<k then tb a 6 else .int .u8 0,if 7<k then tb a 7 else .int .u8 0,.int .u8 0,.int .u8 0,.int .u8 0,.int .u8 0]
theorem fQ (a k:Nat) (d:Int) (h:((256^k:Nat):Int)=d):tb a k= .int .u8 ((a:Int)/d%256):=by
 unfold tb bv;rw [UInt8.toNat_ofNat',<-h];congr 1
theorem Ld (a:Nat) (w:World) (K:a<9223372036854775808):Calls prog 164 #[.int .i64 a] w fun e w'=>∃v,e= .returned v/\Ow w' w.heap.size v (dw a)/\Below w.heap.size w w':=by
 obtain⟨F,o,r,s,t⟩:=info_parts bu;refine letter fun R B=> ?_;have M:IntKind.u64.wrap (a:Int)=(a:Int):=IntWalk.u64_in _ (by omega)
 have E:(Instr.makeSlice 24 (.int .i64 8) (.int .i64 12)).run prog w= .ok (.slice (some ⟨w.heap.size,0,none⟩) 8 12) (w.alloc (.cells #[.int .u8 0,.int .u8 0,.int .u8 0,.int .u8 0,.int .u8 0,.int .u8 0,.int .u8 0,.int .u8 0,.int .u8 0,.int .u8 0,.int .u8 0,.int .u8 0] 5)):=by
  have c:=kz (P:=prog) 24 5 F _ underlying24 o r .i64 .i64 8 12 (by omega) (by rw [t];omega) (by omega) w;have q:madeCells (Value.int .u8 0).cells (12*1)= #[.int .u8 0,.int .u8 0,.int .u8 0,.int .u8 0,.int .u8 0,.int .u8 0,.int .u8 0,.int .u8 0,.int .u8 0,.int .u8 0,.int .u8 0,.int .u8 0]:=by kernel_rfl
  rw [s,q] at c;exact c
 go_enter func164,ntmps164
 go_upto_region 2 with fail
 obtain⟨x,l⟩:∃x,x=w.heap.size:=⟨_,rfl⟩;obtain⟨w1,h⟩:∃W,W=w.alloc (.cells #[.int .u8 0,.int .u8 0,.int .u8 0,.int .u8 0,.int .u8 0,.int .u8 0,.int .u8 0,.int .u8 0,.int .u8 0,.int .u8 0,.int .u8 0,.int .u8 0] 5):=⟨_,rfl⟩;rw [<-h,<-l];have m:Hid (aj w1 x 5 (BC a 0)):=aa (by rw [h,l];exact aj.new _ _ _);have g:=aa l;have n:Hid (Below w.heap.size w w1):=aa (by rw [h];exact(Below.refl _ _).alloc (Nat.le_refl _) _);clear h l;go_wp2
 go_loopw [8] (fun u y=>∃k:Nat,k<=8/\u= .int .i64 k/\Hid (aj y x 5 (BC a k))/\Hid (Below w.heap.size w y)) (fun u _=>8-(intOf u).toNat)
 case atStart=>exact⟨0,by omega,rfl,m,n⟩
 case round=>
  obtain⟨k,L,rfl,b,f⟩:=hrel;have A:k=0\/k=1\/k=2\/k=3\/k=4\/k=5\/k=6\/k=7\/k=8:=by omega
  rcases A with rfl|rfl|rfl|rfl|rfl|rfl|rfl|rfl|rfl
  ·show Code.wp _ _ _ _ _;have d:Hid ((BC a 0).setIfInBounds 0 (tb a 0)=BC a (0+1)):=aa rfl;have i:=b.out.frozen 0;have z:wr.cell? ⟨x,0,none⟩=some (.int .u8 0):=b.out.cell 0;go_wp2;refine⟨⟨0+1,by omega,by go_num,aa ?_,aa (f.setCell (p:=⟨x,0,none⟩) (by rw [g.out];exact Nat.le_refl _) _)⟩,by simp [intOf]⟩;have c:=b.out.set_ 0 (tb a 0);rw [d.out] at c;rw [show Value.int IntKind.u8 ((a:Int)%256)=tb a 0 from(by rw [fQ a 0 1 rfl,Int.ediv_one])]
   exact c
  ·show Code.wp _ _ _ _ _;have d:Hid ((BC a 1).setIfInBounds 1 (tb a 1)=BC a (1+1)):=aa rfl;have i:=b.out.frozen 1;have z:wr.cell? ⟨x,1,none⟩=some (.int .u8 0):=b.out.cell 1;go_wp2;refine⟨⟨1+1,by omega,by go_num,aa ?_,aa (f.setCell (p:=⟨x,1,none⟩) (by rw [g.out];exact Nat.le_refl _) _)⟩,by simp [intOf]⟩;have c:=b.out.set_ 1 (tb a 1);rw [d.out] at c;rw [show Value.int IntKind.u8 ((a:Int)/256%256)=tb a 1 from(fQ a 1 _ rfl).symm]
   exact c
  ·show Code.wp _ _ _ _ _;have d:Hid ((BC a 2).setIfInBounds 2 (tb a 2)=BC a (2+1)):=aa rfl;have i:=b.out.frozen 2;have z:wr.cell? ⟨x,2,none⟩=some (.int .u8 0):=b.out.cell 2;go_wp2;refine⟨⟨2+1,by omega,by go_num,aa ?_,aa (f.setCell (p:=⟨x,2,none⟩) (by rw [g.out];exact Nat.le_refl _) _)⟩,by simp [intOf]⟩;have c:=b.out.set_ 2 (tb a 2);rw [d.out] at c;rw [show Value.int IntKind.u8 ((a:Int)/65536%256)=tb a 2 from(fQ a 2 _ rfl).symm]
   exact c
  ·show Code.wp _ _ _ _ _;have d:Hid ((BC a 3).setIfInBounds 3 (tb a 3)=BC a (3+1)):=aa rfl;have i:=b.out.frozen 3;have z:wr.cell? ⟨x,3,none⟩=some (.int .u8 0):=b.out.cell 3;go_wp2;refine⟨⟨3+1,by omega,by go_num,aa ?_,aa (f.setCell (p:=⟨x,3,none⟩) (by rw [g.out];exact Nat.le_refl _) _)⟩,by simp [intOf]⟩;have c:=b.out.set_ 3 (tb a 3);rw [d.out] at c;rw [show Value.int IntKind.u8 ((a:Int)/16777216%256)=tb a 3 from(fQ a 3 _ rfl).symm]
   exact c
  ·show Code.wp _ _ _ _ _;have d:Hid ((BC a 4).setIfInBounds 4 (tb a 4)=BC a (4+1)):=aa rfl;have i:=b.out.frozen 4;have z:wr.cell? ⟨x,4,none⟩=some (.int .u8 0):=b.out.cell 4;go_wp2;refine⟨⟨4+1,by omega,by go_num,aa ?_,aa (f.setCell (p:=⟨x,4,none⟩) (by rw [g.out];exact Nat.le_refl _) _)⟩,by simp [intOf]⟩;have c:=b.out.set_ 4 (tb a 4);rw [d.out] at c;rw [show Value.int IntKind.u8 ((a:Int)/4294967296%256)=tb a 4 from(fQ a 4 _ rfl).symm]
   exact c
  ·show Code.wp _ _ _ _ _;have d:Hid ((BC a 5).setIfInBounds 5 (tb a 5)=BC a (5+1)):=aa rfl;have i:=b.out.frozen 5;have z:wr.cell? ⟨x,5,none⟩=some (.int .u8 0):=b.out.cell 5;go_wp2;refine⟨⟨5+1,by omega,by go_num,aa ?_,aa (f.setCell (p:=⟨x,5,none⟩) (by rw [g.out];exact Nat.le_refl _) _)⟩,by simp [intOf]⟩;have c:=b.out.set_ 5 (tb a 5);rw [d.out] at c;rw [show Value.int IntKind.u8 ((a:Int)/1099511627776%256)=tb a 5 from(fQ a 5 _ rfl).symm]
   exact c
  ·show Code.wp _ _ _ _ _;have d:Hid ((BC a 6).setIfInBounds 6 (tb a 6)=BC a (6+1)):=aa rfl;have i:=b.out.frozen 6;have z:wr.cell? ⟨x,6,none⟩=some (.int .u8 0):=b.out.cell 6;go_wp2;refine⟨⟨6+1,by omega,by go_num,aa ?_,aa (f.setCell (p:=⟨x,6,none⟩) (by rw [g.out];exact Nat.le_refl _) _)⟩,by simp [intOf]⟩;have c:=b.out.set_ 6 (tb a 6);rw [d.out] at c;rw [show Value.int IntKind.u8 ((a:Int)/281474976710656%256)=tb a 6 from(fQ a 6 _ rfl).symm]
   exact c
  ·show Code.wp _ _ _ _ _;have d:Hid ((BC a 7).setIfInBounds 7 (tb a 7)=BC a (7+1)):=aa rfl;have i:=b.out.frozen 7;have z:wr.cell? ⟨x,7,none⟩=some (.int .u8 0):=b.out.cell 7;go_wp2;refine⟨⟨7+1,by omega,by go_num,aa ?_,aa (f.setCell (p:=⟨x,7,none⟩) (by rw [g.out];exact Nat.le_refl _) _)⟩,by simp [intOf]⟩;have c:=b.out.set_ 7 (tb a 7);rw [d.out] at c;rw [show Value.int IntKind.u8 ((a:Int)/72057594037927936)=tb a 7 from(by rw [fQ a 7 72057594037927936 rfl,Int.emod_eq_of_lt (by omega) (by omega)])]
   exact c
  ·have N:wr.cell? ⟨x,8,none⟩=some (.int .u8 0):=b.out.cell 8;have O:wr.cell? ⟨x,9,none⟩=some (.int .u8 0):=b.out.cell 9;have G:wr.cell? ⟨x,10,none⟩=some (.int .u8 0):=b.out.cell 10;have H:wr.cell? ⟨x,11,none⟩=some (.int .u8 0):=b.out.cell 11;have I:=b.out.frozen 8;have J:=b.out.frozen 9;have C:=b.out.frozen 10;have D:=b.out.frozen 11;go_wp2;rw [B.out];have c:=(((b.set_ 8 (.int .u8 101)).set_ 9 (.int .u8 110)).set_ 10 (.int .u8 100)).set_ 11 (.int .u8 46);have j:w.heap.size<=x:=by rw [g.out];exact Nat.le_refl _
   refine⟨_,rfl,⟨by rw [cO,Nat.mul_one],.inr ⟨x,12,_,rfl,j,c,by simp [dw],by simp [maxLen],by simp [BC],?_⟩⟩,?_⟩
   ·kernel_rfl
   ·exact(((f.setCell (p:=⟨x,8,none⟩) j _).setCell (p:=⟨x,9,none⟩) j _).setCell (p:=⟨x,10,none⟩) j _).setCell (p:=⟨x,11,none⟩) j _
def I5 (a k:Nat):List Value:=(List.range k).map (tb a)
theorem iP (a k:Nat):I5 a k++ [tb a k]=I5 a (k+1):=by simp [I5,List.range_succ]
theorem Lf (a:Nat):I5 a 8++ [.int .u8 101,.int .u8 110,.int .u8 100,.int .u8 46]=aF (dw a):=by kernel_rfl
theorem zh (a:Nat) (w:World) (I:a<9223372036854775808):Calls prog 109 #[.int .i64 a] w fun e w'=>∃v,e= .returned v/\Ow w' w.heap.size v (dw a)/\Below w.heap.size w w':=by
 obtain⟨y,l,m,n,o⟩:=info_parts bu;refine letter fun R E=> ?_;have J:IntKind.u64.wrap (a:Int)=(a:Int):=IntWalk.u64_in _ (by omega);go_enter func109,ntmps109
 go_wp2
 go_loopw [3,4] (fun F B C=>∃k:Nat,k<=8/\B= .int .i64 k/\Hid (C.ownsRow w.heap.size 5 1 F k (I5 a k))/\Hid (Below w.heap.size w C)) (fun _ B _=>8-(intOf B).toNat)
 case atStart=>exact⟨0,by omega,rfl,aa (World.ownsRow_nil _ _ _ _),aa (Below.refl _ _)⟩
 case round=>
  obtain⟨k,p,rfl,j,f⟩:=hrel;obtain⟨A,c,rfl,G,H⟩:=au j;clear G H;have D:k=0\/k=1\/k=2\/k=3\/k=4\/k=5\/k=6\/k=7\/k=8:=by omega
  rcases D with rfl|rfl|rfl|rfl|rfl|rfl|rfl|rfl|rfl
  ·have i:Value.int IntKind.u8 ((a:Int)%256)=tb a 0:=(by rw [fQ a 0 1 rfl,Int.ediv_one]);have x:=aa i;clear i;go_wp2_with (at_builtin;go_loud (refine af _ rfl (.tmp 9) (.tmp 16) _ rfl w.heap.size 5 y _ 1 1 underlying24 l m n o rfl (by omega) (.slice A 0 c) 0 (I5 a 0) rfl (own_below j ((Below.refl _ _).alloc (Nat.le_refl _) _)) (From wr.heap.size) (some ⟨wr.heap.size,0,none⟩) 1 1 [tb a 0] rfl (by rw [<-x.out];exact Rd.lit1 wr #[.int .u8 ((a:Int)%256)] 5) (by intro u h;simp at h;subst h;rfl) (by simp only [maxLen];omega) (by omega) (by have q:=f.out.size;simp;omega) ?_);intro z w1 b d r;have s:=aa b;have t:=aa d;clear b d r)
   refine⟨⟨0+1,by omega,by go_num,aa ?_,aa ?_⟩,by simp [intOf]⟩
   ·have g:=s.out;rw [iP] at g
    exact g
   ·exact(f.alloc f.size _).grown t (by have q:=f.out.size;simp;omega) (fun k p=>(ah j k p).1)
  ·have i:Value.int IntKind.u8 ((a:Int)/256%256)=tb a 1:=(fQ a 1 _ rfl).symm;have x:=aa i;clear i;go_wp2_with (at_builtin;go_loud (refine af _ rfl (.tmp 9) (.tmp 16) _ rfl w.heap.size 5 y _ 1 1 underlying24 l m n o rfl (by omega) (.slice A 1 c) 1 (I5 a 1) rfl (own_below j ((Below.refl _ _).alloc (Nat.le_refl _) _)) (From wr.heap.size) (some ⟨wr.heap.size,0,none⟩) 1 1 [tb a 1] rfl (by rw [<-x.out];exact Rd.lit1 wr #[.int .u8 ((a:Int)/256%256)] 5) (by intro u h;simp at h;subst h;rfl) (by simp only [maxLen];omega) (by omega) (by have q:=f.out.size;simp;omega) ?_);intro z w1 b d r;have s:=aa b;have t:=aa d;clear b d r)
   refine⟨⟨1+1,by omega,by go_num,aa ?_,aa ?_⟩,by simp [intOf]⟩
   ·have g:=s.out;rw [iP] at g
    exact g
   ·exact(f.alloc f.size _).grown t (by have q:=f.out.size;simp;omega) (fun k p=>(ah j k p).1)
  ·have i:Value.int IntKind.u8 ((a:Int)/65536%256)=tb a 2:=(fQ a 2 _ rfl).symm;have x:=aa i;clear i;go_wp2_with (at_builtin;go_loud (refine af _ rfl (.tmp 9) (.tmp 16) _ rfl w.heap.size 5 y _ 1 1 underlying24 l m n o rfl (by omega) (.slice A 2 c) 2 (I5 a 2) rfl (own_below j ((Below.refl _ _).alloc (Nat.le_refl _) _)) (From wr.heap.size) (some ⟨wr.heap.size,0,none⟩) 1 1 [tb a 2] rfl (by rw [<-x.out];exact Rd.lit1 wr #[.int .u8 ((a:Int)/65536%256)] 5) (by intro u h;simp at h;subst h;rfl) (by simp only [maxLen];omega) (by omega) (by have q:=f.out.size;simp;omega) ?_);intro z w1 b d r;have s:=aa b;have t:=aa d;clear b d r)
   refine⟨⟨2+1,by omega,by go_num,aa ?_,aa ?_⟩,by simp [intOf]⟩
   ·have g:=s.out;rw [iP] at g
    exact g
   ·exact(f.alloc f.size _).grown t (by have q:=f.out.size;simp;omega) (fun k p=>(ah j k p).1)
  ·have i:Value.int IntKind.u8 ((a:Int)/16777216%256)=tb a 3:=(fQ a 3 _ rfl).symm;have x:=aa i;clear i;go_wp2_with (at_builtin;go_loud (refine af _ rfl (.tmp 9) (.tmp 16) _ rfl w.heap.size 5 y _ 1 1 underlying24 l m n o rfl (by omega) (.slice A 3 c) 3 (I5 a 3) rfl (own_below j ((Below.refl _ _).alloc (Nat.le_refl _) _)) (From wr.heap.size) (some ⟨wr.heap.size,0,none⟩) 1 1 [tb a 3] rfl (by rw [<-x.out];exact Rd.lit1 wr #[.int .u8 ((a:Int)/16777216%256)] 5) (by intro u h;simp at h;subst h;rfl) (by simp only [maxLen];omega) (by omega) (by have q:=f.out.size;simp;omega) ?_);intro z w1 b d r;have s:=aa b;have t:=aa d;clear b d r)
   refine⟨⟨3+1,by omega,by go_num,aa ?_,aa ?_⟩,by simp [intOf]⟩
   ·have g:=s.out;rw [iP] at g
    exact g
   ·exact(f.alloc f.size _).grown t (by have q:=f.out.size;simp;omega) (fun k p=>(ah j k p).1)
  ·have i:Value.int IntKind.u8 ((a:Int)/4294967296%256)=tb a 4:=(fQ a 4 _ rfl).symm;have x:=aa i;clear i;go_wp2_with (at_builtin;go_loud (refine af _ rfl (.tmp 9) (.tmp 16) _ rfl w.heap.size 5 y _ 1 1 underlying24 l m n o rfl (by omega) (.slice A 4 c) 4 (I5 a 4) rfl (own_below j ((Below.refl _ _).alloc (Nat.le_refl _) _)) (From wr.heap.size) (some ⟨wr.heap.size,0,none⟩) 1 1 [tb a 4] rfl (by rw [<-x.out];exact Rd.lit1 wr #[.int .u8 ((a:Int)/4294967296%256)] 5) (by intro u h;simp at h;subst h;rfl) (by simp only [maxLen];omega) (by omega) (by have q:=f.out.size;simp;omega) ?_);intro z w1 b d r;have s:=aa b;have t:=aa d;clear b d r)
   refine⟨⟨4+1,by omega,by go_num,aa ?_,aa ?_⟩,by simp [intOf]⟩
   ·have g:=s.out;rw [iP] at g
    exact g
   ·exact(f.alloc f.size _).grown t (by have q:=f.out.size;simp;omega) (fun k p=>(ah j k p).1)
  ·have i:Value.int IntKind.u8 ((a:Int)/1099511627776%256)=tb a 5:=(fQ a 5 _ rfl).symm;have x:=aa i;clear i;go_wp2_with (at_builtin;go_loud (refine af _ rfl (.tmp 9) (.tmp 16) _ rfl w.heap.size 5 y _ 1 1 underlying24 l m n o rfl (by omega) (.slice A 5 c) 5 (I5 a 5) rfl (own_below j ((Below.refl _ _).alloc (Nat.le_refl _) _)) (From wr.heap.size) (some ⟨wr.heap.size,0,none⟩) 1 1 [tb a 5] rfl (by rw [<-x.out];exact Rd.lit1 wr #[.int .u8 ((a:Int)/1099511627776%256)] 5) (by intro u h;simp at h;subst h;rfl) (by simp only [maxLen];omega) (by omega) (by have q:=f.out.size;simp;omega) ?_);intro z w1 b d r;have s:=aa b;have t:=aa d;clear b d r)
   refine⟨⟨5+1,by omega,by go_num,aa ?_,aa ?_⟩,by simp [intOf]⟩
   ·have g:=s.out;rw [iP] at g
    exact g
   ·exact(f.alloc f.size _).grown t (by have q:=f.out.size;simp;omega) (fun k p=>(ah j k p).1)
  ·have i:Value.int IntKind.u8 ((a:Int)/281474976710656%256)=tb a 6:=(fQ a 6 _ rfl).symm;have x:=aa i;clear i;go_wp2_with (at_builtin;go_loud (refine af _ rfl (.tmp 9) (.tmp 16) _ rfl w.heap.size 5 y _ 1 1 underlying24 l m n o rfl (by omega) (.slice A 6 c) 6 (I5 a 6) rfl (own_below j ((Below.refl _ _).alloc (Nat.le_refl _) _)) (From wr.heap.size) (some ⟨wr.heap.size,0,none⟩) 1 1 [tb a 6] rfl (by rw [<-x.out];exact Rd.lit1 wr #[.int .u8 ((a:Int)/281474976710656%256)] 5) (by intro u h;simp at h;subst h;rfl) (by simp only [maxLen];omega) (by omega) (by have q:=f.out.size;simp;omega) ?_);intro z w1 b d r;have s:=aa b;have t:=aa d;clear b d r)
   refine⟨⟨6+1,by omega,by go_num,aa ?_,aa ?_⟩,by simp [intOf]⟩
   ·have g:=s.out;rw [iP] at g
    exact g
   ·exact(f.alloc f.size _).grown t (by have q:=f.out.size;simp;omega) (fun k p=>(ah j k p).1)
  ·have i:Value.int IntKind.u8 ((a:Int)/72057594037927936)=tb a 7:=(by rw [fQ a 7 72057594037927936 rfl,Int.emod_eq_of_lt (by omega) (by omega)]);have x:=aa i;clear i;go_wp2_with (at_builtin;go_loud (refine af _ rfl (.tmp 9) (.tmp 16) _ rfl w.heap.size 5 y _ 1 1 underlying24 l m n o rfl (by omega) (.slice A 7 c) 7 (I5 a 7) rfl (own_below j ((Below.refl _ _).alloc (Nat.le_refl _) _)) (From wr.heap.size) (some ⟨wr.heap.size,0,none⟩) 1 1 [tb a 7] rfl (by rw [<-x.out];exact Rd.lit1 wr #[.int .u8 ((a:Int)/72057594037927936)] 5) (by intro u h;simp at h;subst h;rfl) (by simp only [maxLen];omega) (by omega) (by have q:=f.out.size;simp;omega) ?_);intro z w1 b d r;have s:=aa b;have t:=aa d;clear b d r)
   refine⟨⟨7+1,by omega,by go_num,aa ?_,aa ?_⟩,by simp [intOf]⟩
   ·have g:=s.out;rw [iP] at g
    exact g
   ·exact(f.alloc f.size _).grown t (by have q:=f.out.size;simp;omega) (fun k p=>(ah j k p).1)
  ·go_wp2_with (at_builtin;go_loud (refine af _ rfl (.tmp 18) (.tmp 19) _ rfl w.heap.size 5 y _ 1 1 underlying24 l m n o rfl (by omega) (.slice A 8 c) 8 (I5 a 8) rfl (own_below j ((Below.refl _ _).alloc (Nat.le_refl _) _)) (From wr.heap.size) (some ⟨wr.heap.size,0,none⟩) 4 4 [.int .u8 101,.int .u8 110,.int .u8 100,.int .u8 46] rfl (Rd.lit1 wr #[.int .u8 101,.int .u8 110,.int .u8 100,.int .u8 46] 5) (by intro u h;simp at h;rcases h with rfl|rfl|rfl|rfl<;>rfl) (by simp only [maxLen];omega) (by omega) (by have q:=f.out.size;simp;omega) ?_);intro z w1 b d r;have s:=aa b;have t:=aa d;clear b d r)
   rw [E.out];have g:=s.out;rw [Lf] at g;exact⟨_,rfl,g,(f.alloc f.size _).grown t (by have q:=f.out.size;simp;omega) (fun k p=>(ah j k p).1)⟩
theorem KW (w:World):Calls prog 61 #[] w fun e w'=>e= .returned (.slice (some ⟨w.heap.size,0,none⟩) 8 8)/\SB w' (From w.heap.size) (.slice (some ⟨w.heap.size,0,none⟩) 8 8) fq/\Below w.heap.size w w':=by
 refine letter fun R a=> ?_;go_enter func61,ntmps61
 go_wp2;rw [a.out]
 exact⟨rfl,⟨_,_,_,rfl,Nat.le_refl _,by simp [maxLen],rfl,Rd.lit1 w _ _⟩,(Below.refl _ _).alloc (Nat.le_refl _) _⟩
theorem iJ (q:Nat) (a:Int) (w:World) (h:w.cell? ⟨q,0,none⟩=some (.int .i64 a)):Calls prog 136 #[.pointer (some ⟨q,0,none⟩)] w fun e w'=>e= .returned (.int .i64 a)/\w=w':=by
 refine letter fun R b=> ?_;go_enter func136,ntmps136
 go_wp2;rw [b.out]
 exact⟨rfl,rfl⟩
def I4 (z:Nat) (h v2 F:Value) (e a:Int) (w:World) (c:Ending) (w':World):Prop:=
 c= .returned (.tuple #[.slice none 0 0,.bool false])/\aj w' z 140 #[h,.func (.func 135) #[.pointer (some ⟨z,0,none⟩)] #[],v2,F,.int .i64 e,.int .i64 a]/\ag (fun b=>b=z) w w'
theorem bF (z:Nat) (v0 Y v2 F:Value) (d c e a:Int) (w:World) (h:aj w z 140 #[v0,Y,v2,F,.int .i64 d,.int .i64 c]):
  Calls prog 91 #[.pointer (some ⟨z,0,none⟩),.int .i64 e,.int .i64 a] w (I4 z v0 v2 F e a w):=by
 refine letter fun R g=> ?_;have f:=aa h;have l:w.cell? ⟨z,1,none⟩=some Y:=h.cell 1;have m:w.cell? ⟨z,4,none⟩=some (.int .i64 d):=h.cell 4;have n:w.cell? ⟨z,5,none⟩=some (.int .i64 c):=h.cell 5;have i:=h.frozen 1;have j:=h.frozen 4;have k:=h.frozen 5;clear h;go_enter func91,ntmps91
 go_wp2;rw [g.out]
 exact⟨rfl,((f.set_ 4 (.int .i64 e)).set_ 5 (.int .i64 a)).set_ 1 (.func (.func 135) #[.pointer (some ⟨z,0,none⟩)] #[]),
  (((ag.refl (fun b=>b=z) w).setCell (p:=⟨z,4,none⟩) (fun _=>rfl) _).setCell (p:=⟨z,5,none⟩) (fun _=>rfl) _).setCell (p:=⟨z,1,none⟩) (fun _=>rfl) _⟩
def Em (F:Nat->Prop) (q p n:Nat) (c:ay) (w:World) (e:Ending) (w':World):Prop:=
 ∃v hv,e= .returned (.tuple #[v,.int .i64 (c.body n).err,.int .i64 ((c.body n).place:Nat)])/\((c.body n).err=0->Ow w' w.heap.size v (c.body n).body)/\lW w' F q p (c.body n).cur hv/\ag (Cs q p w.heap.size) w w'
theorem zH (F:Nat->Prop) (z q p hv n K:Nat) (c:ay) (w:World) (s:Sit F q p w.heap.size) (ap:w.cell? ⟨z,0,none⟩=some (.pointer (some ⟨q,0,none⟩))) (aq:z<w.heap.size) (aw:z≠q) (ar:z≠p) (h:lW w F q p c hv) (a:c.Ok K) (_hh:c.held=none) (hK:K<=1152921504606846976) (hn:n<=4294967296) (hn0:0<n):
  Calls prog 140 #[.pointer (some ⟨z,0,none⟩),.int .i64 n] w (Em F q p n c w):=by
 refine letter fun R HR=> ?_;have HT:=aa (kS F q p hv n K c w s h a hK (by omega) hn0);obtain⟨L,hL⟩:∃L,L=c.bytes n:=⟨_,rfl⟩;have HL:=aa hL;have rJ:Hid (L.2.2.Ok K):=aa (by rw [hL];exact ay.bytes_ok a n);have eu:Hid (L.2.1=0->L.1.length=n):=aa (by rw [hL];exact ay.bytes_len a n hn0);have HS:=aa s;have HH:=aa h;have c0:w.cell? ⟨q,0,none⟩=some (.int .i64 (c.at_:Nat)):=h.blk.cell 0;have HZ:Hid (¬Cs q p w.heap.size z):=aa (fun e=>by rcases e with e|e|e;exact aw e;exact ar e;omega);have Tg:=aa (iJ q (c.at_:Nat) w c0);have Y:Hid (L.2.1≠0->c.body n=⟨[],L.2.1,c.at_,L.2.2⟩):=aa (fun I=>by unfold ay.body;rw [<-hL,if_pos I]);obtain⟨M,T⟩:∃M,M=L.2.2.bytes 4:=⟨_,rfl⟩;have CX:=aa T;have Px:Hid (M.2.1=0->M.1.length=4):=aa (by rw [T];exact ay.bytes_len rJ 4 (by omega));have C:Hid (L.2.1=0->M.2.1≠0->c.body n=⟨[],M.2.1,L.2.2.at_,M.2.2⟩):=aa (fun I B=>by unfold ay.body;rw [<-hL,if_neg (fun h=>h I),<-T,if_pos B]);have D:Hid (L.2.1=0->M.2.1=0->M.1≠four (aW L.1)->c.body n=⟨[],22,L.2.2.at_,M.2.2⟩):=aa (fun I B Q=>by unfold ay.body;rw [<-hL,if_neg (fun h=>h I),<-T,if_neg (fun h=>h B),if_pos Q]);have dR:Hid (L.2.1=0->M.2.1=0->M.1=four (aW L.1)->c.body n=⟨L.1,0,0,M.2.2⟩):=aa (fun I B Q=>by unfold ay.body;rw [<-hL,if_neg (fun h=>h I),<-T,if_neg (fun h=>h B),if_neg (fun h=>h Q)]);have aE:=aa aq;clear s h a _hh hL aw ar T aq;go_enter func140,ntmps140
 go_upto_region 2 with(go_at_call 136;go_loud (refine Tg.mono ?_);rintro e w2 ⟨rfl,rfl⟩)
 go_upto_region 3 with(go_at_call 90;go_loud (refine HT.mono ?_);rintro e w2 ⟨v,ao,rfl,N,J,hC⟩;rw [<-HL.out] at N J|-;have HO:=aa N;have HI:=aa J;have P:=aa hC;clear N J hC)
 have a2:w2.cell? ⟨z,0,none⟩=some (.pointer (some ⟨q,0,none⟩)):=P.out.cell HZ ap;obtain⟨er,dU⟩:∃er,er=L.2.1:=⟨_,rfl⟩;rw [<-dU] at Y C D dR HO eu|-;clear dU ap c0
 by_cases e0:er=0
 ·subst e0;have c1:w2.cell? ⟨q,0,none⟩=some (.int .i64 (L.2.2.at_:Nat)):=HI.out.blk.cell 0;have a0:=aa (iJ q (L.2.2.at_:Nat) w2 c1);have aA:=aa (kS F q p ao 4 K L.2.2 w2 (HS.up P.size) HI rJ hK (by omega) (by omega));have a3:Hid (¬Cs q p w2.heap.size z):=aa (fun e=>by rcases e with e|e|e;exact HZ (.inl e);exact HZ (.inr (.inl e));exact absurd aE.out (by have:=P.out.size;omega));obtain⟨A,m,cc,rfl,U,V,k,O⟩:=(HO.out rfl).sb;have E:=aa k;have a1:m=n:=by rw [k];exact eu rfl
  subst a1;clear U V k O;go_upto_region 6 with(go_at_call 136;go_loud (refine a0.mono ?_);rintro e l ⟨rfl,rfl⟩)
  go_upto_region 7 with(go_at_call 90;go_loud (refine aA.mono ?_);rintro e l ⟨v3,o,rfl,N,J,hC⟩;rw [<-CX.out] at N J|-;have oD:=aa N;have Z:=aa J;have eH:=aa hC;clear N J hC)
  have ab:Hid (ag (Cs q p w.heap.size) w l):=aa (P.out.trans eH (fun b hb e=>by rcases e with e|e|e;exact .inl e;exact .inr (.inl e);exact .inr (.inr (Nat.le_trans P.size e))))
  have Lc:Hid (Ow l w.heap.size (.slice A m cc) L.1):=aa ((HO (by trivial)).chg eH (fun g hg e=>by
   obtain⟨B,Q⟩:=ah (HO (by trivial)) g hg;have h3:=HS.out.pB;have h4:=HS.out.qB
   rcases e with e|e|e
   ·omega
   ·omega
   ·omega))
  obtain⟨e2,ae⟩:∃e2,e2=M.2.1:=⟨_,rfl⟩;rw [<-ae] at C D dR oD Px|-;clear ae a2 c1
  by_cases H:e2=0
  ·subst H;obtain⟨A3,m3,c3,rfl,U,V,k,O⟩:=(oD.out (by trivial)).sb;have QB:m3=4:=by rw [k];exact Px (by trivial)
   subst QB;have mO:=aa k;obtain⟨x5,r⟩:∃x,x=l.heap.size:=⟨_,rfl⟩;obtain⟨y,f⟩:∃W,W=l.alloc (.cells #[.slice A m cc,.slice A3 4 c3] 24):=⟨_,rfl⟩;have X:Hid (Below l.heap.size l y):=aa (by rw [f];exact(Below.refl _ _).alloc (Nat.le_refl _) _);have al:SB y (fun b=>b<y.heap.size) (.slice A m cc) L.1:=((Lc.below X).sb.lt).weak (fun b h=>h.2);have am:SB y (fun b=>b<y.heap.size) (.slice A3 4 c3) M.1:=(((oD (by trivial)).below X).sb.lt).weak (fun b h=>h.2)
   have an:Tx y (fun b=>b<y.heap.size) (some ⟨x5,0,none⟩) 2 2 [L.1,M.1]:=by
    refine⟨Nat.le_refl _,by simp [maxLen],aa rfl,[.slice A m cc,.slice A3 4 c3],⟨rfl,fun _=>⟨x5,0,rfl,by rw [r,f,World.size_alloc];exact Nat.lt_succ_self _,fun j u hj=> ?_⟩⟩,fun i t ht=> ?_⟩
    ·rw [r,f,(aj.new l _ _).cell];simpa using hj
    ·rcases i with _|_|i
     ·simp at ht;subst ht;exact⟨_,rfl,al⟩
     ·simp at ht;subst ht;exact⟨_,rfl,am⟩
     ·simp at ht
   have IL:=aa (uV (fun b=>b<y.heap.size) (some ⟨x5,0,none⟩) 2 2 [L.1,M.1] y an (fun _ h=>h) (by omega) (by have B:=E.out;have Q:=mO.out;simp;omega));rw [show [L.1,M.1].flatten=L.1++M.1 by simp] at IL;clear U V k O al am an;go_upto_region 10 with(first|(go_at_call 170;rw [<-f,<-r];go_loud (refine IL.mono ?_);rintro e w5 ⟨v5,rfl,ad,Qh⟩;have eG:=aa Qh;obtain⟨A5,m5,c5,rfl,U,V,k,O⟩:=ad.sb;have Pb:m5=m+4:=(by have B:=E.out;have Q:=mO.out;rw [k,List.length_append];omega);subst Pb;obtain⟨b5,o5,rfl,_,_⟩:=O.2 (by omega);have ax:=aa (Jq _ b5 o5 m c5 L.1 M.1 w5 O E mO.out.symm U V (by omega));clear ad Qh U V k O)|(go_at_call 169;go_loud (refine ax.mono ?_);rintro e w6 ⟨v6,rfl,iC⟩;have fT:=aa iC;clear iC))
   have IQ:Hid (Below l.heap.size l w6):=aa ((X.out.trans (eG.mono X.size)).trans (fT.mono (Nat.le_trans X.size eG.size)));have IP:Hid (lW w6 F q p M.2.2 o):=aa (Z.chg (S:=Nil) (ag.of_below IQ) (fun h=>h) (fun h=>h) (fun _ _ h=>h));have dV:Hid (ag (Cs q p w.heap.size) w w6):=aa (ab.then IQ);have lU:Hid (Ow w6 w.heap.size (.slice A m cc) L.1):=aa (Lc.below IQ);clear f r
   by_cases d:four (aW L.1)=M.1
   ·rw [if_pos d];have G:Hid (M.1=four (aW L.1)):=aa d.symm;clear d;go_wp2;go_ret3
    rw [HR.out];unfold Em;rw [dR.out (by trivial) (by trivial) G.out]
    exact⟨_,o,rfl,fun _=>lU,IP,dV⟩
   ·rw [if_neg d];have G:Hid (M.1≠four (aW L.1)):=aa (fun e=>d e.symm);clear d;go_wp2;go_ret3
    rw [HR.out];unfold Em;rw [D.out (by trivial) (by trivial) G.out]
    exact⟨_,o,rfl,fun h=>absurd h (show¬((22:Int)=0) by decide),IP,dV⟩
  ·have a4:(e2==0)=false:=by rw [beq_eq_false_iff_ne];exact H
   have ac:=aa H;go_wp2;go_ret3
   rw [HR.out];unfold Em;rw [C.out (by trivial) ac.out]
   exact⟨_,o,rfl,fun h=>absurd h ac,Z,ab⟩
 ·have Us:(er==0)=false:=by rw [beq_eq_false_iff_ne];exact e0
  have kK:=aa e0;go_wp2;go_ret3
  rw [HR.out];unfold Em;rw [Y.out kK.out];exact⟨_,ao,rfl,fun h=>absurd h kK,HI,P⟩
end Go.Proofs.YtepgcjbhabnciaaGreat
