/- Part 8. -/
import Derived.Test.YtepgcjbhabnciaaGreatLp07
import Derived.Laws.EntriesVeiled
import Derived.Lib.AppendStr
namespace Go.Proofs.YtepgcjbhabnciaaGreat
set_option maxRecDepth 100000
set_option maxHeartbeats 8000000
open Go.Proofs.Tryz Go.RowKit
variable {q z p hv K n a m:Nat} {w:World} {F:Nat->Prop}
theorem jK (a:Int) (h:w.cell? q=some (.int .i64 a)):Calls prog 136 #[q] w fun e w'=>e= .returned a/\w=w':=by
 refine letter fun R b=> ?_;go_enter func136,ntmps136;go_wp2;rw [b.out]
 exact⟨rfl,rfl⟩
def MO (z:Nat) (v0 v2 v3:Value) (e a:Int) (w:World) (c:Ending) (w':World):Prop:=
 c= .returned (.tuple #[(),false])/\ak w' z 140 #[v0,.func (.func 135) #[z] #[],v2,v3,e,a]/\ag (fun b=>b=z) w w'
theorem bS {v0 v1 v2 v3:Value} {d c:Int} (e a:Int) (h:ak w z 140 #[v0,v1,v2,v3,d,c]):
  Calls prog 91 #[z,e,a] w (MO z v0 v2 v3 e a w):=by
 refine letter fun R g=> ?_;have f:=aa h;have l:w.cell? ⟨z,1,none⟩=some v1:=h.cell 1;have m:w.cell? ⟨z,4,none⟩=some (.int .i64 d):=h.cell 4;have n:w.cell? ⟨z,5,none⟩=some (.int .i64 c):=h.cell 5;have i:=h.frozen 1;have j:=h.frozen 4;have k:=h.frozen 5;clear h;go_enter func91,ntmps91;go_wp2;rw [g.out]
 exact⟨rfl,((f.set_ 4 e).set_ 5 a).set_ 1 (.func (.func 135) #[z] #[]),
  (((ag.refl (fun b=>b=z) w).setCell (p:=⟨z,4,none⟩) (fun _=>rfl) _).setCell (p:=⟨z,5,none⟩) (fun _=>rfl) _).setCell (p:=⟨z,1,none⟩) (fun _=>rfl) _⟩
def Iy (F:Nat->Prop) (q p n:Nat) (c:ay) (w:World) (e:Ending) (w':World):Prop:=
 ∃v hv,e= .returned (.tuple #[v,.int .i64 (c.body n).err,.int .i64 ((c.body n).place:Nat)])/\((c.body n).err=0->Ow w' w v (c.body n).body)/\oU w' F q p (c.body n).cur hv/\ag (Cs q p w) w w'
theorem CZ (n:Nat) {c:ay} (s:Sit F q p w) (am:w.cell? z=some (q:Value)) (an:z<w) (ap:z≠q) (ao:z≠p) (h:oU w F q p c hv) (Q:c.Ok K) (_hh:c.held=none) (hK:K<=1152921504606846976) (hn:n<=4294967296) (hn0:0<n):
  Calls prog 140 #[z,(n:Int)] w (Iy F q p n c w):=by
 refine letter fun R HR=> ?_;have HT:=aa (mY n s h Q hK (by omega) hn0);obtain⟨L,hL⟩:=gF (c.bytes n);have HL:=aa hL;have o9:Hid (L.2.2.Ok K):=aa (by rw [hL];exact ay.bytes_ok Q n);have fq:Hid (L.2.1=0->L.1.length=n):=aa (by rw [hL];exact ay.bytes_len Q n hn0);have HS:=aa s;have HH:=aa h;have c0:w.cell? q=some (.int .i64 c.at_):=h.blk.cell 0;have HZ:Hid (¬Cs q p w z):=aa (fun e=>by rcases e with e|e|e;exact ap e;exact ao e;omega);have PK:=aa (jK (c.at_:Nat) c0);have V:Hid (L.2.1≠0->c.body n=⟨[],L.2.1,c.at_,L.2.2⟩):=aa (fun E=>by unfold ay.body;rw [<-hL,if_pos E]);obtain⟨M,O⟩:=gF (L.2.2.bytes 4);have Jv:=aa O;have Uo:Hid (M.2.1=0->M.1.length=4):=aa (by rw [O];exact ay.bytes_len o9 4 (by omega));have y:Hid (L.2.1=0->M.2.1≠0->c.body n=⟨[],M.2.1,L.2.2.at_,M.2.2⟩):=aa (fun E r=>by unfold ay.body;rw [<-hL,if_neg (fun h=>h E),<-O,if_pos r]);have B:Hid (L.2.1=0->M.2.1=0->M.1≠four (bg L.1)->c.body n=⟨[],22,L.2.2.at_,M.2.2⟩):=aa (fun E r N=>by unfold ay.body;rw [<-hL,if_neg (fun h=>h E),<-O,if_neg (fun h=>h r),if_pos N]);have dE:Hid (L.2.1=0->M.2.1=0->M.1=four (bg L.1)->c.body n=⟨L.1,0,0,M.2.2⟩):=aa (fun E r N=>by unfold ay.body;rw [<-hL,if_neg (fun h=>h E),<-O,if_neg (fun h=>h r),if_neg (fun h=>h N)]);have au:=aa an;clear s h Q _hh hL ap ao O an;go_enter func140,ntmps140;go_upto_region 2 with(go_at_call 136;go_loud (refine PK.mono ?_);rintro e w2 ⟨rfl,rfl⟩)
 go_upto_region 3 with(go_at_call 90;go_loud (refine HT.mono ?_);rintro e w2 ⟨v,aE,rfl,H,G,hC⟩;rw [<-HL.out] at H G|-;have HO:=aa H;have HI:=aa G;have J:=aa hC;clear H G hC)
 have a0:w2.cell? z=some (q:Value):=J.out.cell HZ am;obtain⟨er,dN⟩:=gF L.2.1;rw [<-dN] at V y B dE HO fq|-;clear dN am c0
 by_cases e0:er=0
 ·subst e0;have c1:w2.cell? q=some (.int .i64 L.2.2.at_):=HI.out.blk.cell 0;have aw:=aa (jK (L.2.2.at_:Nat) c1);have ar:=aa (mY 4 (HS.up J.size) HI o9 hK (by omega) (by omega));have a1:Hid (¬Cs q p w2 z):=aa (fun e=>by rcases e with e|e|e;exact HZ (.inl e);exact HZ (.inr (.inl e));exact absurd au.out (by have:=J.out.size;omega));obtain⟨A,m,cc,rfl,P,T,f,I⟩:=(HO.out rfl).sb;have VV:=aa f;have aA:m=n:=by rw [f];exact fq rfl
  subst aA;clear P T f I;go_upto_region 6 with(go_at_call 136;go_loud (refine aw.mono ?_);rintro e k ⟨rfl,rfl⟩)
  go_upto_region 7 with(go_at_call 90;go_loud (refine ar.mono ?_);rintro e k ⟨v3,l,rfl,H,G,hC⟩;rw [<-Jv.out] at H G|-;have qN:=aa H;have W:=aa G;have fu:=aa hC;clear H G hC)
  have X:Hid (ag (Cs q p w) w k):=aa (J.out.trans fu (fun b hb e=>by rcases e with e|e|e;exact .inl e;exact .inr (.inl e);exact .inr (.inr (ma J.size e))))
  have Po:Hid (Ow k w (.slice A m cc) L.1):=aa ((HO (by trivial)).chg fu (fun g hg e=>by
   obtain⟨r,N⟩:=ah (HO (by trivial)) g hg;have h3:=HS.out.pB;have h4:=HS.out.qB
   rcases e with e|e|e
   ·omega
   ·omega
   ·omega))
  obtain⟨e2,ac⟩:=gF M.2.1;rw [<-ac] at y B dE qN Uo|-;clear ac a0 c1
  by_cases D:e2=0
  ·subst D;obtain⟨A3,m3,c3,rfl,P,T,f,I⟩:=(qN.out (by trivial)).sb;have Vh:m3=4:=by rw [f];exact Uo (by trivial)
   subst Vh;have mH:=aa f;obtain⟨x5,o⟩:=gF k.heap.size;obtain⟨x,d⟩:=gF (k.alloc (.cells #[.slice A m cc,.slice A3 4 c3] 24));have U:Hid (Below k k x):=aa (by rw [d];exact gV);have ad:SB x (fun b=>b<x) (.slice A m cc) L.1:=((Po.below U).sb.lt).weak (fun b h=>h.2);have ae:SB x (fun b=>b<x) (.slice A3 4 c3) M.1:=(((qN (by trivial)).below U).sb.lt).weak (fun b h=>h.2)
   have al:Tx x (fun b=>b<x) (some ⟨x5,0,none⟩) 2 2 [L.1,M.1]:=by
    refine⟨jO,by simp [maxLen],aa rfl,[.slice A m cc,.slice A3 4 c3],⟨rfl,fun _=>⟨x5,0,rfl,by rw [o,d,World.size_alloc];exact Nat.lt_succ_self _,fun j u hj=> ?_⟩⟩,fun i t ht=> ?_⟩
    ·rw [o,d,(ak.new k _ _).cell];simpa using hj
    ·rcases i with _|_|i
     ·simp at ht;subst ht;exact⟨_,rfl,ad⟩
     ·simp at ht;subst ht;exact⟨_,rfl,ae⟩
     ·simp at ht
   have Mv:=aa (yB (fun b=>b<x) (some ⟨x5,0,none⟩) 2 2 (ts:=[L.1,M.1]) al (fun _ h=>h) (by omega) (by have r:=VV.out;have N:=mH.out;simp;omega));rw [show [L.1,M.1].flatten=L.1++M.1 by simp] at Mv;clear P T f I ad ae al;go_upto_region 10 with(first|(go_at_call 170;rw [<-d,<-o];go_loud (refine Mv.mono ?_);rintro e w5 ⟨v5,rfl,ab,Z⟩;have eF:=aa Z;obtain⟨A5,m5,c5,rfl,P,T,f,I⟩:=ab.sb;have TZ:m5=m+4:=(by have r:=VV.out;have N:=mH.out;rw [f,mq];omega);subst TZ;obtain⟨b5,o5,rfl,_,_⟩:=I.2 (by omega);have aq:=aa (Nn c5 I VV mH.out.symm P T (by omega));clear ab Z P T f I)|(go_at_call 169;go_loud (refine aq.mono ?_);rintro e w6 ⟨v6,rfl,jw⟩;have gG:=aa jw;clear jw))
   have MC:Hid (Below k k w6):=aa ((U.out.trans (eF.mono U.size)).trans (gG.mono (ma U.size eF.size)));have My:Hid (oU w6 F q p M.2.2 l):=aa (W.chg (S:=Nil) (ag.of_below MC) (fun h=>h) (fun h=>h) (fun _ _ h=>h));have eY:Hid (ag (Cs q p w) w w6):=aa (X.then MC);have lX:Hid (Ow w6 w (.slice A m cc) L.1):=aa (Po.below MC);clear d o
   by_cases a:four (bg L.1)=M.1
   ·rw [if_pos a];have C:Hid (M.1=four (bg L.1)):=aa a.symm;clear a;go_wp2;go_ret3;rw [HR.out];unfold Iy;rw [dE.out (by trivial) (by trivial) C.out]
    exact⟨_,l,rfl,fun _=>lX,My,eY⟩
   ·rw [if_neg a];have C:Hid (M.1≠four (bg L.1)):=aa (fun e=>a e.symm);clear a;go_wp2;go_ret3;rw [HR.out];unfold Iy;rw [B.out (by trivial) (by trivial) C.out]
    exact⟨_,l,rfl,fun h=>absurd h (show¬((22:Int)=0) by decide),My,eY⟩
  ·have a2:(e2==0)=false:=by rw [mi];exact D
   have Y:=aa D;go_wp2;go_ret3;rw [HR.out];unfold Iy;rw [y.out (by trivial) Y.out]
   exact⟨_,l,rfl,fun h=>absurd h Y,W,X⟩
 ·have YX:(er==0)=false:=by rw [mi];exact e0
  have mM:=aa e0;go_wp2;go_ret3;rw [HR.out];unfold Iy;rw [V.out mM.out];exact⟨_,aE,rfl,fun h=>absurd h mM,HI,J⟩
def tb (a k:Nat):Value:=bv (UInt8.ofNat (a/256^k))
def EG (a k:Nat):Array Value:= #[if 0<k then tb a 0 else .int .u8 0,if 1<k then tb a 1 else .int .u8 0,if 2<k then tb a 2 else .int .u8 0,if 3<k then tb a 3 else .int .u8 0,if 4<k then tb a 4 else .int .u8 0,if 5<k then tb a 5 else .int .u8 0,if 6<k then tb a 6 else .int .u8 0,if 7<k then tb a 7 else .int .u8 0,.int .u8 0,.int .u8 0,.int .u8 0,.int .u8 0]
theorem iB (a k:Nat) (d:Int) (h:((256^k:Nat):Int)=d):tb a k= .int .u8 ((a:Int)/d%256):=by
 unfold tb bv;rw [UInt8.toNat_ofNat',<-h];congr 1
theorem Pp (a:Nat) (w:World) (K:a<9223372036854775808):Calls prog 164 #[(a:Int)] w fun e w'=>∃v,e= .returned v/\Ow w' w v (dV a)/\Below w w w':=by
 obtain⟨F,o,r,s,t⟩:=info_parts bD;refine letter fun R A=> ?_;have M:IntKind.u64.wrap (a:Int)=(a:Int):=IntWalk.u64_in _ (by omega)
 have E:(Instr.makeSlice 24 (.int .i64 8) (.int .i64 12)).run prog w= .ok (.slice (some ⟨w,0,none⟩) 8 12) (w.alloc (.cells #[.int .u8 0,.int .u8 0,.int .u8 0,.int .u8 0,.int .u8 0,.int .u8 0,.int .u8 0,.int .u8 0,.int .u8 0,.int .u8 0,.int .u8 0,.int .u8 0] 5)):=by
  have c:=mg (P:=prog) 24 5 F _ underlying24 o r .i64 .i64 8 12 (by omega) (by rw [t];omega) (by omega) w;have q:madeCells (Value.int .u8 0).cells (12*1)= #[.int .u8 0,.int .u8 0,.int .u8 0,.int .u8 0,.int .u8 0,.int .u8 0,.int .u8 0,.int .u8 0,.int .u8 0,.int .u8 0,.int .u8 0,.int .u8 0]:=by kernel_rfl
  rw [s,q] at c;exact c
 go_enter func164,ntmps164
 go_upto_region 2 with fail
 obtain⟨x,l⟩:=gF w.heap.size;obtain⟨w1,h⟩:=gF (w.alloc (.cells #[.int .u8 0,.int .u8 0,.int .u8 0,.int .u8 0,.int .u8 0,.int .u8 0,.int .u8 0,.int .u8 0,.int .u8 0,.int .u8 0,.int .u8 0,.int .u8 0] 5));rw [<-h,<-l];have m:Hid (ak w1 x 5 (EG a 0)):=aa (by rw [h,l];exact ak.new _ _ _);have g:=aa l;have n:Hid (Below w w w1):=aa (by rw [h];exact gV);clear h l;go_wp2
 go_loopw [8] (fun u y=>∃k:Nat,k<=8/\u= (k:Int)/\Hid (ak y x 5 (EG a k))/\Hid (Below w w y)) (fun u _=>8-(intOf u).toNat)
 case atStart=>exact⟨0,by omega,rfl,m,n⟩
 case round=>
  obtain⟨k,L,rfl,b,f⟩:=hrel;have B:k=0\/k=1\/k=2\/k=3\/k=4\/k=5\/k=6\/k=7\/k=8:=by omega
  rcases B with rfl|rfl|rfl|rfl|rfl|rfl|rfl|rfl|rfl
  ·show Code.wp _ _ _ _ _;have d:Hid ((EG a 0).setIfInBounds 0 (tb a 0)=EG a (0+1)):=aa rfl;have i:=b.out.frozen 0;have z:wr.cell? x=some (.int .u8 0):=b.out.cell 0;go_wp2;refine⟨⟨0+1,by omega,by go_num,aa ?_,aa (f.setCell (p:=x) (by rw [g.out];exact jO) _)⟩,by simp [intOf]⟩;have c:=b.out.set_ 0 (tb a 0);rw [d.out] at c;rw [show Value.int IntKind.u8 ((a:Int)%256)=tb a 0 from(by rw [iB a 0 1 rfl,Int.ediv_one])]
   exact c
  ·show Code.wp _ _ _ _ _;have d:Hid ((EG a 1).setIfInBounds 1 (tb a 1)=EG a (1+1)):=aa rfl;have i:=b.out.frozen 1;have z:wr.cell? ⟨x,1,none⟩=some (.int .u8 0):=b.out.cell 1;go_wp2;refine⟨⟨1+1,by omega,by go_num,aa ?_,aa (f.setCell (p:=⟨x,1,none⟩) (by rw [g.out];exact jO) _)⟩,by simp [intOf]⟩;have c:=b.out.set_ 1 (tb a 1);rw [d.out] at c;rw [show Value.int IntKind.u8 ((a:Int)/256%256)=tb a 1 from(iB a 1 _ rfl).symm]
   exact c
  ·show Code.wp _ _ _ _ _;have d:Hid ((EG a 2).setIfInBounds 2 (tb a 2)=EG a (2+1)):=aa rfl;have i:=b.out.frozen 2;have z:wr.cell? ⟨x,2,none⟩=some (.int .u8 0):=b.out.cell 2;go_wp2;refine⟨⟨2+1,by omega,by go_num,aa ?_,aa (f.setCell (p:=⟨x,2,none⟩) (by rw [g.out];exact jO) _)⟩,by simp [intOf]⟩;have c:=b.out.set_ 2 (tb a 2);rw [d.out] at c;rw [show Value.int IntKind.u8 ((a:Int)/65536%256)=tb a 2 from(iB a 2 _ rfl).symm]
   exact c
  ·show Code.wp _ _ _ _ _;have d:Hid ((EG a 3).setIfInBounds 3 (tb a 3)=EG a (3+1)):=aa rfl;have i:=b.out.frozen 3;have z:wr.cell? ⟨x,3,none⟩=some (.int .u8 0):=b.out.cell 3;go_wp2;refine⟨⟨3+1,by omega,by go_num,aa ?_,aa (f.setCell (p:=⟨x,3,none⟩) (by rw [g.out];exact jO) _)⟩,by simp [intOf]⟩;have c:=b.out.set_ 3 (tb a 3);rw [d.out] at c;rw [show Value.int IntKind.u8 ((a:Int)/16777216%256)=tb a 3 from(iB a 3 _ rfl).symm]
   exact c
  ·show Code.wp _ _ _ _ _;have d:Hid ((EG a 4).setIfInBounds 4 (tb a 4)=EG a (4+1)):=aa rfl;have i:=b.out.frozen 4;have z:wr.cell? ⟨x,4,none⟩=some (.int .u8 0):=b.out.cell 4;go_wp2;refine⟨⟨4+1,by omega,by go_num,aa ?_,aa (f.setCell (p:=⟨x,4,none⟩) (by rw [g.out];exact jO) _)⟩,by simp [intOf]⟩;have c:=b.out.set_ 4 (tb a 4);rw [d.out] at c;rw [show Value.int IntKind.u8 ((a:Int)/4294967296%256)=tb a 4 from(iB a 4 _ rfl).symm]
   exact c
  ·show Code.wp _ _ _ _ _;have d:Hid ((EG a 5).setIfInBounds 5 (tb a 5)=EG a (5+1)):=aa rfl;have i:=b.out.frozen 5;have z:wr.cell? ⟨x,5,none⟩=some (.int .u8 0):=b.out.cell 5;go_wp2;refine⟨⟨5+1,by omega,by go_num,aa ?_,aa (f.setCell (p:=⟨x,5,none⟩) (by rw [g.out];exact jO) _)⟩,by simp [intOf]⟩;have c:=b.out.set_ 5 (tb a 5);rw [d.out] at c;rw [show Value.int IntKind.u8 ((a:Int)/1099511627776%256)=tb a 5 from(iB a 5 _ rfl).symm]
   exact c
  ·show Code.wp _ _ _ _ _;have d:Hid ((EG a 6).setIfInBounds 6 (tb a 6)=EG a (6+1)):=aa rfl;have i:=b.out.frozen 6;have z:wr.cell? ⟨x,6,none⟩=some (.int .u8 0):=b.out.cell 6;go_wp2;refine⟨⟨6+1,by omega,by go_num,aa ?_,aa (f.setCell (p:=⟨x,6,none⟩) (by rw [g.out];exact jO) _)⟩,by simp [intOf]⟩;have c:=b.out.set_ 6 (tb a 6);rw [d.out] at c;rw [show Value.int IntKind.u8 ((a:Int)/281474976710656%256)=tb a 6 from(iB a 6 _ rfl).symm]
   exact c
  ·show Code.wp _ _ _ _ _;have d:Hid ((EG a 7).setIfInBounds 7 (tb a 7)=EG a (7+1)):=aa rfl;have i:=b.out.frozen 7;have z:wr.cell? ⟨x,7,none⟩=some (.int .u8 0):=b.out.cell 7;go_wp2;refine⟨⟨7+1,by omega,by go_num,aa ?_,aa (f.setCell (p:=⟨x,7,none⟩) (by rw [g.out];exact jO) _)⟩,by simp [intOf]⟩;have c:=b.out.set_ 7 (tb a 7);rw [d.out] at c;rw [show Value.int IntKind.u8 ((a:Int)/72057594037927936)=tb a 7 from(by rw [iB a 7 72057594037927936 rfl,Int.emod_eq_of_lt (by omega) (by omega)])]
   exact c
  ·have N:wr.cell? ⟨x,8,none⟩=some (.int .u8 0):=b.out.cell 8;have O:wr.cell? ⟨x,9,none⟩=some (.int .u8 0):=b.out.cell 9;have G:wr.cell? ⟨x,10,none⟩=some (.int .u8 0):=b.out.cell 10;have H:wr.cell? ⟨x,11,none⟩=some (.int .u8 0):=b.out.cell 11;have I:=b.out.frozen 8;have J:=b.out.frozen 9;have C:=b.out.frozen 10;have D:=b.out.frozen 11;go_wp2;rw [A.out];have c:=(((b.set_ 8 (.int .u8 101)).set_ 9 (.int .u8 110)).set_ 10 (.int .u8 100)).set_ 11 (.int .u8 46);have j:w<=x:=by rw [g.out];exact jO
   refine⟨_,rfl,⟨by rw [dO,Nat.mul_one],.inr ⟨x,12,_,rfl,j,c,by simp [dV],by simp [maxLen],by simp [EG],?_⟩⟩,?_⟩
   ·kernel_rfl
   ·exact(((f.setCell (p:=⟨x,8,none⟩) j _).setCell (p:=⟨x,9,none⟩) j _).setCell (p:=⟨x,10,none⟩) j _).setCell (p:=⟨x,11,none⟩) j _
def MP (a k:Nat):List Value:=(List.range k).map (tb a)
theorem jW (a k:Nat):MP a k++ [tb a k]=MP a (k+1):=by simp [MP,List.range_succ]
theorem Pt (a:Nat):MP a 8++ [.int .u8 101,.int .u8 110,.int .u8 100,.int .u8 46]=aI (dV a):=by kernel_rfl
theorem Ct (a:Nat) (w:World) (G:a<9223372036854775808):Calls prog 109 #[(a:Int)] w fun e w'=>∃v,e= .returned v/\Ow w' w v (dV a)/\Below w w w':=by
 obtain⟨y,l,m,n,o⟩:=info_parts bD;refine letter fun R C=> ?_;have H:IntKind.u64.wrap (a:Int)=(a:Int):=IntWalk.u64_in _ (by omega);go_enter func109,ntmps109;go_wp2
 go_loopw [3,4] (fun ov z B=>∃k:Nat,k<=8/\z= (k:Int)/\Hid (B.ownsRow w 5 1 ov k (MP a k))/\Hid (Below w w B)) (fun _ z _=>8-(intOf z).toNat)
 case atStart=>exact⟨0,by omega,rfl,aa (World.ownsRow_nil _ _ _ _),aa mh⟩
 case round=>
  obtain⟨k,p,rfl,j,f⟩:=hrel;obtain⟨A,c,rfl,E,F⟩:=ax j;clear E F;have D:k=0\/k=1\/k=2\/k=3\/k=4\/k=5\/k=6\/k=7\/k=8:=by omega
  rcases D with rfl|rfl|rfl|rfl|rfl|rfl|rfl|rfl|rfl
  ·have i:Value.int IntKind.u8 ((a:Int)%256)=tb a 0:=(by rw [iB a 0 1 rfl,Int.ediv_one]);have x:=aa i;clear i;go_wp2_with (at_builtin;go_loud (refine af _ rfl (.tmp 9) (.tmp 16) _ rfl w 5 y _ 1 1 underlying24 l m n o rfl (by omega) (.slice A 0 c) 0 (MP a 0) rfl (own_below j gV) (From wr) (some ⟨wr,0,none⟩) 1 1 [tb a 0] rfl (by rw [<-x.out];exact Rd.lit1 wr #[.int .u8 ((a:Int)%256)] 5) (by intro u h;simp at h;subst h;rfl) (by simp only [maxLen];omega) (by omega) (by have r:=f.out.size;simp;omega) ?_);intro v1 w1 b d s;have t:=aa b;have q:=aa d;clear b d s)
   refine⟨⟨0+1,by omega,by go_num,aa ?_,aa ?_⟩,by simp [intOf]⟩
   ·have g:=t.out;rw [jW] at g
    exact g
   ·exact(f.alloc f.size _).grown q (by have r:=f.out.size;simp;omega) (fun k p=>(ah j k p).1)
  ·have i:Value.int IntKind.u8 ((a:Int)/256%256)=tb a 1:=(iB a 1 _ rfl).symm;have x:=aa i;clear i;go_wp2_with (at_builtin;go_loud (refine af _ rfl (.tmp 9) (.tmp 16) _ rfl w 5 y _ 1 1 underlying24 l m n o rfl (by omega) (.slice A 1 c) 1 (MP a 1) rfl (own_below j gV) (From wr) (some ⟨wr,0,none⟩) 1 1 [tb a 1] rfl (by rw [<-x.out];exact Rd.lit1 wr #[.int .u8 ((a:Int)/256%256)] 5) (by intro u h;simp at h;subst h;rfl) (by simp only [maxLen];omega) (by omega) (by have r:=f.out.size;simp;omega) ?_);intro v1 w1 b d s;have t:=aa b;have q:=aa d;clear b d s)
   refine⟨⟨1+1,by omega,by go_num,aa ?_,aa ?_⟩,by simp [intOf]⟩
   ·have g:=t.out;rw [jW] at g
    exact g
   ·exact(f.alloc f.size _).grown q (by have r:=f.out.size;simp;omega) (fun k p=>(ah j k p).1)
  ·have i:Value.int IntKind.u8 ((a:Int)/65536%256)=tb a 2:=(iB a 2 _ rfl).symm;have x:=aa i;clear i;go_wp2_with (at_builtin;go_loud (refine af _ rfl (.tmp 9) (.tmp 16) _ rfl w 5 y _ 1 1 underlying24 l m n o rfl (by omega) (.slice A 2 c) 2 (MP a 2) rfl (own_below j gV) (From wr) (some ⟨wr,0,none⟩) 1 1 [tb a 2] rfl (by rw [<-x.out];exact Rd.lit1 wr #[.int .u8 ((a:Int)/65536%256)] 5) (by intro u h;simp at h;subst h;rfl) (by simp only [maxLen];omega) (by omega) (by have r:=f.out.size;simp;omega) ?_);intro v1 w1 b d s;have t:=aa b;have q:=aa d;clear b d s)
   refine⟨⟨2+1,by omega,by go_num,aa ?_,aa ?_⟩,by simp [intOf]⟩
   ·have g:=t.out;rw [jW] at g
    exact g
   ·exact(f.alloc f.size _).grown q (by have r:=f.out.size;simp;omega) (fun k p=>(ah j k p).1)
  ·have i:Value.int IntKind.u8 ((a:Int)/16777216%256)=tb a 3:=(iB a 3 _ rfl).symm;have x:=aa i;clear i;go_wp2_with (at_builtin;go_loud (refine af _ rfl (.tmp 9) (.tmp 16) _ rfl w 5 y _ 1 1 underlying24 l m n o rfl (by omega) (.slice A 3 c) 3 (MP a 3) rfl (own_below j gV) (From wr) (some ⟨wr,0,none⟩) 1 1 [tb a 3] rfl (by rw [<-x.out];exact Rd.lit1 wr #[.int .u8 ((a:Int)/16777216%256)] 5) (by intro u h;simp at h;subst h;rfl) (by simp only [maxLen];omega) (by omega) (by have r:=f.out.size;simp;omega) ?_);intro v1 w1 b d s;have t:=aa b;have q:=aa d;clear b d s)
   refine⟨⟨3+1,by omega,by go_num,aa ?_,aa ?_⟩,by simp [intOf]⟩
   ·have g:=t.out;rw [jW] at g
    exact g
   ·exact(f.alloc f.size _).grown q (by have r:=f.out.size;simp;omega) (fun k p=>(ah j k p).1)
  ·have i:Value.int IntKind.u8 ((a:Int)/4294967296%256)=tb a 4:=(iB a 4 _ rfl).symm;have x:=aa i;clear i;go_wp2_with (at_builtin;go_loud (refine af _ rfl (.tmp 9) (.tmp 16) _ rfl w 5 y _ 1 1 underlying24 l m n o rfl (by omega) (.slice A 4 c) 4 (MP a 4) rfl (own_below j gV) (From wr) (some ⟨wr,0,none⟩) 1 1 [tb a 4] rfl (by rw [<-x.out];exact Rd.lit1 wr #[.int .u8 ((a:Int)/4294967296%256)] 5) (by intro u h;simp at h;subst h;rfl) (by simp only [maxLen];omega) (by omega) (by have r:=f.out.size;simp;omega) ?_);intro v1 w1 b d s;have t:=aa b;have q:=aa d;clear b d s)
   refine⟨⟨4+1,by omega,by go_num,aa ?_,aa ?_⟩,by simp [intOf]⟩
   ·have g:=t.out;rw [jW] at g
    exact g
   ·exact(f.alloc f.size _).grown q (by have r:=f.out.size;simp;omega) (fun k p=>(ah j k p).1)
  ·have i:Value.int IntKind.u8 ((a:Int)/1099511627776%256)=tb a 5:=(iB a 5 _ rfl).symm;have x:=aa i;clear i;go_wp2_with (at_builtin;go_loud (refine af _ rfl (.tmp 9) (.tmp 16) _ rfl w 5 y _ 1 1 underlying24 l m n o rfl (by omega) (.slice A 5 c) 5 (MP a 5) rfl (own_below j gV) (From wr) (some ⟨wr,0,none⟩) 1 1 [tb a 5] rfl (by rw [<-x.out];exact Rd.lit1 wr #[.int .u8 ((a:Int)/1099511627776%256)] 5) (by intro u h;simp at h;subst h;rfl) (by simp only [maxLen];omega) (by omega) (by have r:=f.out.size;simp;omega) ?_);intro v1 w1 b d s;have t:=aa b;have q:=aa d;clear b d s)
   refine⟨⟨5+1,by omega,by go_num,aa ?_,aa ?_⟩,by simp [intOf]⟩
   ·have g:=t.out;rw [jW] at g
    exact g
   ·exact(f.alloc f.size _).grown q (by have r:=f.out.size;simp;omega) (fun k p=>(ah j k p).1)
  ·have i:Value.int IntKind.u8 ((a:Int)/281474976710656%256)=tb a 6:=(iB a 6 _ rfl).symm;have x:=aa i;clear i;go_wp2_with (at_builtin;go_loud (refine af _ rfl (.tmp 9) (.tmp 16) _ rfl w 5 y _ 1 1 underlying24 l m n o rfl (by omega) (.slice A 6 c) 6 (MP a 6) rfl (own_below j gV) (From wr) (some ⟨wr,0,none⟩) 1 1 [tb a 6] rfl (by rw [<-x.out];exact Rd.lit1 wr #[.int .u8 ((a:Int)/281474976710656%256)] 5) (by intro u h;simp at h;subst h;rfl) (by simp only [maxLen];omega) (by omega) (by have r:=f.out.size;simp;omega) ?_);intro v1 w1 b d s;have t:=aa b;have q:=aa d;clear b d s)
   refine⟨⟨6+1,by omega,by go_num,aa ?_,aa ?_⟩,by simp [intOf]⟩
   ·have g:=t.out;rw [jW] at g
    exact g
   ·exact(f.alloc f.size _).grown q (by have r:=f.out.size;simp;omega) (fun k p=>(ah j k p).1)
  ·have i:Value.int IntKind.u8 ((a:Int)/72057594037927936)=tb a 7:=(by rw [iB a 7 72057594037927936 rfl,Int.emod_eq_of_lt (by omega) (by omega)]);have x:=aa i;clear i;go_wp2_with (at_builtin;go_loud (refine af _ rfl (.tmp 9) (.tmp 16) _ rfl w 5 y _ 1 1 underlying24 l m n o rfl (by omega) (.slice A 7 c) 7 (MP a 7) rfl (own_below j gV) (From wr) (some ⟨wr,0,none⟩) 1 1 [tb a 7] rfl (by rw [<-x.out];exact Rd.lit1 wr #[.int .u8 ((a:Int)/72057594037927936)] 5) (by intro u h;simp at h;subst h;rfl) (by simp only [maxLen];omega) (by omega) (by have r:=f.out.size;simp;omega) ?_);intro v1 w1 b d s;have t:=aa b;have q:=aa d;clear b d s)
   refine⟨⟨7+1,by omega,by go_num,aa ?_,aa ?_⟩,by simp [intOf]⟩
   ·have g:=t.out;rw [jW] at g
    exact g
   ·exact(f.alloc f.size _).grown q (by have r:=f.out.size;simp;omega) (fun k p=>(ah j k p).1)
  ·go_wp2_with (at_builtin;go_loud (refine af _ rfl (.tmp 18) (.tmp 19) _ rfl w 5 y _ 1 1 underlying24 l m n o rfl (by omega) (.slice A 8 c) 8 (MP a 8) rfl (own_below j gV) (From wr) (some ⟨wr,0,none⟩) 4 4 [.int .u8 101,.int .u8 110,.int .u8 100,.int .u8 46] rfl (Rd.lit1 wr #[.int .u8 101,.int .u8 110,.int .u8 100,.int .u8 46] 5) (by intro u h;simp at h;rcases h with rfl|rfl|rfl|rfl<;>rfl) (by simp only [maxLen];omega) (by omega) (by have r:=f.out.size;simp;omega) ?_);intro v1 w1 b d s;have t:=aa b;have q:=aa d;clear b d s)
   rw [C.out];have g:=t.out;rw [Pt] at g;exact⟨_,rfl,g,(f.alloc f.size _).grown q (by have r:=f.out.size;simp;omega) (fun k p=>(ah j k p).1)⟩
theorem O8 (w:World):Calls prog 61 #[] w fun e w'=>e= .returned (.slice (some ⟨w,0,none⟩) 8 8)/\SB w' (From w) (.slice (some ⟨w,0,none⟩) 8 8) gD/\Below w w w':=by
 refine letter fun R a=> ?_;go_enter func61,ntmps61;go_wp2;rw [a.out]
 exact⟨rfl,⟨_,_,_,rfl,jO,by simp [maxLen],rfl,Rd.lit1 w _ _⟩,gV⟩
section
theorem nS (w:World):(sizeOf (prog.elem 24)).run prog w= .ok 1 w:=by kernel_rfl
theorem uZ:prog.underlying 24=some (.slice (prog.elem 24)):=by kernel_rfl
section
variable {F:Nat->Prop} {w:World} {A:Option Addr} {n c:Nat} {bs:List UInt8}
theorem ZK {p:Nat} (h:Rd w F 1 A n (aI bs)) (G:p<=n) (j:n<=c):
  ∃a,(∀w',(Instr.slice 24 (.slice A n c) (some (.int .i64 p)) none none).run prog w'= .ok (.slice a (n-p) (c-p)) w')/\Rd w F 1 a (n-p) (aI (bs.drop p)):=by
 refine⟨if c=p then A else A.map (·.add p),fun w'=> ?_,?_⟩
 ·rw [run_slice_l w' _ A n c uZ .i64 p (by omega) (by omega),nS]
  simp [Result.andThen,sliced]
 ·have:=h.cut (k:=p) (cap:=c) G j;rw [Nat.mul_one,zg] at this;exact this
theorem ZL {p:Nat} (h:Rd w F 1 A n (aI bs)) (G:p<=n) (j:n<=c):
  ∃a,(∀w',(Instr.slice 24 (.slice A n c) none (some (.int .i64 p)) none).run prog w'= .ok (.slice a p c) w')/\Rd w F 1 a p (aI (bs.take p)):=by
 refine⟨if c=0 then A else A.map (·.add 0),fun w'=> ?_,?_⟩
 ·rw [run_slice_h w' _ A n c uZ .i64 p (by omega) (by omega),nS]
  simp [Result.andThen,sliced]
 ·have b:=h.cut (k:=0) (cap:=c) (by omega) j;rw [Nat.zero_mul,List.drop_zero] at b;exact b.take1 (k:=p) (by omega)
theorem Wl {p:Nat} (h:Rd w F 1 A n (aI bs)) (G:p<=n) (j:n<=c):
  ∃a,(∀w',(Instr.slice 24 (.slice A n c) none (some (.int .u64 p)) none).run prog w'= .ok (.slice a p c) w')/\Rd w F 1 a p (aI (bs.take p)):=by
 refine⟨if c=0 then A else A.map (·.add 0),fun w'=> ?_,?_⟩
 ·rw [run_slice_h w' _ A n c uZ .u64 p (by omega) (by omega),nS]
  simp [Result.andThen,sliced]
 ·have b:=h.cut (k:=0) (cap:=c) (by omega) j;rw [Nat.zero_mul,List.drop_zero] at b;exact b.take1 (k:=p) (by omega)
theorem Ke {p q:Nat} (h:Rd w F 1 A n (aI bs)) (d:p<=q) (e:q<=n) (j:n<=c):
  ∃a,(∀w',(Instr.slice 24 (.slice A n c) (some (.int .i64 p)) (some (.int .i64 q)) none).run prog w'= .ok (.slice a (q-p) (c-p)) w')/\Rd w F 1 a (q-p) (aI ((bs.drop p).take (q-p))):=by
 refine⟨if c=p then A else A.map (·.add p),fun w'=> ?_,?_⟩
 ·rw [run_slice_lh w' _ A n c uZ .i64 .i64 p q (by omega) (by omega) (by omega),nS]
  simp [Result.andThen,sliced]
 ·have b:=h.cut (k:=p) (cap:=c) (by omega) j;rw [Nat.mul_one,zg] at b;exact b.take1 (k:=q-p) (by omega)
theorem VS {p:Nat} (h:Rd w F 1 A n (aI bs)) (G:p<=n) (j:n<=c):
  ∃b,(∀w',(Instr.slice 24 (.slice A n c) none (some (.int .u64 p)) (some (.int .u64 p))).run prog w'= .ok (.slice b p p) w')/\Rd w F 1 b p (aI (bs.take p)):=by
 refine⟨if p=0 then A else A.map (·.add 0),fun w'=> ?_,?_⟩
 ·rw [run_slice_hm w' _ A n c uZ .u64 .u64 p p (by omega) (by omega) (by omega),nS]
  simp [Result.andThen,sliced]
 ·have d:=h.take1 G
  by_cases a:p=0
  ·subst a;rw [if_pos rfl];exact d
  ·have e:=d.cut (k:=0) (cap:=p) (by omega) jO;rw [Nat.zero_mul,List.drop_zero,if_neg a] at e;rw [if_neg a];exact e
end
end
section
theorem qI {b:List UInt8} {i:Nat} {c:UInt8} (h:b[i]? =some c):b.drop i=c::b.drop (i+1):=by
 obtain⟨hi,rfl⟩:=nE.1 h;exact List.drop_eq_getElem_cons hi
theorem sM (k:Nat) (c:UInt8) (r:List UInt8):fF k (c::r)=if k=9/\1<c.toNat then(12,k) else if 0<k/\c.toNat=0 then(13,k) else if c.toNat<128 then(0,k+1) else fF (k+1) r:=rfl
structure ED (b:List UInt8) (p i v:Nat):Prop where
 le:p<=i
 k9:i-p<=9
 sc:fF 0 (b.drop p)=fF (i-p) (b.drop i)
 vl:v=gZ ((b.drop p).take (i-p))
 ltv:v<128^(i-p)
theorem ED.start (b:List UInt8) (p:Nat):ED b p p 0:=⟨jO,by omega,by simp,by simp [gZ],by simp⟩
section
variable {b:List UInt8} {p i v:Nat} {c:UInt8}
theorem ED.taken (h:ED b p i v) (hc:b[i]? =some c):gZ ((b.drop p).take (i+1-p))=v+c.toNat%128*128^(i-p):=by
 have hl:=h.le;have a:(b.drop p)[i-p]? =some c:=by rw [List.getElem?_drop,show p+(i-p)=i by omega];exact hc
 have hi:=(nE.1 a).1;rw [show i+1-p=(i-p)+1 by omega,List.take_add_one,a];show gZ ((b.drop p).take (i-p)++ [c])=_;rw [qH,<-h.vl,List.length_take,Nat.min_eq_left (by omega)]
theorem ED.bad (h:ED b p i v) (hc:b[i]? =some c) (e:aW (i-p) c≠0):ai b p=(0,i,aW (i-p) c):=by
 have hl:=h.le;have f:=h.sc;rw [qI hc] at f;unfold aW at e|-;unfold ai;rw [f,sM]
 split
 ·rename_i a;simp [a];omega
 ·rename_i a
  split
  ·rename_i d;simp;omega
  ·rename_i d;exact absurd (by rw [if_neg a,if_neg d]) e
theorem ED.whole (h:ED b p i v) (hc:b[i]? =some c) (a:aW (i-p) c=0) (j:c.toNat<128):ai b p=(v+c.toNat%128*128^(i-p),i+1,0):=by
 have hl:=h.le;have d:=h.sc;rw [qI hc] at d;have g:=h.taken hc;unfold aW at a
 split at a
 ·cases a
 ·rename_i e
  split at a
  ·cases a
  ·rename_i f;rw [sM,if_neg e,if_neg f,if_pos j] at d;unfold ai;rw [d];simp only [if_true];rw [show i-p+1=i+1-p by omega,g,show p+(i+1-p)=i+1 by omega]
theorem ED.next (h:ED b p i v) (hc:b[i]? =some c) (a:aW (i-p) c=0) (j:¬c.toNat<128):ED b p (i+1) (v+c.toNat%128*128^(i-p)):=by
 have hl:=h.le;have l:=h.k9;have d:=h.sc;rw [qI hc] at d;have g:=h.taken hc;have m:c.toNat%128<128:=Nat.mod_lt _ (by omega);unfold aW at a
 split at a
 ·cases a
 ·rename_i e
  split at a
  ·cases a
  ·rename_i f;rw [sM,if_neg e,if_neg f,if_neg j] at d;refine⟨by omega,by omega,by rw [d,show i-p+1=i+1-p by omega],g.symm,?_⟩;have hv:=h.ltv;rw [show i+1-p=(i-p)+1 by omega,Nat.pow_succ];have k:c.toNat%128*128^(i-p)<=127*128^(i-p):=Nat.mul_le_mul_right _ (by omega);omega
theorem ED.short (h:ED b p i v) (hi:i=b.length):ai b p=(0,i,11):=by
 have hl:=h.le;have a:=h.sc;rw [List.drop_of_length_le (i:=i) (by omega)] at a;unfold ai;rw [a,show fF (i-p) []=(11,i-p) from rfl];rw [if_neg (by simp),show p+(i-p)=i by omega]
end
theorem mO {F:Nat->Prop} {A:Option Addr} {n:Nat} (c p:Nat) {b:List UInt8} {w:World} (h:Rd w F 1 A n (aI b)) (hn:n=b.length) (G:p<=n) (K:n<=1152921504606):
  Calls prog 194 #[.slice A n c,(p:Int)] w fun e w'=>e= .returned (.tuple #[.int .u64 (ai b p).1,.int .i64 (ai b p).2.1,.int .i64 (ai b p).2.2])/\Below w w w':=by
 have HR:=aa h;have HN:=aa hn;clear h hn;refine letter fun vr N=> ?_;refine letter fun R m=> ?_;have ac:¬((n:Int)<(p:Int)):=by omega
 have ab:decide (n<p)=false:=decide_eq_false (by omega);go_enter func194,ntmps194;go_wp2;go_step3
 go_wp2;go_step3
 obtain⟨w1,l⟩:=gF (w.alloc (.cells #[.int .u64 0,.int .i64 0,.int .i64 0] 308));rw [<-l];have L:Hid (xU w1 w 0 0 0):=aa (by rw [l];exact ak.new _ _ _);have t:Hid (Below w w w1):=aa (by rw [l];exact gV);clear l;go_wp2
 go_loopg [8] (n-p) (fun g' iv Z=>∃(i v:Nat),g'=n-i/\i<=n/\iv= (i:Int)/\ED b p i v/\xU Z w v (i-p) 0/\ag (fun g=>g=w.heap.size) w1 Z)
 case atStart=>exact⟨p,0,rfl,G,rfl,ED.start _ _,by rw [Nat.sub_self];exact L,ag.refl _ _⟩
 case round=>
  obtain⟨i,v,B,hi,rfl,z,D,hc⟩:=hrel;have HG:=aa B;have f:=aa z;have J:=aa D;have HC:=aa hc;have s:Hid (Below w w wr):=aa (t.out.trans (hc.below_of t.size (fun g B e=>by have e:g=w.heap.size:=e;omega)));clear B z D hc
  by_cases Q:i<n
  ·have V:(i:Int)<(n:Int):=by omega
   have C:¬((i:Int)=(n:Int)):=by omega
   obtain⟨bb,o,u,rfl,_,X,q⟩:=(HR.out.below s).at_ Q;obtain⟨x,I,rfl⟩:=eO X;have O:=aa I;simp only [bv] at q;clear X I;obtain⟨eE,U⟩:=gF (aW (i-p) x);obtain⟨Y,H⟩:=gF (decide (aW (i-p) x=0/\x.toNat<128));have j:=aa U;have r:=aa H;clear U H
   by_cases P:eE=0
   ·subst P
    cases Y with
    |true=>
     have k:Hid (x.toNat<128):=aa (of_decide_eq_true r.out.symm).2;obtain⟨v2,E⟩:=gF (v+x.toNat%128*128^(i-p));have T:=aa E;clear E;go_wp2_with (go_at_call 167;go_loud (refine(tO (i-p) x J f.k9 f.ltv).mono ?_);rintro e w2 ⟨rfl,a,d⟩;rw [<-r.out,<-j.out];have z0:w2.cell? w=some (.int .u64 v2):=(by rw [T.out];exact(d j.out.symm).cell 0);have y:=aa a;clear a d);simp only [Exit.noGoto];go_ret3;rw [m.out];rw [N.out,f.out.whole O.out j.out.symm k.out,<-T.out]
     exact⟨rfl,s.out.trans (y.below_of s.size (fun g B e=>by have e:g=w.heap.size:=e;omega))⟩
    |false=>
     have k:Hid (¬x.toNat<128):=aa (fun h=>of_decide_eq_false r.out.symm ⟨j.out.symm,h⟩);go_wp2_with (go_at_call 167;go_loud (refine(tO (i-p) x J f.k9 f.ltv).mono ?_);rintro e w2 ⟨rfl,a,d⟩;rw [<-r.out,<-j.out];have y:=aa a;have M:=aa (d j.out.symm);clear a d)
     go_roundg (n-(i+1))
     case measure=>have:=HG.out;omega
     case rel=>
      have hl:=f.out.le;have W:=M.out;rw [if_neg k.out,show i-p+1=i+1-p by omega] at W
      exact⟨i+1,_,rfl,by omega,by go_num,f.next O j.out.symm k,W,HC.out.trans y (fun _ _ h=>h)⟩
   ·have S:Y=false:=by rw [r.out];exact decide_eq_false (fun h=>P (by rw [j.out];exact h.1))
    subst S;go_wp2_with (go_at_call 167;go_loud (refine(tO (i-p) x J f.k9 f.ltv).mono ?_);rintro e w2 ⟨rfl,a,d⟩;rw [<-r.out,<-j.out];have y:=aa a;clear a d);simp only [Exit.noGoto];go_ret3;rw [m.out];rw [N.out,f.out.bad O.out (by rw [<-j.out];exact P),<-j.out]
    exact⟨rfl,s.out.trans (y.below_of s.size (fun g B e=>by have e:g=w.heap.size:=e;omega))⟩
  ·have C:i=n:=by omega
   subst C;go_wp2;simp only [Exit.noGoto];go_ret3;rw [m.out];rw [N.out,f.out.short HN.out];exact⟨rfl,s⟩
end
def iw (prev b:List UInt8) (p:Nat) (w:World) (e:Ending) (w':World):Prop:=
 ∃K kn kc V vn vc,e= .returned (.tuple #[.agg #[.slice K kn kc,.slice V vn vc],.int .i64 (pread prev b p).next,.int .i64 (pread prev b p).err])/\((pread prev b p).err=0->SB w' (From w) (.slice K kn kc) (pread prev b p).key/\SB w' (From w) (.slice V vn vc) (pread prev b p).val)/\Below w w w'
def rf (b:List UInt8) (p:Nat):Nat->Nat
 |0=>p
 |i+1=>(ai b (rf b p i)).2.1
def EW (b:List UInt8) (p i:Nat):Nat:=(ai b (rf b p i)).1
def zm (b:List UInt8) (p i:Nat):Int:=(ai b (rf b p i)).2.2
theorem wh (b:List UInt8) (p:Nat) (a:p<=b.length):∀i,rf b p i<=b.length
 |0=>a
 |i+1=>(gz b _ (wh b p a i)).2
theorem wm (b:List UInt8) (p i:Nat):EW b p i<18446744073709551616:=zn _ _
def wo (b:List UInt8) (p i:Nat):Array Value:= #[.int .u64 ((if 0<i then EW b p 0 else 0:Nat)),.int .u64 ((if 1<i then EW b p 1 else 0:Nat)),.int .u64 ((if 2<i then EW b p 2 else 0:Nat))]
theorem J9 (b:List UInt8) (p i:Nat) (hi:i<3):(wo b p i).setIfInBounds i (.int .u64 (EW b p i))=wo b p (i+1):=by
 match i,hi with
 |0,_=>rfl
 |1,_=>rfl
 |2,_=>rfl
theorem Ol (b:List UInt8) (p i:Nat) (hi:i<3):∃x,(wo b p i)[i]? =some x:=by
 match i,hi with
 |0,_=>exact⟨_,rfl⟩
 |1,_=>exact⟨_,rfl⟩
 |2,_=>exact⟨_,rfl⟩
theorem zo (prev b:List UInt8) (p:Nat):pread prev b p=if zm b p 0≠0 then⟨[],[],rf b p 1,zm b p 0⟩ else if zm b p 1≠0 then⟨[],[],rf b p 2,zm b p 1⟩ else if zm b p 2≠0 then⟨[],[],rf b p 3,zm b p 2⟩ else bZ prev b p (EW b p 0) (EW b p 1) (EW b p 2) (rf b p 3):=rfl
theorem Om (prev b:List UInt8) (p i:Nat) (hi:i<3) (h:∀j,j<i->zm b p j=0) (a:zm b p i≠0):pread prev b p=⟨[],[],rf b p (i+1),zm b p i⟩:=by
 rw [zo]
 match i,hi with
 |0,_=>rw [if_pos a]
 |1,_=>rw [if_neg (fun e=>e (h 0 (by omega))),if_pos a]
 |2,_=>rw [if_neg (fun e=>e (h 0 (by omega))),if_neg (fun e=>e (h 1 (by omega))),if_pos a]
noncomputable def MK:Code:=aQ (f195.body.bind (fQ 0))
theorem ZI (d p:Nat) {B:Option Addr} {b:List UInt8} {u0 u2 u3 u4 u5 u7 u8 bL bP bT bN u16 f C I u20 u21 u22 u23 u24 u25 u26 u27 u28 u29 u31 u32 u33 u34 u35 u36 u37 u38 dm u40 dw u42 dx u44 u45 u46 dG u48 u49 H u51 A u53 dR u55 S dZ u58 u59 u60 fw fJ u63 u64 v u66 l u68 u69 u70 T u72 u73 N u75 R L W Z O kG kP kQ kR U g ng u mJ c pu rX u93 vw vz o vE sQ sS jg jh k jU kD u105 M lH s lJ lK lL lM lN lQ lS D nG nH u119 nI y nK nM u124 nN nO u127 V uj uk u131 um uo uq ut uu uw u138 u139 uy uz uB J uD uE uG uH uI uJ Y uL u152 uM u154:Value} (Q:Exit->Act->World->Prop)
  (hB:Hid (Rd w F 1 B m (aI b))) (hm:Hid (m=b.length)) (hp:p<=m) (hm2:m<=1152921504606)
  (H6:Hid (ak w q 69 #[(),()])) (H9:Hid (ak w n 69 #[(),()])) (bj:Hid (ak w a 328 #[.int .u64 0,.int .u64 0,.int .u64 0])) (hF:Hid (∀b,F b->b<q/\b<n/\b<a)) (hq:q≠n/\q≠a/\n≠a)
  (au:∀(v7 v8 ab ac ad ae al am an ao ap aq ar aw aA aE a0 a1 a2 a3 a4 a5 a6 a7 a8 a9:Value) (w':World),(∀j,j<3->zm b p j=0)->ak w' q 69 #[(),()]->ak w' n 69 #[(),()]->ak w' a 328 (wo b p 3)->ag (fun b=>b=a) w w'->Q (.exit 0) ⟨(u0:: .slice B m d::u2::u3::u4::u5:: q::v7::v8:: n:: a:: .int .i64 (rf b p 3:Nat)::ab::ac::ad::ae::u16::f::C::I::u20::u21::u22::u23::u24::u25::u26::u27::u28::u29::al::am::an::ao::ap::aq::ar::aw::aA::aE::a0::a1::a2::a3::a4::a5::a6::a7::a8::a9::H::u51::A::u53::dR::u55::S::dZ::u58::u59::u60::fw::fJ::u63::u64::v::u66::l::u68::u69::u70::T::u72::u73::N::u75::R::L::W::Z::O::kG::kP::kQ::kR::U::g::ng::u::mJ::c::pu::rX::u93::vw::vz::o::vE::sQ::sS::jg::jh::k::jU::kD::u105::M::lH::s::lJ::lK::lL::lM::lN::lQ::lS::D::nG::nH::u119::nI::y::nK::nM::u124::nN::nO::u127::V::uj::uk::u131::um::uo::uq::ut::uu::uw::u138::u139::uy::uz::uB::J::uD::uE::uG::uH::uI::uJ::Y::uL::u152::uM::u154:: []).toArray,[]⟩ w')
  (t:∀(bx ab ac ad ae al am an ao ap aq ar aw aA aE a0 a1 a2 a3 a4 a5 a6 a7 a8 a9:Value) (i:Nat) (xn:Nat) (xe:Int) (w':World),i<3->(∀j,j<i->zm b p j=0)->zm b p i≠0->xn=rf b p (i+1)->xe=zm b p i->ak w' q 69 #[(),()]->ag (fun b=>b=a\/b=q) w w'->Q .ret ⟨(u0:: .slice B m d::u2::u3::u4::u5:: q:: .int .i64 xn:: .int .i64 xe:: n:: a::bx::ab::ac::ad::ae::u16::f::C::I::u20::u21::u22::u23::u24::u25::u26::u27::u28::u29::al::am::an::ao::ap::aq::ar::aw::aA::aE::a0::a1::a2::a3::a4::a5::a6::a7::a8::a9::H::u51::A::u53::dR::u55::S::dZ::u58::u59::u60::fw::fJ::u63::u64::v::u66::l::u68::u69::u70::T::u72::u73::N::u75::R::L::W::Z::O::kG::kP::kQ::kR::U::g::ng::u::mJ::c::pu::rX::u93::vw::vz::o::vE::sQ::sS::jg::jh::k::jU::kD::u105::M::lH::s::lJ::lK::lL::lM::lN::lQ::lS::D::nG::nH::u119::nI::y::nK::nM::u124::nN::nO::u127::V::uj::uk::u131::um::uo::uq::ut::uu::uw::u138::u139::uy::uz::uB::J::uD::uE::uG::uH::uI::uJ::Y::uL::u152::uM::u154:: []).toArray,[]⟩ w'):
  Code.wp prog MK Q ⟨(u0:: .slice B m d::u2::u3::u4::u5:: q::u7::u8:: n:: a:: .int .i64 p::bL::bP::bT::bN::u16::f::C::I::u20::u21::u22::u23::u24::u25::u26::u27::u28::u29:: .int .i64 0::u31::u32::u33::u34::u35::u36::u37::u38::dm::u40::dw::u42::dx::u44::u45::u46::dG::u48::u49::H::u51::A::u53::dR::u55::S::dZ::u58::u59::u60::fw::fJ::u63::u64::v::u66::l::u68::u69::u70::T::u72::u73::N::u75::R::L::W::Z::O::kG::kP::kQ::kR::U::g::ng::u::mJ::c::pu::rX::u93::vw::vz::o::vE::sQ::sS::jg::jh::k::jU::kD::u105::M::lH::s::lJ::lK::lL::lM::lN::lQ::lS::D::nG::nH::u119::nI::y::nK::nM::u124::nN::nO::u127::V::uj::uk::u131::um::uo::uq::ut::uu::uw::u138::u139::uy::uz::uB::J::uD::uE::uG::uH::uI::uJ::Y::uL::u152::uM::u154:: []).toArray,[]⟩ w:=by
 have dz:=aa au;have bk:=aa t;have HQ:=aa hq;clear au t hq;conv=>arg 2;whnf
 go_loopg [11,30] 3 (fun g' pv iv wz=>∃i:Nat,g'=3-i/\i<=3/\pv= .int .i64 (rf b p i)/\iv= (i:Int)/\Hid (∀j,j<i->zm b p j=0)/\Hid (ak wz a 328 (wo b p i))/\Hid (ag (fun b=>b=a) w wz))
 case atStart=>exact⟨0,rfl,Nat.zero_le _,rfl,rfl,aa (fun j hj=>absurd hj (by omega)),aa (by have:=bj.out;exact this),aa (ag.refl _ _)⟩
 case round=>
  obtain⟨i,hg,hi,rfl,rfl,HE,ba,r⟩:=hrel;have HG:=aa hg;clear hg
  by_cases K:i<3
  ·obtain⟨P,z⟩:=gF (rf b p i);have HP:=aa z;have bp:P<=m:=by rw [z,hm.out];exact wh b p (by have:=hm.out;omega) i
   rw [<-z];have tL:Hid (Rd wr F 1 B m (aI b)):=aa (hB.out.chg r (fun b hb e=>by have:=(hF.out b hb).2.2;omega));have HV:=aa (mO d P tL hm.out bp hm2);obtain⟨X,hX⟩:=gF ((ai b P).1);obtain⟨P2,G⟩:=gF ((ai b P).2.1);obtain⟨E,hE⟩:=gF ((ai b P).2.2);have HX:Hid (X=EW b p i):=aa (by rw [hX,z];rfl);have PR:Hid (P2=rf b p (i+1)):=aa (by rw [G,z];rfl);have NK:Hid (E=zm b p i):=aa (by rw [hE,z];rfl);rw [<-hX,<-G,<-hE] at HV;have gG:Hid (ak wr q 69 #[(),()]):=aa (H6.chg r (fun e=>HQ.2.1 e));have vk:Hid (ak wr n 69 #[(),()]):=aa (H9.chg r (fun e=>HQ.2.2 e));clear z hX G hE;go_upto_region 10 with(go_at_call 194;go_loud (refine HV.mono ?_);rintro e w2 ⟨rfl,bh⟩;have bz:=aa bh;clear bh)
   have Sw:Hid (ak w2 q 69 #[(),()]):=aa (gG.below bz);have be:Hid (ak w2 n 69 #[(),()]):=aa (vk.below bz);have Sy:Hid (ak w2 a 328 (wo b p i)):=aa (ba.below bz)
   by_cases h0:E=0
   ·have H0:Hid (zm b p i=0):=aa (by rw [<-NK.out];exact h0);subst h0;obtain⟨x,hx⟩:=Ol b p i K;have b0:w2.cell? ⟨a,i,none⟩=some x:=(Sy.out.cell i).trans hx;have bE:=Sy.out.frozen i;have bm:(i:Int)<3:=by omega
    clear hx;go_wp2
    go_roundg (3-(i+1))
    case measure=>have:=HG.out;omega
    case rel=>
     refine⟨i+1,rfl,by omega,by rw [PR.out],by go_num,aa (fun j hj=> ?_),aa ?_,aa ?_⟩
     ·rcases Nat.lt_or_ge j i with h|h
      ·exact HE j h
      ·have:j=i:=by omega
       subst this;exact H0
     ·have:=Sy.out.set_ i (.int .u64 X);rw [HX.out,J9 b p i K] at this;rw [HX.out]
      exact this
     ·exact(r.then bz).setCell (p:=⟨a,i,none⟩) (fun _=>rfl) _
   ·have H0:Hid (zm b p i≠0):=aa (by rw [<-NK.out];exact h0);have bX:(E==0)=false:=by rw [mi];exact h0
    have b3:w2.cell? n=some (.slice none 0 0):=be.out.cell 0;have b4:w2.cell? ⟨n,1,none⟩=some (.slice none 0 0):=be.out.cell 1;have b1:w2.cell? q=some (.slice none 0 0):=Sw.out.cell 0;have b2:w2.cell? ⟨q,1,none⟩=some (.slice none 0 0):=Sw.out.cell 1;have bQ:=Sw.out.frozen 0;have bU:=Sw.out.frozen 1;go_wp2;refine bk _ _ _ _ _ _ _ _ _ _ _ _ _ _ _ _ _ _ _ _ _ _ _ _ _ i P2 E _ K HE H0 PR NK ((Sw.set_ 0 ()).set_ 1 ()) ?_
    exact(((r.mono (fun b _ e=> .inl e)).then bz).setCell (p:=q) (fun _=> .inr rfl) _).setCell (p:=⟨q,1,none⟩) (fun _=> .inr rfl) _
  ·have bm:¬((i:Int)<3):=by omega
   have bo:i=3:=by omega
   subst bo;go_wp2;exact dz _ _ _ _ _ _ _ _ _ _ _ _ _ _ _ _ _ _ _ _ _ _ _ _ _ _ _ HE (H6.chg r (fun e=>HQ.2.1 e)) (H9.chg r (fun e=>HQ.2.2 e)) ba r
end Go.Proofs.YtepgcjbhabnciaaGreat
