/- Part 47. -/
import Derived.WalkMore
import Derived.Test.YtepgcjbhabnciaaGreatLe46
import Derived.Test.YtepgcjbhabnciaaGreatLe43
import Derived.Lib.SlBytesConst
namespace Go.Proofs.YtepgcjbhabnciaaGreat
set_option maxRecDepth 100000
set_option maxHeartbeats 8000000
open Go.Proofs.Tryz Go.RowKit
open Go.RowKit Go.Maps
open Go.RowKit Go.Shelf
section
def gX (L:Nat) (N d:Nat->Nat) (s:Nat):Nat:=if s<L then d (L-s)+1 else if s<L+N 0 then s-L+1 else 0
def iY (x:Nd):List aK:=x.keys.zip x.vals
section
variable {sl:List bR} {root nd lf:Int} {inn L:Nat} {N d:Nat->Nat} {X:Nat->Nat->Nd}
theorem Xa (h:pM sl root nd lf inn L N d X) {s t:Nat} (i:s<t) (l:t<=L+N 0):gX L N d s≠gX L N d t:=by
 unfold gX;have g:d 1=N 0:=by rw [h.step,h.base];omega
 by_cases e:s<L
 ·rw [if_pos e]
  by_cases f:t<L
  ·rw [if_pos f];have a:=h.mono (j:=L-t+1) (k:=L-s) (by omega);have b:=h.step (L-t);have c:=h.pos (L-t)
   omega
  ·rw [if_neg f];have a:=h.mono (j:=1) (k:=L-s) (by omega)
   split<;>omega
 ·rw [if_neg e,if_neg (show¬t<L by omega),if_pos (show s<L+N 0 by omega)];split<;>omega
end
theorem Eh {w:World} {b n:Nat} {f:Int->Int} {k:Int} (h:il w b n (fun j=>if j=k then 1 else f j)) (a: -9223372036854775808<=k) (c:k<=9223372036854775807):(Instr.lookup 125 (.map (some b)) (.int .i64 k) false).run prog w= .ok (.int .i64 1) w:=by
 have:(Instr.lookup 125 (.map (some b)) (.int .i64 k) false).run prog w= .ok (.int .i64 (if k=k then(1:Int) else f k)) w:=h.look a c;rw [if_pos rfl] at this;exact this
theorem QX (F:Nat->Prop) (p:Nat) (nodes root:Int) (sl:List bR) (nd lf:Int) (inn L:Nat) (N d:Nat->Nat) (X:Nat->Nat->Nd) (w:World) (hx:gM w F p nodes sl root) (hn:sl.length<=65536) (hF:∀b,F b->b<w.heap.size)
  (ht:pM sl root nd lf inn L N d X) (aw:lf<=100000) (a9:∀j,j<=N 0->((List.range j).flatMap fun i=>iY (X 0 i)).length<=1000000000):
  Calls prog 22 #[.pointer (some ⟨p,0,none⟩)] w fun e w'=>∃A n c,e= .returned (.slice A n c)/\bz w' (From w.heap.size) A n ((List.range (N 0)).flatMap fun i=>iY (X 0 i))/\Below w.heap.size w w':=by
 have HX:=aa hx;have O:=aa ht;have HF:=aa hF;have BO:=aa hn;have eu:=aa a9;have bj:=aa aw;have wV:=aa ht.root;have cl:=ht.deep;have cn:=ht.fit (Nat.zero_le L);have cp:= @run_makeMap prog;have ap:Hid (Below w.heap.size w (w.alloc (.map #[] 0))):=aa ((Below.refl _ _).alloc (Nat.le_refl _) _);have a5:=aa (il.made w);clear hx hF ht a9 aw;go_enter func22,ntmps22
 go_wp2;go_step3
 go_wp2;go_step3
 go_wp2_with (go_at_call 48;refine(Mf F p nodes root sl _ (HX.below ap)).mono ?_;rintro e w' ⟨rfl,rfl⟩;rw [wV.out])
 go_loopg [3,5,6] (L+N 0+1) (fun g' ov lv iv wr=>∃(s:Nat) (us:List Value) (f:Int->Int),g'=L+N 0+1-s/\s<=L+N 0/\lv= .bool (decide (L<s))/\iv= .int .i64 ((gX L N d s:Nat):Int)/\Er wr (w.heap.size+1) ov us ((List.range (s-L)).flatMap fun i=>iY (X 0 i))/\il wr w.heap.size s f/\Hid (∀y,f y≠0->∃t,t<s/\y=(gX L N d t:Int))/\Below w.heap.size w wr)
 case atStart=>
  have hr:((d L:Int)+1)=((gX L N d 0:Nat):Int):=by
   unfold gX
   by_cases h:0<L
   ·rw [if_pos h];simp
   ·have h0:L=0:=by omega
    have hp:=O.out.pos 0;rw [if_neg h,if_pos (by omega),h0,O.out.base];simp
  refine⟨0,[],fun _=>0,by omega,by omega,by simp,congrArg (Value.int .i64) hr,?_,a5,aa (fun y h=>absurd rfl h),ap⟩
  rw [Nat.zero_sub];exact Er.nil _ _
 case round=>
  obtain⟨s,us,f,hg,hs,rfl,rfl,he,aA,aq,H⟩:=hrel;have HG:=aa hg;have HE:=aa he;have HM:=aa aA;have HB:=aa H;have a3:=aq
  rename World=>wr
  have bO:w.heap.size+1<=wr.heap.size:=aA.lt;obtain⟨m,U⟩:∃Y,Y=gX L N d s:=⟨_,rfl⟩;rw [<-U];have CX:=aa U
  have Jz:Hid (f (m:Int)=0):=aa (by
   by_cases h0:f (m:Int)=0
   ·exact h0
   ·obtain⟨t,ht,e⟩:=aq.out _ h0;have:=Xa O ht hs;exact absurd (by rw [<-U];omega) this)
  clear hg he aA H aq a5 ap U;have T:s<L->m=d (L-s)+1:=fun h=>by rw [CX.out];unfold gX;rw [if_pos h]
  have IY:¬s<L->s<L+N 0->m=s-L+1:=fun h h2=>by rw [CX.out];unfold gX;rw [if_neg h,if_pos h2]
  have IZ:¬s<L->¬s<L+N 0->m=0:=fun h h2=>by rw [CX.out];unfold gX;rw [if_neg h,if_neg h2]
  by_cases a0:s<L
  ·obtain⟨k,hk⟩:∃k,k=L-s:=⟨_,rfl⟩;have bM:m=d k+1:=by rw [T a0,hk]
   have ar:k<=L:=by omega
   have co:1<=k:=by omega
   have YS:=O.out.fit ar;have cu:=O.out.pos k;obtain⟨x,V⟩:∃Y,Y=X k 0:=⟨_,rfl⟩;have ax:1<=(m:Int):=by omega
   have ao:Hid (∃s',sl[((m:Int)).toNat-1]? =some s'/\s'.2=x/\Small s'.2):=aa (by
    rw [show((m:Int)).toNat-1=d k+0 by omega,V];exact(O.lv k ar).at_ 0 (by omega))
   have lJ:Hid (x.lev=(k:Int)):=aa (by rw [V];exact(O.lv k ar).lev 0 (by omega))
   have Yl:Hid (x.kids[0]? =some ((d (k-1):Int)+1)):=aa (by
    have:=O.out.kid0 (k-1) (by omega);rw [show k-1+1=k by omega] at this;rw [V];exact this)
   have qb:Hid ((d (k-1):Int)+1=((gX L N d (s+1):Nat):Int)):=aa (by
    unfold gX
    by_cases h:s+1<L
    ·rw [if_pos h,show L-(s+1)=k-1 by omega];simp
    ·have hp:=O.out.pos 0;rw [if_neg h,if_pos (by omega),show k-1=0 by omega,O.out.base,show s+1-L=0 by omega];simp)
   have bh:=aa hk;have K:m<=65537:=by have:=BO.out;omega
   clear T IY IZ hk V bM;have aw:¬L<s:=by omega
   go_upto_region 10 with(first|(go_at_call 49;go_loud (refine(I1 F p nodes root sl (m:Int) x wr (HX.below HB) ax BO ao).mono ?_);rintro e w1 ⟨u,a,z,B,M,C,D,l,E,G,o,r,rfl,ad,I⟩;have S:=I.size;have J:Below wr.heap.size wr (w1.alloc (.cells #[.int .i64 x.lev,.slice u a z,.int .i64 x.right,.slice B M C,.slice D l E,.slice G o r] 132)):=I.alloc S _;have g:=aa J;have OM:Hid (zk (w1.alloc (.cells #[.int .i64 x.lev,.slice u a z,.int .i64 x.right,.slice B M C,.slice D l E,.slice G o r] 132)) (From wr.heap.size) x u B D G a z M C l E o r):=aa (ad.below ((Below.refl _ _).alloc (Nat.le_refl _) _));have pV:Hid (aj (w1.alloc (.cells #[.int .i64 x.lev,.slice u a z,.int .i64 x.right,.slice B M C,.slice D l E,.slice G o r] 132)) w1.heap.size 132 #[.int .i64 x.lev,.slice u a z,.int .i64 x.right,.slice B M C,.slice D l E,.slice G o r]):=aa (aj.new _ _ _);have ab:(Instr.lookup 125 (.map (some w.heap.size)) (.int .i64 (m:Int)) false).run prog (w1.alloc (.cells #[.int .i64 x.lev,.slice u a z,.int .i64 x.right,.slice B M C,.slice D l E,.slice G o r] 132))= .ok (.int .i64 0) (w1.alloc (.cells #[.int .i64 x.lev,.slice u a z,.int .i64 x.right,.slice B M C,.slice D l E,.slice G o r] 132)):=sM (HM.below J) (by omega) (by omega) Jz;clear ad I J)|(at_mapUpdate;go_loud (refine iE rfl _ _ _ rfl rfl (HM.below g) (by unfold maxLen;omega) (m:Int) 1 rfl rfl (by omega) (by omega) (by omega) (by omega) ?_);intro w2 K P;have qj:=aa K;have Q:=aa P;have bK:(Instr.lookup 125 (.map (some w.heap.size)) (.int .i64 (m:Int)) false).run prog w2= .ok (.int .i64 1) w2:=Eh K (by omega) (by omega);clear K P ab))
   obtain⟨q,R⟩:∃Y,Y=w1.heap.size:=⟨_,rfl⟩;rw [<-R];have bm:wr.heap.size<=w2.heap.size:=Nat.le_trans g.size Q.size;have K6:Hid (Below w.heap.size w w2):=aa (HB.out.trans ((g.mono (by omega)).trans (Q.below_of (Nat.le_trans (by omega) g.size) (fun b H h=>by have h:b=w.heap.size:=h;omega))));have al:=aa ((HE.below g).chg Q (fun b H h=>by have h:b=w.heap.size:=h;omega))
   have SY:Hid (∀y,(fun j=>if j=(m:Int) then 1 else f j) y≠0->∃t,t<s+1/\y=(gX L N d t:Int)):=aa (fun y hy=>by
    by_cases ae:y=(m:Int)
    ·exact⟨s,by omega,by rw [ae,CX.out]⟩
    ·obtain⟨t,ht,e⟩:=a3.out y (fun h0=>hy (by show(if y=(m:Int) then(1:Int) else f y)=0;rw [if_neg ae];exact h0));exact⟨t,by omega,e⟩)
   have am:Hid (aj w2 q 132 #[.int .i64 x.lev,.slice u a z,.int .i64 x.right,.slice B M C,.slice D l E,.slice G o r]):=aa (by rw [R];exact pV.chg Q (fun h=>by have h:w1.heap.size=w.heap.size:=h;omega));have Xb:Hid (zk w2 (From wr.heap.size) x u B D G a z M C l E o r):=aa (OM.chg Q (fun b H h=>by have h:b=w.heap.size:=h;have H:wr.heap.size<=b:=H;omega));have bb:wr.heap.size<=q:=by omega
   clear R g OM pV Q S;have bE:0<o:=by rw [Xb.out.d.len];exact(List.getElem?_eq_some_iff.1 Yl).1
   obtain⟨b2,o2,kid,bo,_,a7,d1⟩:=Xb.out.d.at_ (k:=0) bE;have bx:kid=(d (k-1):Int)+1:=by have h:=Yl.out;rw [a7] at h;injection h
   subst bx bo;rw [Nat.add_zero] at d1;have tZ:Hid (aj w2 q 132 #[.int .i64 (k:Int),.slice u a z,.int .i64 x.right,.slice B M C,.slice D l E,.slice (some ⟨b2,o2,none⟩) o r]):=aa (by have:=am.out;rw [lJ.out] at this;exact this);obtain⟨z0,z1,z2,z3,z4,z5⟩:=Ap tZ;have cq:¬(k:Int)<=0:=by omega
   have cr:((o:Int)==0)=false:=by simp;omega
   have ct:(0:Int)<(o:Int):=by omega
   clear a7;go_wp2_with fail
   go_roundg (L+N 0+1-(s+1))
   case measure=>have:=HG.out;omega
   case rel=>
    refine⟨s+1,us,_,rfl,by omega,?_,congrArg (Value.int .i64) qb,?_,qj,SY,K6⟩
    ·have:=bh.out;simp;omega
    ·have h1:s-L=0:=by omega
     have h2:s+1-L=0:=by omega
     have:=al.out;rw [h1] at this
     rw [h2];exact this
  ·by_cases be:s<L+N 0
   ·obtain⟨i,hi⟩:∃i,i=s-L:=⟨_,rfl⟩;have Hu:m=i+1:=by rw [IY a0 be,hi]
    have Xc:i<N 0:=by omega
    obtain⟨x,V⟩:∃Y,Y=X 0 i:=⟨_,rfl⟩;have ax:1<=(m:Int):=by omega
    have K:m<=65537:=by have:=BO.out;omega
    have ao:Hid (∃s',sl[((m:Int)).toNat-1]? =some s'/\s'.2=x/\Small s'.2):=aa (by
     rw [show((m:Int)).toNat-1=d 0+i by rw [O.out.base];omega,V];exact(O.lv 0 (Nat.zero_le _)).at_ i Xc)
    have lJ:Hid (x.lev=0):=aa (by rw [V];exact(O.lv 0 (Nat.zero_le _)).lev i Xc)
    have qb:Hid (x.right=((gX L N d (s+1):Nat):Int)):=aa (by
     rw [V,(O.out.lv 0 (Nat.zero_le _)).right i Xc,O.out.base];unfold gX
     by_cases h:i+1<N 0
     ·rw [if_pos h,if_neg (by omega),if_pos (by omega)];omega
     ·rw [if_neg h,if_neg (by omega),if_neg (by omega)];rfl)
    have bk:Hid (x.vals.length=x.keys.length):=aa (by rw [V];exact(((O.lv 0 (Nat.zero_le _)).fine i Xc).leaf ((O.lv 0 (Nat.zero_le _)).lev i Xc)).1)
    have YG:Hid (x.keys.length<=100000):=aa (by
     have h1:=(((O.lv 0 (Nat.zero_le _)).fine i Xc).leaf ((O.lv 0 (Nat.zero_le _)).lev i Xc)).2.1;rw [V];have:=bj.out;omega)
    have PQ:=aa V;have a4:=aa hi;clear T IY IZ hi V Hu;go_upto_region 10 with(first|(go_at_call 49;go_loud (refine(I1 F p nodes root sl (m:Int) x wr (HX.below HB) ax BO ao).mono ?_);rintro e w1 ⟨u,a,z,B,M,C,D,l,E,G,o,r,rfl,ad,I⟩;have S:=I.size;have J:Below wr.heap.size wr (w1.alloc (.cells #[.int .i64 x.lev,.slice u a z,.int .i64 x.right,.slice B M C,.slice D l E,.slice G o r] 132)):=I.alloc S _;have g:=aa J;have OM:Hid (zk (w1.alloc (.cells #[.int .i64 x.lev,.slice u a z,.int .i64 x.right,.slice B M C,.slice D l E,.slice G o r] 132)) (From wr.heap.size) x u B D G a z M C l E o r):=aa (ad.below ((Below.refl _ _).alloc (Nat.le_refl _) _));have pV:Hid (aj (w1.alloc (.cells #[.int .i64 x.lev,.slice u a z,.int .i64 x.right,.slice B M C,.slice D l E,.slice G o r] 132)) w1.heap.size 132 #[.int .i64 x.lev,.slice u a z,.int .i64 x.right,.slice B M C,.slice D l E,.slice G o r]):=aa (aj.new _ _ _);have ab:(Instr.lookup 125 (.map (some w.heap.size)) (.int .i64 (m:Int)) false).run prog (w1.alloc (.cells #[.int .i64 x.lev,.slice u a z,.int .i64 x.right,.slice B M C,.slice D l E,.slice G o r] 132))= .ok (.int .i64 0) (w1.alloc (.cells #[.int .i64 x.lev,.slice u a z,.int .i64 x.right,.slice B M C,.slice D l E,.slice G o r] 132)):=sM (HM.below J) (by omega) (by omega) Jz;clear ad I J)|(at_mapUpdate;go_loud (refine iE rfl _ _ _ rfl rfl (HM.below g) (by unfold maxLen;omega) (m:Int) 1 rfl rfl (by omega) (by omega) (by omega) (by omega) ?_);intro w2 K P;have qj:=aa K;have Q:=aa P;have bK:(Instr.lookup 125 (.map (some w.heap.size)) (.int .i64 (m:Int)) false).run prog w2= .ok (.int .i64 1) w2:=Eh K (by omega) (by omega);clear K P ab))
    obtain⟨q,R⟩:∃Y,Y=w1.heap.size:=⟨_,rfl⟩;rw [<-R];have bm:wr.heap.size<=w2.heap.size:=Nat.le_trans g.size Q.size;have K6:Hid (Below w.heap.size w w2):=aa (HB.out.trans ((g.mono (by omega)).trans (Q.below_of (Nat.le_trans (by omega) g.size) (fun b H h=>by have h:b=w.heap.size:=h;omega))));have al:=aa ((HE.below g).chg Q (fun b H h=>by have h:b=w.heap.size:=h;omega))
    have SY:Hid (∀y,(fun j=>if j=(m:Int) then 1 else f j) y≠0->∃t,t<s+1/\y=(gX L N d t:Int)):=aa (fun y hy=>by
     by_cases ae:y=(m:Int)
     ·exact⟨s,by omega,by rw [ae,CX.out]⟩
     ·obtain⟨t,ht,e⟩:=a3.out y (fun h0=>hy (by show(if y=(m:Int) then(1:Int) else f y)=0;rw [if_neg ae];exact h0));exact⟨t,by omega,e⟩)
    have am:Hid (aj w2 q 132 #[.int .i64 x.lev,.slice u a z,.int .i64 x.right,.slice B M C,.slice D l E,.slice G o r]):=aa (by rw [R];exact pV.chg Q (fun h=>by have h:w1.heap.size=w.heap.size:=h;omega));have Xb:Hid (zk w2 (From wr.heap.size) x u B D G a z M C l E o r):=aa (OM.chg Q (fun b H h=>by have h:b=w.heap.size:=h;have H:wr.heap.size<=b:=H;omega));have bb:wr.heap.size<=q:=by omega
    clear R g OM pV Q S;have bN:l=M:=by rw [Xb.out.v.len,Xb.out.k.len,bk.out]
    have a8:M<=100000:=by rw [Xb.out.k.len];exact YG
    subst bN;have tZ:Hid (aj w2 q 132 #[.int .i64 0,.slice u a z,.int .i64 ((gX L N d (s+1):Nat):Int),.slice B l C,.slice D l E,.slice G o r]):=aa (by have:=am.out;rw [lJ.out,qb.out] at this;exact this);obtain⟨z0,z1,z2,z3,z4,z5⟩:=Ap tZ;obtain⟨nx,aE⟩:∃Y,Y=gX L N d (s+1):=⟨_,rfl⟩;rw [<-aE] at z2;have OY:=aa aE;have an:(((List.range (s-L)).flatMap fun i=>iY (X 0 i))).length<=1000000000:=eu.out (s-L) (by omega);have a6:=aa an;have ac:∀b,wr.heap.size<=b->u3.ownBlock≠some b:=fun b H e=>by have:=(ah HE.own b e).2;omega
    have Kh:Hid (zk w2 (fun b=>w.heap.size+1<=b/\b<w2.heap.size/\u3.ownBlock≠some b) x u B D G a z l C l E o r):=aa (Xb.lt.weak (fun b H=>⟨Nat.le_trans bO H.1,H.2,ac b H.1⟩));have ba:u3.ownBlock≠some q:=ac q bb;have Qw:Hid (aj w2 q 132 #[.int .i64 x.lev,.slice u a z,.int .i64 x.right,.slice B l C,.slice D l E,.slice G o r]):=am;clear aE an ac
    by_cases KV:L<s
    ·have hd:decide (L<s)=true:=decide_eq_true KV;go_wp2_with fail
     refine N9 (w.heap.size+1) q _ x u3 us u B D G a z l C E o r w2 _ Qw Kh al (by omega) ba (by omega) a6 a8 ?_;intro M7 v9 bP bQ bX bY bZ b0 b1 b3 b4 b5 b6 b7 b8 b9 ca cb cd ce cf cg ch ci Ps cj Pt ck Pv kF w5 Z W;have Vf:=aa Z;have j6:ag (fun b=>w.heap.size+1<=b) w2 w5:=ag.of_below_ W (fun b _ h=>h);have vK:=aa (qj.chg j6 (fun h=>by have h:w.heap.size+1<=w.heap.size:=h;omega));have eG:Hid (Below w.heap.size w w5):=aa (K6.out.trans (j6.below_of K6.size (fun b H h=>by have h:w.heap.size+1<=b:=h;omega)));clear Z W j6;go_wp2_with fail
     go_roundg (L+N 0+1-(s+1))
     case measure=>have:=HG.out;omega
     case rel=>
      have e1:(List.range (s+1-L)).flatMap (fun i=>iY (X 0 i))=((List.range (s-L)).flatMap fun i=>iY (X 0 i))++x.keys.zip x.vals:=by
       have h1:s+1-L=(s-L)+1:=by omega
       rw [h1,List.range_succ,List.flatMap_append,List.flatMap_singleton,<-a4.out,<-PQ.out];rfl
      refine⟨s+1,kF,_,rfl,by omega,?_,congrArg (fun t:Nat=>Value.int .i64 (t:Int)) OY,?_,vK,SY,eG⟩
      ·have:decide (L<s+1)=true:=decide_eq_true (by omega)
       rw [this]
      ·rw [e1];exact Vf
    ·have hd:decide (L<s)=false:=decide_eq_false KV;go_wp2_with fail
     refine N9 (w.heap.size+1) q _ x u3 us u B D G a z l C E o r w2 _ Qw Kh al (by omega) ba (by omega) a6 a8 ?_;intro M7 v9 bP bQ bX bY bZ b0 b1 b3 b4 b5 b6 b7 b8 b9 ca cb cd ce cf cg ch ci Ps cj Pt ck Pv kF w5 Z W;have Vf:=aa Z;have j6:ag (fun b=>w.heap.size+1<=b) w2 w5:=ag.of_below_ W (fun b _ h=>h);have vK:=aa (qj.chg j6 (fun h=>by have h:w.heap.size+1<=w.heap.size:=h;omega));have eG:Hid (Below w.heap.size w w5):=aa (K6.out.trans (j6.below_of K6.size (fun b H h=>by have h:w.heap.size+1<=b:=h;omega)));clear Z W j6;go_wp2_with fail
     go_roundg (L+N 0+1-(s+1))
     case measure=>have:=HG.out;omega
     case rel=>
      have e1:(List.range (s+1-L)).flatMap (fun i=>iY (X 0 i))=((List.range (s-L)).flatMap fun i=>iY (X 0 i))++x.keys.zip x.vals:=by
       have h1:s+1-L=(s-L)+1:=by omega
       rw [h1,List.range_succ,List.flatMap_append,List.flatMap_singleton,<-a4.out,<-PQ.out];rfl
      refine⟨s+1,kF,_,rfl,by omega,?_,congrArg (fun t:Nat=>Value.int .i64 (t:Int)) OY,?_,vK,SY,eG⟩
      ·have:decide (L<s+1)=true:=decide_eq_true (by omega)
       rw [this]
      ·rw [e1];exact Vf
   ·have bL:=IZ a0 be;have cv:s=L+N 0:=by omega
    subst bL;clear T IY IZ;go_wp2_with (first|(go_at_call 49;go_loud (refine(N8 F p nodes root sl _ wr (HX.below HB) (.inl (by decide))).mono ?_);rintro e w1 ⟨⟨A1,n1,c1,A2,n2,c2,A3,n3,c3,A4,n4,c4,rfl⟩,I⟩;have S:=I.size;have J:Below wr.heap.size wr (w1.alloc (.cells #[.int .i64 0,.slice A1 n1 c1,.int .i64 0,.slice A2 n2 c2,.slice A3 n3 c3,.slice A4 n4 c4] 132)):=I.alloc S _;have g:=aa J;have ab:(Instr.lookup 125 (.map (some w.heap.size)) (.int .i64 0) false).run prog (w1.alloc (.cells #[.int .i64 0,.slice A1 n1 c1,.int .i64 0,.slice A2 n2 c2,.slice A3 n3 c3,.slice A4 n4 c4] 132))= .ok (.int .i64 0) (w1.alloc (.cells #[.int .i64 0,.slice A1 n1 c1,.int .i64 0,.slice A2 n2 c2,.slice A3 n3 c3,.slice A4 n4 c4] 132)):=sM (HM.below J) (by omega) (by omega) Jz;clear I J)|(at_mapUpdate;go_loud (refine iE rfl _ _ _ rfl rfl (HM.below g) (by unfold maxLen;omega) 0 1 rfl rfl (by omega) (by omega) (by omega) (by omega) ?_);intro w2 K P;have Q:=aa P;clear K P ab))
    simp only [Exit.noGoto];obtain⟨A,c,rfl,a1,a2⟩:=au HE.own;go_ret
    have bp:Below w.heap.size w w2:=HB.out.trans ((g.mono (by omega)).trans (Q.below_of (Nat.le_trans (by omega) g.size) (fun b H h=>by have h:b=w.heap.size:=h;omega)));have he:=((HE.below g).chg Q (fun b H h=>by have h:b=w.heap.size:=h;omega)).ents rfl;rw [show s-L=N 0 by omega] at he|-;exact⟨A,_,c,rfl,he.weak (fun b H=>by simp only [From] at H|-;omega),bp⟩
end
section
theorem zi:∀(l:List aK),(l.map Prod.fst).zip (l.map Prod.snd)=l
 | []=>rfl
 |e::l=>by simp [zi l]
section
variable {fill inn:Nat} {l:List aK}
theorem Ke (i:Nat):iY (sL fill inn l 0 i).2=jB fill l i:=by
 unfold iY;rw [jm,si];exact zi _
theorem Kg {nd lf bl:Int} (n:dx nd lf inn fill bl) (Q:bH l) (u:(bT nd lf inn fill bl l.length).2=0) (r:∀e∈l,e.1.length<=1152921504606/\e.2.length<=1152921504606):
  ∃L,pM (bD fill inn l).1 (bD fill inn l).2 nd lf inn L (nL fill inn l) (dL fill inn l) (fun k i=>(sL fill inn l k i).2):=by
 obtain⟨L,w,x,H,y,I,J,K,z⟩:=F3 n u;obtain⟨W,F,G⟩:=II n r u;obtain⟨c1,M,N,O,P,R,S,T,U,A⟩:=n;have f:1<=fill:=by omega
 have b:1<=inn:=by omega
 have d:∀k,(fun i=>(sL fill inn l k i).2.high)=hL fill inn l k:=fun k=>by funext i;exact qy k i
 have q:∀k i,(sL fill inn l k i).2.kids.length<=1000:=fun k i=>by
  cases k with
  |zero=>show([]:List Int).length<=1000;simp
  |succ k=>rw [qE];unfold mK;omega
 refine⟨L,⟨y,x,w,fun k=>jy f b k,rfl,fun k=>rfl,fun k p=>⟨fun j h=> ?_,fun j h=>QW Q f b (by omega) (by omega) ?_ h,fun j _=>vX k j,fun j _=>right_eq k j,fun j h=> ?_⟩,fun k p i hi c kid a=> ?_,fun k p=> ?_,fun k i _ _=>q k i,G⟩⟩
 ·obtain⟨s,v,e⟩:=z k j p h
  exact⟨s,v,e,F s (List.mem_of_getElem? v)⟩
 ·have:=ID (fill:=fill) (inn:=inn) (l:=l) (j:=k+1) (k:=L+1) (by omega)
  omega
 ·rw [d];exact UT Q f b h
 ·have o:c<mK inn (nL fill inn l k) i:=by
   have:=(List.getElem?_eq_some_iff.1 a).1;rw [qE] at this;exact this
  obtain⟨B,C,D,E⟩:=NZ f b hi o;have m:kid=(dL fill inn l k:Int)+((i*inn+c:Nat):Int)+1:=by rw [B] at a;injection a with a;exact a.symm
  refine⟨i*inn+c,C,m,fun g=> ?_,fun g=> ?_⟩
  ·show gW (fun t=>(sL fill inn l (k+1) t).2.high) i=gW (fun t=>(sL fill inn l k t).2.high) _
   rw [d,d];exact E g
  ·show _=some (gW (fun t=>(sL fill inn l k t).2.high) _)
   rw [d];exact D g
 ·have V:=FP (inn:=inn) b (jy (l:=l) f b k) (i:=0) (by have:=jy (l:=l) f b (k+1);exact this);have:=(NZ (fill:=fill) (inn:=inn) (l:=l) f b (k:=k) (i:=0) (j:=0) (by have:=jy (l:=l) f b (k+1);omega) (by omega)).1;rw [this];simp
theorem NW (F:Nat->Prop) (p:Nat) (nodes nd lf bl:Int) (f:dx nd lf inn fill bl) (Q:bH l) (g:(bT nd lf inn fill bl l.length).2=0) (w:World) (s:gM w F p nodes (bD fill inn l).1 (bD fill inn l).2) (o:∀b,F b->b<w.heap.size) (hl:l.length<=4194304):
  Calls prog 22 #[.pointer (some ⟨p,0,none⟩)] w fun e w'=>∃A n c,e= .returned (.slice A n c)/\bz w' (From w.heap.size) A n l/\Below w.heap.size w w':=by
 have d:∀e∈l,e.1.length<=1152921504606/\e.2.length<=1152921504606:=fun e q=>by have:=cK Q q;omega
 obtain⟨L,r⟩:=Kg f Q g d;obtain⟨t,E,G⟩:=II f d g;obtain⟨c1,u,v,x,y,z,B,C,D,m⟩:=f;have e:(fun i=>iY (sL fill inn l 0 i).2)=jB fill l:=by funext i;exact Ke i
 have a:((List.range (nL fill inn l 0)).flatMap fun i=>iY (sL fill inn l 0 i).2)=l:=by rw [e];exact Ao (by omega)
 have h:=QX F p nodes (bD fill inn l).2 (bD fill inn l).1 nd lf inn L (nL fill inn l) (dL fill inn l) (fun k i=>(sL fill inn l k i).2) w s t o r (by omega) (fun j _=>by
  rw [e,N7,List.length_take];omega)
 rw [a] at h;exact h
end
end
theorem Qd (z:Nat) (w:World):Calls prog 42 #[.pointer (some ⟨z,0,none⟩)] w fun e w'=>e= .returned (.func (.func 82) #[] #[.pointer (some ⟨w.heap.size,0,none⟩)])/\w'=w.alloc (.cells #[.pointer (some ⟨z,0,none⟩)] 82):=by
 go_enter func42,ntmps42
 go_wp2;go_ret
 exact⟨rfl,rfl⟩
def vg (s:Src):bg:=⟨⟨s,0,0,0,none⟩,0,[],0,0⟩
structure Tk (F:Nat->Prop) (p:Nat) (s:Src) (w:World) (e:Ending) (w':World):Prop where
 out:∃(out:List aK) (rf:bg) (lv ev:Value),kP (vg s) out rf/\e= .returned (.tuple #[lv,ev])/\mr w' w.heap.size ev rf.err (rf.bad:Nat)/\fo w' F p rf.cur.src/\
  (rf.err≠0->lv= .slice none 0 0)/\(rf.err=0->∃A n c,lv= .slice A n c/\bz w' (From w.heap.size) A n out)/\out.length<=536870912
 chg:ag (fun b=>b=p) w w'
theorem CY (F:Nat->Prop) (p K:Nat) (s:Src) (w:World) (hs:fo w F p s) (ho:(vg s).Ok K) (hK:K<=1152921504606846976) (o:p<w.heap.size) (hF:∀b,F b->b<w.heap.size/\b≠p):
  Calls prog 17 #[.iface 29 (.pointer (some ⟨p,0,none⟩))] w (Tk F p s w):=by
 refine letter fun R HR=> ?_;have HS:=aa hs;have HO:=aa ho;have M:=aa hF;have HP:=aa o;clear hs ho o hF;refine callsIn_wide.1 (callsIn_of_wp_marks (n:=4) func17 rfl trivial ?_);refine wpIn_wide.2 ?_;simp only [ntmps17,List.size_toArray,List.length_cons,List.length_nil,Nat.reduceAdd,Nat.reduceSub,Array.replicate_succ,Array.replicate_zero,List.push_toArray,List.append_toArray,List.nil_append,List.cons_append];go_wp2_with (first|(go_at_call 26;go_loud (refine(oN p w).mono ?_);rintro e w2 ⟨z,rfl,j,h2,q,h4⟩;have H3:=aa j;have H4:=aa h2;have H5:=aa q;have H6:=aa h4;clear j h2 q h4)|(go_at_call 42;go_loud (refine(Qd _ _).mono ?_);rintro e a ⟨rfl,q⟩))
 have YU:a.heap.size=w2.heap.size+2:=by rw [q];simp
 have am:Below w2.heap.size w2 a:=by rw [q];exact((Below.refl _ _).alloc (Nat.le_refl _) _).alloc (by simp) _
 have i:Boxed a w2.heap.size 58 (.slice none 0 0):=by rw [q];exact(Boxed.new _ _ _).alloc _
 have ao:aj a (w2.heap.size+1) 82 #[.pointer (some ⟨z,0,none⟩)]:=by
  have:=aj.new (w2.alloc (.cells #[.slice none 0 0] 58)) 82 #[.pointer (some ⟨z,0,none⟩)];rw [World.size_alloc] at this;rw [q];exact this
 have sN:=aa YU;have E:=aa am;have nU:=aa i;have p9:=aa ao;rw [<-q];clear q YU am i ao;refine(wpIn_wide (n:=4)).1 (wpIn_rangeFunc ?_);intro G _
 obtain⟨d,k,ae⟩:∃d,d=(a.alloc (.deferred (some []))).alloc (.loop (jr G (⟨(.iface 29 (.pointer (some ⟨p,0,none⟩))::undef:: .slice none 0 0:: .nilIface:: .pointer (some ⟨z,0,none⟩):: .pointer (some ⟨w2.heap.size,0,none⟩)::undef::undef::undef:: .iface 29 (.pointer (some ⟨p,0,none⟩)):: .bool false::undef:: .iface 29 (.pointer (some ⟨p,0,none⟩)):: .pointer (some ⟨z,0,none⟩):: .pointer (some ⟨z,0,none⟩):: .func (.func 82) #[] #[.pointer (some ⟨w2.heap.size+1,0,none⟩)]::undef::undef::undef::undef::undef::undef::undef::undef::undef::undef::undef::undef::undef::undef::undef::undef::undef:: []).toArray,[]⟩:Act).tmps a.heap.size))/\
   (Instr.enterLoop G (⟨(.iface 29 (.pointer (some ⟨p,0,none⟩))::undef:: .slice none 0 0:: .nilIface:: .pointer (some ⟨z,0,none⟩):: .pointer (some ⟨w2.heap.size,0,none⟩)::undef::undef::undef:: .iface 29 (.pointer (some ⟨p,0,none⟩)):: .bool false::undef:: .iface 29 (.pointer (some ⟨p,0,none⟩)):: .pointer (some ⟨z,0,none⟩):: .pointer (some ⟨z,0,none⟩):: .func (.func 82) #[] #[.pointer (some ⟨w2.heap.size+1,0,none⟩)]::undef::undef::undef::undef::undef::undef::undef::undef::undef::undef::undef::undef::undef::undef::undef::undef::undef:: []).toArray,[]⟩:Act).tmps #[16,17] MY MZ none).run prog a= .ok (a.heap.size+1,[{target:= .collected a.heap.size,args:= #[]}]) d:=
  ⟨_,rfl,run_enterLoop_outer _ _ _ _ _⟩
 refine⟨a.heap.size+1,[{target:= .collected a.heap.size,args:= #[]}],d,{target:= .fn (.func 82) #[.pointer (some ⟨w2.heap.size+1,0,none⟩)],args:= #[.func (.yield (a.heap.size+1)) #[] #[]]},d,82,#[.func (.yield (a.heap.size+1)) #[] #[],.pointer (some ⟨w2.heap.size+1,0,none⟩)],d,ae,?_,fun _ _=>trivial,?_,fun _=>by decide,callsIn_wide.2 ?_⟩
 ·simp [resolve,go_sem]
 ·simp [invoke,go_sem]
 have I:d.heap.size=a.heap.size+2:=by rw [k];simp
 have al:d.heap[a.heap.size+1]? =some (.loop (jr G (⟨(.iface 29 (.pointer (some ⟨p,0,none⟩))::undef:: .slice none 0 0:: .nilIface:: .pointer (some ⟨z,0,none⟩):: .pointer (some ⟨w2.heap.size,0,none⟩)::undef::undef::undef:: .iface 29 (.pointer (some ⟨p,0,none⟩)):: .bool false::undef:: .iface 29 (.pointer (some ⟨p,0,none⟩)):: .pointer (some ⟨z,0,none⟩):: .pointer (some ⟨z,0,none⟩):: .func (.func 82) #[] #[.pointer (some ⟨w2.heap.size+1,0,none⟩)]::undef::undef::undef::undef::undef::undef::undef::undef::undef::undef::undef::undef::undef::undef::undef::undef::undef:: []).toArray,[]⟩:Act).tmps a.heap.size)):=by
  rw [k];have:=World.alloc_heap_new (a.alloc (.deferred (some []))) (.loop (jr G (⟨(.iface 29 (.pointer (some ⟨p,0,none⟩))::undef:: .slice none 0 0:: .nilIface:: .pointer (some ⟨z,0,none⟩):: .pointer (some ⟨w2.heap.size,0,none⟩)::undef::undef::undef:: .iface 29 (.pointer (some ⟨p,0,none⟩)):: .bool false::undef:: .iface 29 (.pointer (some ⟨p,0,none⟩)):: .pointer (some ⟨z,0,none⟩):: .pointer (some ⟨z,0,none⟩):: .func (.func 82) #[] #[.pointer (some ⟨w2.heap.size+1,0,none⟩)]::undef::undef::undef::undef::undef::undef::undef::undef::undef::undef::undef::undef::undef::undef::undef::undef::undef:: []).toArray,[]⟩:Act).tmps a.heap.size));rwa [World.size_alloc] at this
 have ad:d.heap[a.heap.size]? =some (.deferred (some [])):=by
  rw [k];exact(Below.heap_alloc _ _ _ (by simp)).trans (World.alloc_heap_new a _)
 have l:Below a.heap.size a d:=by rw [k];exact((Below.refl _ _).alloc (Nat.le_refl _) _).alloc (by simp) _
 have s3:=sN.out;have ap:=H3.out;have J:z<w2.heap.size:=H5.out.lt;have an:=HP.out;have A:Below w.heap.size w d:=(H6.out.trans (E.mono H6.size)).trans (l.mono (by have:=H6.out.size;omega));have C:Below w2.heap.size w2 d:=E.out.trans (l.mono E.size)
 have hX:EX d F Nil z w.heap.size p d.heap.size 0 none 0 0 [] K (vg s) (.slice none 0 0):=
  {sit:=⟨fun e=>(M p e).2 rfl,fun e=>by have:=(M.out _ e).1;omega,by omega,fun b f=>by have:=(M.out b f).1;omega,by omega,by omega⟩
   zs:=⟨by omega,by omega,by omega⟩
   nFz:=fun e=>by have:=(M.out z e).1;omega
   bw:=Nat.le_refl _
   rblk:=H5.out.below C
   rows:=aX.nil _ _
   iny:=⟨H4.below C,HS.below A,fun x hx=>by cases hx⟩
   drl:=fun b f=>f.elim
   ok:=HO.out
   go:=by simp [vg]}
 have hJ:Jr d w2.heap.size (a.heap.size+1) a.heap.size w2.heap.size d.heap.size (jr G (⟨(.iface 29 (.pointer (some ⟨p,0,none⟩))::undef:: .slice none 0 0:: .nilIface:: .pointer (some ⟨z,0,none⟩):: .pointer (some ⟨w2.heap.size,0,none⟩)::undef::undef::undef:: .iface 29 (.pointer (some ⟨p,0,none⟩)):: .bool false::undef:: .iface 29 (.pointer (some ⟨p,0,none⟩)):: .pointer (some ⟨z,0,none⟩):: .pointer (some ⟨z,0,none⟩):: .func (.func 82) #[] #[.pointer (some ⟨w2.heap.size+1,0,none⟩)]::undef::undef::undef::undef::undef::undef::undef::undef::undef::undef::undef::undef::undef::undef::undef::undef::undef:: []).toArray,[]⟩:Act).tmps a.heap.size) (uZ Nil (.slice none 0 0)) Nil []:=
  ⟨al,ad,⟨_,[],(l.block w2.heap.size (by omega)).trans nU,uy.nil _ _ _ _ (fun b f=>f.1.elim)⟩,Nat.le_refl _,by omega,by omega,by omega,Nat.le_refl _⟩
 have Qe:=aa A;have EH:=aa I
 refine(MV F z w.heap.size p d.heap.size 0 w2.heap.size (a.heap.size+1) a.heap.size w2.heap.size (w2.heap.size+1) K _ (vg s) d hX hJ (fun D B out e Ak Av y ck nv cv W hj hB hk hv hn=>Jv G w2.heap.size (a.heap.size+1) a.heap.size w2.heap.size d.heap.size D B out e Ak Av y ck nv cv W hj hB hk hv hn)
  (p9.below l) ⟨J,by omega,by omega,fun b f=>by have:=(M.out b f).1;omega⟩ ⟨by omega,by omega⟩ hK rfl).mono ?_
 rintro e w5 N;obtain⟨v,rfl⟩:=N.ret;have HA:=aa N;clear N hX hJ al ad l A C k ae;obtain⟨out,r,D,B,a1,a2,X,a4,⟨v0,v1,v2,v3,a5⟩,a6⟩:=HA.out.all;obtain⟨c,gL,u⟩:∃c,c=w5.putObj (a.heap.size+1) (.loop {jr G (⟨(.iface 29 (.pointer (some ⟨p,0,none⟩))::undef:: .slice none 0 0:: .nilIface:: .pointer (some ⟨z,0,none⟩):: .pointer (some ⟨w2.heap.size,0,none⟩)::undef::undef::undef:: .iface 29 (.pointer (some ⟨p,0,none⟩)):: .bool false::undef:: .iface 29 (.pointer (some ⟨p,0,none⟩)):: .pointer (some ⟨z,0,none⟩):: .pointer (some ⟨z,0,none⟩):: .func (.func 82) #[] #[.pointer (some ⟨w2.heap.size+1,0,none⟩)]::undef::undef::undef::undef::undef::undef::undef::undef::undef::undef::undef::undef::undef::undef::undef::undef::undef:: []).toArray,[]⟩:Act).tmps a.heap.size with state:= .exhausted})/\(Instr.endLoop (a.heap.size+1)).run prog w5= .ok none c:=⟨_,rfl,run_endLoop X.loop (by simp [jr])⟩;obtain⟨ds,H⟩:∃ds:List Deferred,ds= [{target:= .collected a.heap.size,args:= #[]}]:=⟨_,rfl⟩;refine⟨none,c,u,?_⟩;have U:ag (fun b=>b=a.heap.size+1) w5 c:=by rw [gL];exact gB _ _ _
 obtain⟨ov,us,i,jO⟩:=X.col;obtain⟨oA,oc,rfl,aA,aE⟩:=au jO.own;have Uy:Boxed c w2.heap.size 58 (.slice oA out.length oc):=(U.block w2.heap.size i.lt (by omega)).trans i;have m:aj c z 140 #[v0,v1,v2,v3,.int .i64 r.err,.int .i64 (r.bad:Nat)]:=a5.chg U (by omega);have ac:c.heap[a.heap.size]? =some (.deferred (some [])):=(U.block a.heap.size (Array.getElem?_eq_some_iff.1 X.dfd).1 (by omega)).trans X.dfd;have dV:=aa U;have ar:=aa Uy;have YV:=aa m;have t:=aa ac;have Qf:=aa jO;have Q:=aa H;have c0:=Uy.cell;have P:=aa (And.intro a1 (And.intro a2 (And.intro a6 a4)));have Uz:=aa (And.intro s3 (And.intro ap (And.intro J (And.intro an I))));clear u gL U i jO aA aE Uy m ac a1 a2 X a4 a5 a6 s3 ap J an I;show Exit.inBlock 0 _ .normal ⟨_,[{target:= .collected a.heap.size,args:= #[]}]⟩ c;rw [<-H];clear H
 have M3:Hid (∀(ev:Value) (wf:World) (Y:Nat->Prop),ag Y c wf->(∀b,Y b->b=a.heap.size)->mr wf c.heap.size ev r.err (r.bad:Nat)->
   Tk F p s w (.returned (.tuple #[if r.err=0 then .slice oA out.length oc else .slice none 0 0,ev])) wf):=aa (fun ev wf Y hc hY ax=>by
  obtain⟨b1,b2,b6,b4⟩:=P.out;obtain⟨n3,bb,be,a9,ba⟩:=Uz.out;have hC:ag (fun b=>b=a.heap.size+1\/Y b) (w5:World) wf:=(dV.out.mono (T:=fun b=>b=a.heap.size+1\/Y b) (fun b _ e=> .inl e)).trans hc (fun b _ e=> .inr e);have N:=HA.out.chg;have a7:w.heap.size<=w5.heap.size:=Nat.le_trans Qe.size N.size;have a8:=dV.out.size
  have V:∀b,(b=a.heap.size+1\/Y b)->w2.heap.size<=b/\b<d.heap.size:=fun b e=>by
   rcases e with e|e
   ·omega
   ·have:=hY b e;omega
  refine⟨⟨out,r,_,ev,b1,rfl,?_,?_,?_,?_,b2⟩,?_⟩
  ·rcases ax with h|⟨h,g,j,h2,q⟩
   ·exact .inl h
   ·exact .inr ⟨h,g,j,h2,by omega⟩
  ·exact b6.chg hC (fun e=>by have:=V p e;omega) (fun b f e=>by have:=V b e;have:=(M.out b f).1;omega)
  ·intro h;rw [if_neg h]
  ·intro h;rw [if_pos h]
   exact⟨oA,out.length,oc,rfl,(Qf.chg hC (fun g hg e=>by have j:=(ah Qf.own g hg).1;have:=V g e;omega) (fun b f e=>by have j:=b4 b (Qf.sub b f).1;have:=V b e;omega)).ents rfl (Nat.le_trans Qe.size (Nat.le_refl _)) (fun b f=>Nat.le_trans Qe.size (b4 b (Qf.sub b f).1))⟩
  ·exact((ag.of_below (S:=fun b=>b=p) Qe).trans N (fun b f e=>by
    rcases e with e|e|e|e
    ·omega
    ·omega
    ·exact e
    ·omega)).trans hC (fun b f e=>by have:=V b e;omega))
 clear P
 by_cases he:r.err=0
 ·have L:=aa he;have hf:=YV.out;rw [he] at hf;have Jw:=aa hf;clear he hf;go_wp2_with (first|(go_at_call 31;go_loud (refine(rT z v0 v1 v2 v3 0 (r.bad:Nat) c Jw).mono ?_);rintro e w7 ⟨rfl,y,rfl⟩;have c7:(c.drewN y).cell? ⟨w2.heap.size,0,none⟩=some (.slice oA out.length oc):=ar.out.cell)|(go_at_call 30;go_loud (refine(tq _ _).mono ?_);rintro e w8 ⟨rfl,rfl⟩))
  rw [Q.out];refine⟨by simp,.inl ⟨_,_,rfl,run_takeDeferred (show(c.drewN y).heap[a.heap.size]? =some (.deferred (some [])) from t),?_⟩⟩;refine⟨_,results_tmp2 rfl _ _ _,?_⟩;rw [HR.out];have j:=M3.out .nilIface ((c.drewN y).putObj a.heap.size (.deferred none)) (fun b=>b=a.heap.size) (((ag.refl (fun b=>b=a.heap.size) c).drewN y).trans (gB _ _ _) (fun b _ e=>e)) (fun b e=>e) (.inl ⟨L,rfl⟩);rw [if_pos L.out] at j
  exact j
 ·have L:=aa he;clear he;go_wp2_with (first|(go_at_call 31;go_loud (refine(rT z v0 v1 v2 v3 r.err (r.bad:Nat) c YV).mono ?_);rintro e w7 ⟨rfl,y,rfl⟩)|(go_at_call 30;go_loud (refine(iN _ _ _ L).mono ?_);rintro e w8 ⟨rfl,Z,ab⟩;have aq:=aa Z;have O:=aa ab;clear Z ab))
  rw [Q.out];have aw:w8.heap[a.heap.size]? =some (.deferred (some [])):=(O.out.block a.heap.size (Array.getElem?_eq_some_iff.1 t).1).trans t;refine⟨by simp,.inl ⟨_,_,rfl,run_takeDeferred aw,?_⟩⟩;refine⟨_,results_tmp2 rfl _ _ _,?_⟩;rw [HR.out];have a0:a.heap.size<c.heap.size:=(Array.getElem?_eq_some_iff.1 t).1;have j:=M3.out _ (w8.putObj a.heap.size (.deferred none)) (fun b=>b=a.heap.size) ((((ag.refl (fun b=>b=a.heap.size) c).drewN y).trans (ag.of_below (S:=fun b=>b=a.heap.size) O) (fun b _ e=>e)).trans (gB _ _ _) (fun b _ e=>e)) (fun b e=>e) (.inr ⟨L,c.heap.size,rfl,aq.chg (gB _ _ _) (by show¬c.heap.size=a.heap.size;omega),Nat.le_refl _⟩);rw [if_neg L.out] at j;exact j
theorem C8 (w:World):Calls prog 20 #[] w fun e w'=>e= .returned (.agg #[.int .i64 9,.int .i64 4,.int .i64 3,.int .i64 2,.int .i64 1])/\Below w.heap.size w w':=by
 refine letter fun R c=> ?_;go_enter func20,ntmps20
 go_wp2;obtain⟨w1,a⟩:∃W,W=w.alloc (.cells #[.int .i64 9,.int .i64 4,.int .i64 3,.int .i64 2,.int .i64 1] 23):=⟨_,rfl⟩
 rw [<-a];have b:aj w1 w.heap.size 23 #[.int .i64 9,.int .i64 4,.int .i64 3,.int .i64 2,.int .i64 1]:=by rw [a];exact aj.new _ _ _
 have d:w1.cell? ⟨w.heap.size,0,none⟩=some (.int .i64 9):=b.cell 0;have f:w1.cell? ⟨w.heap.size,1,none⟩=some (.int .i64 4):=b.cell 1;have g:w1.cell? ⟨w.heap.size,2,none⟩=some (.int .i64 3):=b.cell 2;have h:w1.cell? ⟨w.heap.size,3,none⟩=some (.int .i64 2):=b.cell 3;have i:w1.cell? ⟨w.heap.size,4,none⟩=some (.int .i64 1):=b.cell 4;refine bodyPost_ret (v:= .agg #[.int .i64 9,.int .i64 4,.int .i64 3,.int .i64 2,.int .i64 1]) (by simp [results,results20,go_sem,d,f,g,h,i]) rfl ?_;rw [c.out];exact⟨rfl,by rw [a];exact(Below.refl _ _).alloc (Nat.le_refl _) _⟩
theorem FX (w:World):∃w2,w2=(w.alloc (.cells #[.int .u8 107] 5 (1,2))).alloc (.cells #[.slice (some ⟨w.heap.size,0,none⟩) 1 1,.slice none 0 0] 69)/\E1 w2 (mZ w.heap.size) (w.heap.size+1) (some ⟨w.heap.size,0,none⟩) 1/\Below w.heap.size w w2:=by
 obtain⟨w1,a⟩:∃W,W=w.alloc (.cells #[.int .u8 107] 5 (1,2)):=⟨_,rfl⟩;have e:Below w.heap.size w w1:=by rw [a];exact(Below.refl _ _).alloc (Nat.le_refl _) _
 have i:w1.heap.size=w.heap.size+1:=by rw [a];simp
 have g:w1.cell? ⟨w.heap.size,0,none⟩=some (.int .u8 107):=by rw [a];exact cell_of_row _ _ _ _ _ _ (heap_alloc_new w _)
 rw [<-a];refine⟨_,rfl,?_,e.alloc e.size _⟩;have c:aj (w1.alloc (.cells #[.slice (some ⟨w.heap.size,0,none⟩) 1 1,.slice none 0 0] 69)) (w.heap.size+1) 69 #[.slice (some ⟨w.heap.size,0,none⟩) 1 1,.slice none 0 0]:=by rw [<-i];exact aj.new _ _ _
 have f:Below w1.heap.size w1 (w1.alloc (.cells #[.slice (some ⟨w.heap.size,0,none⟩) 1 1,.slice none 0 0] 69)):=(Below.refl _ _).alloc (Nat.le_refl _) _
 refine⟨c.cell 0,c.cell 1,SB.mk (Nat.le_refl _) (by simp [maxLen]) rfl ⟨rfl,fun _=>⟨_,0,rfl,rfl,fun k u h=> ?_⟩⟩,fun b d=> ?_⟩
 ·match k with
  |0=>simp [aF] at h;subst h;exact ak f g
  |k+1=>simp [aF] at h
 ·have j:=c.lt
  rcases d with d|d
  ·omega
  ·have d:b=w.heap.size:=d;omega
theorem iB:dx 9 4 3 2 1/\bH [([107],[])]/\(bT 9 4 3 2 1 (([([107],[])]:List aK).length:Nat)).2=0:=gz.1 (by decide)
theorem C4 (w:World):Calls prog 5 #[] w fun e w'=>e= .returned (.bool true)/\Below w.heap.size w w':=by
 refine letter fun R Z=> ?_;have kc:=fun(w:World) (C:Array Value) (n c:Nat)=>Lib.run_convert_bytes_const (P:=prog) w 24 5 C n c underlying24 underlying5;go_enter func5,ntmps5
 go_upto_region 2 with(go_at_call 21;go_loud (obtain⟨w2,t,s,h⟩:=FX w;rw [<-t];clear t;refine(FW _ _ 1 1 _ w2 s).mono ?_;rintro e U ⟨X,c3,rfl,D⟩;have oD:=aa D;have j:Hid (Below w.heap.size w U):=aa (h.trans (D.bel.mono h.size));clear D h s))
 go_upto_region 3 with(first|(go_at_call 20;go_loud (refine(C8 U).mono ?_;rintro e V ⟨rfl,i⟩;have G:=aa i;have iV:=aa (oD.after i);clear i))|(go_at_call 6;go_loud (refine(oO _ 46 c3 0 0 X none kr [] 0 false V iV.sb.parts.2.2.2 rfl (by omega) (Rd.none_ V _ 1 none) (by omega)).mono ?_;rintro e E ⟨p,rfl,M,N,O,m⟩;have x:=aa (And.intro M N);have z:=aa O;have I:=aa m;clear M N O m))|(go_at_call 15;go_loud (refine(QL _ p 9 4 3 2 1 ⟨kr,[],0,false,0⟩ E iB.1 z ⟨by decide,by decide,rfl⟩ x.2 (fun b g=>⟨by have:=x.out.2;have:=g.2;omega,by have:=g.2;omega⟩)).mono ?_;rintro e F ⟨mf,tv,ev,Q,rfl,f,d,-,r⟩;obtain⟨ab,J,K,L⟩:=NV;obtain rfl:=Q.unique J;rw [K] at d;rw [L] at f;obtain rfl:ev= .nilIface:=(by rcases d with d|d;exact d.2;exact absurd rfl d.1);obtain⟨ap,A,q⟩:∃a,tv= .pointer (some ⟨a,0,none⟩)/\gM F (From E.heap.size) a 9 (bD 2 3 [([107],[])]).1 (bD 2 3 [([107],[])]).2:=(by rcases f with f|⟨y,a,f,e1,e2⟩;exact absurd f.1 (by simp);injection f with f;subst f;exact⟨a,e1,e2⟩);subst A;have u:=aa q;have H:=aa r;clear Q J K L d f q r)))
 have v:=aa (NW (fill:=2) (inn:=3) (l:= [([107],[])]) (fun b=>From E.heap.size b/\b<F.heap.size) ap 9 9 4 1 iB.1 iB.2.1 iB.2.2 F u.lt (fun b g=>g.2) (by simp));go_upto_region 6 with(go_at_call 22;go_loud (refine v.mono ?_;rintro e w7 ⟨A7,n7,c7,rfl,d,g⟩;obtain rfl:n7=1:=d.len;obtain⟨b,o,Y,nk,ck,Av,nv,cv,key,val,rfl,-,W,k0,-,-,-,S,T,-,-,-,-⟩:=d.at_ (k:=0) (by omega);simp at W;obtain⟨rfl,rfl⟩:=W;have jb:=aa g;have CV:=bf w7 _ Y nk ck [107] T S.out;rw [Nat.zero_mul,Nat.add_zero] at k0;clear d g S T))
 go_wp2;rw [Z.out]
 have m:=j.out.size;have h5:=G.out.size;have h6:=I.out.size;refine⟨?_,((j.out.trans (G.mono m)).trans (I.mono (Nat.le_trans m h5))).trans ((H.below_of (B:=w.heap.size) (by omega) (fun b g e=>by have e:b=p:=e;have:=x.out.1;omega)).trans (jb.mono (by have:=H.out.size;omega)))⟩;rw [wo];rfl
end Go.Proofs.YtepgcjbhabnciaaGreat
