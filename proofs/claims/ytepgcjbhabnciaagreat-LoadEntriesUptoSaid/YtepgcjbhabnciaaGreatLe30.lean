/- Part 30. -/
import Derived.Test.YtepgcjbhabnciaaGreatLe28
import Derived.Test.YtepgcjbhabnciaaGreatLe26
namespace Go.Proofs.YtepgcjbhabnciaaGreat
set_option maxRecDepth 100000
set_option maxHeartbeats 8000000
open Go.Proofs.Tryz Go.RowKit
open Go.Lib (compareBytes)
structure eY (w:World) (F:Nat->Prop) (q p:Nat) (c:ay):Prop where
 blk:aj w q 142 #[.pointer (some ⟨p,0,none⟩),.int .i64 4611686018427387904,.int .i64 c.at_,.int .i64 c.err,.slice none 0 0,.int .i64 c.idle]
 src:dO w F p c.src
 hl:c.held=none
def OH (F:Nat->Prop) (q p n:Nat) (c:ay) (w:World) (e:Ending) (w':World):Prop:=
 ∃pb,w.heap.size<=pb/\e= .returned (.tuple #[.slice (some ⟨pb,0,none⟩) (c.ask n).1.length (min n 4096),.int .i64 (c.ask n).2.1])/\Bf w' pb (min n 4096) (c.ask n).1/\eY w' F q p (c.ask n).2.2/\ag (Cs q p w.heap.size) w w'
theorem OI (F:Nat->Prop) (q p n K:Nat) (c:ay) (w:World) (s:Sit F q p w.heap.size) (h:eY w F q p c) (i:c.Fine K) (hK:K<=1152921504606846976) (T:n<=1152921504606) (a:0<n) (hg:c.src.gives.length<=1152921504606):
  Calls prog 148 #[.pointer (some ⟨q,0,none⟩),.int .i64 n] w (OH F q p n c w):=by
 obtain⟨i0,ab,ad,aq,ae⟩:=info_parts bu;refine letter fun R S=> ?_;obtain⟨m,H⟩:∃m,m=min n 4096:=⟨_,rfl⟩;have Hu:min (n:Int) 4096=(m:Int):=by omega
 have QB:m<=4096:=by omega
 have CX:=aa H;have ac:=kz (P:=prog) 24 5 i0 _ underlying24 ab ad .i64 .i64 m m (Nat.le_refl _) (by rw [ae];omega) (by omega) w;have Q:=aa h;have QD:=aa i;have o:=aa s;have HG:=aa hg;clear H h i s hg;go_enter func148,ntmps148
 go_upto_region 3 with fail
 obtain⟨pb,k⟩:∃pb,pb=w.heap.size:=⟨_,rfl⟩;obtain⟨w1,l⟩:∃W,W=w.alloc (.cells (madeCells #[Value.int .u8 0] m) 5):=⟨_,rfl⟩;simp only [<-l,<-k];have J:=aa k;have u:Hid (Below w.heap.size w w1):=aa (by rw [l];exact(Below.refl _ _).alloc (Nat.le_refl _) _);have JO:Hid (Bf w1 pb m []):=aa ⟨(madeCells #[Value.int .u8 0] m).toList,by rw [l,k,Array.toArray_toList];exact aj.new _ _ _,by rw [Array.length_toList,size_madeCells],by simp [aF]⟩;have uf:=aa (Gl F p pb m c.src w1 (Q.src.below u) o.nFp (fun b G=>by have:=o.out.lt b G;omega) JO (by have:=o.out.pB;omega) (by have L:=QD.out.pot;unfold ay.pot at L;omega) (by omega) HG);have N:Hid (aj w1 q 142 #[.pointer (some ⟨p,0,none⟩),.int .i64 4611686018427387904,.int .i64 c.at_,.int .i64 c.err,.slice none 0 0,.int .i64 c.idle]):=aa (Q.blk.below u);obtain⟨g,v⟩:∃g,g=c.idle:=⟨_,rfl⟩;have Jf:=aa v;have am:g<=16:=by have:=QD.out.idle;omega
 rw [<-v] at N;have z0:w1.cell? ⟨q,0,none⟩=some (.pointer (some ⟨p,0,none⟩)):=N.out.cell 0;have JP:Hid (c.ask n=((c.src.read m).1,(c.src.read m).2.1,{c with src:=(c.src.read m).2.2,idle:=if(c.src.read m).1≠ []\/(c.src.read m).2.1≠0 then 0 else c.idle+1})):=aa (by rw [CX.out];rfl);obtain⟨A,uB⟩:∃A,A=(c.src.read m).1:=⟨_,rfl⟩;obtain⟨z,Iw⟩:∃z,z=(c.src.read m).2.1:=⟨_,rfl⟩;obtain⟨t,y⟩:∃t,t=A.length:=⟨_,rfl⟩;have ut:t<=m:=by rw [y,uB];exact Src.read_len _ _
 have V:=aa uB;have JR:=aa Iw;have f:=aa y;have al:(t:Int)<=(m:Int):=by omega
 clear l k ac uB Iw y v;go_upto_region 4 with(go_at_call 184;go_loud (refine uf.mono ?_);rintro e w2 ⟨rfl,E,C,D⟩;have U:=aa E;have O:=aa C;have bB:=aa D;rw [<-V.out,<-JR.out,<-f.out];clear E C D)
 have B:Hid (aj w2 q 142 #[.pointer (some ⟨p,0,none⟩),.int .i64 4611686018427387904,.int .i64 c.at_,.int .i64 c.err,.slice none 0 0,.int .i64 g]):=aa (N.chg bB (fun e=>by have L:=o.out.qB;have h2:=J.out;have Y:=o.out.ne;rcases e with e|e<;>omega));have z5:w2.cell? ⟨q,5,none⟩=some (.int .i64 g):=B.out.cell 5;have ar:=B.out.frozen 5;clear z0;have rH:Hid (ag (Cs q p w.heap.size) w w2):=aa ((ag.of_below u).trans (bB.mono (fun b _ e=>by rcases e with e|e;exact .inr (.inl e);exact .inr (.inr (by have:=J.out;omega)))) (fun _ _ h=>h))
 have d:Hid (∀(r:Nat) (M:World),r=(if A≠ []\/z≠0 then 0 else g+1)->aj M q 142 #[.pointer (some ⟨p,0,none⟩),.int .i64 4611686018427387904,.int .i64 c.at_,.int .i64 c.err,.slice none 0 0,.int .i64 r]->ag (fun b=>b=q) w2 M->OH F q p n c w (.returned (.tuple #[.slice (some ⟨pb,0,none⟩) t m,.int .i64 z])) M):=aa (by
  intro r M hr G Z;unfold OH;rw [JP.out,<-V.out,<-JR.out,<-CX.out];refine⟨pb,by have:=J.out;omega,by rw [f.out],?_,⟨by rw [<-Jf.out,<-hr];exact G,U.chg Z (fun e=>o.ne e.symm) (fun b G e=>o.nFq (e▸G)),Q.hl⟩,rH.out.trans (Z.mono (fun b _ e=> .inl e)) (fun _ _ h=>h)⟩;obtain⟨cur,L,h2,Y⟩:=O.out;rw [<-V.out] at Y;exact⟨cur,L.chg Z (fun e=>by have h4:=o.out.qB;have h5:=J.out;have e:pb=q:=e;omega),h2,Y⟩)
 by_cases j:t=0
 ·have I:A= []:=List.eq_nil_of_length_eq_zero (by rw [<-f.out];exact j);have X:=aa I;clear I;subst j
  by_cases x:z=0
  ·subst x;go_wp2;rw [S.out]
   refine d.out (g+1) _ (by rw [X.out];simp) (B.set_ 5 _) ((ag.refl (fun b=>b=q) w2).setCell (p:=⟨q,5,none⟩) (fun _=>rfl) _)
  ·have ao:(z==0)=false:=by rw [beq_eq_false_iff_ne];exact x
   have kK:=aa x;go_wp2;rw [S.out];refine d.out 0 _ (by rw [if_pos (.inr kK.out)]) ?_ (((ag.refl (fun b=>b=q) w2).setCell (p:=⟨q,5,none⟩) (fun _=>rfl) _).setCell (p:=⟨q,5,none⟩) (fun _=>rfl) _);have:=(B.out.set_ 5 (.int .i64 ((g:Int)+1))).set_ 5 (.int .i64 0)
   rwa [Array.setIfInBounds_setIfInBounds] at this
 ·have ap:(0:Int)<(t:Int):=by omega
  have an:0<t:=by omega
  have X:Hid (A≠ []):=aa (fun e=>j (by rw [f.out,e];rfl));clear j;go_wp2;rw [S.out];refine d.out 0 _ (by rw [if_pos (.inl X.out)]) ?_ (((ag.refl (fun b=>b=q) w2).setCell (p:=⟨q,5,none⟩) (fun _=>rfl) _).setCell (p:=⟨q,5,none⟩) (fun _=>rfl) _);have:=(B.out.set_ 5 (.int .i64 ((g:Int)+1))).set_ 5 (.int .i64 0);rwa [Array.setIfInBounds_setIfInBounds] at this
def bJ (b:List UInt8):Jb:=
 if(ai b 0).2.2≠0 then⟨[],[],0,(ai b 0).2.2,(ai b 0).2.1⟩
 else if(ai b 0).1=0\/64<(ai b 0).1 then⟨[],[],0,61,0⟩
 else bq b (ai b 0).1 [] [] (ai b 0).2.1
def oV (b:List UInt8) (w:World) (e:Ending) (w':World):Prop:=
 ∃A c B d,e= .returned (.tuple #[.slice A (bJ b).ents.length c,.slice B (bJ b).ats.length d,.int .i64 (bJ b).at_,.int .i64 (bJ b).err,.int .i64 (bJ b).place])/\(bJ b).ents.length<=c/\c<=maxLen/\bz w' (From w.heap.size) A (bJ b).ents.length (bJ b).ents/\Rd w' (From w.heap.size) 1 B (bJ b).ats.length (mo (bJ b).ats)/\Below w.heap.size w w'
structure y7 (n p0 bn:Nat) (b:List UInt8) (w0:World) (l:List aK) (ats:List Nat) (p:Nat) (out av:Value) (us:List Value) (w:World):Prop where
 er:Gb w w0.heap.size (fun g=>av.ownBlock=some g) out us l
 av:w.ownsRow w0.heap.size 3 1 av ats.length (mo ats)
 bel:Below w0.heap.size w0 w
 rise:bH l
 alen:ats.length=l.length
 ple:p<=bn
 lln:l.length<=n
 eq:bq b n [] [] p0=bq b (n-l.length) l ats p
theorem Kq (F:Nat->Prop) (bA:Option Addr) (bn bc:Nat) (b:List UInt8) (w:World) (h:Rd w F 1 bA bn (aF b)) (N:bn=b.length) (Q:bn<=1152921504606) (k:¬((ai b 0).2.2=0/\1<=(ai b 0).1/\(ai b 0).1<=64)):
  Calls prog 111 #[.slice bA bn bc] w (oV b w):=by
 have c:=aa (iF F bA bn bc 0 b w h N (Nat.zero_le _) Q);have f:=aa (show bJ b=if(ai b 0).2.2≠0 then⟨[],[],0,(ai b 0).2.2,(ai b 0).2.1⟩ else if(ai b 0).1=0\/64<(ai b 0).1 then⟨[],[],0,61,0⟩ else bq b (ai b 0).1 [] [] (ai b 0).2.1 from rfl);obtain⟨x,l⟩:∃x,x=(ai b 0).1:=⟨_,rfl⟩;obtain⟨p,m⟩:∃p,p=(ai b 0).2.1:=⟨_,rfl⟩;obtain⟨er,g⟩:∃er,er=(ai b 0).2.2:=⟨_,rfl⟩;rw [<-l,<-m,<-g] at c f;rw [<-l,<-g] at k;obtain⟨R,j⟩:∃R,R=oV b w:=⟨_,rfl⟩;have o:=aa j;rw [<-j];clear j l m g h N
 have a:Hid (∀(e:Int) (q:Nat),bJ b=⟨[],[],0,e,q⟩->R (.returned (.tuple #[.slice none 0 0,.slice none 0 0,.int .i64 0,.int .i64 e,.int .i64 q])) w):=aa (fun e q h=>by
  rw [o.out];unfold oV;rw [h];exact⟨none,0,none,0,rfl,Nat.le_refl _,by simp [maxLen],bz.nil _ _ _,Rd.none_ _ _ _ _,Below.refl _ _⟩)
 by_cases i:er=0
 ·subst i;have d:Hid (bJ b=⟨[],[],0,61,0⟩):=aa (by rw [f.out,if_neg (fun h=>h rfl),if_pos (by omega)])
  by_cases n:x=0
  ·subst n;go_enter func111,ntmps111
   go_wp2_with (go_at_call 149;go_loud (refine c.mono ?_);rintro e w2 ⟨rfl,rfl⟩)
   refine bodyPost_ret (v:= .tuple #[.slice none 0 0,.slice none 0 0,.int .i64 0,.int .i64 61,.int .i64 0]) (by simp [results,results111,go_sem]) rfl ?_
   exact a.out 61 0 d
  ·have s:¬((x:Int)<1):=by omega
   have t:(64:Int)<(x:Int):=by omega
   clear k n;go_enter func111,ntmps111
   go_wp2_with (go_at_call 149;go_loud (refine c.mono ?_);rintro e w2 ⟨rfl,rfl⟩)
   refine bodyPost_ret (v:= .tuple #[.slice none 0 0,.slice none 0 0,.int .i64 0,.int .i64 61,.int .i64 0]) (by simp [results,results111,go_sem]) rfl ?_
   exact a.out 61 0 d
 ·have d:Hid (bJ b=⟨[],[],0,er,p⟩):=aa (by rw [f.out,if_pos i]);have r:(er==0)=false:=by rw [beq_eq_false_iff_ne];exact i
  clear k;go_enter func111,ntmps111
  go_wp2_with (go_at_call 149;go_loud (refine c.mono ?_);rintro e w2 ⟨rfl,rfl⟩)
  refine bodyPost_ret (v:= .tuple #[.slice none 0 0,.slice none 0 0,.int .i64 0,.int .i64 er,.int .i64 p]) (by simp [results,results111,go_sem]) rfl ?_;exact a.out er p d
theorem Gc {l:List aK} (h:bH l):(aP l).length<=64:=by
 unfold aP
 split
 ·simp
 ·rcases Nat.eq_zero_or_pos l.length with a|a
  ·have:l= []:=List.eq_nil_of_length_eq_zero a
   subst this;simp [az]
  ·obtain⟨e,b,c⟩:=nD a;rw [c];exact(cK h b).2.1
theorem Gd (F:Nat->Prop) (bA:Option Addr) (bn bc:Nat) (b:List UInt8) (w:World) (h:Rd w F 1 bA bn (aF b)) (N:bn=b.length) (D:bn<=bc) (Q:bn<=1152921504606) (hF:∀g,F g->g<w.heap.size) (h0:(ai b 0).2.2=0) (u:1<=(ai b 0).1) (H:(ai b 0).1<=64):
  Calls prog 111 #[.slice bA bn bc] w (oV b w):=by
 obtain⟨i0,a2,kH,kI,kJ⟩:=info_parts lK;obtain⟨j0,ab,a4,a5,a6⟩:=info_parts pZ;have HV:=aa (iF F bA bn bc 0 b w h N (Nat.zero_le _) Q);have HX:Hid (bJ b=bq b (ai b 0).1 [] [] (ai b 0).2.1):=aa (by unfold bJ;rw [if_neg (fun h=>h h0),if_neg (by omega)]);have a0:=aa (fe b 0 (Nat.zero_le _)).2;obtain⟨x,hx⟩:∃x,x=(ai b 0).1:=⟨_,rfl⟩;obtain⟨p0,ae⟩:∃p0,p0=(ai b 0).2.1:=⟨_,rfl⟩;rw [<-hx,<-ae,h0] at HV;rw [<-hx,<-ae] at HX;rw [<-ae] at a0;rw [<-hx] at u H;obtain⟨R,hR⟩:∃R,R=oV b w:=⟨_,rfl⟩;have HR:=aa hR;rw [<-hR];have HH:=aa h;have HN:=aa N;have HF:=aa hF;have bL:¬((x:Int)<1):=by omega
 have bM:¬((64:Int)<(x:Int)):=by omega
 clear hR h N hF h0 hx ae;go_enter func111,ntmps111
 go_wp2_with (go_at_call 149;go_loud (refine HV.mono ?_);rintro e w2 ⟨rfl,rfl⟩)
 go_loopg [8,10,11,12] x (fun g' pv ov a9 iv wz=>∃(l:List aK) (ats:List Nat) (p:Nat) (us:List Value),g'=x-l.length/\pv= .int .i64 p/\iv= .int .i64 l.length/\y7 x p0 bn b w l ats p ov a9 us wz)
 case atStart=>exact⟨[],[],p0,[],rfl,rfl,rfl,Gb.nil _ _ _,World.ownsRow_nil _ _ _ _,Below.refl _ _,fH,rfl,by have u:=a0.out;have H:=HN.out;omega,Nat.zero_le _,rfl⟩
 case round=>
  obtain⟨l,ats,p,us,m,rfl,rfl,hm⟩:=hrel;have HG:=aa m;have a:=aa hm;have a8:=hm.lln;obtain⟨c,ad⟩:∃c,c=l.length:=⟨_,rfl⟩;have f:=aa ad;obtain⟨oA,J,bx,bm,bo⟩:=au hm.er.own;subst bx;obtain⟨L,M,bh,bb,be⟩:=au hm.av;subst bh;have d:ats.length=c:=by rw [ad];exact hm.alen
  rw [d] at a;rw [<-ad] at a8 a|-;rw [d];clear m hm ad d bm bo bb be
  by_cases bN:c<x
  ·have X9:(c:Int)<(x:Int):=by omega
   have pX:Hid (bz wr (From w.heap.size) oA c l):=aa (a.er.ents f);have YJ:=aa (Kr oA c J c (From w.heap.size) l wr pX rfl (by omega));have d9:Hid (Rd wr (fun g=>g<wr.heap.size) 1 bA bn (aF b)):=aa ((HH.below a.bel).weak (fun g m=>Nat.lt_of_lt_of_le (HF g m) a.bel.size));obtain⟨r,hr⟩:∃r,r=pread (aP l) b p:=⟨_,rfl⟩;have an:=aa hr
   have xF:Hid (bJ b=if r.err≠0 then⟨l,ats,p,r.err,r.next⟩ else if 0<l.length/\0<=compareBytes (az l) r.key then⟨l,ats,p,51,p⟩ else bq b (x-(l.length+1)) (l++ [(r.key,r.val)]) (ats++ [p]) r.next):=aa (by
    rw [HX.out,a.out.eq,show x-l.length=(x-(l.length+1))+1 by have:=f.out;omega,uN,hr])
   clear hr;obtain⟨er,dU⟩:∃er,er=r.err:=⟨_,rfl⟩;obtain⟨nx,a3⟩:∃nx,nx=r.next:=⟨_,rfl⟩;have fO:=aa dU;have qb:=aa a3;clear dU a3;go_upto_region 12 with(first|(go_at_call 152;go_loud (refine YJ.mono ?_);rintro e w2 ⟨K0,bK,bE,rfl,q1,q2,q3,q4,rfl⟩;have HQ:=aa (And.intro q1 (And.intro q2 (And.intro q3 (q4.lt Nat.zero_lt_one))));clear q1 q2 q3 q4)|(go_at_call 151;go_loud (refine(Gf (fun g=>g<wr.heap.size) K0 bA bK bE bn bc p (aP l) b wr (HQ.2.2.2.weak (fun g m=>m.2)) HQ.2.2.1.out HQ.1 d9 HN D a.ple (by have u:=HQ.out.2.2.1.out;have H:=Gc a.rise;omega) Q (fun g m=>m)).mono ?_);rintro e w2 ⟨K,G,E,V,P,O,rfl,hk,a1⟩;rw [<-an.out] at hk|-;rw [<-fO.out,<-qb.out];have HK:=aa hk;have aE:=aa a1;clear hk a1))
   obtain⟨x5,am⟩:∃x5,x5=w2.heap.size:=⟨_,rfl⟩;obtain⟨I,al⟩:∃W,W=w2.alloc (.cells #[.slice K G E,.slice V P O] 69):=⟨_,rfl⟩;rw [<-al,<-am];have oI:=aa am;have y:Hid (Below w2.heap.size w2 I):=aa (by rw [al];exact(Below.refl _ _).alloc (Nat.le_refl _) _);have ma:Hid (aj I x5 69 #[.slice K G E,.slice V P O]):=aa (by rw [al,am];exact aj.new _ _ _);have Z:Hid (Below wr.heap.size wr I):=aa (aE.out.trans (y.mono aE.size));clear al am
   by_cases e0:er=0
   ·have kK:Hid (r.err=0):=aa (by rw [<-fO.out];exact e0);subst e0
    have Ct:Hid (uu (aP l) b r):=aa (by
     have u:=jq (prev:=aP l) (b:=b) (p:=p) (by have u:=a.out.ple;have H:=HN.out;omega) (by rw [<-an.out];exact kK);rwa [<-an.out] at u)
    by_cases l0:c=0
    ·have hd:decide (0<c)=false:=decide_eq_false (by omega);have aq:decide ((0:Int)<(c:Int))=false:=decide_eq_false (by omega);have mM:Hid (¬(0<l.length/\0<=compareBytes (az l) r.key)):=aa (fun h=>by have:=f.out;omega);clear l0;go_upto_region 14 with fail
     go_quiet (fail);clear hd aq;obtain⟨i,B⟩:∃W,W=I.drewN nq:=⟨_,rfl⟩;rw [<-B];have fV:Hid (ag Nil I i):=aa (by rw [B];exact(ag.refl Nil I).drewN _);have Ay:Hid (Below wr.heap.size wr i):=aa (Z.out.trans (fV.below_of Z.size (fun _ _ h=>h)));have BQ:Hid (Below w.heap.size w i):=aa (a.bel.trans (Ay.mono a.bel.size));have tY:Hid (aj i x5 69 #[.slice K G E,.slice V P O]):=aa (ma.chg fV (fun h=>h));have Fw:Hid (bq b x [] [] p0=bq b (x-(l.length+1)) (l++ [(r.key,r.val)]) (ats++ [p]) r.next):=aa (by rw [<-HX.out,xF.out,if_neg (fun h=>h kK.out),if_neg mM.out]);have Oq:=aa (a.er.below Ay);have U9:=aa (own_below a.av Ay);have d:ats.length=c:=by rw [f.out];exact a.alen
     have ZG:=aa d;have y0:i.cell? ⟨x5,0,none⟩=some (.slice K G E):=tY.out.cell 0;have y1:i.cell? ⟨x5,1,none⟩=some (.slice V P O):=tY.out.cell 1;have Vb:Hid (i.ownsRow w.heap.size 69 2 (Value.slice oA c J) c us):=aa (by have t:=Oq.out.own;rw [<-f.out] at t;exact t);clear B d;go_upto_region 17 with(at_builtin;go_loud (refine af _ rfl (.tmp 73) (.tmp 75) _ rfl w.heap.size 69 i0 _ 2 48 underlying58 a2 kH kI kJ rfl (by omega) (Value.slice oA c J) _ us rfl (own_below Vb ((Below.refl _ _).alloc (Nat.le_refl _) _)) (From i.heap.size) (some ⟨i.heap.size,0,none⟩) 1 1 [.slice K G E,.slice V P O] rfl (Rd.two i _ _ _) (by simp [Value.oneCell']) (by simp only [maxLen];omega) (by omega) (by have t:=BQ.out.size;rw [World.size_alloc];omega) ?_);intro v5 z n X jP;have lG:=aa n;have vw:=aa X;have M9:=aa jP;clear n X jP;obtain⟨nA,nc,ar,_,_⟩:=au lG;subst ar)
     obtain⟨wa,mh⟩:∃W,W=i.alloc (.cells #[.slice K G E,.slice V P O] 69):=⟨_,rfl⟩;rw [<-mh] at vw M9;have C:Hid (Below i.heap.size i wa):=aa (by rw [mh];exact(Below.refl _ _).alloc (Nat.le_refl _) _);have C6:=aa (C.size);have eA:=Oq.out.below C;have yQ:=HK.out kK;have s:∀g,wr.heap.size<=g->(w.heap.size<=g/\¬(Value.slice L c M).ownBlock=some g/\(Value.slice oA c J).ownBlock≠some g):=fun g m=>⟨by have:=a.out.bel.size;omega,fun e=>by have:=(ah a.av g e).2;omega,fun e=>by have:=(ah a.er.own g e).2;omega⟩;have A:Below w2.heap.size w2 wa:=(y.out.trans (fV.below_of y.size (fun _ _ h=>h))).trans (C.mono (by have u:=y.out.size;have H:=fV.out.size;omega));have e5:=eA.push (e:=(r.key,r.val)) (fun g m=>by have u:=(ah a.av g m).2;have H:=Ay.out.size;have Y:=C.out.size;omega) (by rw [show l.length+1=c+1 by rw [f.out]];exact lG) vw M9 ((yQ.1.below A).weak s) ((yQ.2.below A).weak s);have Vf:=aa e5
     have Vg:Hid (z.ownsRow w.heap.size 3 1 (.slice L c M) c (mo ats)):=aa (by
      have t:=aD (own_below U9 C) (ag.of_grown vw) (fun g m e=>a.er.ne g e m);rw [ZG.out] at t;exact t)
     have pN:Hid (Below w.heap.size w z):=aa ((BQ.out.trans (C.mono BQ.size)).grown vw (by have u:=BQ.out.size;have H:=C.out.size;omega) (fun g m=>(ah a.er.own g m).1));clear y0 y1 mh eA yQ s A e5;go_wp2_with (at_builtin;go_loud (refine af _ rfl (.tmp 77) (.tmp 79) _ rfl w.heap.size 3 j0 _ 1 8 underlying25 ab a4 a5 a6 rfl (by omega) (.slice L c M) _ (mo ats) rfl (own_below Vg ((Below.refl _ _).alloc (Nat.le_refl _) _)) (From z.heap.size) (some ⟨z.heap.size,0,none⟩) 1 1 [.int .i64 p] rfl (Rd.one z _ _) (by simp [Value.oneCell']) (by simp only [maxLen];omega) (by omega) (by have t:=pN.out.size;rw [World.size_alloc];omega) ?_);intro v6 w6 o fu dD;have lU:=aa o;have kE:=aa fu;have xJ:=aa dD;clear o fu dD)
     go_roundg (x-(c+1))
     case measure=>have u:=HG.out;have H:=f.out;omega
     case rel=>
      have U:Below z.heap.size z (z.alloc (.cells #[.int .i64 p] 3)):=(Below.refl _ _).alloc (Nat.le_refl _) _;have e6:=Vf.out.below U
      have e7:=e6.step (Z':=fun g=>v6.ownBlock=some g) (ag.of_grown kE) (fun g _ _ e=>e) (fun g hl e=>by
       rcases xJ.out with h|h
       ·rw [h] at e;exact e
       ·rw [h] at e;injection e with e;rw [World.size_alloc] at e hl;omega)
      refine⟨l++ [(r.key,r.val)],ats++ [p],nx,us++ [.slice K G E,.slice V P O],by rw [List.length_append,List.length_singleton,<-f.out],rfl,by rw [List.length_append,List.length_singleton,<-f.out];go_num,e7,?_,?_,?_,?_,?_,?_,?_⟩
      ·have t:=lU.out;rw [List.length_append,List.length_singleton,ZG.out]
       simpa [mo] using t
      ·exact(pN.out.trans (U.mono pN.size)).grown kE (by have u:=pN.out.size;rw [World.size_alloc];omega) (fun g m=>(ah a.av g m).1)
      ·refine lQ a.rise (nW Ct.k1 Ct.k2 Ct.v) (fun h0=> ?_)
       rcases Int.lt_or_le (compareBytes (az l) r.key) 0 with h|h
       ·exact h
       ·exact absurd ⟨h0,h⟩ mM
      ·simp [a.out.alen]
      ·rw [qb.out];have u:=Ct.out.next;have H:=HN.out;omega
      ·rw [List.length_append,List.length_singleton,<-f.out];omega
      ·rw [Fw.out,qb.out];simp
    ·obtain⟨j,hj⟩:∃j,c=j+1:=⟨c-1,by omega⟩;have hd:decide (0<c)=true:=decide_eq_true (by omega);have aq:decide ((0:Int)<(c:Int))=true:=decide_eq_true (by omega);obtain⟨b2,o2,Lk,ax,aw,Lv,bP,bO,key,val,bp,_,hl,c1,c2,k1,k2,k3,k4,v1,v2,v3,v4⟩:=pX.out.at_ (k:=j) (by omega);have X6:Hid (az l=key):=aa (by rw [gH (l:=l) (e:=(key,val)) (by have t:=f.out;rw [show l.length-1=j by omega];exact hl)]);subst bp;have ba:I.cell? ⟨b2,o2+j*2,none⟩=some (.slice Lk ax aw):=ak Z c1;have y0:I.cell? ⟨x5,0,none⟩=some (.slice K G E):=ma.out.cell 0;have bB:IntKind.i64.wrap ((c:Int)-1)=(j:Int):=by rw [IntWalk.i64_in _ (by omega)];omega
     have bj:j<c:=by omega
     have xI:(j:Int)<(c:Int):=by omega
     have ab:(0:Int)<=(j:Int):=by omega
     have zW:Hid (∀k,Calls prog 68 #[.slice Lk ax aw,.slice K G E] (I.drewN k) fun e w'=>e= .returned (.int .i64 (compareBytes (az l) r.key))/\∃q,w'=(I.drewN k).drewN q):=aa (fun k=>by
      rw [X6.out];have T:=((HK kK).1.below y).parts;exact eX Lk K ax G aw E (From w.heap.size) (From wr.heap.size) key r.key (I.drewN k) ((k4.below Z).drewN k) k3.out (T.2.2.2.drewN k) T.2.2.1 (by have h6:=k3.out;have h7:=a.out.rise;have h8:=(cK h7 (List.mem_of_getElem? hl)).2.1;simp only [] at h8;omega))
     obtain⟨ce,ap⟩:∃ce,ce=compareBytes (az l) r.key:=⟨_,rfl⟩;rw [<-ap] at zW;have pU:=aa ap;have a7:Hid (0<l.length):=aa (by have:=f.out;omega);clear l0 hj hl c1 c2 k1 k2 k3 k4 v1 v2 v3 v4 ap;go_upto_region 14 with fail
     go_quiet ((go_at_call 68;exact Calls.quiet_of (zW _)));clear hd aq ba y0 bB bj xI ab
     by_cases hc:0<=ce
     ·have Fw:Hid (bJ b=⟨l,ats,p,51,p⟩):=aa (by rw [xF.out,if_neg (fun h=>h kK.out),if_pos ⟨a7.out,by rw [<-pU.out];exact hc⟩]);go_wp2;refine bodyPost_ret (v:= .tuple #[.slice (some ⟨b2,o2,none⟩) c J,.slice L c M,.int .i64 p,.int .i64 51,.int .i64 p]) (by simp [results,results111,go_sem]) rfl ?_;rw [HR.out];unfold oV;rw [Fw.out];have d:ats.length=c:=by rw [f.out];exact a.alen
      have Y:=au a.er.own;have ao:=below_drewN Z nq
      refine⟨some ⟨b2,o2,none⟩,J,L,M,by rw [d,f.out],?_,?_,by rw [<-f.out];exact pX.below ao,by rw [d];exact(Rd.of_own (by have h4:=a.out.av;rw [d] at h4;exact h4)).below ao,a.bel.trans (ao.mono a.bel.size)⟩
      ·obtain⟨A',c',e,T,h6⟩:=Y;injection e with e1 e2 S;rw [S];exact T
      ·obtain⟨A',c',e,T,h6⟩:=Y;injection e with e1 e2 S;rw [S];exact h6
     ·have mM:Hid (¬(0<l.length/\0<=compareBytes (az l) r.key)):=aa (fun h=>by rw [<-pU.out] at h;exact hc h.2);obtain⟨i,B⟩:∃W,W=I.drewN nq:=⟨_,rfl⟩;rw [<-B];have fV:Hid (ag Nil I i):=aa (by rw [B];exact(ag.refl Nil I).drewN _);have Ay:Hid (Below wr.heap.size wr i):=aa (Z.out.trans (fV.below_of Z.size (fun _ _ h=>h)));have BQ:Hid (Below w.heap.size w i):=aa (a.bel.trans (Ay.mono a.bel.size));have tY:Hid (aj i x5 69 #[.slice K G E,.slice V P O]):=aa (ma.chg fV (fun h=>h));have Fw:Hid (bq b x [] [] p0=bq b (x-(l.length+1)) (l++ [(r.key,r.val)]) (ats++ [p]) r.next):=aa (by rw [<-HX.out,xF.out,if_neg (fun h=>h kK.out),if_neg mM.out]);have Oq:=aa (a.er.below Ay);have U9:=aa (own_below a.av Ay);have d:ats.length=c:=by rw [f.out];exact a.alen
      have ZG:=aa d;have y0:i.cell? ⟨x5,0,none⟩=some (.slice K G E):=tY.out.cell 0;have y1:i.cell? ⟨x5,1,none⟩=some (.slice V P O):=tY.out.cell 1;have Vb:Hid (i.ownsRow w.heap.size 69 2 (Value.slice (some ⟨b2,o2,none⟩) c J) c us):=aa (by have t:=Oq.out.own;rw [<-f.out] at t;exact t);clear B d;go_upto_region 17 with(at_builtin;go_loud (refine af _ rfl (.tmp 73) (.tmp 75) _ rfl w.heap.size 69 i0 _ 2 48 underlying58 a2 kH kI kJ rfl (by omega) (Value.slice (some ⟨b2,o2,none⟩) c J) _ us rfl (own_below Vb ((Below.refl _ _).alloc (Nat.le_refl _) _)) (From i.heap.size) (some ⟨i.heap.size,0,none⟩) 1 1 [.slice K G E,.slice V P O] rfl (Rd.two i _ _ _) (by simp [Value.oneCell']) (by simp only [maxLen];omega) (by omega) (by have t:=BQ.out.size;rw [World.size_alloc];omega) ?_);intro v5 z n X jP;have lG:=aa n;have vw:=aa X;have M9:=aa jP;clear n X jP;obtain⟨nA,nc,ar,_,_⟩:=au lG;subst ar)
      obtain⟨wa,mh⟩:∃W,W=i.alloc (.cells #[.slice K G E,.slice V P O] 69):=⟨_,rfl⟩;rw [<-mh] at vw M9;have C:Hid (Below i.heap.size i wa):=aa (by rw [mh];exact(Below.refl _ _).alloc (Nat.le_refl _) _);have C6:=aa (C.size);have eA:=Oq.out.below C;have yQ:=HK.out kK;have s:∀g,wr.heap.size<=g->(w.heap.size<=g/\¬(Value.slice L c M).ownBlock=some g/\(Value.slice (some ⟨b2,o2,none⟩) c J).ownBlock≠some g):=fun g m=>⟨by have:=a.out.bel.size;omega,fun e=>by have:=(ah a.av g e).2;omega,fun e=>by have:=(ah a.er.own g e).2;omega⟩;have A:Below w2.heap.size w2 wa:=(y.out.trans (fV.below_of y.size (fun _ _ h=>h))).trans (C.mono (by have u:=y.out.size;have H:=fV.out.size;omega));have e5:=eA.push (e:=(r.key,r.val)) (fun g m=>by have u:=(ah a.av g m).2;have H:=Ay.out.size;have Y:=C.out.size;omega) (by rw [show l.length+1=c+1 by rw [f.out]];exact lG) vw M9 ((yQ.1.below A).weak s) ((yQ.2.below A).weak s);have Vf:=aa e5
      have Vg:Hid (z.ownsRow w.heap.size 3 1 (.slice L c M) c (mo ats)):=aa (by
       have t:=aD (own_below U9 C) (ag.of_grown vw) (fun g m e=>a.er.ne g e m);rw [ZG.out] at t;exact t)
      have pN:Hid (Below w.heap.size w z):=aa ((BQ.out.trans (C.mono BQ.size)).grown vw (by have u:=BQ.out.size;have H:=C.out.size;omega) (fun g m=>(ah a.er.own g m).1));clear y0 y1 mh eA yQ s A e5;go_wp2_with (at_builtin;go_loud (refine af _ rfl (.tmp 77) (.tmp 79) _ rfl w.heap.size 3 j0 _ 1 8 underlying25 ab a4 a5 a6 rfl (by omega) (.slice L c M) _ (mo ats) rfl (own_below Vg ((Below.refl _ _).alloc (Nat.le_refl _) _)) (From z.heap.size) (some ⟨z.heap.size,0,none⟩) 1 1 [.int .i64 p] rfl (Rd.one z _ _) (by simp [Value.oneCell']) (by simp only [maxLen];omega) (by omega) (by have t:=pN.out.size;rw [World.size_alloc];omega) ?_);intro v6 w6 o fu dD;have lU:=aa o;have kE:=aa fu;have xJ:=aa dD;clear o fu dD)
      go_roundg (x-(c+1))
      case measure=>have u:=HG.out;have H:=f.out;omega
      case rel=>
       have U:Below z.heap.size z (z.alloc (.cells #[.int .i64 p] 3)):=(Below.refl _ _).alloc (Nat.le_refl _) _;have e6:=Vf.out.below U
       have e7:=e6.step (Z':=fun g=>v6.ownBlock=some g) (ag.of_grown kE) (fun g _ _ e=>e) (fun g hl e=>by
        rcases xJ.out with h|h
        ·rw [h] at e;exact e
        ·rw [h] at e;injection e with e;rw [World.size_alloc] at e hl;omega)
       refine⟨l++ [(r.key,r.val)],ats++ [p],nx,us++ [.slice K G E,.slice V P O],by rw [List.length_append,List.length_singleton,<-f.out],rfl,by rw [List.length_append,List.length_singleton,<-f.out];go_num,e7,?_,?_,?_,?_,?_,?_,?_⟩
       ·have t:=lU.out;rw [List.length_append,List.length_singleton,ZG.out]
        simpa [mo] using t
       ·exact(pN.out.trans (U.mono pN.size)).grown kE (by have u:=pN.out.size;rw [World.size_alloc];omega) (fun g m=>(ah a.av g m).1)
       ·refine lQ a.rise (nW Ct.k1 Ct.k2 Ct.v) (fun h0=> ?_)
        rcases Int.lt_or_le (compareBytes (az l) r.key) 0 with h|h
        ·exact h
        ·exact absurd ⟨h0,h⟩ mM
       ·simp [a.out.alen]
       ·rw [qb.out];have u:=Ct.out.next;have H:=HN.out;omega
       ·rw [List.length_append,List.length_singleton,<-f.out];omega
       ·rw [Fw.out,qb.out];simp
   ·have kK:Hid (r.err≠0):=aa (by rw [<-fO.out];exact e0);have Us:(er==0)=false:=by rw [beq_eq_false_iff_ne];exact e0
    have Fw:Hid (bJ b=⟨l,ats,p,er,nx⟩):=aa (by rw [xF.out,if_pos kK.out,fO.out,qb.out]);clear e0;go_wp2;refine bodyPost_ret (v:= .tuple #[.slice oA c J,.slice L c M,.int .i64 p,.int .i64 er,.int .i64 nx]) (by simp [results,results111,go_sem]) rfl ?_;rw [HR.out];unfold oV;rw [Fw.out];have d:ats.length=c:=by rw [f.out];exact a.alen
    have Y:=au a.er.own
    refine⟨oA,J,L,M,by rw [d,f.out],?_,?_,by rw [<-f.out];exact pX.below Z,by rw [d];exact(Rd.of_own (by have h4:=a.out.av;rw [d] at h4;exact h4)).below Z,a.bel.trans (Z.mono a.bel.size)⟩
    ·obtain⟨A',c',e,T,h6⟩:=Y;injection e with e1 e2 S;rw [S];exact T
    ·obtain⟨A',c',e,T,h6⟩:=Y;injection e with e1 e2 S;rw [S];exact h6
  ·have bk:c=x:=by omega
   have X9:¬((c:Int)<(x:Int)):=by omega
   have Fw:Hid (bJ b=⟨l,ats,p,0,0⟩):=aa (by rw [HX.out,a.out.eq,show x-l.length=0 by have:=f.out;omega];rfl);clear bk;go_wp2;refine bodyPost_ret (v:= .tuple #[.slice oA c J,.slice L c M,.int .i64 p,.int .i64 0,.int .i64 0]) (by simp [results,results111,go_sem]) rfl ?_;rw [HR.out];unfold oV;rw [Fw.out];have d:ats.length=c:=by rw [f.out];exact a.alen
   have Y:=au a.er.own
   refine⟨oA,J,L,M,by rw [d,f.out];rfl,?_,?_,by rw [<-f.out];exact a.er.ents f,by rw [d];exact Rd.of_own (by have h4:=a.out.av;rw [d] at h4;exact h4),a.bel⟩
   ·obtain⟨A',c',e,T,h6⟩:=Y;injection e with e1 e2 S;rw [S];exact T
   ·obtain⟨A',c',e,T,h6⟩:=Y;injection e with e1 e2 S;rw [S];exact h6
noncomputable def Za:Code:=aV (f94.body.bind (aJ 15))
theorem JK (r K cp k b o j d q b3 o3 Qx d2:Nat) (z Bk:Option Addr) (C Qy y Tq:Nat) (D E:Nat->Prop) (xs ys:List UInt8) (w:World) {Y u1 J L H v u6 u7 I Z N U u16 O f bN s V P m u24 g T u27 W u A u31 x p F u35 u36 u37 u38 R u40 X u42 G u44 u45 u46 l u48 u49 ek u51 eO B n u55 fE fF u58 u59 u60 gJ gY u63 u64 gZ u66 iq u68 u69 u70 j4 u72 u73 jJ u75 jK:Value} {S:List Value} (Q:Exit->Act->World->Prop) (mQ:Hid (∀c t (a:Act) w,Q (.panic c) ⟨t,a.defers⟩ w->Q (.panic c) a w))
  (hk:k<K) (hK:K<=1152921504606) (hj:1<=j) (ba:j<=1152921504606) (bb:0<Qx)
  (c1:w.cell? ⟨b,o+(j-1)*2,none⟩=some (.slice z C y)) (c2:w.cell? ⟨r,k+1,none⟩=some (.slice (some ⟨b3,o3,none⟩) Qx d2)) (c3:w.cell? ⟨b3,o3,none⟩=some (.slice Bk Qy Tq))
  (C6:Hid (Bt w D z C y xs)) (Lx:Hid (Bt w E Bk Qy Tq ys)) (lx:xs.length<=1152921504606) (ly:ys.length<=1152921504606)
  (v0 v2 v3 M v5:Value) (gK:Hid (aj w q 132 #[v0,.slice none 0 0,v2,v3,M,v5]))
  (ax:∀(ae al am an ao ap aq ar aw aA aE a0 a1 a2 a3 a4 a5 a6 a7 a8 a9:Value) (K5:Option Addr) (n5 c5:Nat) (w5:World),Bt w5 (From w.heap.size) K5 n5 c5 (oz xs ys).1->Below w.heap.size w w5->Q .normal ⟨(Y::u1::J::L::H::v::u6::u7:: .slice (some ⟨r,0,none⟩) (K+1) cp:: .int .i64 k:: .slice (some ⟨b,o,none⟩) j d:: .pointer (some ⟨q,0,none⟩)::I::Z::N::U::u16::O::f::bN::s::V::P::m::u24::g::T::u27::W::u::A::u31::x::p::F::u35::u36::u37::u38::R::u40::X::u42::G::u44::u45::u46::l::u48::u49::ek::u51::eO::B::n::u55::ae::al::am::an::ao::ap::aq::ar::aw::aA::aE::a0::a1::a2::a3::a4::a5::a6::a7::a8::a9::S).toArray,[]⟩ (w5.setCell ⟨q,1,none⟩ (.slice K5 n5 c5))):
  Code.wp prog Za Q ⟨(Y::u1::J::L::H::v::u6::u7:: .slice (some ⟨r,0,none⟩) (K+1) cp:: .int .i64 k:: .slice (some ⟨b,o,none⟩) j d:: .pointer (some ⟨q,0,none⟩)::I::Z::N::U::u16::O::f::bN::s::V::P::m::u24::g::T::u27::W::u::A::u31::x::p::F::u35::u36::u37::u38::R::u40::X::u42::G::u44::u45::u46::l::u48::u49::ek::u51::eO::B::n::u55::fE::fF::u58::u59::u60::gJ::gY::u63::u64::gZ::u66::iq::u68::u69::u70::j4::u72::u73::jJ::u75::jK::S).toArray,[]⟩ w:=by
 have dP:=aa ax;have w1:=IntWalk.i64_in ((j:Int)-1) (by omega);have w2:(0:Int)<=(j:Int)-1:=by omega
 have w3:((j:Int)-1)<j:=by omega
 have w4:((j:Int)-1).toNat=j-1:=by omega
 have w5:=IntWalk.i64_in ((k:Int)+1) (by omega);have w6:(0:Int)<=(k:Int)+1:=by omega
 have w7:((k:Int)+1).toNat=k+1:=by omega
 have w8:(1:Int)<=(j:Int):=by omega
 have ac:C<=1152921504606:=by have:=C6.out.len;omega
 have ad:Qy<=1152921504606:=by have:=Lx.out.len;omega
 clear ax lx ly;conv=>arg 2;whnf
 refine aS (fun w'=>w'.cell? ⟨b,o+(j-1)*2,none⟩=some (.slice z C y)/\w'.cell? ⟨r,k+1,none⟩=some (.slice (some ⟨b3,o3,none⟩) Qx d2)/\w'.cell? ⟨b3,o3,none⟩=some (.slice Bk Qy Tq)) 21 (by kernel_rfl) ?_;have S0:w.drew.cell? ⟨b,o+(j-1)*2,none⟩=some (.slice z C y)/\w.drew.cell? ⟨r,k+1,none⟩=some (.slice (some ⟨b3,o3,none⟩) Qx d2)/\w.drew.cell? ⟨b3,o3,none⟩=some (.slice Bk Qy Tq):=⟨c1,c2,c3⟩;refine uF 0 (fun _=>S0) ?_;refine uF 1 (fun _=>S0) ?_;refine uF 2 (fun _=>S0) ?_;refine uF 3 (fun _=>S0) ?_;refine uF 4 (fun _=>S0) ?_;refine uF 5 (fun _=>S0) ?_;refine uF 7 (fun _=>S0) ?_;refine uF 8 (fun _=>S0) ?_;refine uF 9 (fun _=>S0) ?_;refine uF 10 (fun _=>S0) ?_;refine uT 6 S0 ?_;refine uT 11 S0 ?_;refine uF 12 (fun _=>S0) ?_;refine uF 13 (fun _=>S0) ?_;refine uT 14 S0 ?_;refine aH (i:=15) (by kernel_rfl) rfl (fun K hK=> ?_);go_simp
 refine(zX z Bk C Qy y Tq _ _ xs ys _ C6.2.2.2.drew C6.2.2.1 Lx.2.2.2.drew Lx.2.2.1 Lx.1 ac ad Lx.2.1).mono ?_;rintro e w5 ⟨K5,n5,c5,rfl,p1,p2,p3,p4,ab⟩;have Q0:=((gK.drew).below ab);have q1:w5.cell? ⟨q,1,none⟩=some (.slice none 0 0):=(Q0.cell 1).trans rfl;have qf:=Q0.frozen;have S5:w5.cell? ⟨b,o+(j-1)*2,none⟩=some (.slice z C y)/\w5.cell? ⟨r,k+1,none⟩=some (.slice (some ⟨b3,o3,none⟩) Qx d2)/\w5.cell? ⟨b3,o3,none⟩=some (.slice Bk Qy Tq):=⟨ak ab S0.1,ak ab S0.2.1,ak ab S0.2.2⟩;refine hK.out _ _ (fun _=>S5) ?_;clear hK K;try simp only [aL,aN,aZ,aC]
 refine uF 16 (fun _=>S5) ?_;refine uF 17 (fun _=>S5) ?_;refine uF 18 (fun _=>S5) ?_;refine uF 19 (fun _=>S5) ?_;refine uF 20 (fun _=>S5) ?_;refine aH (i:=21) (by kernel_rfl) rfl (fun K hK=> ?_);go_simp
 refine hK.out _ _ (fun h=>absurd h (by decide)) ?_;clear hK K;try simp only [aL,aN,aZ,aC]
 refine bS (by kernel_rfl) ?_ _;exact dP _ _ _ _ _ _ _ _ _ _ _ _ _ _ _ _ _ _ _ _ _ K5 n5 c5 w5 ⟨p1,p2,p3,p4.weak (fun b hb=>hb.1)⟩ ((Below.refl _ _).drew.trans ab)
end Go.Proofs.YtepgcjbhabnciaaGreat
