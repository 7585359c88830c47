/- Part 32. -/
import Derived.Test.YtepgcjbhabnciaaGreatLp31
namespace Go.Proofs.YtepgcjbhabnciaaGreat
set_option maxRecDepth 100000
set_option maxHeartbeats 8000000
open Go.Proofs.Tryz Go.RowKit
variable {n b o i base p c:Nat} {D DL:Nat->Prop} {us jJ:List Value} {w:World}
theorem Kl (nd lf bl fill:Int) (inn:Nat) (A:Option Addr) (c:Nat) {low:List Nd} (first:Int) {oL:Int} (cn:3<=inn) (co:inn<=64) (hr:Rd w D 6 A n us) (Q:He w D us low) (S:Hid (low.length=n)) (hnc:n<=c) (_t:c<=maxLen) (hn:n<=65536) (H:0<n)
  (hf:0<=first/\first<=1152921504606) (b9:Hid (∀s,low[0]? =some s->s.lev=oL)) (cr:0<=oL/\oL<=1152921504606):
  Calls prog 117 #[.agg #[nd,lf,(inn:Int),fill,bl],.slice A n c,first] w fun e w'=>∃v,e= .returned v/\Level w' (fun b=>(D b/\b<w)\/w<=b) w v ((List.range (pn n inn)).map (iA inn (oL+1) low first))/\Below w w w':=by
 obtain⟨i0,bo,iC,iD,iE⟩:=info_parts CK;have HR:=aa (hr.lt (by omega));have HT:Hid (He w (fun b=>D b/\b<w) us low):=aa (Q.next (ag.refl Nil _) (fun _ _ _ h=>h) (fun b hb h=>⟨h,hb⟩));obtain⟨b,o,_,_,_,s0,rfl,be,bF,ar,_⟩:=qG HR.out HT (by have:=S.out;omega) H;have bx:=b9.out s0 bF;rw [bx,Nat.zero_mul,Nat.add_zero] at ar;have jo:=aa ar;have ci:=be.2;clear hr Q bF bx ar be;go_enter func117,ntmps117;go_wp2;obtain⟨f,an⟩:=gF (w.alloc (.cells #[.int .i64 nd,.int .i64 lf,.int .i64 inn,.int .i64 fill,.int .i64 bl] 23))
 rw [<-an];have bI:f.heap.size=w.heap.size+1:=by rw [an];simp
 have dW:Hid (Below w w f):=aa (by rw [an];exact gV);have Cn:Hid (f.cell? ⟨w,2,none⟩=some (.int .i64 inn)):=aa (by rw [an];exact((ak.new w 23 _).cell 2).trans rfl);have R:b<f:=by omega
 have ZT:w.heap.size<f:=by omega
 clear an bI
 go_loopg [7,8] n (fun g' out iv wr=>∃(i:Nat),g'=n-i/\i<=n/\iv= (i:Int)/\Below f f wr/\(i=0/\out= ()\/0<i/\∃(k m:Nat) (jJ:List Value) (kv dv:Value) (fE oN:List Value),Hid (i=k*inn+m/\m<=inn/\0<m)/\Mk wr f (fun b=>D b/\b<w) out k (iA inn (oL+1) low first) (oL+1) (us.getD ((i-1)*6+1) undef) kv () dv jJ/\dQ wr f.heap.size (uO us first n (k*inn)) (m-1) m kv dv fE oN))
 case atStart=>exact⟨0,by omega,by omega,rfl,Below.refl _ _,.inl ⟨rfl,rfl⟩⟩
 case round=>
  obtain⟨i,hg,cp,rfl,bj,bG⟩:=hrel;have HG:=aa hg;have je:=aa bj
  rename World=>wr
  clear hg bj;have a0:=aa bG;clear bG;have ch:wr.cell? ⟨w,2,none⟩=some (.int .i64 inn):=iL je ZT Cn;have cx:=IntWalk.i64_in ((i:Int)+1) (by omega);have ad:f.heap.size<=wr:=je.out.size;have jm:Hid (Below w.heap.size w wr):=aa (dW.out.trans (je.mono (by omega)));have c0:=aj jm jo;have ct:=IntWalk.i64_in (oL+1) (by omega)
  by_cases bp:i<n
  ·have cg:(i:Int)<(n:Int):=by omega
   obtain⟨b',o',hA,B,y,s,hB,_,hs,_,a5,hu,cd⟩:=qG HR.out HT (by have:=S.out;omega) bp;injection hB with hB;injection hB with ab ac
   subst ab;subst ac;have C1:=aa (aj jm a5);have HU:=aa hu;clear hs a5 hu cd
   rcases a0.out with⟨Ou,rfl⟩|⟨Ou,k,m,jJ,kv,dv,fE,oN,ae,C,X⟩
   ·subst Ou;have ZU:((0:Int)%(inn:Int)==0)=true:=by simp
    go_upto_region 8 with(first|(at_builtin;go_loud (refine af _ rfl (.tmp 21) (.tmp 30) _ rfl f 132 i0 _ 6 112 underlying225 bo iC iD iE rfl (by omega) () 0 [] rfl (World.ownsRow_nil _ _ _ _) (From wr) (some ⟨wr,0,none⟩) 1 1 [.int .i64 (oL+1),(),.int .i64 0,(),(),()] rfl (by have:=Rd.lit wr #[.int .i64 (oL+1),(),.int .i64 0,(),(),()] 132 6 rfl;simpa using this) (by simp [Value.oneCell']) (by simp only [maxLen];omega) (by omega) (by simp;omega) ?_);intro v6 G r V dF;obtain⟨l,a7,aw,_,_⟩:=r.form (by omega);subst aw;have nW:=aa r;have Yg:=aa V;have aE:=aa dF;clear r V dF))
    have C:Mk G f (fun b=>D b/\b<w) (.slice (some ⟨l,0,none⟩) (0+1) a7) 0 (iA inn (oL+1) low first) (oL+1) () () () () [.int .i64 (oL+1),(),.int .i64 0,(),(),()]:=⟨by simpa using nW.out,rfl,fun g _=>⟨by simp [Value.ownBlock],by simp [Value.ownBlock],by simp [Value.ownBlock]⟩,fun j hj=>absurd hj (by omega)⟩;have xM:=aa C;have V:f<=l:=(ah nW l rfl).1;have xN:Hid (dQ G f (uO us first n (0*inn)) 0 0 () () [] []):=aa (dQ.nil _ _ _);have fK:Hid (Below f wr G):=aa (((mh.mono ad).alloc (by omega) (.cells #[.int .i64 (oL+1),(),.int .i64 0,(),(),()] 132)).grown Yg (by simp;omega) (fun x d=>by simp [Value.ownBlock] at d));have iF:Hid (Below f f G):=aa (je.out.trans fK);have xA:f.heap.size<=G:=iF.out.size;have ap:Hid (G.cell? ⟨b,o+0*6+1,none⟩=some (.slice hA B y)):=aa (iL fK R C1.out);have cf:G.cell? ⟨l,5,none⟩=some (.slice none 0 0):=by have:=nW.out.cellAt 5 (by omega);simpa using this
    have qf:∀o,G.frozen? ⟨l,o,none⟩=false:=nW.out.frozenAt;have lT:Hid (0=0*inn+0):=aa (by omega);clear C
    skip
    have bh:b≠l:=by have:f<=l:=V;omega
    obtain⟨gx,gy,a,_,_,_,_,z,_,q1,_,_,_,O⟩:=xM.out.form;injection a with a _ U;injection a with a
    injection a with a
    subst a;subst U;have qW:=aa z;have SG:=aa O;clear z q1 O;have D1:=aa (xM.d1 l rfl);go_upto_region 10 with fail
    refine Kk first 0 (0*6) 0 _ (by omega) xA (by omega) SG qW xN.v D1.out.2.2 ?_
    intro bL bN bP bQ bT bX b0 b1 b2 b3 b4 b5 b6 b7 K wa P Z N q ic;subst Z;have u:Below G G (G.alloc (.cells #[.int .i64 (first+((0:Nat):Int))] 3)):=gV;have F:=xM.out.setKids u q ic;obtain⟨gx,gy,a,_,_,_,_,z,_,q1,_,_,_,O⟩:=F.form;injection a with a _ U
    injection a with a
    injection a with a
    subst a;subst U;have M:(∀x,(Value.slice none 0 0).ownBlock=some x->f<=x):=fun x d=>(ah xN.v x d).1;have E:Hid (Below f G (P.setCell ⟨l,0*6+5,none⟩ K)):=aa (((u.mono xA).grown q (by simp;omega) M).setCell (p:=⟨l,0*6+5,none⟩) V K);have c3:(P.setCell ⟨l,0*6+5,none⟩ K).cell? ⟨b,o+0*6+1,none⟩=some (.slice hA B y):=iL E R ap.out;have Hg:=aa (F.setHigh (.slice hA B y));have Hl:=aa (((dQ.kid (xN.below u) N q ic (by rw [qF (by have:=lT.out;omega),show 0*inn+0=0 by have:=lT.out;omega])).off (0*6+5) K (F.d1 l rfl).1 (F.d1 l rfl).2.2).off (0*6+1) (.slice hA B y) (F.d1 l rfl).1 (F.d1 l rfl).2.2);have dE:Hid (Below f f ((P.setCell ⟨l,0*6+5,none⟩ K).setCell ⟨l,0*6+1,none⟩ (.slice hA B y))):=aa ((iF.out.trans E).setCell (p:=⟨l,0*6+1,none⟩) V _);clear N q ic u F M;obtain⟨W3,L⟩:∃W,W=P.setCell ⟨l,0*6+5,none⟩ K:=⟨_,rfl⟩;rw [<-L] at c3 Hg Hl dE z q1 O|-;clear L E;go_wp2
    go_roundg (n-(0+1))
    case measure=>have:=HG.out;omega
    case rel=>exact⟨0+1,rfl,by omega,by go_num,dE,.inr ⟨by omega,0,0+1,_,_,_,_,_,aa ⟨by have:=lT.out;omega,by omega,by omega⟩,by rw [show 0+1-1=0 by omega,HU.out];exact Hg,Hl⟩⟩
   ·have T:=ae;have Y:=aa C;have I:=aa X;obtain⟨g,gc,rfl,cj,ck,q,cl,bm,_,_,_,q3,_,O⟩:=Y.out.form;have VV:=aa q3;have ca:=aa bm;obtain⟨dA,dc,rfl,_,_⟩:=ax X.v;have cq:k<=65536:=by have:=T.out.1;have:k*1<=k*inn:=Nat.mul_le_mul_left _ (by omega);omega
    have cv:m<=65536:=by have:=T.out.1;omega
    have cu:(0:Int)<(m:Int):=by have:=T.out.2.2;omega
    have w1:=IntWalk.i64_in ((k:Int)+1-1) (by omega);have w2:(0:Int)<=(k:Int)+1-1:=by omega
    have P:((k:Int)+1-1)<(k:Int)+1:=by omega
    have w4:((k:Int)+1-1).toNat=k:=by omega
    clear ae C X q3 bm;obtain⟨_,_,a8,bz,bk,sl,hB,_,al,_,a6,am,SH⟩:=qG HR.out HT (by have:=S.out;omega) (show i-1<n by omega);injection hB with hB
    injection hB with ab ac
    subst ab;subst ac;have C2:=aa (aj jm a6);have ao:=aa am;have PH:=aa al;have ZV:=aa (SH.below jm);clear a6 am al SH
    by_cases hm:m=inn
    ·have SI:i=(k+1)*inn:=by have:=T.out.1;rw [this,hm,Nat.add_mul];omega
     have b8:=aa SI
     have ZU:((i:Int)%(inn:Int)==0)=true:=by
      rw [beq_iff_eq,SI,Int.natCast_mul];exact Int.mul_emod_left _ _
     have w5:=IntWalk.i64_in ((k:Int)+1+1-1) (by omega);have cS:(0:Int)<=(k:Int)+1+1-1:=by omega
     have w7:((k:Int)+1+1-1)<(k:Int)+1+1:=by omega
     have w8:((k:Int)+1+1-1).toNat=k+1:=by omega
     have Gy:=aa hm;clear SI hm O;go_upto_region 8 with(first|(at_builtin;go_loud (refine af _ rfl (.tmp 21) (.tmp 30) _ rfl f 132 i0 _ 6 112 underlying225 bo iC iD iE rfl (by omega) (.slice (some ⟨g,0,none⟩) (k+1) gc) (k+1) jJ rfl (Y.own.alloc _) (From wr) (some ⟨wr,0,none⟩) 1 1 [.int .i64 (oL+1),(),.int .i64 0,(),(),()] rfl (by have:=Rd.lit wr #[.int .i64 (oL+1),(),.int .i64 0,(),(),()] 132 6 rfl;simpa using this) (by simp [Value.oneCell']) (by simp only [maxLen];omega) (by omega) (by simp;omega) ?_);intro v6 G r V dF;obtain⟨l,a7,aw,_,_⟩:=r.form (by omega);subst aw;have nW:=aa r;have Yg:=aa V;have aE:=aa dF;clear r V dF))
     have J:∀x,(kv.ownBlock=some x\/(Value.slice dA m dc).ownBlock=some x)->(Value.slice (some ⟨g,0,none⟩) (k+1) gc).ownBlock≠some x:=fun x d e=>d.elim (Y.d1 x e).1 (Y.d1 x e).2.2
     have C:=Y.out.more (lev2:=oL+1) (mh.alloc jO (.cells #[.int .i64 (oL+1),(),.int .i64 0,(),(),()] 132)) Yg aE nW (by
      rw [ao.out];refine Hf (m:=m) I (HR.below jm) (HT.below jm) S.out (by have:=T.out.1;omega) T.2.2 (fun x d=>⟨.inr (ah I.k x d).1,J x (.inl d)⟩) (fun x d=>⟨.inr (ah I.v x d).1,J x (.inr d)⟩) (fun x d=>⟨.inl d,fun e=>by have:g=x:=(by simpa [Value.ownBlock] using e);have:=d.2;omega⟩) (by rw [Gy.out]) ?_;rw [show k*inn+m-1=i-1 by have:=T.out.1;omega,List.getD_eq_getElem?_getD,PH.out];exact ZV.weak (fun x d=>⟨.inl d,fun e=>by have:g=x:=(by simpa [Value.ownBlock] using e);have:=d.2;omega⟩))
     have xM:=aa C;have V:f<=l:=(ah nW l rfl).1;have xN:Hid (dQ G f (uO us first n ((k+1)*inn)) 0 0 () () [] []):=aa (dQ.nil _ _ _);have fK:Hid (Below f wr G):=aa (((mh.mono ad).alloc (by omega) (.cells #[.int .i64 (oL+1),(),.int .i64 0,(),(),()] 132)).grown Yg (by simp;omega) (fun x d=>by have:g=x:=(by simpa [Value.ownBlock] using d);omega));have iF:Hid (Below f f G):=aa (je.out.trans fK);have xA:f.heap.size<=G:=iF.out.size;have ap:Hid (G.cell? ⟨b,o+i*6+1,none⟩=some (.slice hA B y)):=aa (iL fK R C1.out);obtain⟨gx,gy,a,_,_,_,_,_,_,_,_,_,_,cf⟩:=xM.out.form;injection a with a _ U
     injection a with a
     injection a with a
     subst a;subst U;have lT:Hid (i=(k+1)*inn+0):=aa (by have:=b8.out;omega);clear C J w1 w2 P w4
     skip
     have bh:b≠l:=by have:f<=l:=V;omega
     obtain⟨gx,gy,a,_,_,_,_,z,_,q1,_,_,_,O⟩:=xM.out.form;injection a with a _ U;injection a with a
     injection a with a
     subst a;subst U;have qW:=aa z;have SG:=aa O;clear z q1 O;have D1:=aa (xM.d1 l rfl);go_upto_region 10 with fail
     refine Kk first i ((k+1)*6) 0 _ (by omega) xA (by omega) SG qW xN.v D1.out.2.2 ?_
     intro bL bN bP bQ bT bX b0 b1 b2 b3 b4 b5 b6 b7 K wa P Z N q ic;subst Z;have u:Below G G (G.alloc (.cells #[.int .i64 (first+((i:Nat):Int))] 3)):=gV;have F:=xM.out.setKids u q ic;obtain⟨gx,gy,a,_,_,_,_,z,_,q1,_,_,_,O⟩:=F.form;injection a with a _ U
     injection a with a
     injection a with a
     subst a;subst U;have M:(∀x,(Value.slice none 0 0).ownBlock=some x->f<=x):=fun x d=>(ah xN.v x d).1;have E:Hid (Below f G (P.setCell ⟨l,(k+1)*6+5,none⟩ K)):=aa (((u.mono xA).grown q (by simp;omega) M).setCell (p:=⟨l,(k+1)*6+5,none⟩) V K);have c3:(P.setCell ⟨l,(k+1)*6+5,none⟩ K).cell? ⟨b,o+i*6+1,none⟩=some (.slice hA B y):=iL E R ap.out;have Hg:=aa (F.setHigh (.slice hA B y));have Hl:=aa (((dQ.kid (xN.below u) N q ic (by rw [qF (by have:=lT.out;omega),show(k+1)*inn+0=i by have:=lT.out;omega])).off ((k+1)*6+5) K (F.d1 l rfl).1 (F.d1 l rfl).2.2).off ((k+1)*6+1) (.slice hA B y) (F.d1 l rfl).1 (F.d1 l rfl).2.2);have dE:Hid (Below f f ((P.setCell ⟨l,(k+1)*6+5,none⟩ K).setCell ⟨l,(k+1)*6+1,none⟩ (.slice hA B y))):=aa ((iF.out.trans E).setCell (p:=⟨l,(k+1)*6+1,none⟩) V _);clear N q ic u F M;obtain⟨W3,L⟩:=gF (P.setCell ⟨l,(k+1)*6+5,none⟩ K);rw [<-L] at c3 Hg Hl dE z q1 O|-;clear L E;go_wp2
     go_roundg (n-(i+1))
     case measure=>have:=HG.out;omega
     case rel=>exact⟨i+1,rfl,by omega,by go_num,dE,.inr ⟨by omega,(k+1),0+1,_,_,_,_,_,aa ⟨by have:=lT.out;omega,by omega,by omega⟩,by rw [show i+1-1=i by omega,HU.out];exact Hg,Hl⟩⟩
    ·have ZU:((i:Int)%(inn:Int)==0)=false:=by
      rw [mi];have e1:=T.out;rw [e1.1,Int.natCast_add,Int.natCast_mul,Int.add_comm,Int.add_mul_emod_self_right,Int.emod_eq_of_lt (by omega) (by omega)];omega
     have LB:m<inn:=by have:=T.out;omega
     clear hm;go_upto_region 9 with fail
     refine ZS n (k*6) (m-1) (aa (fun _ _ _ _ h=>h)) Ou bp (by omega) (by omega) ad R C2.out VV ca I.k (Y.d1 g rfl).1 ?_;intro cy cA cC cD cE cF cG cH cI cJ cK cL cM cN cO cP cQ cR v2 wa YL Z bE MR bU;have aq:Hid (Below f wr (YL.setCell ⟨g,k*6+3,none⟩ v2)):=aa (((Z.mono ad).grown MR (ma ad Z.size) (fun x d=>(ah I.k x d).1)).setCell (p:=⟨g,k*6+3,none⟩) q v2);have kK:=aa (Y.setKeys Z MR bU);have Yh:=aa ((dQ.key (I.below Z) bE MR bU (by rw [CJ (by have:=T.out.1;omega),show k*inn+(m-1)=i-1 by have:=T.out;omega,ao.out])).off (k*6+3) v2 (kK.d1 g rfl).1 (kK.d1 g rfl).2.2);have kZ:Hid (dQ (YL.setCell ⟨g,k*6+3,none⟩ v2) f (uO us first n (k*inn)) m m v2 (.slice dA m dc) (fE++ [.slice a8 bz bk]) oN):=aa (by have:=Yh.out;rwa [show m-1+1=m by have:=T.out;omega] at this);have aA:=aa (iL aq R C1.out);have ZW:=aa (je.out.trans aq);clear bE MR bU Z Yh aq;obtain⟨W2,a9⟩:=gF (YL.setCell ⟨g,k*6+3,none⟩ v2);rw [<-a9] at kK kZ aA ZW|-;clear a9 O;have ba:f.heap.size<=W2:=ZW.out.size;have au:=q;have lT:Hid (i=k*inn+m):=aa T.1
     skip
     have bh:b≠g:=by have:f<=g:=au;omega
     obtain⟨gx,gy,a,_,_,_,_,z,_,q1,_,_,_,O⟩:=kK.out.form;injection a with a _ U;injection a with a
     injection a with a
     subst a;subst U;have qW:=aa z;have SG:=aa O;clear z q1 O;have D1:=aa (kK.d1 g rfl);go_upto_region 10 with fail
     refine Kk first i (k*6) m _ (by omega) ba (by omega) SG qW kZ.v D1.out.2.2 ?_
     intro bL bN bP bQ bT bX b0 b1 b2 b3 b4 b5 b6 b7 K wa P Z N q ic;subst Z;have u:Below W2 W2 (W2.alloc (.cells #[.int .i64 (first+((i:Nat):Int))] 3)):=gV;have F:=kK.out.setKids u q ic;obtain⟨gx,gy,a,_,_,_,_,z,_,q1,_,_,_,O⟩:=F.form;injection a with a _ U
     injection a with a
     injection a with a
     subst a;subst U;have M:(∀x,(Value.slice dA m dc).ownBlock=some x->f<=x):=fun x d=>(ah kZ.v x d).1;have E:Hid (Below f W2 (P.setCell ⟨g,k*6+5,none⟩ K)):=aa (((u.mono ba).grown q (by simp;omega) M).setCell (p:=⟨g,k*6+5,none⟩) au K);have c3:(P.setCell ⟨g,k*6+5,none⟩ K).cell? ⟨b,o+i*6+1,none⟩=some (.slice hA B y):=iL E R aA.out;have Hg:=aa (F.setHigh (.slice hA B y));have Hl:=aa (((dQ.kid (kZ.below u) N q ic (by rw [qF (by have:=lT.out;omega),show k*inn+m=i by have:=lT.out;omega])).off (k*6+5) K (F.d1 g rfl).1 (F.d1 g rfl).2.2).off (k*6+1) (.slice hA B y) (F.d1 g rfl).1 (F.d1 g rfl).2.2);have dE:Hid (Below f f ((P.setCell ⟨g,k*6+5,none⟩ K).setCell ⟨g,k*6+1,none⟩ (.slice hA B y))):=aa ((ZW.out.trans E).setCell (p:=⟨g,k*6+1,none⟩) au _);clear N q ic u F M;obtain⟨W3,L⟩:=gF (P.setCell ⟨g,k*6+5,none⟩ K);rw [<-L] at c3 Hg Hl dE z q1 O|-;clear L E;go_wp2
     go_roundg (n-(i+1))
     case measure=>have:=HG.out;omega
     case rel=>exact⟨i+1,rfl,by omega,by go_num,dE,.inr ⟨by omega,k,m+1,_,_,_,_,_,aa ⟨by have:=lT.out;omega,by omega,by omega⟩,by rw [show i+1-1=i by omega,HU.out];exact Hg,Hl⟩⟩
  ·have ce:i=n:=by omega
   subst ce
   rcases a0.out with⟨Ou,_⟩|⟨Ou,k,m,jJ,kv,dv,fE,oN,ae,C,X⟩
   ·omega
   ·have e1:=ae;have Y:=aa C;have I:=aa X;obtain⟨g,gc,rfl,_⟩:=C.form;clear ae C X;obtain⟨_,_,a8,bz,bk,sl,hB,_,al,_,_,am,SH⟩:=qG HR.out HT (by have:=S.out;omega) (show i-1<i by omega);injection hB with hB
    injection hB with ab ac
    subst ab;subst ac;have ao:=aa am;have PH:=aa al;have ZV:=aa (SH.below jm);clear am al SH;go_wp2;go_ret;have cw:=iU i inn (by omega) (by omega)
    have hM:pn i inn=k+1:=by
     have e:=e1.out;have a1:k*inn<pn i inn*inn:=by omega
     have a2:pn i inn*inn<(k+2)*inn:=by rw [Nat.add_mul];omega
     have a3:=Nat.lt_of_mul_lt_mul_right a1;have a4:=Nat.lt_of_mul_lt_mul_right a2;omega
    have J:∀x,(kv.ownBlock=some x\/dv.ownBlock=some x)->(Value.slice (some ⟨g,0,none⟩) (k+1) gc).ownBlock≠some x:=fun x d e=>d.elim (Y.d1 x e).1 (Y.d1 x e).2.2
    have cb:=Y.out.level (by
     rw [ao.out];refine Hf (m:=m) I (HR.below jm) (HT.below jm) S.out (by have:=e1.out.1;omega) e1.out.2.2 (fun x d=>⟨.inr (ah I.k x d).1,J x (.inl d)⟩) (fun x d=>⟨.inr (ah I.v x d).1,J x (.inr d)⟩) (fun x d=>⟨.inl d,fun e=>by have:g=x:=(by simpa [Value.ownBlock] using e);have:=d.2;have:=(ah Y.own g rfl).1;omega⟩) (by have:=e1.out;have:=S.out;rw [List.take_of_length_le (by rw [List.length_drop];omega),List.take_of_length_le (by rw [List.length_drop];omega)]) ?_;rw [show k*inn+m-1=i-1 by have:=e1.out.1;omega,List.getD_eq_getElem?_getD,PH.out];exact ZV.weak (fun x d=>⟨.inl d,fun e=>by have:g=x:=(by simpa [Value.ownBlock] using e);have:=d.2;have:=(ah Y.own g rfl).1;omega⟩))
    obtain⟨ZX,l1,l2,l3⟩:=cb
    refine⟨_,rfl,⟨ZX,?_,fun x d=> .inr (by have:=(ah l1 x d).1;omega),fun j s hs=> ?_⟩,jm⟩
    ·rw [hM];exact kX l1 (by omega)
    ·rw [hM] at hs;exact(l3 j s hs).weak (fun x d=>d.imp id (fun h=>by omega))
section
theorem OA:(prog.info? 229).map (fun i=>(i.zero,i.size,i.bytes))=some (some (.agg #[.int .u64 0,.int .i64 0,(),.int .i64 0,(),(),()]),7,120):=by kernel_rfl
structure IQ (w:World) (base p:Nat) (nodes:Int) (sl:List aX) (out:Value) (us:List Value):Prop where
 blk:ak w p 223 #[nodes,out,.int .i64 1]
 own:w.ownsRow base 229 7 out sl.length us
 slot:∀(i:Nat) (s:aX),sl[i]? =some s->kH w (fun b=>base<=b/\b≠p/\out.ownBlock≠some b) ((us.drop (i*7)).take 7) s
theorem kH.next {S D D':Nat->Prop} {w w':World} {vs:List Value} {s:aX} (h:kH w D vs s) (hc:ag S w w') (d:∀b,b<w.heap.size->D b->¬S b) (c:∀b,b<w.heap.size->D b->D' b):kH w' D' vs s:=
 (h.lt.chg hc (fun b a=>d b a.2 a.1)).weak (fun b a=>c b a.2 a.1)
section
variable {w w' wa w2:World} {base p:Nat} {nodes:Int} {sl:List aX} {out:Value} {us:List Value}
theorem IQ.off (h:IQ w base p nodes sl out us):out.ownBlock≠some p:=fT h.own h.blk (by decide)
theorem IQ.below (h:IQ w base p nodes sl out us) (o:Below w w w'):IQ w' base p nodes sl out us:=
 ⟨h.blk.below o,own_below h.own o,fun i s a=>(h.slot i s a).next (ag.of_below (S:=Nil) o) (fun _ _ _ h=>h) (fun _ _ h=>h)⟩
theorem IQ.push {v2:Value} {s:aX} {H:List Value} (h:IQ w base p nodes sl out us) (j:Below w w wa) (t:w2.ownsRow base 229 7 v2 (sl.length+1) (us++H)) (r:wa.grownBy w2 out.ownBlock) (f:v2.ownBlock=out.ownBlock\/v2.ownBlock=some wa)
  (hl:H.length=7) (u:kH wa (fun b=>base<=b/\b≠p/\out.ownBlock≠some b) H s):IQ (w2.setCell ⟨p,1,none⟩ v2) base p nodes (sl++ [s]) v2 (us++H):=by
 have hc:ag (fun b=>out.ownBlock=some b) wa w2:=ag.of_grown r;have v:=h.blk.lt;have x:=j.size;have n:v2.ownBlock≠some p:=fun e=>f.elim (fun a=>h.off (a▸e)) (fun a=>by rw [a] at e;injection e with e;omega);have up:∀b,b<wa.heap.size->(base<=b/\b≠p/\out.ownBlock≠some b)->(base<=b/\b≠p/\v2.ownBlock≠some b):=fun b q d=>⟨d.1,d.2.1,fun e=>f.elim (fun a=>d.2.2 (a▸e)) (fun a=>by rw [a] at e;injection e with e;omega)⟩;have m:us.length=sl.length*7:=h.own.1
 refine⟨?_,?_,fun i o hi=> ?_⟩
 ·have:=((h.blk.below j).chg hc h.off).set_ 1 v2
  exact this
 ·have:=aB t (ag.set1 w2 p 1 v2) (fun g k e=>n (by rw [k,show g=p from e]))
  simpa using this
 ·have key:kH wa (fun b=>base<=b/\b≠p/\out.ownBlock≠some b) (((us++H).drop (i*7)).take 7) o:=by
   rcases Nat.lt_or_ge i sl.length with c|c
   ·rw [qK c] at hi;rw [List.drop_append_of_le_length (by omega),List.take_append_of_le_length (by rw [List.length_drop];omega)]
    exact(h.slot i o hi).next (ag.of_below (S:=Nil) j) (fun _ _ _ h=>h) (fun _ _ h=>h)
   ·rw [q9 c] at hi;have l:i=sl.length:=by have:=(nE.1 hi).1;simp at this;omega
    subst l;simp at hi;subst hi;rw [List.drop_append,List.drop_of_length_le (by omega),m,Nat.sub_self,List.nil_append,List.drop_zero,List.take_of_length_le (by omega)];exact u
  exact(key.next hc (fun b _ d e=>d.2.2 e) (D':=fun b=>(base<=b/\b≠p/\v2.ownBlock≠some b)) up).next (ag.set1 w2 p 1 v2) (fun b _ d e=>d.2.1 e) (fun _ _ h=>h)
theorem IQ.done (h:IQ w base p nodes sl out us) (f:base<=p) (top:Int):pG (w.setCell ⟨p,2,none⟩ top) (From base) p nodes sl top:=by
 obtain⟨A,c,rfl,k,l⟩:=ax h.own;have hc:ag (jX p) w (w.setCell ⟨p,2,none⟩ top):=ag.set1 w p 2 _
 refine⟨A,sl.length,c,f,h.blk.set_ 2 _,rfl,us,?_,fun i s j=> ?_⟩
 ·exact fB (aB h.own hc (fun g a e=>h.off (by rw [a,show g=p from e]))) (fun g a=>(ah h.own g a).1)
 ·exact(h.slot i s j).next hc (fun b _ d e=>d.2.1 e) (fun b _ d=>d.1)
end
noncomputable def OV:Code:=aQ (f69.body.bind (aF 22))
theorem SV {base p x:Nat} {nodes:Int} (sl:List aX) {out:Value} {us:List Value} (nd:Nd) {hA kA vA dA:Option Addr} {hn hc kn kc vn vc dn dc:Nat} {w:World} {u0 u1 u2 B J s u u7 k L E O W U G f C I M P V d u24 z D m r u29 j g u32 u33 n i u36 u37 u38 N u40 R u42 X u44 u45 u46 v u48 u49 H u51 A u53 F u55 dY q u58 u59 u60 fw fJ u63 u64 gm u66 l u68 u69 u70 T u72 u73 iN u75 iV jY jZ Z kg kG kP kQ kR ko kU ng mI mJ pF pu rX:Value} {Y:List Value} {Q:Exit->Act->World->Prop} (kF:Hid (∀c t (a:Act) w,Q (.panic c) ⟨t,a.defers⟩ w->Q (.panic c) a w))
  (ES:Hid (IQ w base p nodes sl out us)) (a4:sl.length<=65536) (hbase:base<=w)
  (hx:ak w x 132 #[(nd.lev:Int),.slice hA hn hc,(nd.right:Int),.slice kA kn kc,.slice vA vn vc,.slice dA dn dc])
  (h1:Bt w (fun b=>base<=b/\b≠p/\out.ownBlock≠some b) hA hn hc nd.high) (h2:Tx w (fun b=>base<=b/\b≠p/\out.ownBlock≠some b) kA kn kc nd.keys) (h3:Tx w (fun b=>base<=b/\b≠p/\out.ownBlock≠some b) vA vn vc nd.vals) (h4:It w (fun b=>base<=b/\b≠p/\out.ownBlock≠some b) dA dn dc nd.kids)
  (au:∀(ap aq ar aw aA aE sU a0 sV a1 xF:Value) (ad:Value) (jJ:List Value) (w':World),IQ w' base p nodes (sl++ [(2,nd)]) ad jJ->ag (fun b=>b=p\/out.ownBlock=some b) w w'->(ad.ownBlock=out.ownBlock\/∃y,w.heap.size<=y/\ad.ownBlock=some y)->Q .normal ⟨(u0::u1::u2::B::J::s::u::u7::k:: .pointer (some ⟨p,0,none⟩)::L::E::O::W:: .pointer (some ⟨x,0,none⟩)::U::G::f::C::I::M::P::V::d::u24::z::D::m::r::u29::j::g::u32::u33::n::i::u36::u37::u38::N::u40::R::u42::X::u44::u45::u46::v::u48::u49::H::u51::A::u53::F::u55::dY::q::u58::u59::u60::fw::fJ::u63::u64::gm::u66::l::u68::u69::u70::T::u72::u73::iN::u75::iV::jY::jZ::Z::kg::kG::ap::aq::ar::aw::aA::aE::sU::a0::sV::a1::xF::Y).toArray,[]⟩ w'):
  Code.wp prog OV Q ⟨(u0::u1::u2::B::J::s::u::u7::k:: .pointer (some ⟨p,0,none⟩)::L::E::O::W:: .pointer (some ⟨x,0,none⟩)::U::G::f::C::I::M::P::V::d::u24::z::D::m::r::u29::j::g::u32::u33::n::i::u36::u37::u38::N::u40::R::u42::X::u44::u45::u46::v::u48::u49::H::u51::A::u53::F::u55::dY::q::u58::u59::u60::fw::fJ::u63::u64::gm::u66::l::u68::u69::u70::T::u72::u73::iN::u75::iV::jY::jZ::Z::kg::kG::kP::kQ::kR::ko::kU::ng::mI::mJ::pF::pu::rX::Y).toArray,[]⟩ w:=by
 obtain⟨i0,am,iC,iD,iE⟩:=info_parts OA;have dz:=aa au;have ao:out.ownBlock≠some x:=fT ES.own hx (by decide);have a5:x≠p:=hx.ne_ ES.blk (by decide);have S0:w.drew.cell? ⟨p,1,none⟩=some out/\P6 x nd.lev hA hn hc nd.right kA kn kc vA vn vc dA dn dc w.drew:=⟨(ES.blk.cell 1).trans rfl,by rw [hx.drew.cell];rfl,by rw [hx.drew.cell];rfl,by rw [hx.drew.cell];rfl,by rw [hx.drew.cell];rfl,by rw [hx.drew.cell];rfl,by rw [hx.drew.cell];rfl⟩;have H1:=aa h1;have H2:=aa h2;have H3:=aa h3;have H4:=aa h4;have a3:=ES.out.blk.lt;clear hx h1 h2 h3 h4 au;conv=>arg 2;whnf
 refine aM (fun w'=>w'.cell? ⟨p,1,none⟩=some out/\P6 x nd.lev hA hn hc nd.right kA kn kc vA vn vc dA dn dc w') 11 (by kernel_rfl) ?_;refine uF 0 (fun _=>S0) ?_;refine uF 1 (fun _=>S0) ?_;refine uF 2 (fun _=>S0) ?_;refine uF 3 (fun _=>S0) ?_;refine uT 4 S0 ?_;refine uT 5 S0 ?_;refine uF 6 (fun _=>S0) ?_;refine mR 7 fun K hK=> ?_;go_simp;have al:Below w.drew.heap.size w.drew (w.drew.alloc (.cells #[.int .u64 2,(nd.lev:Int),.slice hA hn hc,(nd.right:Int),.slice kA kn kc,.slice vA vn vc,.slice dA dn dc] 229)):=gV;have S2:(w.drew.alloc (.cells #[.int .u64 2,(nd.lev:Int),.slice hA hn hc,(nd.right:Int),.slice kA kn kc,.slice vA vn vc,.slice dA dn dc] 229)).cell? ⟨p,1,none⟩=some out/\P6 x nd.lev hA hn hc nd.right kA kn kc vA vn vc dA dn dc (w.drew.alloc (.cells #[.int .u64 2,(nd.lev:Int),.slice hA hn hc,(nd.right:Int),.slice kA kn kc,.slice vA vn vc,.slice dA dn dc] 229)):=⟨aj al S0.1,S0.2.chg (S:=Nil) (ag.of_below al) (fun h=>h)⟩;refine hK.out _ _ (fun _=>S2) ?_;clear hK K;try simp only [aL,aN,aZ,aC]
 refine mR 8 fun K hK=> ?_;refine aG _ rfl (.tmp 86) (.tmp 89) _ rfl base 229 i0 _ 7 120 underlying221 am iC iD iE rfl (by omega) out sl.length us rfl (own_below ES.own (mh.drew.alloc jO _)) (From w) (some ⟨w,0,none⟩) 1 1 [.int .u64 2,(nd.lev:Int),.slice hA hn hc,(nd.right:Int),.slice kA kn kc,.slice vA vn vc,.slice dA dn dc] rfl (Rd.lit w.drew #[.int .u64 2,(nd.lev:Int),.slice hA hn hc,(nd.right:Int),.slice kA kn kc,.slice vA vn vc,.slice dA dn dc] _ 7 rfl) (by simp [Value.oneCell']) (by simp only [maxLen];omega) (by omega) (by simp;omega) ?_;intro v2 w2 ab ac bU;obtain⟨K2,Ap,an,_,_⟩:=ax ab;subst an;have iG:=aa ab;have rC:=aa ac;have ae:=aa bU;have xO:w2.cell? ⟨p,1,none⟩=some out:=(ag.of_grown ac).cell ES.off S2.1;have a2:∀o,w2.frozen? ⟨p,o,none⟩=false:=(((ES.blk.below (mh.drew.alloc jO _))).chg (ag.of_grown ac) ES.off).frozen;have S3:w2.cell? ⟨p,1,none⟩=some out/\P6 x nd.lev hA hn hc nd.right kA kn kc vA vn vc dA dn dc w2:=⟨xO,S2.2.chg (ag.of_grown ac) ao⟩;clear ab ac bU;refine rR hK (fun _=>S3) ?_;clear hK K;refine uF 9 (fun _=>S3) ?_;refine uF 10 (fun _=>S3) ?_;refine mR 11 fun K hK=> ?_;go_simp;refine hK.out _ _ (fun h=>absurd h (by decide)) ?_;clear hK K;try simp only [aL,aN,aZ,aC]
 refine bH (by kernel_rfl) ?_ _;have rZ:Below w w (w.drew.alloc (.cells #[.int .u64 2,(nd.lev:Int),.slice hA hn hc,(nd.right:Int),.slice kA kn kc,.slice vA vn vc,.slice dA dn dc] 229)):=mh.drew.alloc jO _
 refine dz _ _ _ _ _ _ _ _ _ _ _ _ _ _ (ES.push rZ iG rC ae rfl ⟨hA,hn,hc,kA,kn,kc,vA,vn,vc,dA,dn,dc,rfl,H1.below rZ,H2.below rZ,H3.below rZ,H4.below rZ⟩) ?_ ?_
 ·exact(((ag.of_below (S:=fun b=>b=p\/out.ownBlock=some b) rZ).trans (ag.of_grown rC) (fun b _ h=> .inr h))).setCell (p:=⟨p,1,none⟩) (fun _=> .inl rfl) _
 ·exact ae.out.imp id (fun e=>⟨_,by simp,e⟩)
end
def il (lv:List Nd) (first:Int) (i:Nat):aX:=(2,⟨(lv.getD i Nd.zero).lev,(lv.getD i Nd.zero).high,if i+1<lv.length then first+(i:Int)+1 else(lv.getD i Nd.zero).right,(lv.getD i Nd.zero).keys,(lv.getD i Nd.zero).vals,(lv.getD i Nd.zero).kids⟩)
theorem SS {low:List Nd} (l:Rd w D 6 (some ⟨b,o,none⟩) n us) (Q:He w D us low) (x:n<=low.length) (hi:i<n):
  ∃hA hn hc kA kn kc vA vn vc dA dn dc,w.cell? ⟨b,o+i*6,none⟩=some (.int .i64 (low.getD i Nd.zero).lev)/\w.cell? ⟨b,o+i*6+1,none⟩=some (.slice hA hn hc)/\w.cell? ⟨b,o+i*6+2,none⟩=some (.int .i64 (low.getD i Nd.zero).right)/\w.cell? ⟨b,o+i*6+3,none⟩=some (.slice kA kn kc)/\w.cell? ⟨b,o+i*6+4,none⟩=some (.slice vA vn vc)/\w.cell? ⟨b,o+i*6+5,none⟩=some (.slice dA dn dc)/\
   Bt w D hA hn hc (low.getD i Nd.zero).high/\Tx w D kA kn kc (low.getD i Nd.zero).keys/\Tx w D vA vn vc (low.getD i Nd.zero).vals/\It w D dA dn dc (low.getD i Nd.zero).kids:=by
 have hl:i<low.length:=by omega
 obtain⟨t,y,a,v,c⟩:=l.2 (by omega);injection a with a;injection a with f g
 subst f;subst g;obtain⟨hA,hn,hc,kA,kn,kc,vA,vn,vc,dA,dn,dc,e,p,q,r,s⟩:=Q i low[i] (mP hl);have h:low.getD i Nd.zero=low[i]:=by rw [List.getD_eq_getElem?_getD,mP hl];rfl
 rw [h];have d:∀(j:Nat) (u:Value),j<6->(nb us i)[j]? =some u->w.cell? ⟨b,o+i*6+j,none⟩=some u:=fun j u k m=>by rw [Nat.add_assoc];exact c _ u (Mw k m)
 rw [e] at d;exact⟨hA,hn,hc,kA,kn,kc,vA,vn,vc,dA,dn,dc,d 0 _ (by omega) rfl,d 1 _ (by omega) rfl,d 2 _ (by omega) rfl,d 3 _ (by omega) rfl,d 4 _ (by omega) rfl,d 5 _ (by omega) rfl,p,q,r,s⟩
theorem Ha {α:Type} {l:List α} {d:α} (h:i<l.length):l.getD i d∈l:=by rw [List.getD_eq_getElem?_getD,mP h];exact List.getElem_mem h
noncomputable def OO:Code:=aQ (f69.body.bind (fQ 2))
theorem OU {nodes:Int} (first:Int) {sl:List aX} {out:Value} {lv:List Nd} {u0 u1 u2 u3 u4 u5 u6 u7 u8 L Z U u16 f C I u20 u21 u22 u23 u24 u25 u26 u27 u28 u29 u30 u31 u32 u33 u34 u35 u36 u37 u38 N u40 R u42 X u44 u45 u46 v u48 u49 H u51 A u53 F u55 S q u58 u59 u60 fw fJ u63 u64 gm u66 l u68 u69 u70 iM u72 u73 iN u75 iV jY W j6 O E kP kQ kR ko kU ng mI x pF pu rX u93 vw vz vC vE u g jg jh k jU T:Value} {Q:Exit->Act->World->Prop} (kF:Hid (∀c t (a:Act) w,Q (.panic c) ⟨t,a.defers⟩ w->Q (.panic c) a w))
  (ES:Hid (IQ w base p nodes sl out us)) (b9:sl.length+n<=65536) (hbase:base<=w) (HR:Hid (Rd w DL 6 (some ⟨b,o,none⟩) n jJ)) (HT:Hid (He w DL jJ lv)) (HL:Hid (lv.length=n)) (HD:Hid (∀y,DL y->y≠p/\out.ownBlock≠some y/\y<w)) (hf:0<=first/\first<=1152921504606) (HS:Hid (∀nd∈lv,Small nd))
  (au:∀(a8 a9 ba be bh bj bk bm bo bp bx bz bE bL bP bQ b0 b1 b2 b3 b4 b5 b6 al am an ao ap aq sU ar sV aw xF:Value) (d:Value) (Ho:List Value) (w':World),IQ w' base p nodes (sl++(List.range n).map (il lv first)) d Ho->ag (fun b=>b=p\/out.ownBlock=some b) w w'->(d.ownBlock=out.ownBlock\/∃y,w.heap.size<=y/\d.ownBlock=some y)->Q (.exit 2) ⟨(u0::u1::u2::u3::u4::u5::u6::u7::u8:: .pointer (some ⟨p,0,none⟩)::L:: .slice (some ⟨b,o,none⟩) n c:: .int .i64 first:: .int .i64 n::a8::U::u16::f::C::I::u20::u21::u22::u23::u24::u25::u26::u27::u28::u29::u30::u31::u32::u33::u34::u35::u36::u37::u38::N::u40::R::u42::X::u44::u45::u46::v::u48::u49::H::u51::A::u53::F::u55::S::q::u58::u59::a9::ba::be::bh::bj::bk::bm::bo::bp::bx::bz::bE::bL::bP::bQ::b0::b1::b2::b3::b4::b5::b6::al::am::an::ao::ap::aq::sU::ar::sV::aw::xF::u93::vw::vz::vC::vE::u::g::jg::jh::k::jU::T:: []).toArray,[]⟩ w'):
  Code.wp prog OO Q ⟨(u0::u1::u2::u3::u4::u5::u6::u7::u8:: .pointer (some ⟨p,0,none⟩)::L:: .slice (some ⟨b,o,none⟩) n c:: .int .i64 first:: .int .i64 0::Z::U::u16::f::C::I::u20::u21::u22::u23::u24::u25::u26::u27::u28::u29::u30::u31::u32::u33::u34::u35::u36::u37::u38::N::u40::R::u42::X::u44::u45::u46::v::u48::u49::H::u51::A::u53::F::u55::S::q::u58::u59::u60::fw::fJ::u63::u64::gm::u66::l::u68::u69::u70::iM::u72::u73::iN::u75::iV::jY::W::j6::O::E::kP::kQ::kR::ko::kU::ng::mI::x::pF::pu::rX::u93::vw::vz::vC::vE::u::g::jg::jh::k::jU::T:: []).toArray,[]⟩ w:=by
 have dz:=aa au;clear au;conv=>arg 2;whnf
 go_loopg [13] n (fun g' iv wr=>∃(i:Nat) (d:Value) (Ho:List Value),g'=n-i/\i<=n/\iv= (i:Int)/\IQ wr base p nodes (sl++(List.range i).map (il lv first)) d Ho/\ag (fun b=>b=p\/out.ownBlock=some b) w wr/\(d.ownBlock=out.ownBlock\/∃y,w.heap.size<=y/\d.ownBlock=some y))
 case atStart=>exact⟨0,out,us,by omega,by omega,rfl,by simpa using ES.out,ag.refl _ _,.inl rfl⟩
 case round=>
  obtain⟨i,d,Ho,hg,b8,rfl,aA,a1,aE⟩:=hrel;have HG:=aa hg;have Kt:=aa aA;have Y:=aa a1;have G:=aa aE
  rename World=>wr
  clear hg aA a1 aE;have a7:w.heap.size<=wr:=Y.out.size;have a0:base<=wr:=ma hbase a7;have qL:∀y,DL y->¬(y=p\/out.ownBlock=some y):=fun y j h=>h.elim (HD y j).1 (HD y j).2.1;have a3:=aa (HR.chg Y qL);have a4:=aa (HT.next Y (fun y _ j=>qL y j) (fun _ _ h=>h))
  by_cases a5:i<n
  ·obtain⟨hA,hn,hc,kA,kn,kc,vA,vn,vc,dA,dn,dc,z0,z1,z2,z3,z4,z5,p1,p2,p3,p4⟩:=SS a3.out a4 (by have:=HL.out;omega) a5;have b7:(i:Int)<(n:Int):=by omega
   have w1:=IntWalk.i64_in ((n:Int)-1) (by omega);have w2:=IntWalk.i64_in (first+(i:Int)) (by omega);have w3:=IntWalk.i64_in (first+(i:Int)+1) (by omega);have w4:=IntWalk.i64_in ((i:Int)+1) (by omega);have a2:Small (lv.getD i Nd.zero):=HS.out _ (Ha (by have:=HL.out;omega));have Z5:=aa p1;have Z6:=aa p2;have Z7:=aa p3;have Z8:=aa p4;have oP:=aa a2;clear p1 p2 p3 p4 a2 qL;obtain⟨nd,ae⟩:=gF (lv.getD i Nd.zero);rw [<-ae] at Z5 Z6 Z7 Z8 oP z0 z2;have Yi:=aa ae;clear ae
   by_cases K:i+1<n
   ·have a6:(i:Int)<(n:Int)-1:=by omega
    go_upto_region 22 with(first|(go_at_call 116;refine(lZ Z5 Z6 Z7 Z8 oP).mono ?_;rintro e M ⟨r,B,s,D,VY,Ap,VZ,V5,V6,V7,V9,Wd,rfl,p1,p2,p3,p4,J⟩;have NT:=aa p1;have rJ:=aa p2;have VV:=aa p3;have ab:=aa p4;have eF:=aa J;clear p1 p2 p3 p4 J))
    skip
    have V:Hid (Below wr wr (M.alloc (.cells #[(nd.lev:Int),.slice r B s,.int .i64 (first+(i:Int)+1),.slice D VY Ap,.slice VZ V5 V6,.slice V7 V9 Wd] 132))):=aa (eF.alloc eF.size _);have P:Below M M (M.alloc (.cells #[(nd.lev:Int),.slice r B s,.int .i64 (first+(i:Int)+1),.slice D VY Ap,.slice VZ V5 V6,.slice V7 V9 Wd] 132)):=gV;have iW:=aa (ak.new M 132 #[(nd.lev:Int),.slice r B s,.int .i64 (first+(i:Int)+1),.slice D VY Ap,.slice VZ V5 V6,.slice V7 V9 Wd]);have Vu:=aa (NT.lt.below P);have PR:=aa (rJ.lt.below P);have DJ:=aa (VV.lt.below P);have vF:=aa (ab.lt.below P);clear P;have m:∀y,wr.heap.size<=y->(base<=y/\y≠p/\d.ownBlock≠some y):=fun y j=>⟨by omega,by have:=Kt.out.blk.lt;omega,fun e=>by have:=(ah Kt.own y e).2;omega⟩;refine SV (sl++(List.range i).map (il lv first)) ⟨nd.lev,nd.high,(first+(i:Int)+1),nd.keys,nd.vals,nd.kids⟩ (by exact aa (fun c t a w h=>kF c t a w h)) (aa (Kt.below V)) (by simp;omega) (Nat.le_trans a0 V.size) iW (Vu.weak (fun y j=>m y j.1)) (PR.weak (fun y j=>m y j.1)) (DJ.weak (fun y j=>m y j.1)) (vF.weak (fun y j=>m y j.1)) ?_;intro al am an ao ap aq sU ar sV aw xF xH ZX w' SY o6 bU;have Z9:=aa SY;have ac:Hid (ag (fun b=>b=p\/out.ownBlock=some b) w w'):=aa ((Y.then V).trans o6 (fun y j h=>h.elim .inl (fun h=>G.out.elim (fun e=> .inr (e▸h)) (fun⟨z,hz,e⟩=>by rw [e] at h;injection h with h;omega))));have ad:Hid (xH.ownBlock=out.ownBlock\/∃y,w.heap.size<=y/\xH.ownBlock=some y):=aa (bU.elim (fun e=>G.out.imp (fun e'=>e.trans e') (fun⟨z,hz,e'⟩=>⟨z,hz,e.trans e'⟩)) (fun⟨y,j,e⟩=> .inr ⟨y,by have:=Y.out.size;have:=V.out.size;omega,e⟩));clear SY o6 bU;go_wp2
    go_roundg (n-(i+1))
    case measure=>have:=HG.out;omega
    case rel=>exact⟨i+1,xH,ZX,rfl,by omega,by go_num,by have h:=Z9.out;rw [List.range_succ,List.map_append,<-List.append_assoc];rw [List.map_cons,List.map_nil,show il lv first i=(2,⟨nd.lev,nd.high,(first+(i:Int)+1),nd.keys,nd.vals,nd.kids⟩) by unfold il;rw [<-Yi.out,HL.out,if_pos K]];exact h,ac,ad⟩
   ·have a6:¬(i:Int)<(n:Int)-1:=by omega
    go_upto_region 22 with(first|(go_at_call 116;refine(lZ Z5 Z6 Z7 Z8 oP).mono ?_;rintro e M ⟨r,B,s,D,VY,Ap,VZ,V5,V6,V7,V9,Wd,rfl,p1,p2,p3,p4,J⟩;have NT:=aa p1;have rJ:=aa p2;have VV:=aa p3;have ab:=aa p4;have eF:=aa J;clear p1 p2 p3 p4 J))
    skip
    have V:Hid (Below wr wr (M.alloc (.cells #[(nd.lev:Int),.slice r B s,(nd.right:Int),.slice D VY Ap,.slice VZ V5 V6,.slice V7 V9 Wd] 132))):=aa (eF.alloc eF.size _);have P:Below M M (M.alloc (.cells #[(nd.lev:Int),.slice r B s,(nd.right:Int),.slice D VY Ap,.slice VZ V5 V6,.slice V7 V9 Wd] 132)):=gV;have iW:=aa (ak.new M 132 #[(nd.lev:Int),.slice r B s,(nd.right:Int),.slice D VY Ap,.slice VZ V5 V6,.slice V7 V9 Wd]);have Vu:=aa (NT.lt.below P);have PR:=aa (rJ.lt.below P);have DJ:=aa (VV.lt.below P);have vF:=aa (ab.lt.below P);clear P;have m:∀y,wr.heap.size<=y->(base<=y/\y≠p/\d.ownBlock≠some y):=fun y j=>⟨by omega,by have:=Kt.out.blk.lt;omega,fun e=>by have:=(ah Kt.own y e).2;omega⟩;refine SV (sl++(List.range i).map (il lv first)) ⟨nd.lev,nd.high,nd.right,nd.keys,nd.vals,nd.kids⟩ (by exact aa (fun c t a w h=>kF c t a w h)) (aa (Kt.below V)) (by simp;omega) (Nat.le_trans a0 V.size) iW (Vu.weak (fun y j=>m y j.1)) (PR.weak (fun y j=>m y j.1)) (DJ.weak (fun y j=>m y j.1)) (vF.weak (fun y j=>m y j.1)) ?_;intro al am an ao ap aq sU ar sV aw xF xH ZX w' SY o6 bU;have Z9:=aa SY;have ac:Hid (ag (fun b=>b=p\/out.ownBlock=some b) w w'):=aa ((Y.then V).trans o6 (fun y j h=>h.elim .inl (fun h=>G.out.elim (fun e=> .inr (e▸h)) (fun⟨z,hz,e⟩=>by rw [e] at h;injection h with h;omega))));have ad:Hid (xH.ownBlock=out.ownBlock\/∃y,w.heap.size<=y/\xH.ownBlock=some y):=aa (bU.elim (fun e=>G.out.imp (fun e'=>e.trans e') (fun⟨z,hz,e'⟩=>⟨z,hz,e.trans e'⟩)) (fun⟨y,j,e⟩=> .inr ⟨y,by have:=Y.out.size;have:=V.out.size;omega,e⟩));clear SY o6 bU;go_wp2
    go_roundg (n-(i+1))
    case measure=>have:=HG.out;omega
    case rel=>exact⟨i+1,xH,ZX,rfl,by omega,by go_num,by have h:=Z9.out;rw [List.range_succ,List.map_append,<-List.append_assoc];rw [List.map_cons,List.map_nil,show il lv first i=(2,⟨nd.lev,nd.high,nd.right,nd.keys,nd.vals,nd.kids⟩) by unfold il;rw [<-Yi.out,HL.out,if_neg K]];exact h,ac,ad⟩
  ·obtain rfl:i=n:=by omega
   go_wp2;exact dz _ _ _ _ _ _ _ _ _ _ _ _ _ _ _ _ _ _ _ _ _ _ _ _ _ _ _ _ _ _ _ _ _ _ _ _ _ Kt Y G
end Go.Proofs.YtepgcjbhabnciaaGreat
