/- Part 34. -/
import Derived.Test.YtepgcjbhabnciaaGreatLe32
namespace Go.Proofs.YtepgcjbhabnciaaGreat
set_option maxRecDepth 100000
set_option maxHeartbeats 8000000
open Go.Proofs.Tryz Go.RowKit
open Go.Lib (compareBytes)
variable {w w':World} {q z:Nat} {F:Nat->Prop} {s:Src}
def bg.rest (r:bg) (d:ay) (bs fb:List UInt8) (P at_:Nat):bg:=
 if comm bs fb<fb.length then r.fail d 84 (P+comm bs fb) else if(d.bytes 12).2.1≠0 then r.fail (d.bytes 12).2.2 (d.bytes 12).2.1 d.at_ else if(d.bytes 12).1≠dw at_ then r.fail (d.bytes 12).2.2 85 d.at_
 else if(d.bytes 12).2.2.end_.2.1≠0 then r.fail (d.bytes 12).2.2.end_.2.2 (d.bytes 12).2.2.end_.2.1 (d.bytes 12).2.2.at_ else if(d.bytes 12).2.2.end_.1=false then r.fail (d.bytes 12).2.2.end_.2.2 86 (d.bytes 12).2.2.at_
 else{r with cur:=(d.bytes 12).2.2.end_.2.2,st:=2}
theorem Gt (r:bg) (c:ay) (at_:Nat):r.footR c at_=if c.number.2.1≠0 then r.fail c.number.2.2 c.number.2.1 c.at_ else if c.number.1≠(aG r.rows).length then r.fail c.number.2.2 84 c.at_
  else if(c.number.2.2.body (aG r.rows).length).err≠0 then r.fail (c.number.2.2.body (aG r.rows).length).cur (c.number.2.2.body (aG r.rows).length).err (c.number.2.2.body (aG r.rows).length).place
  else r.rest (c.number.2.2.body (aG r.rows).length).cur (c.number.2.2.body (aG r.rows).length).body (aG r.rows) c.number.2.2.at_ at_:=rfl
theorem dO.nil (h:dO w F q s) (a:ag Nil w w'):dO w' F q s:=h.chg a (fun h=>h) (fun _ _ h=>h)
theorem dO.own (h:dO w F q s) (f:ag (fun b=>b=z) w w') (a:z≠q) (c:¬F z):dO w' F q s:=h.chg f (fun e=>a e.symm) (fun b d e=>c ((show b=z from e)▸d))
def Gu (F:Nat->Prop) (z q p:Nat) (h Y B M:Value) (x:bg) (w:World) (a:Ending) (w':World):Prop:=
 dO w' F p x.cur.src/\a= .returned (.tuple #[.slice none 0 0,.bool false])/\aj w' z 103 #[h,Y,.bool true,.int .i64 x.err,.int .i64 (x.bad:Nat),B,M]/\ag (fun b=>b=z\/Cs q p w.heap.size b) w w'
theorem KJ (F G H:Nat->Prop) (z q p K at_ P:Nat) (Y v2 B M:Value) (c fA:Option Addr) (ln t fc:Nat) (bs fb:List UInt8) (r:bg) (d:ay) (w:World) (s:Sit F q p w.heap.size) (zs:Zs z q p w.heap.size) (v:¬F z)
  (A:aj w z 103 #[.pointer (some ⟨q,0,none⟩),Y,v2,.int .i64 r.err,.int .i64 (r.bad:Nat),B,M]) (hd:Rd w G 1 c ln (aF bs)) (C:Rd w H 1 fA ln (aF fb)) (Z:ln=bs.length) (D:ln=fb.length) (ba:ln<=872415300) (hP:P<=1152921504606)
  (h:eY w F q p d) (ho:d.Ok K) (hK:K<=1152921504606846976) (aA:at_<9223372036854775808):
  Calls prog 66 #[.pointer (some ⟨z,0,none⟩),.slice c ln t,.slice fA ln fc,.int .i64 P,.int .i64 at_] w (Gu F z q p (.pointer (some ⟨q,0,none⟩)) Y B M (r.rest d bs fb P at_) w):=by
 refine letter fun R L=> ?_;have HS:=aa s;have HZ:=aa zs;have HB:=aa A;have HI:=aa h;have HO:=aa ho;have aw:=aa hd;have yT:=aa C;have KL:=aa Z;have iH:=aa D;obtain⟨T,hT⟩:∃T,T=d.bytes 12:=⟨_,rfl⟩;obtain⟨E,hE⟩:∃E,E=T.2.2.end_:=⟨_,rfl⟩
 have u:Hid (r.rest d bs fb P at_=if comm bs fb<ln then r.fail d 84 (P+comm bs fb) else if T.2.1≠0 then r.fail T.2.2 T.2.1 d.at_ else if T.1≠dw at_ then r.fail T.2.2 85 d.at_
  else if E.2.1≠0 then r.fail E.2.2 E.2.1 T.2.2.at_ else if E.1=false then r.fail E.2.2 86 T.2.2.at_ else{r with cur:=E.2.2,st:=2}):=aa (by subst hE;subst hT;subst D;rfl)
 have Oz:=aa hT;have JR:=aa hE
 have f:Hid (∀(cu:ay) (e:Int) (a:Nat) (wk:World) (en:Ending) (w':World),dO wk F p cu.src->r.rest d bs fb P at_=r.fail cu e a->ag (Cs q p w.heap.size) w wk->AB z (.pointer (some ⟨q,0,none⟩)) Y B M e a wk en w'->Gu F z q p (.pointer (some ⟨q,0,none⟩)) Y B M (r.rest d bs fb P at_) w en w'):=aa (fun cu e a wk en w' a3 hx hc C=>by
  rw [hx];exact⟨a3.own C.2.2 zs.zp v,C.1,C.2.1,(hc.mono (fun b _ A=> .inr A)).trans C.2.2 (fun b A e=> .inl e)⟩)
 have xU:=aa v;clear v s zs A hd C Z D h ho hT hE;go_enter func66,ntmps66
 go_wp2
 go_loopw [12] (fun iv wz=>∃i:Nat,i<=ln/\iv= .int .i64 i/\Hid (∀k,k<i->bs[k]? =fb[k]?)/\Hid (ag Nil w wz)) (fun iv _=>ln-(intOf iv).toNat)
 case atStart=>exact⟨0,Nat.zero_le _,rfl,aa (fun k hk=>absurd hk (by omega)),aa (ag.refl Nil w)⟩
 case round=>
  obtain⟨i,hi,rfl,pR,x⟩:=hrel;have Vr:=aa (HB.chg x (fun h=>h));have Vs:Hid (ag (Cs q p w.heap.size) w wr):=aa (x.mono (fun _ _ h=>h.elim))
  by_cases I:i<ln
  ·have ab:(i:Int)<(ln:Int):=by omega
   obtain⟨b1,o1,u1,rfl,_,am,a4⟩:=((aw).chg x (fun _ _ h=>h)).at_ I;obtain⟨b2,o2,u2,rfl,_,an,a5⟩:=((yT).chg x (fun _ _ h=>h)).at_ I;obtain⟨x1,ao,rfl⟩:=dX am;obtain⟨x2,ap,rfl⟩:=dX an;have l9:=aa ao;have mP:=aa ap;unfold bv at a4 a5;clear am an ao ap;go_upto_region 4 with fail
   go_quiet (fail)
   by_cases wU:x1=x2
   ·subst wU;go_wp2
    go_roundw
    case rel=>
     refine⟨i+1,by omega,by go_num,aa (fun k hk=> ?_),aa (x.drewN nq)⟩
     by_cases a1:k=i
     ·rw [a1,l9.out,mP.out]
     ·exact pR k (by omega)
    case measure=>simp [intOf];omega
   ·have Ya:¬((x1.toNat:Int)=(x2.toNat:Int)):=fun e=>wU (UInt8.toNat_inj.mp (by omega));have a7:((x1.toNat:Int)==(x2.toNat:Int))=false:=by rw [beq_eq_false_iff_ne];exact Ya
    have g:Hid (i=comm bs fb):=aa (iI _ _ i pR (by have h1:=KL.out;omega) (by have h1:=iH.out;omega) (.inr (.inr (by rw [l9.out,mP.out];intro e;exact wU (Option.some.inj e)))));have JF:Hid (comm bs fb<ln):=aa (by rw [<-g.out];exact I)
    have bb:IntKind.i64.wrap ((P:Int)+(i:Int))=((P+i:Nat):Int):=by
     rw [IntWalk.i64_in _ (by omega)];omega
    clear wU;have aq:=aa (Vr.drewN nq);have ar:=aa (Vs.drewN nq);go_wp2_with (go_at_call 60;go_loud (refine(aY z _ Y _ B M _ _ 84 ((P+i:Nat)) (wr.drewN nq) aq).mono ?_);rintro e9 o ⟨rfl,j,l⟩;have m:=aa j;have n:=aa l;clear j l)
    rw [L.out]
    exact f d 84 ((P+i:Nat)) (wr.drewN nq) _ o (HI.src.nil (x.drewN nq)) (by rw [u.out,if_pos JF.out,<-g.out]) ar ⟨rfl,m,n⟩
  ·have ab:¬((i:Int)<(ln:Int)):=by omega
   have a0:i=ln:=by omega
   have g:Hid (¬comm bs fb<ln):=aa (by
    have N:=iI bs fb i pR (by have h1:=KL.out;omega) (by have h1:=iH.out;omega) (.inl (by have h1:=KL.out;omega));omega)
   have Z9:Hid (eY wr F q p d):=aa (HI.chg x (fun h=>h) (fun h=>h) (fun _ _ h=>h));have a6:wr.cell? ⟨z,0,none⟩=some (.pointer (some ⟨q,0,none⟩)):=Vr.out.cell 0;have aE:wr.cell? ⟨q,2,none⟩=some (.int .i64 (d.at_:Nat)):=Z9.out.blk.cell 2;have Ag:w.heap.size<=wr.heap.size:=Vs.out.size;have pE:=aa (fK F q p 12 K d wr (HS.up Ag) Z9 HO hK (by omega) (by omega));clear a0;go_upto_region 8 with(go_at_call 59;go_loud (refine pE.mono ?_);rintro e w4 ⟨vT,rfl,hO,hI,y⟩;rw [<-Oz.out] at hO hI|-;have iV:=aa hO;have Q:=aa hI;have fV:=aa (jh Vs y);have sK:=aa y;clear hO hI y)
   have dR:=aa (Vr.chg sK (HZ.up Ag).no);obtain⟨eT,Yk⟩:∃e,e=T.2.1:=⟨_,rfl⟩;rw [<-Yk] at u iV|-;clear a6 aE Yk
   by_cases h5:eT=0
   ·subst h5;obtain⟨tA,tn,tc,rfl,_,_,ae,al⟩:=(iV.out rfl).sb;have Io:=aa ae;have ax:=aa al;have a2:w.heap.size<=w4.heap.size:=fV.out.size;have Lm:Hid (T.2.2.Ok K):=aa (by rw [Oz.out];exact ay.bytes_ok HO 12);clear ae al;go_upto_region 10 with fail
    refine OQ _ at_ tn tc tA T.1 w4 _ (aa (fun _ _ _ _ h=>h)) ax Io aA ?_;intro be bh bj bk bm rb J ac W;have pN:=aa W;have p9:=aa ac;have xV:Hid (eY J F q p T.2.2):=aa (Q.chg (S:=Nil) (ag.of_below W) (fun h=>h) (fun h=>h) (fun _ _ h=>h));have eG:=aa (dR.below W);have dF:=aa (nM fV W);have ad:w.heap.size<=J.heap.size:=dF.out.size;clear ac W a2
    cases rb with
    |true=>
     have V:Hid (T.1≠dw at_):=aa (fun e=>by have N:=p9.out;rw [e] at N;simp at N);go_wp2_with (go_at_call 60;go_loud (refine(aY z _ Y _ B M _ _ 85 (d.at_:Nat) J eG).mono ?_);rintro e9 o ⟨rfl,j,l⟩;have m:=aa j;have n:=aa l;clear j l)
     rw [L.out]
     exact f T.2.2 85 (d.at_:Nat) J _ o xV.src (by rw [u.out,if_neg g.out,if_neg (by simp),if_pos V.out]) dF ⟨rfl,m,n⟩
    |false=>
     have V:Hid (¬T.1≠dw at_):=aa (fun h=>by have N:=p9.out;simp at N;exact h N);have Py:J.cell? ⟨z,0,none⟩=some (.pointer (some ⟨q,0,none⟩)):=eG.out.cell 0;have j6:J.cell? ⟨q,2,none⟩=some (.int .i64 (T.2.2.at_:Nat)):=xV.out.blk.cell 2;have pX:=aa (OK F q p K T.2.2 J (HS.up ad) xV Lm hK);go_upto_region 14 with(go_at_call 110;go_loud (refine pX.mono ?_);rintro e O ⟨rfl,hS,y⟩;rw [<-JR.out] at hS|-;have JD:=aa hS;have dV:=aa (jh dF y);have Vt:=aa y;clear y hS)
     have U:=aa (eG.chg Vt (HZ.up ad).no);obtain⟨eE,TN⟩:∃e,e=E.2.1:=⟨_,rfl⟩;obtain⟨bE,X⟩:∃b,b=E.1:=⟨_,rfl⟩;rw [<-TN,<-X] at u|-;clear Py j6 TN X
     by_cases h7:eE=0
     ·subst h7
      cases bE with
      |false=>
       go_wp2_with (go_at_call 60;go_loud (refine(aY z _ Y _ B M _ _ 86 (T.2.2.at_:Nat) O U).mono ?_);rintro e9 o ⟨rfl,j,l⟩;have m:=aa j;have n:=aa l;clear j l)
       rw [L.out]
       exact f E.2.2 86 (T.2.2.at_:Nat) O _ o JD (by rw [u.out,if_neg g.out,if_neg (by simp),if_neg V.out,if_neg (by simp),if_pos (by simp)]) dV ⟨rfl,m,n⟩
      |true=>
       have z2:O.cell? ⟨z,2,none⟩=some v2:=U.out.cell 2;have yR:=U.out.frozen 2;go_wp2;rw [L.out];unfold Gu;rw [u.out,if_neg g.out,if_neg (by simp),if_neg V.out,if_neg (by simp),if_neg (by simp)]
       exact⟨JD.own ((ag.refl (fun b=>b=z) O).setCell (p:=⟨z,2,none⟩) (fun _=>rfl) _) HZ.zp xU,rfl,U.set_ 2 _,(dV.mono (fun b _ A=> .inr A)).setCell (p:=⟨z,2,none⟩) (fun _=> .inl rfl) _⟩
     ·have a9:(eE==0)=false:=by rw [beq_eq_false_iff_ne];exact h7
      have H7:=aa h7;go_wp2_with (go_at_call 60;go_loud (refine(aY z _ Y _ B M _ _ eE (T.2.2.at_:Nat) O U).mono ?_);rintro e9 o ⟨rfl,j,l⟩;have m:=aa j;have n:=aa l;clear j l)
      rw [L.out]
      exact f E.2.2 eE (T.2.2.at_:Nat) O _ o JD (by rw [u.out,if_neg g.out,if_neg (by simp),if_neg V.out,if_pos H7.out]) dV ⟨rfl,m,n⟩
   ·have a8:(eT==0)=false:=by rw [beq_eq_false_iff_ne];exact h5
    have H5:=aa h5;go_wp2_with (go_at_call 60;go_loud (refine(aY z _ Y _ B M _ _ eT (d.at_:Nat) w4 dR).mono ?_);rintro e9 o ⟨rfl,j,l⟩;have m:=aa j;have n:=aa l;clear j l)
    rw [L.out];exact f T.2.2 eT (d.at_:Nat) w4 _ o Q.src (by rw [u.out,if_neg g.out,if_pos H5.out]) fV ⟨rfl,m,n⟩
theorem xm {α:Type} (c:ay) (n:Nat) (f g:Body->α):(if(c.body n).err≠0 then f (c.body n) else g (c.body n))=
  if(c.bytes n).2.1≠0 then f ⟨[],(c.bytes n).2.1,c.at_,(c.bytes n).2.2⟩
  else if((c.bytes n).2.2.bytes 4).2.1≠0 then f ⟨[],((c.bytes n).2.2.bytes 4).2.1,(c.bytes n).2.2.at_,((c.bytes n).2.2.bytes 4).2.2⟩
  else if((c.bytes n).2.2.bytes 4).1≠four (aW (c.bytes n).1) then f ⟨[],22,(c.bytes n).2.2.at_,((c.bytes n).2.2.bytes 4).2.2⟩
  else g ⟨(c.bytes n).1,0,0,((c.bytes n).2.2.bytes 4).2.2⟩:=by
 unfold ay.body
 by_cases a:(c.bytes n).2.1≠0
 ·rw [if_pos a,if_pos a,if_pos a]
 ·rw [if_neg a,if_neg a]
  by_cases b:((c.bytes n).2.2.bytes 4).2.1≠0
  ·rw [if_pos b,if_pos b,if_pos b]
  ·rw [if_neg b,if_neg b]
   by_cases d:((c.bytes n).2.2.bytes 4).1≠four (aW (c.bytes n).1)
   ·rw [if_pos d,if_pos d];exact if_pos (show(22:Int)≠0 by decide)
   ·rw [if_neg d,if_neg d];exact if_neg (fun h=>h rfl)
def bg.bodyB (r:bg) (c:ay) (bs:List UInt8) (P at_:Nat):Option (List aK)×bg:=
 if(aB bs).2.1≠0 then(none,r.fail c (aB bs).2.1 (P+(aB bs).2.2))
 else if 0<r.rows.length/\0<=compareBytes (r.rows.getLast?.getD ⟨[],0,0,0⟩).last (((aB bs).1.headD ([],[])).1) then(none,r.fail c 51 P)
 else(some (aB bs).1,{r with cur:=c,rows:=r.rows++ [⟨az (aB bs).1,at_,c.at_-at_,(aB bs).1.length⟩]})
theorem bg.block_eq (r:bg) (c:ay) (at_:Nat):r.block c at_=if r.rows.length=8388608 then(none,r.fail c 71 at_)
  else if c.number.2.1≠0 then(none,r.fail c.number.2.2 c.number.2.1 c.at_)
  else if c.number.1<1\/65535<c.number.1 then(none,r.fail c.number.2.2 83 c.at_)
  else if(c.number.2.2.bytes c.number.1).2.1≠0 then(none,r.fail (c.number.2.2.bytes c.number.1).2.2 (c.number.2.2.bytes c.number.1).2.1 c.number.2.2.at_)
  else if((c.number.2.2.bytes c.number.1).2.2.bytes 4).2.1≠0 then(none,r.fail ((c.number.2.2.bytes c.number.1).2.2.bytes 4).2.2 ((c.number.2.2.bytes c.number.1).2.2.bytes 4).2.1 (c.number.2.2.bytes c.number.1).2.2.at_)
  else if((c.number.2.2.bytes c.number.1).2.2.bytes 4).1≠four (aW (c.number.2.2.bytes c.number.1).1) then(none,r.fail ((c.number.2.2.bytes c.number.1).2.2.bytes 4).2.2 22 (c.number.2.2.bytes c.number.1).2.2.at_)
  else r.bodyB ((c.number.2.2.bytes c.number.1).2.2.bytes 4).2.2 (c.number.2.2.bytes c.number.1).1 c.number.2.2.at_ at_:=by
 unfold bg.block;refine ite_congr rfl (fun _=>rfl) (fun _=>ite_congr rfl (fun _=>rfl) (fun _=>ite_congr rfl (fun _=>rfl) (fun _=> ?_)));exact xm c.number.2.2 c.number.1 (fun b=>(none,r.fail b.cur b.err b.place)) (fun b=>r.bodyB b.cur b.body c.number.2.2.at_ at_)
theorem bg.footR_eq (r:bg) (c:ay) (at_:Nat):r.footR c at_=if c.number.2.1≠0 then r.fail c.number.2.2 c.number.2.1 c.at_ else if c.number.1≠(aG r.rows).length then r.fail c.number.2.2 84 c.at_
  else if(c.number.2.2.bytes (aG r.rows).length).2.1≠0 then r.fail (c.number.2.2.bytes (aG r.rows).length).2.2 (c.number.2.2.bytes (aG r.rows).length).2.1 c.number.2.2.at_
  else if((c.number.2.2.bytes (aG r.rows).length).2.2.bytes 4).2.1≠0 then r.fail ((c.number.2.2.bytes (aG r.rows).length).2.2.bytes 4).2.2 ((c.number.2.2.bytes (aG r.rows).length).2.2.bytes 4).2.1 (c.number.2.2.bytes (aG r.rows).length).2.2.at_
  else if((c.number.2.2.bytes (aG r.rows).length).2.2.bytes 4).1≠four (aW (c.number.2.2.bytes (aG r.rows).length).1) then r.fail ((c.number.2.2.bytes (aG r.rows).length).2.2.bytes 4).2.2 22 (c.number.2.2.bytes (aG r.rows).length).2.2.at_
  else r.rest ((c.number.2.2.bytes (aG r.rows).length).2.2.bytes 4).2.2 (c.number.2.2.bytes (aG r.rows).length).1 (aG r.rows) c.number.2.2.at_ at_:=by
 rw [Gt];refine ite_congr rfl (fun _=>rfl) (fun _=>ite_congr rfl (fun _=>rfl) (fun _=> ?_));exact xm c.number.2.2 (aG r.rows).length (fun b=>r.fail b.cur b.err b.place) (fun b=>r.rest b.cur b.body (aG r.rows) c.number.2.2.at_ at_)
theorem KU (r:bg) (d:ay) (bs fb:List UInt8) (P a:Nat):(r.rest d bs fb P a).rows=r.rows:=by
 unfold bg.rest;repeat' split
 all_goals rfl
end Go.Proofs.YtepgcjbhabnciaaGreat
