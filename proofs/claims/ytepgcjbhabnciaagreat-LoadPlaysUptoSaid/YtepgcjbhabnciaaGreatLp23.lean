/- Part 23. -/
import Derived.Test.YtepgcjbhabnciaaGreatLp22
namespace Go.Proofs.YtepgcjbhabnciaaGreat
set_option maxRecDepth 100000
set_option maxHeartbeats 8000000
open Go.Proofs.Tryz Go.RowKit
open Go.Lib (compareBytes)
variable {q z n m p K ln:Nat} {A B dA fA:Option Addr} {prev b bs fb:List UInt8} {w w':World} {F:Nat->Prop} {s:Src}
def dM.rest (r:dM) (d:ay) (bs fb:List UInt8) (P at_:Nat):dM:=
 if comm bs fb<fb.length then r.fail d 84 (P+comm bs fb) else if(d.bytes 12).2.1≠0 then r.fail (d.bytes 12).2.2 (d.bytes 12).2.1 d.at_ else if(d.bytes 12).1≠dV at_ then r.fail (d.bytes 12).2.2 85 d.at_
 else if(d.bytes 12).2.2.end_.2.1≠0 then r.fail (d.bytes 12).2.2.end_.2.2 (d.bytes 12).2.2.end_.2.1 (d.bytes 12).2.2.at_ else if(d.bytes 12).2.2.end_.1=false then r.fail (d.bytes 12).2.2.end_.2.2 86 (d.bytes 12).2.2.at_
 else{r with cur:=(d.bytes 12).2.2.end_.2.2,st:=2}
theorem KG (r:dM) (c:ay) (at_:Nat):r.footR c at_=if c.number.2.1≠0 then r.fail c.number.2.2 c.number.2.1 c.at_ else if c.number.1≠(aJ r.rows).length then r.fail c.number.2.2 84 c.at_
  else if(c.number.2.2.body (aJ r.rows).length).err≠0 then r.fail (c.number.2.2.body (aJ r.rows).length).cur (c.number.2.2.body (aJ r.rows).length).err (c.number.2.2.body (aJ r.rows).length).place
  else r.rest (c.number.2.2.body (aJ r.rows).length).cur (c.number.2.2.body (aJ r.rows).length).body (aJ r.rows) c.number.2.2.at_ at_:=rfl
theorem eP.nil (h:eP w F q s) (hc:ag Nil w w'):eP w' F q s:=h.chg hc (fun h=>h) (fun _ _ h=>h)
theorem eP.own (h:eP w F q s) (hc:ag (fun b=>b=z) w w') (a:z≠q) (c:¬F z):eP w' F q s:=h.chg hc (fun e=>a e.symm) (fun b d e=>c ((show b=z from e)▸d))
def KH (F:Nat->Prop) (z q p:Nat) (v0 v1 v5 c:Value) (x:dM) (w:World) (a:Ending) (w':World):Prop:=
 eP w' F p x.cur.src/\a= .returned (.tuple #[(),false])/\ak w' z 103 #[v0,v1,true,(x.err:Int),(x.bad:Int),v5,c]/\ag (fun b=>b=z\/Cs q p w b) w w'
theorem OW (G H:Nat->Prop) (at_ P:Nat) {v1 v2 x c:Value} (dc fc:Nat) {r:dM} {d:ay} (s:Sit F q p w) (zs:Zs z q p w) (Q:¬F z)
  (B:ak w z 103 #[q,v1,v2,(r.err:Int),(r.bad:Int),x,c]) (hd:Rd w G 1 dA ln (aI bs)) (C:Rd w H 1 fA ln (aI fb)) (V:ln=bs.length) (D:ln=fb.length) (a9:ln<=872415300) (hP:P<=1152921504606)
  (h:fV w F q p d) (ho:d.Ok K) (hK:K<=1152921504606846976) (au:at_<9223372036854775808):
  Calls prog 66 #[z,.slice dA ln dc,.slice fA ln fc,(P:Int),(at_:Int)] w (KH F z q p q v1 x c (r.rest d bs fb P at_) w):=by
 refine letter fun R J=> ?_;have HS:=aa s;have HZ:=aa zs;have HB:=aa B;have HI:=aa h;have HO:=aa ho;have ap:=aa hd;have qW:=aa C;have CP:=aa V;have jE:=aa D;obtain⟨T,hT⟩:=gF (d.bytes 12);obtain⟨E,hE⟩:=gF T.2.2.end_
 have t:Hid (r.rest d bs fb P at_=if comm bs fb<ln then r.fail d 84 (P+comm bs fb) else if T.2.1≠0 then r.fail T.2.2 T.2.1 d.at_ else if T.1≠dV at_ then r.fail T.2.2 85 d.at_
  else if E.2.1≠0 then r.fail E.2.2 E.2.1 T.2.2.at_ else if E.1=false then r.fail E.2.2 86 T.2.2.at_ else{r with cur:=E.2.2,st:=2}):=aa (by subst hE;subst hT;subst D;rfl)
 have Tc:=aa hT;have NK:=aa hE
 have f:Hid (∀(cu:ay) (e:Int) (a:Nat) (wk:World) (en:Ending) (w':World),eP wk F p cu.src->r.rest d bs fb P at_=r.fail cu e a->ag (Cs q p w) w wk->D8 z q v1 x c e a wk en w'->KH F z q p q v1 x c (r.rest d bs fb P at_) w en w'):=aa (fun cu e a wk en w' a1 hx hc C=>by
  rw [hx];exact⟨a1.own C.2.2 zs.zp Q,C.1,C.2.1,(hc.mono (fun b _ B=> .inr B)).trans C.2.2 (fun b B e=> .inl e)⟩)
 have AQ:=aa Q;clear Q s zs B hd C V D h ho hT hE;go_enter func66,ntmps66;go_wp2
 go_loopw [12] (fun iv wz=>∃i:Nat,i<=ln/\iv= (i:Int)/\Hid (∀k,k<i->bs[k]? =fb[k]?)/\Hid (ag Nil w wz)) (fun iv _=>ln-(intOf iv).toNat)
 case atStart=>exact⟨0,Nat.zero_le _,rfl,aa (fun k hk=>absurd hk (by omega)),aa (ag.refl Nil w)⟩
 case round=>
  obtain⟨i,hi,rfl,oP,y⟩:=hrel;have u:=aa (HB.chg y (fun h=>h));have v:Hid (ag (Cs q p w) w wr):=aa (y.mono (fun _ _ h=>h.elim))
  by_cases I:i<ln
  ·have X:(i:Int)<(ln:Int):=by omega
   obtain⟨b1,o1,u1,rfl,_,ad,a2⟩:=((ap).chg y (fun _ _ h=>h)).at_ I;obtain⟨b2,o2,u2,rfl,_,ae,a3⟩:=((qW).chg y (fun _ _ h=>h)).at_ I;obtain⟨x1,al,rfl⟩:=eO ad;obtain⟨x2,am,rfl⟩:=eO ae;have oO:=aa al;have nV:=aa am;unfold bv at a2 a3;clear ad ae al am;go_upto_region 4 with fail;go_quiet (fail)
   by_cases zJ:x1=x2
   ·subst zJ;go_wp2
    go_roundw
    case rel=>
     refine⟨i+1,by omega,by go_num,aa (fun k hk=> ?_),aa (y.drewN nq)⟩
     by_cases aE:k=i
     ·rw [aE,oO.out,nV.out]
     ·exact oP k (by omega)
    case measure=>simp [intOf];omega
   ·have a4:¬((x1.toNat:Int)=(x2.toNat:Int)):=fun e=>zJ (UInt8.toNat_inj.mp (by omega));have a6:((x1.toNat:Int)==(x2.toNat:Int))=false:=by rw [mi];exact a4
    have g:Hid (i=comm bs fb):=aa (jF _ _ i oP (by have h1:=CP.out;omega) (by have h1:=jE.out;omega) (.inr (.inr (by rw [oO.out,nV.out];intro e;exact zJ (Option.some.inj e)))));have Ny:Hid (comm bs fb<ln):=aa (by rw [<-g.out];exact I)
    have ba:IntKind.i64.wrap ((P:Int)+(i:Int))=((P+i:Nat):Int):=by
     rw [IntWalk.i64_in _ (by omega)];omega
    clear zJ;have an:=aa (u.drewN nq);have ao:=aa (v.drewN nq);go_wp2_with (go_at_call 60;go_loud (refine(bi 84 ((P+i:Nat)) an).mono ?_);rintro e9 o ⟨rfl,j,l⟩;have m:=aa j;have n:=aa l;clear j l);rw [J.out]
    exact f d 84 ((P+i:Nat)) (wr.drewN nq) _ o (HI.src.nil (y.drewN nq)) (by rw [t.out,if_pos Ny.out,<-g.out]) ao ⟨rfl,m,n⟩
  ·have X:¬((i:Int)<(ln:Int)):=by omega
   have aA:i=ln:=by omega
   have g:Hid (¬comm bs fb<ln):=aa (by
    have L:=jF bs fb i oP (by have h1:=CP.out;omega) (by have h1:=jE.out;omega) (.inl (by have h1:=CP.out;omega));omega)
   have N:Hid (fV wr F q p d):=aa (HI.chg y (fun h=>h) (fun h=>h) (fun _ _ h=>h));have a5:wr.cell? z=some (q:Value):=u.out.cell 0;have aw:wr.cell? ⟨q,2,none⟩=some (.int .i64 d.at_):=N.out.blk.cell 2;have AF:w.heap.size<=wr:=v.out.size;have rQ:=aa (gY 12 (HS.up AF) N HO hK (by omega) (by omega));clear aA;go_upto_region 8 with(go_at_call 59;go_loud (refine rQ.mono ?_);rintro e w4 ⟨vT,rfl,hO,hI,A⟩;rw [<-Tc.out] at hO hI|-;have jM:=aa hO;have M:=aa hI;have gK:=aa (kL v A);have wL:=aa A;clear hO hI A)
   have dE:=aa (u.chg wL (HZ.up AF).no);obtain⟨eT,W⟩:=gF T.2.1;rw [<-W] at t jM|-;clear a5 aw W
   by_cases h5:eT=0
   ·subst h5;obtain⟨tA,tn,tc,rfl,_,_,ab,ac⟩:=(jM.out rfl).sb;have LW:=aa ab;have aq:=aa ac;have a0:w.heap.size<=w4:=gK.out.size;have PE:Hid (T.2.2.Ok K):=aa (by rw [Tc.out];exact ay.bytes_ok HO 12);clear ab ac;go_upto_region 10 with fail
    refine Ty at_ (aa (fun _ _ _ _ h=>h)) aq LW au ?_;intro be bh bj bk bm rb w5 Y ib;have sG:=aa ib;have EO:=aa Y;have AR:Hid (fV w5 F q p T.2.2):=aa (M.chg (S:=Nil) (ag.of_below ib) (fun h=>h) (fun h=>h) (fun _ _ h=>h));have eF:=aa (dE.below ib);have ed:=aa (p9 gK ib);have Z:w.heap.size<=w5:=ed.out.size;clear Y ib a0
    cases rb with
    |true=>
     have iq:Hid (T.1≠dV at_):=aa (fun e=>by have L:=EO.out;rw [e] at L;simp at L);go_wp2_with (go_at_call 60;go_loud (refine(bi 85 (d.at_:Nat) eF).mono ?_);rintro e9 o ⟨rfl,j,l⟩;have m:=aa j;have n:=aa l;clear j l);rw [J.out]
     exact f T.2.2 85 (d.at_:Nat) w5 _ o AR.src (by rw [t.out,if_neg g.out,if_neg (by simp),if_pos iq.out]) ed ⟨rfl,m,n⟩
    |false=>
     have iq:Hid (¬T.1≠dV at_):=aa (fun h=>by have L:=EO.out;simp at L;exact h L);have Tk:w5.cell? z=some (q:Value):=eF.out.cell 0;have lF:w5.cell? ⟨q,2,none⟩=some (.int .i64 T.2.2.at_):=AR.out.blk.cell 2;have qX:=aa (Ti (HS.up Z) AR PE hK);go_upto_region 14 with(go_at_call 110;go_loud (refine qX.mono ?_);rintro e w6 ⟨rfl,hS,A⟩;rw [<-NK.out] at hS|-;have Nu:=aa hS;have eY:=aa (kL ed A);have ar:=aa A;clear A hS)
     have O:=aa (eF.chg ar (HZ.up Z).no);obtain⟨eE,Yr⟩:=gF E.2.1;obtain⟨bE,U⟩:=gF E.1;rw [<-Yr,<-U] at t|-;clear Tk lF Yr U
     by_cases h7:eE=0
     ·subst h7
      cases bE with
      |false=>
       go_wp2_with (go_at_call 60;go_loud (refine(bi 86 (T.2.2.at_:Nat) O).mono ?_);rintro e9 o ⟨rfl,j,l⟩;have m:=aa j;have n:=aa l;clear j l)
       rw [J.out]
       exact f E.2.2 86 (T.2.2.at_:Nat) w6 _ o Nu (by rw [t.out,if_neg g.out,if_neg (by simp),if_neg iq.out,if_neg (by simp),if_pos (by simp)]) eY ⟨rfl,m,n⟩
      |true=>
       have z2:w6.cell? ⟨z,2,none⟩=some v2:=O.out.cell 2;have BU:=O.out.frozen 2;go_wp2;rw [J.out];unfold KH;rw [t.out,if_neg g.out,if_neg (by simp),if_neg iq.out,if_neg (by simp),if_neg (by simp)]
       exact⟨Nu.own ((ag.refl (fun b=>b=z) w6).setCell (p:=⟨z,2,none⟩) (fun _=>rfl) _) HZ.zp AQ,rfl,O.set_ 2 _,(eY.mono (fun b _ B=> .inr B)).setCell (p:=⟨z,2,none⟩) (fun _=> .inl rfl) _⟩
     ·have a8:(eE==0)=false:=by rw [mi];exact h7
      have H7:=aa h7;go_wp2_with (go_at_call 60;go_loud (refine(bi eE (T.2.2.at_:Nat) O).mono ?_);rintro e9 o ⟨rfl,j,l⟩;have m:=aa j;have n:=aa l;clear j l);rw [J.out]
      exact f E.2.2 eE (T.2.2.at_:Nat) w6 _ o Nu (by rw [t.out,if_neg g.out,if_neg (by simp),if_neg iq.out,if_pos H7.out]) eY ⟨rfl,m,n⟩
   ·have a7:(eT==0)=false:=by rw [mi];exact h5
    have H5:=aa h5;go_wp2_with (go_at_call 60;go_loud (refine(bi eT (d.at_:Nat) dE).mono ?_);rintro e9 o ⟨rfl,j,l⟩;have m:=aa j;have n:=aa l;clear j l);rw [J.out];exact f T.2.2 eT (d.at_:Nat) w4 _ o M.src (by rw [t.out,if_neg g.out,if_pos H5.out]) gK ⟨rfl,m,n⟩
theorem zT {α:Type} (c:ay) (n:Nat) (f g:Body->α):(if(c.body n).err≠0 then f (c.body n) else g (c.body n))=
  if(c.bytes n).2.1≠0 then f ⟨[],(c.bytes n).2.1,c.at_,(c.bytes n).2.2⟩
  else if((c.bytes n).2.2.bytes 4).2.1≠0 then f ⟨[],((c.bytes n).2.2.bytes 4).2.1,(c.bytes n).2.2.at_,((c.bytes n).2.2.bytes 4).2.2⟩
  else if((c.bytes n).2.2.bytes 4).1≠four (bg (c.bytes n).1) then f ⟨[],22,(c.bytes n).2.2.at_,((c.bytes n).2.2.bytes 4).2.2⟩
  else g ⟨(c.bytes n).1,0,0,((c.bytes n).2.2.bytes 4).2.2⟩:=by
 unfold ay.body
 by_cases a:(c.bytes n).2.1≠0
 ·rw [if_pos a,if_pos a,if_pos a]
 ·rw [if_neg a,if_neg a]
  by_cases b:((c.bytes n).2.2.bytes 4).2.1≠0
  ·rw [if_pos b,if_pos b,if_pos b]
  ·rw [if_neg b,if_neg b]
   by_cases d:((c.bytes n).2.2.bytes 4).1≠four (bg (c.bytes n).1)
   ·rw [if_pos d,if_pos d];exact if_pos (show(22:Int)≠0 by decide)
   ·rw [if_neg d,if_neg d];exact if_neg (fun h=>h rfl)
def dM.bodyB (r:dM) (c:ay) (bs:List UInt8) (P at_:Nat):Option (List aR)×dM:=
 if(aH bs).2.1≠0 then(none,r.fail c (aH bs).2.1 (P+(aH bs).2.2))
 else if 0<r.rows.length/\0<=compareBytes (r.rows.getLast?.getD ⟨[],0,0,0⟩).last (((aH bs).1.headD ([],[])).1) then(none,r.fail c 51 P)
 else(some (aH bs).1,{r with cur:=c,rows:=r.rows++ [⟨aD (aH bs).1,at_,c.at_-at_,(aH bs).1.length⟩]})
theorem dM.block_eq (r:dM) (c:ay) (at_:Nat):r.block c at_=if r.rows.length=8388608 then(none,r.fail c 71 at_)
  else if c.number.2.1≠0 then(none,r.fail c.number.2.2 c.number.2.1 c.at_)
  else if c.number.1<1\/65535<c.number.1 then(none,r.fail c.number.2.2 83 c.at_)
  else if(c.number.2.2.bytes c.number.1).2.1≠0 then(none,r.fail (c.number.2.2.bytes c.number.1).2.2 (c.number.2.2.bytes c.number.1).2.1 c.number.2.2.at_)
  else if((c.number.2.2.bytes c.number.1).2.2.bytes 4).2.1≠0 then(none,r.fail ((c.number.2.2.bytes c.number.1).2.2.bytes 4).2.2 ((c.number.2.2.bytes c.number.1).2.2.bytes 4).2.1 (c.number.2.2.bytes c.number.1).2.2.at_)
  else if((c.number.2.2.bytes c.number.1).2.2.bytes 4).1≠four (bg (c.number.2.2.bytes c.number.1).1) then(none,r.fail ((c.number.2.2.bytes c.number.1).2.2.bytes 4).2.2 22 (c.number.2.2.bytes c.number.1).2.2.at_)
  else r.bodyB ((c.number.2.2.bytes c.number.1).2.2.bytes 4).2.2 (c.number.2.2.bytes c.number.1).1 c.number.2.2.at_ at_:=by
 unfold dM.block;refine ite_congr rfl (fun _=>rfl) (fun _=>ite_congr rfl (fun _=>rfl) (fun _=>ite_congr rfl (fun _=>rfl) (fun _=> ?_)));exact zT c.number.2.2 c.number.1 (fun b=>(none,r.fail b.cur b.err b.place)) (fun b=>r.bodyB b.cur b.body c.number.2.2.at_ at_)
theorem dM.footR_eq (r:dM) (c:ay) (at_:Nat):r.footR c at_=if c.number.2.1≠0 then r.fail c.number.2.2 c.number.2.1 c.at_ else if c.number.1≠(aJ r.rows).length then r.fail c.number.2.2 84 c.at_
  else if(c.number.2.2.bytes (aJ r.rows).length).2.1≠0 then r.fail (c.number.2.2.bytes (aJ r.rows).length).2.2 (c.number.2.2.bytes (aJ r.rows).length).2.1 c.number.2.2.at_
  else if((c.number.2.2.bytes (aJ r.rows).length).2.2.bytes 4).2.1≠0 then r.fail ((c.number.2.2.bytes (aJ r.rows).length).2.2.bytes 4).2.2 ((c.number.2.2.bytes (aJ r.rows).length).2.2.bytes 4).2.1 (c.number.2.2.bytes (aJ r.rows).length).2.2.at_
  else if((c.number.2.2.bytes (aJ r.rows).length).2.2.bytes 4).1≠four (bg (c.number.2.2.bytes (aJ r.rows).length).1) then r.fail ((c.number.2.2.bytes (aJ r.rows).length).2.2.bytes 4).2.2 22 (c.number.2.2.bytes (aJ r.rows).length).2.2.at_
  else r.rest ((c.number.2.2.bytes (aJ r.rows).length).2.2.bytes 4).2.2 (c.number.2.2.bytes (aJ r.rows).length).1 (aJ r.rows) c.number.2.2.at_ at_:=by
 rw [KG];refine ite_congr rfl (fun _=>rfl) (fun _=>ite_congr rfl (fun _=>rfl) (fun _=> ?_));exact zT c.number.2.2 (aJ r.rows).length (fun b=>r.fail b.cur b.err b.place) (fun b=>r.rest b.cur b.body (aJ r.rows) c.number.2.2.at_ at_)
theorem O6 (r:dM) (d:ay) (bs fb:List UInt8) (P a:Nat):(r.rest d bs fb P a).rows=r.rows:=by
 unfold dM.rest;repeat' split
 all_goals rfl
noncomputable def QJ:Code:=aQ (f151.body.bind (aF 20))
theorem Tq {c:Nat} (d s P mm:Nat) {y u3 J u5 u6 u7 u8 E O W U u16 f C I M u21 V u23 u24 z D u27 r u29 j u31 u32 u33 u34 i u36 u37 u38 N u40 R u42 X u44 u45 u46 v u48 u49 H u51 dP u53 dR u55 dY dZ u58 u59 u60 fw fJ u63 u64 gm u66 l u68 G u70 T u72 u73 iN u75 iV L jZ Z kg kG kP kQ kR ko g ng u mJ pF pu h u93 vw vz o vE sQ sS e jh ji jU kD u105 lG lH lI lJ lK lL lM lN lQ lS:Value} {Y:List Value} {Q:Exit->Act->World->Prop} (kF:Hid (∀c t (a:Act) w,Q (.panic c) ⟨t,a.defers⟩ w->Q (.panic c) a w))
  (HA:Hid (Rd w F 1 A n (aI prev))) (hnc:n<=c) (bj:s<=n) (HB:Hid (Rd w F 1 B m (aI b))) (hmd:m<=d) (bh:P+mm<=m) (hs:s<=64) (hm:mm<=64) (hm2:m<=1152921504606)
  (au:∀(a3 a0 a4 a1 a5 a2 a6 a7 a8 a9 ba be:Value) (K:Option Addr) (kn kc:Nat) (w':World),Ow w' w (.slice K kn kc) (prev.take s++(b.drop P).take mm)->Below w w w'->Q .normal ⟨(.slice A n c:: .slice B m d::y::u3::J::u5::u6::u7::u8:: .int .u64 s:: .int .i64 P::E::O::W:: .int .i64 mm::U:: .slice K kn kc::f::C::I::M::u21::V::u23::u24::z::D::u27::r::u29::j::u31::u32::u33::u34::i::u36::u37::u38::N::u40::R::u42::X::u44::u45::u46::v::u48::u49::H::u51::dP::u53::dR::u55::dY::dZ::u58::u59::u60::fw::fJ::u63::u64::gm::u66::l::u68::G::u70::T::u72::u73::iN::u75::iV::L::jZ::Z::kg::kG::kP::kQ::kR::ko::g::ng::u::mJ::pF::pu::h::u93::vw::vz::o::vE::sQ::sS::e::jh::ji::jU::a3::a0::a4::a1::a5::a2::a6::a7::a8::a9::ba::be::Y).toArray,[]⟩ w'):
  Code.wp prog QJ Q ⟨(.slice A n c:: .slice B m d::y::u3::J::u5::u6::u7::u8:: .int .u64 s:: .int .i64 P::E::O::W:: .int .i64 mm::U::u16::f::C::I::M::u21::V::u23::u24::z::D::u27::r::u29::j::u31::u32::u33::u34::i::u36::u37::u38::N::u40::R::u42::X::u44::u45::u46::v::u48::u49::H::u51::dP::u53::dR::u55::dY::dZ::u58::u59::u60::fw::fJ::u63::u64::gm::u66::l::u68::G::u70::T::u72::u73::iN::u75::iV::L::jZ::Z::kg::kG::kP::kQ::kR::ko::g::ng::u::mJ::pF::pu::h::u93::vw::vz::o::vE::sQ::sS::e::jh::ji::jU::kD::u105::lG::lH::lI::lJ::lK::lL::lM::lN::lQ::lS::Y).toArray,[]⟩ w:=by
 have dz:=aa au;obtain⟨i0,ar,aw,aA,aE⟩:=info_parts bD;obtain⟨A3,bp,ad⟩:=Wl (p:=s) HA bj hnc;obtain⟨A4,ae,ac⟩:=Ke (p:=P) (q:=P+mm) HB (by omega) bh hmd;rw [show P+mm-P=mm by omega] at ae ac;have bo:∀w',(Instr.slice 24 (.slice B m d) (some (.int .i64 (P:Int))) (some (.int .i64 ((P:Int)+(mm:Int)))) none).run prog w'= .ok (.slice A4 mm (d-P)) w':=fun w'=>by have:=ae w';simpa only [Int.natCast_add] using this
 have an:=aa ad;have ao:=aa ac;have bx:IntKind.i64.wrap ((P:Int)+(mm:Int))=(P:Int)+(mm:Int):=IntWalk.i64_in _ (by omega);have h0:0<=(P:Int)+(mm:Int):=by omega
 have S0:True:=trivial;have PQ:Hid (s=(prev.take s).length):=aa (by have:=ad.1;rw [dO] at this;omega);have mH:Hid (mm=((b.drop P).take mm).length):=aa (by have:=ac.1;rw [dO] at this;omega);obtain⟨x1,al⟩:=gF (prev.take s);obtain⟨x2,am⟩:=gF ((b.drop P).take mm);rw [<-al] at PQ an;rw [<-am] at mH ao;have LD:=aa al;have qh:=aa am;clear au ae ad ac al am;conv=>arg 2;whnf
 refine aO (S:=(fun _=>True)) (by kernel_rfl) ?_;refine vT 1 S0 ?_;refine vT 2 S0 ?_;refine vT 3 S0 ?_;refine vT 5 S0 ?_;refine vT 6 S0 ?_;refine vT 7 S0 ?_;refine vT 8 S0 ?_;refine vT 9 S0 ?_;refine vT 10 S0 ?_;refine nZ 0 fun K hK=> ?_;go_simp;refine hK.out _ _ trivial ?_;clear hK K;try simp only [aL,aN,aZ,aC]
 refine nZ 4 fun K hK=> ?_;refine aG _ rfl (.tmp 104) (.tmp 107) _ rfl w 5 i0 _ 1 1 underlying24 ar aw aA aE rfl (by omega) (.slice (some ⟨w,0,none⟩) 0 0) 0 [] rfl (gq w.drew _ 1) F A3 s c (aI x1) rfl ((an.below mh.drew).alloc _) (bJ _) (by simp only [maxLen];omega) (by omega) (by show w<=(w.alloc (.cells #[] 5)).heap.size;rw [World.size_alloc];exact Nat.le_succ _) ?_;intro x w4 di ap gp;obtain⟨K4,IE,bk,_,_⟩:=ax di;subst bk;have jM:Hid (Ow w4 w (.slice K4 (0+s) IE) x1):=aa (by unfold Ow;rw [<-PQ.out];simpa using di);have dE:Hid (Below w w w4):=aa (((mh.drew).alloc jO _).grown ap (by show w<=(w.alloc (.cells #[] 5)).heap.size;rw [World.size_alloc];exact Nat.le_succ _) (fun k hk=>by simp only [Value.ownBlock,Option.some.injEq] at hk;rw [<-hk];exact jO));clear di ap gp;refine rT hK trivial ?_;clear hK K;refine nZ 11 fun K hK=> ?_;refine aG _ rfl (.tmp 108) (.tmp 114) _ rfl w 5 i0 _ 1 1 underlying24 ar aw aA aE rfl (by omega) (.slice K4 (0+s) IE) s (aI x1) (by rw [Nat.zero_add];rfl) (by have h9:=jM.out;unfold Ow at h9;rw [<-PQ.out] at h9;exact h9) F A4 mm (d-P) (aI x2) rfl (ao.below dE) (bJ _) (by simp only [maxLen];omega) (by omega) dE.size ?_;intro x w5 ab aq oz;obtain⟨K5,Yq,bm,_,_⟩:=ax ab;subst bm;have pq:=aa ab;have DC:=aa aq;clear ab aq oz;refine rT hK trivial ?_;clear hK K;refine vT 12 trivial ?_;refine bf (by kernel_rfl) ?_ _;go_simp;refine dz _ _ _ _ _ _ _ _ _ _ _ _ K5 (s+mm) Yq w5 ?_ (dE.grown DC dE.size (fun k hk=>(ah jM k hk).1));have h1:=pq.out;rw [<-LD.out,<-qh.out];unfold Ow;rw [mq,<-PQ.out,<-mH.out];simpa [aI] using h1
theorem Kq (F:Nat->Prop) (c:Nat) (d p:Nat) (hA:Rd w F 1 A n (aI prev)) (hn:n=prev.length) (j:n<=c) (hB:Rd w F 1 B m (aI b)) (hm:m=b.length) (y:m<=d) (hp:p<=m) (hn2:n<=1152921504606) (o:m<=1152921504606) (a:∀b,F b->b<w):
  Calls prog 151 #[.slice A n c,.slice B m d,(p:Int)] w (iw prev b p w):=by
 obtain⟨i0,aw,a8,a9,ba⟩:=info_parts bD;refine letter fun R M=> ?_;have HN:=aa hn;have HM:=aa hm;have HF:=aa a;obtain⟨q,hq⟩:=gF w.heap.size;have HQ:=aa hq;obtain⟨w1,X⟩:=gF (w.alloc (.cells #[.slice none 0 0,.slice none 0 0] 69));have t:Hid (Below w w w1):=aa (by rw [X];exact gV);have E:Hid (ak w1 q 69 #[(),()]):=aa (by rw [X,hq];exact ak.new _ _ _);have aq:Hid (Rd w1 F 1 A n (aI prev)):=aa (hA.below t);have jm:Hid (Rd w1 F 1 B m (aI b)):=aa (hB.below t);have P0:rf b p 1<=m:=by rw [hm];exact wh b p (by omega) 1
 have P1:rf b p 2<=m:=by rw [hm];exact wh b p (by omega) 2
 have P2:rf b p 3<=m:=by rw [hm];exact wh b p (by omega) 3
 have OM:=jB d p jm hm hp o;have KE:=jB d (rf b p 1) jm hm P0 o;have KF:=jB d (rf b p 2) jm hm P1 o;rw [show(ai b p).1=EW b p 0 from rfl,show(ai b p).2.1=rf b p 1 from rfl,show(ai b p).2.2=zm b p 0 from rfl] at OM;rw [show(ai b (rf b p 1)).1=EW b p 1 from rfl,show(ai b (rf b p 1)).2.1=rf b p 2 from rfl,show(ai b (rf b p 1)).2.2=zm b p 1 from rfl] at KE;rw [show(ai b (rf b p 2)).1=EW b p 2 from rfl,show(ai b (rf b p 2)).2.1=rf b p 3 from rfl,show(ai b (rf b p 2)).2.2=zm b p 2 from rfl] at KF;have On:=wm b p 0;have Sz:=wm b p 1;have VR:=wm b p 2;have N:=aa (zo prev b p);obtain⟨s,hs⟩:=gF (EW b p 0);obtain⟨mm,a0⟩:=gF (EW b p 1);obtain⟨l,hl⟩:=gF (EW b p 2);obtain⟨p1,a1⟩:=gF (rf b p 1);obtain⟨p2,a2⟩:=gF (rf b p 2);obtain⟨P,hP⟩:=gF (rf b p 3);obtain⟨x0,a4⟩:=gF (zm b p 0);obtain⟨x1,a5⟩:=gF (zm b p 1);obtain⟨x2,a6⟩:=gF (zm b p 2);rw [<-hs] at OM On N;rw [<-a0] at KE Sz N;rw [<-hl] at KF VR N;rw [<-a1] at OM KE N P0;rw [<-a2] at KE KF N P1;rw [<-hP] at KF N P2;rw [<-a4] at OM N;rw [<-a5] at KE N;rw [<-a6] at KF N;have ar:=aa OM;have au:=aa KE;have Tt:=aa KF;have f:w1.cell? q=some (.slice none 0 0):=E.out.cell 0;have g:w1.cell? ⟨q,1,none⟩=some (.slice none 0 0):=E.out.cell 1;have IJ:=E.out.frozen 0;have xP:=E.out.frozen 1
 have CE:Hid (∀(J:Nat) (u:Int),u≠0->pread prev b p=⟨[],[],J,u⟩->∀w',ag (fun b=>b=q) w1 w'->iw prev b p w (.returned (.tuple #[.agg #[(),()],(J:Int),(u:Int)])) w'):=aa (fun J u an hp w' hw=>by
  unfold iw;rw [hp];exact⟨_,_,_,_,_,_,rfl,fun h=>absurd h an,t.out.trans (hw.below_of t.size (fun b i e=>by have:=HQ.out;have e:b=q:=e;omega))⟩)
 have jo:Hid (ag (fun b=>b=q) w1 ((w1.setCell q ()).setCell ⟨q,1,none⟩ ())):=aa (((ag.refl (fun b=>b=q) w1).setCell (p:=q) (fun _=>rfl) _).setCell (p:=⟨q,1,none⟩) (fun _=>rfl) _);have bG:=aa X;clear hA hn hB hm a hs a0 hl a1 a2 hP a4 a5 a6 OM KE KF;go_enter func151,ntmps151;go_upto_region 3 with fail
 rw [<-X];simp only [<-hq];clear X hq
 by_cases h0:x0=0
 ·have H0:=aa h0;subst h0;go_upto_region 6 with(go_at_call 149;go_loud (refine ar.mono ?_);rintro e w2 ⟨rfl,rfl⟩)
  by_cases D:x1=0
  ·have H1:=aa D;subst D;go_upto_region 9 with(go_at_call 149;go_loud (refine au.mono ?_);rintro e w2 ⟨rfl,rfl⟩)
   by_cases Q:x2=0
   ·subst Q;have xW:Hid (pread prev b p=bZ prev b p s mm l P):=aa (by rw [N.out];simp);go_upto_region 12 with(go_at_call 149;go_loud (refine Tt.mono ?_);rintro e w2 ⟨rfl,rfl⟩)
    by_cases c1:n<s
    ·have z:Hid (pread prev b p=⟨[],[],p,52⟩):=aa (by rw [xW.out];unfold bZ;rw [if_pos (by have:=HN.out;omega)]);have be:(n:Int)<(s:Int):=by omega
     go_wp2;refine bodyPost_ret (v:= .tuple #[.agg #[(),()],(p:Int),.int .i64 52]) (by simp [results,results151,go_sem,f,g]) rfl ?_
     rw [M.out]
     exact CE.out p 52 (by decide) z _ jo
    ·have Ca:Hid (¬prev.length<s):=aa (by have:=HN.out;omega);have be:¬((n:Int)<(s:Int)):=by omega
     by_cases c2:64<mm\/256<l\/s+mm=0\/64<s+mm
     ·have z:Hid (pread prev b p=⟨[],[],p,3⟩):=aa (by rw [xW.out];unfold bZ;rw [if_neg Ca.out,if_pos c2])
      by_cases d1:64<mm
      ·have bj:(64:Int)<(mm:Int):=by omega
       clear c2;go_wp2;refine bodyPost_ret (v:= .tuple #[.agg #[(),()],(p:Int),.int .i64 3]) (by simp [results,results151,go_sem,f,g]) rfl ?_;rw [M.out]
       exact CE.out p 3 (by decide) z _ jo
      ·have bj:¬((64:Int)<(mm:Int)):=by omega
       by_cases d2:256<l
       ·have Ur:(256:Int)<(l:Int):=by omega
        clear c2;go_wp2;refine bodyPost_ret (v:= .tuple #[.agg #[(),()],(p:Int),.int .i64 3]) (by simp [results,results151,go_sem,f,g]) rfl ?_;rw [M.out]
        exact CE.out p 3 (by decide) z _ jo
       ·have Ur:¬((256:Int)<(l:Int)):=by omega
        have ds:((s:Int)+(mm:Int))<18446744073709551616:=by omega
        by_cases d3:s+mm=0
        ·have bk:((s:Int)+(mm:Int))<1:=by omega
         clear c2 d3;go_wp2;refine bodyPost_ret (v:= .tuple #[.agg #[(),()],(p:Int),.int .i64 3]) (by simp [results,results151,go_sem,f,g]) rfl ?_;rw [M.out]
         exact CE.out p 3 (by decide) z _ jo
        ·have bk:¬(((s:Int)+(mm:Int))<1):=by omega
         have d4:64<s+mm:=by omega
         have b5:(64:Int)<((s:Int)+(mm:Int)):=by omega
         clear c2;go_wp2;refine bodyPost_ret (v:= .tuple #[.agg #[(),()],(p:Int),.int .i64 3]) (by simp [results,results151,go_sem,f,g]) rfl ?_;rw [M.out]
         exact CE.out p 3 (by decide) z _ jo
     ·have CF:=aa c2;have e1:¬((64:Int)<(mm:Int)):=by omega
      have e2:¬((256:Int)<(l:Int)):=by omega
      have e3:¬(((s:Int)+(mm:Int))<1):=by omega
      have e4:¬((64:Int)<((s:Int)+(mm:Int))):=by omega
      have On:s<=64:=by omega
      have Ye:mm<=64:=by omega
      have bN:l<=256:=by omega
      have bo:s<=n:=by omega
      clear c1 c2 Sz VR
      by_cases c3:m-P<mm+l
      ·have z:Hid (pread prev b p=⟨[],[],m,53⟩):=aa (by rw [xW.out];unfold bZ;rw [if_neg Ca.out,if_neg CF.out,if_pos (by have:=HM.out;omega),<-HM.out]);have bh:(m:Int)-(P:Int)<(mm:Int)+(l:Int):=by omega
       clear c3;go_wp2;refine bodyPost_ret (v:= .tuple #[.agg #[(),()],(m:Int),.int .i64 53]) (by simp [results,results151,go_sem,f,g]) rfl ?_;rw [M.out]
       exact CE.out m 53 (by decide) z _ jo
      ·have ZJ:Hid (¬b.length-P<mm+l):=aa (by have:=HM.out;omega);have bh:¬((m:Int)-(P:Int)<(mm:Int)+(l:Int)):=by omega
       have bm:P+mm+l<=m:=by omega
       clear c3;go_upto_region 20 with fail
       refine Tq d s P mm (aa (fun _ _ _ _ h=>h)) aq j bo jm y (by omega) On Ye o ?_;intro bQ bz bT bE bU bF bX b0 b1 b2 b3 b4 K kn kc L ae S;obtain⟨key,W⟩:=gF (prev.take s++(b.drop P).take mm);have Kb:=aa W;rw [<-W] at ae;obtain⟨aA,aE,al,am⟩:=ae.sb.parts;have SA:=aa al;have rH:=aa am;have PU:=aa (And.intro aA aE);have dE:=aa S;have Af:Hid (Rd L F 1 A n (aI prev)):=aa (aq.below S);have ZN:Hid (Rd L F 1 B m (aI b)):=aa (jm.below S);have mo:Hid (ak L q 69 #[(),()]):=aa (E.below S);have Mv:=aa (gX c kc Af HN am al (by omega));obtain⟨cm,U⟩:=gF (comm prev key);rw [<-U] at Mv;have SC:=aa U;have bI:cm<=1152921504606:=by have D:=(jG prev key).1;have Q:=HN.out;omega
       have M8:Hid (∀(u:Int) (w':World),u≠0->pread prev b p=⟨[],[],p,u⟩->ag (fun b=>b=q) L w'->iw prev b p w (.returned (.tuple #[.agg #[(),()],(p:Int),(u:Int)])) w'):=aa (fun u w' an hp hw=>by
        unfold iw;rw [hp];have a3:=t.out.trans (dE.mono t.size);exact⟨_,_,_,_,_,_,rfl,fun h=>absurd h an,a3.trans (hw.below_of a3.size (fun b i e=>by have:=HQ.out;have e:b=q:=e;omega))⟩)
       clear W ae aA aE al am S U f g IJ xP
       by_cases k1:cm=s
       ·have sO:Hid (¬comm prev key≠s):=aa (by rw [<-SC.out];exact fun h=>h k1);have ap:((cm:Int)==(s:Int))=true:=by rw [beq_iff_eq];omega
        have Kc:((cm:Int) !=(s:Int))=false:=by simp [k1]
        have ZO:decide ((cm:Int)=(s:Int))=true:=decide_eq_true (by omega)
        by_cases k2:0<n/\0<=Lib.compareBytes prev key
        ·have z:Hid (pread prev b p=⟨[],[],p,51⟩):=aa (by rw [xW.out];unfold bZ;rw [if_neg Ca.out,if_neg CF.out,if_neg ZJ.out,<-Kb.out,if_neg sO.out,if_pos (by rw [<-HN.out];exact k2)]);have b9:0<n:=k2.1;have bL:(0:Int)<(n:Int):=by omega
         obtain⟨ce,H⟩:=gF (Lib.compareBytes prev key);have sN:=aa H;have bp:0<=ce:=by rw [H];exact k2.2
         clear k2 H k1;go_wp2_with (first|(go_at_call 112;go_loud (refine Mv.mono ?_);rintro e w5 ⟨rfl,q5,Z⟩;have G:Hid (ag Nil L w5):=aa (by rw [Z];exact(ag.refl Nil L).drewN _);clear Z)|(go_at_call 68;go_loud (refine(dC c kc (Af.chg G (fun _ _ h=>h)) HN (rH.chg G (fun _ _ h=>h)) SA (by omega)).mono ?_);rintro e r ⟨rfl,q6,iO⟩;have C:Hid (ag Nil L r):=aa (by rw [iO];exact G.drewN _);clear iO;rw [<-sN.out];have f:r.cell? q=some (.slice none 0 0):=(mo.out.chg C (fun h=>h)).cell 0;have g:r.cell? ⟨q,1,none⟩=some (.slice none 0 0):=(mo.out.chg C (fun h=>h)).cell 1;have IJ:=(mo.out.chg C (fun h=>h)).frozen 0;have xP:=(mo.out.chg C (fun h=>h)).frozen 1));refine bodyPost_ret (v:= .tuple #[.agg #[(),()],(p:Int),.int .i64 51]) (by simp [results,results151,go_sem,f,g]) rfl ?_;rw [M.out]
         exact M8 51 _ (by decide) z (((C.mono (T:=fun b=>b=q) (fun _ _ h=>h.elim)).setCell (p:=q) (fun _=>rfl) _).setCell (p:=⟨q,1,none⟩) (fun _=>rfl) _)
        ·have z:Hid (bZ prev b p s mm l P=⟨key,(b.drop (P+mm)).take l,P+mm+l,0⟩):=aa (by unfold bZ;rw [if_neg Ca.out,if_neg CF.out,if_neg ZJ.out,<-Kb.out,if_neg sO.out,if_neg (by rw [<-HN.out];exact k2)]);obtain⟨A4,ao,ab⟩:=Ke (p:=P+mm) (q:=P+mm+l) ZN (by omega) bm y;rw [show P+mm+l-(P+mm)=l by omega] at ao ab;have bP:∀w',(Instr.slice 24 (.slice B m d) (some (.int .i64 ((P:Int)+(mm:Int)))) (some (.int .i64 ((P:Int)+(mm:Int)+(l:Int)))) none).run prog w'= .ok (.slice A4 l (d-(P+mm))) w':=fun w'=>by have:=ao w';simpa only [Int.natCast_add] using this
         have ac:=aa ab;have Au:Hid (l=((b.drop (P+mm)).take l).length):=aa (by have:=ab.1;rw [dO] at this;omega);obtain⟨xv,a7⟩:=gF ((b.drop (P+mm)).take l);rw [<-a7] at ac z Au;clear ao ab a7
         by_cases n0:0<n
         ·have bx:(0:Int)<(n:Int):=by omega
          obtain⟨ce,H⟩:=gF (Lib.compareBytes prev key);have sN:=aa H;have bp:¬0<=ce:=by rw [H];exact fun h=>k2 ⟨n0,h⟩
          clear k2 H k1;go_upto_region 25 with(first|(go_at_call 112;go_loud (refine Mv.mono ?_);rintro e w5 ⟨rfl,q5,Z⟩;have G:Hid (ag Nil L w5):=aa (by rw [Z];exact(ag.refl Nil L).drewN _);clear Z)|(go_at_call 68;go_loud (refine(dC c kc (Af.chg G (fun _ _ h=>h)) HN (rH.chg G (fun _ _ h=>h)) SA (by omega)).mono ?_);rintro e r ⟨rfl,q6,iO⟩;have C:Hid (ag Nil L r):=aa (by rw [iO];exact G.drewN _);clear iO;rw [<-sN.out]))
          have ad:Hid (Rd r F 1 A4 l (aI xv)):=aa (ac.chg C (fun _ _ h=>h));have vI:Hid (ak r q 69 #[(),()]):=aa (mo.chg C (fun h=>h));have QS:Hid (Rd r (From w1) 1 K kn (aI key)):=aa (rH.chg C (fun _ _ h=>h));have MC:Hid (Below w1 w1 r):=aa (dE.out.trans (C.below_of dE.size (fun _ _ h=>h)));clear ap Kc ZO;go_wp2_with (at_builtin;go_loud (refine af _ rfl (.tmp 136) (.tmp 146) _ rfl r 5 i0 _ 1 1 underlying24 aw a8 a9 ba rfl (by omega) (.slice (some ⟨r,0,none⟩) 0 0) 0 [] rfl (gq r _ 1) F A4 l (d-(P+mm)) (aI xv) rfl (ad.alloc _) (bJ _) (by simp only [maxLen];omega) (by omega) (by simp) ?_);intro vv x nQ PX AM;have nW:Hid (Ow x r vv xv):=aa (by unfold Ow;rw [<-Au.out];simpa using nQ);have xA:Below r r x:=gV.grown PX (by simp) (fun k hk=>by simp [Value.ownBlock] at hk;omega);have iF:=aa xA;have O:ak x q 69 #[(),()]:=vI.out.below xA;have oq:=aa O;have f:x.cell? q=some (.slice none 0 0):=O.cell 0;have g:x.cell? ⟨q,1,none⟩=some (.slice none 0 0):=O.cell 1;have IJ:=O.frozen 0;have xP:=O.frozen 1;clear nQ PX AM xA O;obtain⟨V,vn,vc,rfl,o1,o2,o3,o4⟩:=nW.out.sb;clear o1 o2 o3 o4);refine bodyPost_ret (v:= .tuple #[.agg #[.slice K kn kc,.slice V vn vc],.int .i64 ((P:Int)+(mm:Int)+(l:Int)),.int .i64 0]) (by simp [results,results151,go_sem,f,g]) rfl ?_;rw [M.out];unfold iw;rw [xW.out,z.out];have I:ag (fun b=>b=q) x ((x.setCell q (.slice K kn kc)).setCell ⟨q,1,none⟩ (.slice V vn vc)):=((ag.refl (fun b=>b=q) x).setCell (p:=q) (fun _=>rfl) _).setCell (p:=⟨q,1,none⟩) (fun _=>rfl) _;have Y:Below w w x:=(t.out.trans (MC.mono t.size)).trans (iF.mono (by have D:=t.out.size;have Q:=MC.out.size;omega));have EQ:q<w1:=E.out.lt
          refine⟨K,kn,kc,V,vn,vc,by simp only [Int.natCast_add],fun _=>⟨?_,?_⟩,Y.trans (I.below_of Y.size (fun b i e=>by have:=HQ.out;have e:b=q:=e;omega))⟩
          ·have D:SB x (fun b=>q<b) (.slice K kn kc) key:=(SB.mk PU.1 PU.2 SA (QS.below iF)).weak (fun b i=>by have Q:w1<=b:=i;omega)
           exact(D.chg I (fun b i e=>by have i:q<b:=i;have e:b=q:=e;omega)).weak (fun b i=>by have i:q<b:=i;show w<=b;have:=HQ.out;omega)
          ·have D:SB x (fun b=>q<b) (.slice V vn vc) xv:=nW.out.sb.weak (fun b i=>by have Q:r<=b:=i;have h3:=MC.out.size;omega)
           exact(D.chg I (fun b i e=>by have i:q<b:=i;have e:b=q:=e;omega)).weak (fun b i=>by have i:q<b:=i;show w<=b;have:=HQ.out;omega)
         ·have bx:¬((0:Int)<(n:Int)):=by omega
          clear k2 k1;go_upto_region 25 with(go_at_call 112;go_loud (refine Mv.mono ?_);rintro e w5 ⟨rfl,q5,Z⟩;have G:Hid (ag Nil L w5):=aa (by rw [Z];exact(ag.refl Nil L).drewN _);clear Z)
          have C:=G;obtain⟨r,iO⟩:=gF w5;rw [<-iO] at C|-;clear iO;have ad:Hid (Rd r F 1 A4 l (aI xv)):=aa (ac.chg C (fun _ _ h=>h));have vI:Hid (ak r q 69 #[(),()]):=aa (mo.chg C (fun h=>h));have QS:Hid (Rd r (From w1) 1 K kn (aI key)):=aa (rH.chg C (fun _ _ h=>h));have MC:Hid (Below w1 w1 r):=aa (dE.out.trans (C.below_of dE.size (fun _ _ h=>h)));clear ap Kc ZO;go_wp2_with (at_builtin;go_loud (refine af _ rfl (.tmp 136) (.tmp 146) _ rfl r 5 i0 _ 1 1 underlying24 aw a8 a9 ba rfl (by omega) (.slice (some ⟨r,0,none⟩) 0 0) 0 [] rfl (gq r _ 1) F A4 l (d-(P+mm)) (aI xv) rfl (ad.alloc _) (bJ _) (by simp only [maxLen];omega) (by omega) (by simp) ?_);intro vv x nQ PX AM;have nW:Hid (Ow x r vv xv):=aa (by unfold Ow;rw [<-Au.out];simpa using nQ);have xA:Below r r x:=gV.grown PX (by simp) (fun k hk=>by simp [Value.ownBlock] at hk;omega);have iF:=aa xA;have O:ak x q 69 #[(),()]:=vI.out.below xA;have oq:=aa O;have f:x.cell? q=some (.slice none 0 0):=O.cell 0;have g:x.cell? ⟨q,1,none⟩=some (.slice none 0 0):=O.cell 1;have IJ:=O.frozen 0;have xP:=O.frozen 1;clear nQ PX AM xA O;obtain⟨V,vn,vc,rfl,o1,o2,o3,o4⟩:=nW.out.sb;clear o1 o2 o3 o4);refine bodyPost_ret (v:= .tuple #[.agg #[.slice K kn kc,.slice V vn vc],.int .i64 ((P:Int)+(mm:Int)+(l:Int)),.int .i64 0]) (by simp [results,results151,go_sem,f,g]) rfl ?_;rw [M.out];unfold iw;rw [xW.out,z.out];have I:ag (fun b=>b=q) x ((x.setCell q (.slice K kn kc)).setCell ⟨q,1,none⟩ (.slice V vn vc)):=((ag.refl (fun b=>b=q) x).setCell (p:=q) (fun _=>rfl) _).setCell (p:=⟨q,1,none⟩) (fun _=>rfl) _;have Y:Below w w x:=(t.out.trans (MC.mono t.size)).trans (iF.mono (by have D:=t.out.size;have Q:=MC.out.size;omega));have EQ:q<w1:=E.out.lt
          refine⟨K,kn,kc,V,vn,vc,by simp only [Int.natCast_add],fun _=>⟨?_,?_⟩,Y.trans (I.below_of Y.size (fun b i e=>by have:=HQ.out;have e:b=q:=e;omega))⟩
          ·have D:SB x (fun b=>q<b) (.slice K kn kc) key:=(SB.mk PU.1 PU.2 SA (QS.below iF)).weak (fun b i=>by have Q:w1<=b:=i;omega)
           exact(D.chg I (fun b i e=>by have i:q<b:=i;have e:b=q:=e;omega)).weak (fun b i=>by have i:q<b:=i;show w<=b;have:=HQ.out;omega)
          ·have D:SB x (fun b=>q<b) (.slice V vn vc) xv:=nW.out.sb.weak (fun b i=>by have Q:r<=b:=i;have h3:=MC.out.size;omega)
           exact(D.chg I (fun b i e=>by have i:q<b:=i;have e:b=q:=e;omega)).weak (fun b i=>by have i:q<b:=i;show w<=b;have:=HQ.out;omega)
       ·have z:Hid (pread prev b p=⟨[],[],p,52⟩):=aa (by rw [xW.out];unfold bZ;rw [if_neg Ca.out,if_neg CF.out,if_neg ZJ.out,<-Kb.out,if_pos (by rw [<-SC.out];exact k1)]);have ap:((cm:Int)==(s:Int))=false:=by rw [mi];omega
        have Kc:((cm:Int) !=(s:Int))=true:=by simp;omega
        have ZO:decide ((cm:Int)=(s:Int))=false:=decide_eq_false (by omega);go_wp2_with (go_at_call 112;go_loud (refine Mv.mono ?_);rintro e w5 ⟨rfl,q5,Z⟩;have G:Hid (ag Nil L w5):=aa (by rw [Z];exact(ag.refl Nil L).drewN _);clear Z;have f:w5.cell? q=some (.slice none 0 0):=(mo.out.chg G (fun h=>h)).cell 0;have g:w5.cell? ⟨q,1,none⟩=some (.slice none 0 0):=(mo.out.chg G (fun h=>h)).cell 1;have IJ:=(mo.out.chg G (fun h=>h)).frozen 0;have xP:=(mo.out.chg G (fun h=>h)).frozen 1);refine bodyPost_ret (v:= .tuple #[.agg #[(),()],(p:Int),.int .i64 52]) (by simp [results,results151,go_sem,f,g]) rfl ?_;rw [M.out]
        exact M8 52 _ (by decide) z (((G.mono (T:=fun b=>b=q) (fun _ _ h=>h.elim)).setCell (p:=q) (fun _=>rfl) _).setCell (p:=⟨q,1,none⟩) (fun _=>rfl) _)
   ·obtain⟨u,rfl⟩:=gF x2;obtain⟨J,rfl⟩:=gF P;have iq:=aa Q;have z:Hid (pread prev b p=⟨[],[],J,u⟩):=aa (by rw [N.out,if_neg (fun h=>h rfl),if_neg (fun h=>h rfl),if_pos Q]);have b8:(u==0)=false:=by rw [mi];exact Q
    go_wp2_with (go_at_call 149;go_loud (refine Tt.mono ?_);rintro e w2 ⟨rfl,rfl⟩)
    refine bodyPost_ret (v:= .tuple #[.agg #[(),()],(J:Int),(u:Int)]) (by simp [results,results151,go_sem,f,g]) rfl ?_;rw [M.out]
    exact CE.out J u iq z _ jo
  ·obtain⟨u,rfl⟩:=gF x1;obtain⟨J,rfl⟩:=gF p2;have iq:=aa D;have z:Hid (pread prev b p=⟨[],[],J,u⟩):=aa (by rw [N.out,if_neg (fun h=>h rfl),if_pos D]);have b7:(u==0)=false:=by rw [mi];exact D
   go_wp2_with (go_at_call 149;go_loud (refine au.mono ?_);rintro e w2 ⟨rfl,rfl⟩)
   refine bodyPost_ret (v:= .tuple #[.agg #[(),()],(J:Int),(u:Int)]) (by simp [results,results151,go_sem,f,g]) rfl ?_;rw [M.out]
   exact CE.out J u iq z _ jo
 ·obtain⟨u,rfl⟩:=gF x0;obtain⟨J,rfl⟩:=gF p1;have iq:=aa h0;have z:Hid (pread prev b p=⟨[],[],J,u⟩):=aa (by rw [N.out,if_pos h0]);have b6:(u==0)=false:=by rw [mi];exact h0
  go_wp2_with (go_at_call 149;go_loud (refine ar.mono ?_);rintro e w2 ⟨rfl,rfl⟩)
  refine bodyPost_ret (v:= .tuple #[.agg #[(),()],(J:Int),(u:Int)]) (by simp [results,results151,go_sem,f,g]) rfl ?_;rw [M.out];exact CE.out J u iq z _ jo
end Go.Proofs.YtepgcjbhabnciaaGreat
