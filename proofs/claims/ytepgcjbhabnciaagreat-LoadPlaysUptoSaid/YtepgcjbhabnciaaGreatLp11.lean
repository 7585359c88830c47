/- Part 11. -/
import Derived.Test.YtepgcjbhabnciaaGreatLp10
import Derived.Deep.OwnRows
namespace Go.Proofs.YtepgcjbhabnciaaGreat
set_option maxRecDepth 100000
set_option maxHeartbeats 8000000
open Go.Proofs.Tryz Go.RowKit
variable {n k c base bn bc p:Nat} {q w w' w2 m:World} {v rv u:Value} {t b:List UInt8} {A bA:Option Addr} {F:Nat->Prop} {ts:List (List UInt8)}
theorem yt (b:List UInt8):∀(d:List UInt8) (p k:Nat),(∀j,j<k->b[p+j]? =d[j]?)->k<d.length->b[p+k]?≠d[k]? ->stand b d p=k
 | [],p,k,_,e,_=>by simp at e
 |c::r,p,0,_,_,a=>by
  unfold stand
  rw [if_neg (by simpa using a)]
 |c::r,p,k+1,h,e,a=>by
  have f:=h 0 (by omega);unfold stand;rw [if_pos (by simpa using f)];have:=yt b r (p+1) k (fun j g=>by have:=h (j+1) (by omega);simpa [Nat.add_assoc,Nat.add_comm 1 j] using this) (by simpa using e) (by simpa [Nat.add_assoc,Nat.add_comm 1 k] using a);omega
theorem vH (b:List UInt8):∀(a:List UInt8) (p:Nat),(∀j,j<a.length->b[p+j]? =a[j]?)->stand b a p=a.length
 | [],p,_=>rfl
 |c::r,p,h=>by
  have d:=h 0 (by simp);unfold stand;rw [if_pos (by simpa using d),List.length_cons];have:=vH b r (p+1) (fun j e=>by have:=h (j+1) (by simp;omega);simpa [Nat.add_assoc,Nat.add_comm 1 j] using this);omega
theorem FH (l:List Nat):(l.flatMap two).length=2*l.length:=by
 induction l with
 |nil=>rfl
 |cons a r b=>rw [List.flatMap_cons,mq,b,List.length_cons];simp [two];omega
theorem Dn:∀(l:List Nat) (i k:Nat) (a:Nat),l[i]? =some a->k<2->(l.flatMap two)[2*i+k]? =(two a)[k]?
 | [],i,k,a,h,_=>by simp at h
 |x::r,0,k,a,h,b=>by
  have h:x=a:=by simpa using h
  subst h;rw [List.flatMap_cons,qK (by simp [two];omega)]
  simp
 |x::r,i+1,k,a,h,b=>by
  have:=Dn r i k a (by simpa using h) b;rw [List.flatMap_cons,q9 (by simp [two];omega)];rw [<-this];congr 1;simp [two];omega
structure tT (q:Nat) (b ws:List UInt8) (p:Nat) (w:World) (e:Ending) (w':World):Prop where
 chg:ag (fun g=>g=q) w w'
 bad:stand b ws p<ws.length->e= .panicked (gI 62 (p+stand b ws p))
 rest:stand b ws p=ws.length->p+ws.length<b.length->e= .panicked (gI 63 (p+ws.length))
 ok:stand b ws p=ws.length->¬p+ws.length<b.length->e= .returned (.tuple #[])
theorem Qp {q:Nat} {l:List aR} {ats:List Nat} {lv:Value} (h:BR w base q bA bn bc n l ats p lv rv) (hb:Rd w F 1 bA bn (aI b)) (N:bn=b.length) (B:∀g,F g->g<base) (K:base<=q) (G:p<=bn) (hm:bn<=1152921504606) (hr:(eighth ats).length<=64) (al:∀a∈ats,a<=1152921504606):
  Calls prog 175 #[q] w (tT q b ((eighth ats).flatMap two) p w):=by
 refine letter fun R T=> ?_;obtain⟨Z,r⟩:=gF (eighth ats);have bk:=aa r;have M:∀a∈Z,a<=1152921504606:=fun a V=>al a (Jc _ ats jO a (r▸V));have aw:=aa M;rw [<-r] at hr T;obtain⟨s,v⟩:=gF Z.length;have aA:=aa v;have bm:s<=64:=by omega
 obtain⟨Y,rc,a8⟩:∃Y rc,rv= .slice Y s rc:=by obtain⟨A,c,e,_,_⟩:=ax h.own;exact⟨A,c,by rw [e,<-r,v]⟩
 subst a8;obtain⟨m,E⟩:=gF (Z.flatMap two);have aE:=aa E;have FI:Hid (m.length=2*s):=aa (by rw [E,FH,v]);rw [<-E] at T
 have HO:Hid (Rd w (fun g=>(Value.slice Y s rc).ownBlock=some g) 1 Y s (o7 Z)):=aa (by
  have t:=h.own;rw [<-r] at t;refine⟨by simp [o7,v],fun h0=> ?_⟩;obtain⟨g,cap,hv,_,_⟩:=t.form (by omega);injection hv with be bF bG
  subst be;exact⟨g,0,rfl,rfl,fun j u W=>by have:=t.cells (g:=g) rfl j u W;rw [jr] at this;exact this⟩)
 have z5:w.cell? ⟨q,5,none⟩=some (.slice Y s rc):=h.blk.cell 5;have HH:=aa h;have jm:=aa hb;have lD:=aa N;have HF:=aa B;clear h hb N B r hr v E al M;go_enter func175,ntmps175;go_wp2;obtain⟨J,ad⟩:=gF (Value.int .i64 l.length)
 obtain⟨L,ae⟩:=gF (Value.slice Y s rc);have aq:Hid (ak w q 295 #[.slice bA bn bc,(n:Int),J,(p:Int),lv,L]):=aa (by rw [ad,ae];exact HH.blk);clear ad ae z5
 go_loopw [11] (fun iv wz=>∃i:Nat,i<=s/\iv= (i:Int)/\Hid (ak wz q 295 #[.slice bA bn bc,(n:Int),J,.int .i64 (p+2*i:Nat),lv,L])/\Hid (ag (fun g=>g=q) w wz)/\Hid (∀j,j<2*i->b[p+j]? =m[j]?)/\Hid (p+2*i<=bn)) (fun iv _=>s-(intOf iv).toNat)
 case atStart=>exact⟨0,Nat.zero_le _,rfl,aq,aa (ag.refl _ _),aa (fun j W=>absurd W (by omega)),aa G⟩
 case round=>
  obtain⟨i,hi,rfl,yu,M9,ac,ab⟩:=hrel
  by_cases O:i<s
  ·obtain⟨a,V⟩:∃a,Z[i]? =some a:=⟨_,mP (by rw [<-aA.out];exact O)⟩;have bx:a<=1152921504606:=aw.out a (nT V);have HA:=aa V;obtain⟨g,o,u,rfl,a3,X,d⟩:=HO.out.at_ O
   have ba:u= (a:Int):=by
    simp only [o7,List.getElem?_map,V,Option.map_some,Option.some.injEq] at X;exact X.symm
   subst ba;have a4:g≠q:=fun e=>HH.ne (by rw [a3,e]);have z9:wr.cell? ⟨g,o+i,none⟩=some (.int .i64 a):=M9.out.cell a4 d;clear X d V;go_wp2;obtain⟨gb,C⟩:=gF wr.heap.size;have e0:Value.int IntKind.u8 ((a:Int)%256)=bv (UInt8.ofNat a):=by unfold bv;rw [UInt8.toNat_ofNat'];rfl
   have e1:Value.int IntKind.u8 ((a:Int)/256%256)=bv (UInt8.ofNat (a/256)):=by unfold bv;rw [UInt8.toNat_ofNat'];rfl
   rw [e0,e1];obtain⟨w1,D⟩:=gF (wr.alloc (.cells #[bv (UInt8.ofNat a),bv (UInt8.ofNat (a/256))] 5));simp only [<-D,<-C];have au:Hid (ak w1 gb 5 #[bv (UInt8.ofNat a),bv (UInt8.ofNat (a/256))]):=aa (by rw [D,C];exact ak.new _ _ _);have kV:Hid (Below wr wr w1):=aa (by rw [D];exact gV);have Ua:=aa C;have bo:=yu.out.lt;have ar:Hid (ak w1 q 295 #[.slice bA bn bc,(n:Int),J,.int .i64 (p+2*i:Nat),lv,L]):=aa (yu.below kV);have a0:Hid (ag (fun g=>g=q) w w1):=aa (M9.then kV)
   have qP:Hid (∀k,k<2->∃x:UInt8,m[2*i+k]? =some x/\(#[bv (UInt8.ofNat a),bv (UInt8.ofNat (a/256))]:Array Value)[k]? =some (bv x)):=aa (fun k hk=>by
    have t:=Dn Z i k a HA hk;rw [aE.out,t]
    match k,hk with
    |0,_=>exact⟨_,rfl,rfl⟩
    |1,_=>exact⟨_,rfl,rfl⟩)
   clear D C e0 e1 z9
   go_loopw [22] (fun kv wz=>∃k:Nat,k<=2/\kv= (k:Int)/\Hid (ak wz q 295 #[.slice bA bn bc,(n:Int),J,.int .i64 (p+(2*i+k):Nat),lv,L])/\Hid (ag (fun g=>g=q) w1 wz)/\Hid (∀j,j<2*i+k->b[p+j]? =m[j]?)/\Hid (p+(2*i+k)<=bn)) (fun kv _=>2-(intOf kv).toNat)
   case atStart=>exact⟨0,by omega,rfl,ar,aa (ag.refl _ _),ac,ab⟩
   case round=>
    obtain⟨k,hk,rfl,I,YR,YS,PI⟩:=hrel;have jo:Hid (ag (fun g=>g=q) w wr):=aa (a0.out.trans YR (fun _ _ h=>h));obtain⟨P,U⟩:=gF (p+(2*i+k));have z:=aa U;rw [<-U] at I PI;have bE:P<=bn:=PI.out;clear U
    by_cases a7:k<2
    ·obtain⟨x,ao,ap⟩:=qP.out k a7;have LD:=aa ao;have zt:wr.cell? ⟨gb,k,none⟩=some (.int .u8 x.toNat):=((au.chg YR (fun e=>by have t:=Ua.out;have e:gb=q:=e;omega)).cell k).trans ap;have YT:(k:Int)<2:=by omega
     have an:2*i+k<m.length:=by have:=FI.out;omega
     have Qq:=aa an;have vk:Hid (Rd wr F 1 bA bn (aI b)):=aa (jm.chg jo (fun g hg e=>by have t:=HF.out g hg;have e:g=q:=e;omega));clear ao ap an;have z0:wr.cell? q=some (.slice bA bn bc):=I.out.cell 0;have z3:wr.cell? ⟨q,3,none⟩=some (.int .i64 P):=I.out.cell 3;have Qr:Hid (b[p+(2*i+k)]?≠m[2*i+k]? ->stand b m p=2*i+k):=aa (fun Q=>yt b m p _ YS Qq Q)
     by_cases am:P=bn
     ·have hd:decide ((P:Int)=(bn:Int))=true:=decide_eq_true (by omega);have a2:((P:Int)==(bn:Int))=true:=by rw [beq_iff_eq];omega
      have f:Hid (stand b m p=2*i+k):=aa (Qr.out (by rw [LD.out,<-z.out,List.getElem?_eq_none (by have:=lD.out;omega)];simp));clear am;go_upto_region 6 with fail
      go_quiet (fail);have S:(wr.drewN nq).cell? ⟨q,3,none⟩=some (.int .i64 P):=I.out.cell 3;go_wp2;refine⟨rfl,?_⟩;rw [T.out]
      refine⟨jo.drewN _,fun _=> ?_,fun h=> ?_,fun h=> ?_⟩
      ·rw [f.out,<-z.out];rfl
      ·rw [f.out] at h;exact absurd h (by have:=Qq.out;omega)
      ·rw [f.out] at h;exact absurd h (by have:=Qq.out;omega)
     ·have hd:decide ((P:Int)=(bn:Int))=false:=decide_eq_false (by omega);have a2:((P:Int)==(bn:Int))=false:=by rw [mi];omega
      have a1:P<bn:=by omega
      have bp:(P:Int)<(bn:Int):=by omega
      obtain⟨b2,o2,u,rfl,_,X,d⟩:=vk.out.at_ a1;obtain⟨y,hy,rfl⟩:=eO X;unfold bv at d;have HY:=aa hy;clear X hy am
      by_cases H:y=x
      ·subst H;go_upto_region 6 with fail
       go_quiet (fail);have S:(wr.drewN nq).cell? ⟨q,3,none⟩=some (.int .i64 P):=I.out.cell 3;have UC:(wr.drewN nq).frozen? ⟨q,3,none⟩=false:=I.out.frozen 3;clear z0 z3 zt d;go_wp2
       go_roundw
       case rel=>
        have a9:=LD.out
        refine⟨k+1,by omega,by go_num,aa ?_,aa ?_,aa (fun j W=> ?_),aa (by have:=z.out;omega)⟩
        ·have t:=(ak.drewN I nq).set_ 3 (.int .i64 ((P:Int)+1));have h2:(p+(2*i+(k+1)):Nat)=P+1:=by have:=z.out;omega
         rw [h2]
         exact t
        ·exact(YR.drewN nq).setCell (p:=⟨q,3,none⟩) (fun _=>rfl) _
        ·rcases Nat.lt_or_ge j (2*i+k) with h|h
         ·exact YS j h
         ·have a6:j=2*i+k:=by omega
          subst a6
          rw [a9,<-z.out,HY.out]
       case measure=>simp [intOf];omega
      ·have Q:((y.toNat:Int)==(x.toNat:Int))=false:=by
        rw [mi];intro e;exact H (UInt8.toNat_inj.1 (by omega))
       have bj:((y.toNat:Int) !=(x.toNat:Int))=true:=by rw [bne,Q];rfl
       have f:Hid (stand b m p=2*i+k):=aa (Qr.out (by rw [LD.out,<-z.out,HY.out];intro e;exact H (Option.some.inj e)));clear H;go_upto_region 6 with fail
       go_quiet (fail);have S:(wr.drewN nq).cell? ⟨q,3,none⟩=some (.int .i64 P):=I.out.cell 3;go_wp2;refine⟨rfl,?_⟩;rw [T.out]
       refine⟨jo.drewN _,fun _=> ?_,fun h=> ?_,fun h=> ?_⟩
       ·rw [f.out,<-z.out];rfl
       ·rw [f.out] at h;exact absurd h (by have:=Qq.out;omega)
       ·rw [f.out] at h;exact absurd h (by have:=Qq.out;omega)
    ·have YT:¬((k:Int)<2):=by omega
     have YU:k=2:=by omega
     subst YU;go_wp2
     go_roundw
     case rel=>
      refine⟨i+1,by omega,by go_num,aa ?_,jo,aa (fun j W=>YS j (by omega)),aa (by have:=PI.out;have:=z.out;omega)⟩;have h2:p+2*(i+1)=P:=by have:=z.out;omega
      rw [h2]
      exact I
     case measure=>simp [intOf];omega
  ·have a5:i=s:=by omega
   have bh:¬((i:Int)<(s:Int)):=by omega
   have f:Hid (stand b m p=m.length):=aa (vH b m p (fun j W=>ac j (by have:=FI.out;omega)));have Na:Hid (p+m.length=p+2*i):=aa (by have:=FI.out;omega);obtain⟨P,U⟩:=gF (p+2*i);rw [<-U] at yu ab Na;have z0:wr.cell? q=some (.slice bA bn bc):=yu.out.cell 0;have z3:wr.cell? ⟨q,3,none⟩=some (.int .i64 P):=yu.out.cell 3;clear a5 U O;go_upto_region 11 with fail
   go_quiet (fail);have S:(wr.drewN nq).cell? ⟨q,3,none⟩=some (.int .i64 P):=yu.out.cell 3
   by_cases bz:P<bn
   ·have YV:(P:Int)<(bn:Int):=by omega
    have LP:Hid (p+m.length<b.length):=aa (by have t:=Na.out;have h2:=lD.out;omega);clear z0 z3;go_wp2;refine⟨rfl,?_⟩;rw [T.out]
    refine⟨M9.drewN _,fun h=> ?_,fun _ _=> ?_,fun _ h=> ?_⟩
    ·rw [f.out] at h;exact absurd h (by omega)
    ·rw [Na.out];rfl
    ·exact absurd LP h
   ·have YV:¬((P:Int)<(bn:Int)):=by omega
    have LP:Hid (¬p+m.length<b.length):=aa (by have t:=Na.out;have h2:=lD.out;omega);clear z0 z3;go_wp2;go_end0;rw [T.out]
    refine⟨M9.drewN _,fun h=> ?_,fun _ h=> ?_,fun _ _=>rfl⟩
    ·rw [f.out] at h;exact absurd h (by omega)
    ·exact absurd h LP
theorem gM:(prog.info? 24).map (fun i=>(i.zero,i.size,i.bytes))=some (some (.slice none 0 0),1,24):=by kernel_rfl
def TU (w:World) (ts:List (List UInt8)) (e:Ending) (w':World):Prop:=
 ∃A n c,e= .returned (.slice A n c)/\Tx w' (From w) A n c ts/\Below w w w'
def kN (q:World) (ts:List (List UInt8)) (n k:Nat) (w:World):Prop:=
 ∃cs:List Value,cs.length=n/\ak w q 24 cs.toArray/\∀(j:Nat) (t:List UInt8),j<k->ts[j]? =some t->∃v,cs[j]? =some v/\SB w (fG (From (q+1)) w) v t
theorem BJ (w:World) (ts:List (List UInt8)) (n:Nat):kN w ts n 0 (w.alloc (.cells (madeCells #[()] n) 24)):=by
 refine⟨(madeCells #[()] n).toList,by simp [size_madeCells],?_,fun j t a=>absurd a (by omega)⟩;simpa using ak.new w 24 (madeCells #[()] n)
theorem EK (h:kN q ts n k w) (i:Nat) (hi:i<n):(∃v,w.cell? ⟨q,i,none⟩=some v)/\w.frozen? ⟨q,i,none⟩=false:=by
 obtain⟨cs,hl,a,_⟩:=h;refine⟨⟨cs[i],?_⟩,a.frozen i⟩;rw [a.cell];simp [hl,hi]
theorem rz (h:kN q ts n k w) (o:Below w w w'):kN q ts n k w':=by
 obtain⟨cs,hl,e,g⟩:=h;exact⟨cs,hl,e.below o,fun j t d f=>let⟨v,a,b⟩:=g j t d f;⟨v,a,b.soft_chg (S:=Nil) (ag.of_below o) (fun _ _ c=>c)⟩⟩
theorem EL (h:kN q ts n k w) (o:k<n) (i:ts[k]? =some t) (hv:SB w (fG (From (q+1)) w) v t):
  kN q ts n (k+1) (w.setCell ⟨q,k,none⟩ v):=by
 obtain⟨cs,hl,g,l⟩:=h;have hc:ag (jX q) w (w.setCell ⟨q,k,none⟩ v):=ag.set1 w _ k v;have hn:∀b,From (q+1) b->¬jX q b:=fun b e f=>by have e:q+1<=b:=e;have f:b=q.heap.size:=f;omega
 refine⟨cs.set k v,by simp [hl],by simpa using g.set_ k v,fun j u m a=> ?_⟩
 rcases Nat.lt_or_ge j k with h|h
 ·obtain⟨x,c,d⟩:=l j u h a
  exact⟨x,by rw [List.getElem?_set_ne (by omega)];exact c,d.soft_chg hc hn⟩
 ·obtain rfl:j=k:=by omega
  rw [i] at a;injection a with a
  subst a;exact⟨v,by rw [List.getElem?_set_self (by omega)],hv.soft_chg hc hn⟩
theorem EM (h:kN q ts n n w) (hn:n=ts.length) (g:n<=maxLen):Dh w q w (some ⟨q,0,none⟩) n n ts:=by
 obtain⟨cs,hl,a,k⟩:=h;refine⟨jO,g,hn,rfl,a.lt,cs,⟨by simpa using hl,fun _=>⟨q,0,rfl,⟨rfl,a.soft⟩,fun j u f=>by rw [a.cell];simpa using f⟩⟩,fun i t c=> ?_⟩;have hi:i<ts.length:=(nE.1 c).1;obtain⟨v,d,e⟩:=k i t (by omega) c;exact⟨v,d,e.lt.weak (fun b a=>⟨⟨by have a:=a.1.1;simp only [From] at a;omega,a.2⟩,a.1.2⟩)⟩
def Pw (w:World) (ts:List (List UInt8)) (e:Ending) (w':World):Prop:=
 ∃A n c,e= .returned (.slice A n c)/\Dh w' w w' A n c ts/\Below w w w'
theorem Cw (h:Tx w F A n c ts) (K:n<=1152921504606) (x:∀t∈ts,t.length<=1152921504606):
  Calls prog 160 #[.slice A n c] w (Pw w ts):=by
 have D:=aa h;have E:=aa h.len;have G:=aa x;have L:=run_make_row' (P:=prog) 128 24 () 24 underlying128 gM rfl .i64 .i64 n (by omega) (by omega);clear h x;go_enter func160,ntmps160;go_wp2
 go_loopg [10] n (fun g i wr=>∃(k:Nat),g=n-k/\k<=n/\i= (k:Int)/\kN w ts n k wr/\Below w w wr)
 case atStart=>exact⟨0,by omega,by omega,rfl,BJ w ts n,gV⟩
 case round=>
  obtain⟨k,v,Y,rfl,s,d⟩:=hrel;have C:=aa v;have j:=aa s;clear v s
  by_cases f:k<n
  ·obtain⟨b,o,U,O,V,t,rfl,_,p,c1,W,X,q,r⟩:=D.out.at_ f;have d1:=aj d c1;have H:=aa p;have z:=aa r;have hz:w.heap.size<wr:=by obtain⟨cs,_,l,_⟩:=j.out;exact l.lt
   have m:O<=1152921504606:=by have:=q.out;have:=G.out t (nT p);omega
   clear c1 p r;go_wp2_with (go_at_call 24;refine(eG _ (z.below d) q.out m).mono ?_;rintro e w1 ⟨y,N,I,rfl,Q,R,S,T,a⟩;obtain⟨⟨u,Z⟩,J⟩:=EK (rz j a) k f;have M:=a.size)
   go_roundg (n-(k+1))
   case measure=>have:=C.out;omega
   case rel=>exact⟨k+1,rfl,by omega,by go_num,EL (rz j a) f H ⟨y,N,I,rfl,Q,R,S,T.weak (fG.weak (fun b l=>by simp only [From] at l|-;omega))⟩,(d.trans (a.mono (by omega))).setCell jO _⟩
  ·have B:=aa (EM (show kN w ts n n wr from(show k=n by omega)▸j.out) E (by simp only [maxLen];omega));go_wp2;go_ret;exact⟨_,_,_,rfl,B,d⟩
def IA (q:World) (ts:List (List UInt8)) (k:Nat) (v:Value) (w:World):Prop:=
 ∃cs:List Value,w.ownsRow q 24 1 v k cs/\∀(j:Nat) (t:List UInt8),j<k->ts[j]? =some t->∃u,cs[j]? =some u/\SB w (fun b=>q<=b/\v.ownBlock≠some b) u t
theorem Lr (w:World) (ts:List (List UInt8)):IA w ts 0 () w:=⟨[],World.ownsRow_nil _ _ _ _,fun j t a=>absurd a (by omega)⟩
theorem Ls (h:IA q ts k v w) (o:Below w w w'):IA q ts k v w':=by
 obtain⟨cs,d,f⟩:=h;exact⟨cs,own_below d o,fun j t c e=>let⟨u,a,b⟩:=f j t c e;⟨u,a,b.below o⟩⟩
theorem Px {l:Value} (h:IA q ts k v w) (C:ts[k]? =some t)
  (D:SB w (fun b=>q<=b/\v.ownBlock≠some b) u t) (r:Below w w w2) (_F:q.heap.size<=w2)
  {cs:List Value} (n:w.ownsRow q 24 1 v k cs)
  (A:m.ownsRow q 24 1 l (k+1) (cs++ [u])) (B:w2.grownBy m v.ownBlock) (a:l.ownBlock=v.ownBlock\/l.ownBlock=some w2)
  (d:∀(j:Nat) (t:List UInt8),j<k->ts[j]? =some t->∃u,cs[j]? =some u/\SB w (fun b=>q<=b/\v.ownBlock≠some b) u t):IA q ts (k+1) l m:=by
 have g:cs.length=k:=by have:=n.1;omega
 have hc:ag (fun b=>v.ownBlock=some b) w2 m:=(ag.refl _ _).grown B (fun b c _=>c)
 have conv:∀{x:Value} {s:List UInt8},SB w (fun b=>q<=b/\v.ownBlock≠some b) x s->SB m (fun b=>q<=b/\l.ownBlock≠some b) x s:=by
  intro x s E;have o:SB w (fun b=>(q<=b/\v.ownBlock≠some b)/\b<w) x s:=E.lt;have p:=(o.below r).chg hc (fun b c e=>c.1.2 e);refine p.weak (fun b c=>⟨c.1.1,fun e=> ?_⟩)
  rcases a with a|a
  ·rw [a] at e;exact c.1.2 e
  ·rw [a] at e;injection e with e;have:=r.size;omega
 refine⟨cs++ [u],A,fun j s G i=> ?_⟩
 rcases Nat.lt_or_ge j k with f|f
 ·obtain⟨x,y,z⟩:=d j s f i
  exact⟨x,by rw [qK (by omega)];exact y,conv z⟩
 ·obtain rfl:j=k:=by omega
  rw [C] at i;injection i with i
  subst i;exact⟨u,by rw [q9 (by omega)];simp [g],conv D⟩
theorem Py (h:IA q ts n v w) (hn:n=ts.length):∃A c,v= .slice A n c/\Tx w (From q) A n c ts:=by
 obtain⟨cs,a,l⟩:=h;obtain⟨A,c,rfl,g,j⟩:=ax a
 exact⟨A,c,rfl,g,j,hn,cs,Rd.of_own a,fun i t d=>by
  have hi:i<ts.length:=(nE.1 d).1;obtain⟨u,e,f⟩:=l i t (by omega) d;exact⟨u,e,f.weak (fun b k=>k.1)⟩⟩
theorem zi (h:Tx w F A n c ts) (K:n<=1152921504606) (Q:∀t∈ts,t.length<=1152921504606):
  Calls prog 155 #[.slice A n c] w (TU w ts):=by
 obtain⟨i0,E,iC,iD,iE⟩:=info_parts gM;have V:=aa h;have W:=aa h.len;have X:=aa Q;clear h Q;go_enter func155,ntmps155;go_wp2
 go_loopg [3,4] n (fun g vs i wr=>∃(k:Nat) (v:Value),g=n-k/\k<=n/\i= (k:Int)/\v=vs/\IA w ts k v wr/\Below w w wr)
 case atStart=>exact⟨0,_,by omega,by omega,rfl,rfl,Lr w ts,mh⟩
 case round=>
  obtain⟨k,v,P,hk,rfl,rfl,hf,f⟩:=hrel;have U:=aa P;obtain⟨cs,q,m⟩:=hf;have C:=aa m;have x:=aa q;clear P m q
  by_cases H:k<n
  ·obtain⟨b,o,Ak,nk,ck,t,rfl,_,z,c1,h1,h2,M,N⟩:=V.out.at_ H;have d1:=aj f c1;have Y:=aa z;have S:=aa N;have I:nk<=1152921504606:=by have:=M.out;have:=X.out t (nT z);omega
   clear c1 z N;have hz:=f.size;go_wp2_with (first|(go_at_call 154;refine(yz _ (S.below f) M.out I).mono ?_;rintro e w1 ⟨r,B,s,rfl,q1,q2,q3,q4,d⟩;have J:=d.size;have mD:=aa (own_below x d))|(at_builtin;go_loud (refine af _ rfl (.tmp 11) (.tmp 17) _ rfl w 24 i0 _ 1 24 underlying128 E iC iD iE rfl (by omega) v k cs rfl (mD.alloc _) (From w1) (some ⟨w1,0,none⟩) 1 1 [.slice r B s] rfl (Rd.one w1 _ _) (by intro u R;simp at R;subst R;rfl) (by simp only [maxLen];omega) (by omega) (by simp;omega) ?_);intro v2 w2 l y L));have Z:=aa l;have HY:=aa L;clear l L
   go_roundg (n-(k+1))
   case measure=>have:=U.out;omega
   case rel=>
    have D:Below wr wr (w1.alloc (.cells #[.slice r B s] 24)):=d.alloc J _;have p:=ah x
    refine⟨k+1,v2,rfl,by omega,by go_num,rfl,Px (w:=w1) (u:= .slice r B s) (Ls ⟨cs,x,C⟩ d) Y ?_ gV (by simp;omega) (own_below x d) Z y HY (fun j t G z=>let⟨u,a,b⟩:=C.out j t G z;⟨u,a,b.below d⟩),?_⟩
    ·exact⟨r,B,s,rfl,q1,q2,q3,q4.weak (fun b O=>by
      have O:wr<=b:=O.1
      exact⟨by omega,fun e=>by have:=(p b e).2;omega⟩)⟩
    ·exact(f.trans (D.mono hz)).grown y (by simp;omega) (fun j G=>(p j G).1)
  ·have T:=aa (Py (show IA w ts n v wr from(show k=n by omega)▸⟨cs,x,C⟩) W);go_wp2;go_ret;obtain⟨r,s,hv,hd⟩:=T.out;exact⟨r,n,s,by rw [hv];rfl,hd,f⟩
section
def dh (w:World) (F:Nat->Prop) (A:Option Addr) (n:Nat) (l:List aR):Prop:=
 Hid (n=l.length)/\∃vs,Rd w F 2 A n vs/\∀(i:Nat) (e:aR),l[i]? =some e->∃u v,vs[2*i]? =some u/\vs[2*i+1]? =some v/\SB w F u e.1/\SB w F v e.2
section
variable {S F G:Nat->Prop} {w w':World} {A:Option Addr} {n:Nat} {l:List aR}
theorem dh.len (h:dh w F A n l):n=l.length:=h.1
theorem dh.nil (w:World) (F:Nat->Prop) (A:Option Addr):dh w F A 0 []:=⟨rfl,[],Rd.none_ _ _ _ _,fun i e h=>by simp at h⟩
theorem dh.weak (h:dh w F A n l) (K:∀b,F b->G b):dh w G A n l:=
 let⟨f,vs,g,j⟩:=h;⟨f,vs,g.weak K,fun i e k=>let⟨u,v,a,b,c,d⟩:=j i e k;⟨u,v,a,b,c.weak K,d.weak K⟩⟩
theorem dh.chg (h:dh w F A n l) (hc:ag S w w') (Q:∀b,F b->¬S b):dh w' F A n l:=
 let⟨f,vs,g,j⟩:=h;⟨f,vs,g.chg hc Q,fun i e k=>let⟨u,v,a,b,c,d⟩:=j i e k;⟨u,v,a,b,c.chg hc Q,d.chg hc Q⟩⟩
theorem dh.below (h:dh w F A n l) (o:Below w w w'):dh w' F A n l:=h.chg (ag.of_below (S:=Nil) o) (fun _ _ a=>a)
theorem dh.at_ {k:Nat} (h:dh w F A n l) (y:k<n):∃b o g c e i d f key val,A=some ⟨b,o,none⟩/\F b/\l[k]? =some (key,val)/\
  w.cell? ⟨b,o+k*2,none⟩=some (.slice g c e)/\w.cell? ⟨b,o+k*2+1,none⟩=some (.slice i d f)/\
  c<=e/\e<=maxLen/\Hid (c=key.length)/\Rd w F 1 g c (aI key)/\d<=f/\f<=maxLen/\Hid (d=val.length)/\Rd w F 1 i d (aI val):=by
 obtain⟨r,vs,s,t⟩:=h;have hl:k<l.length:=by have:n=l.length:=r;omega
 obtain⟨b,o,u,v,hA,x,p,q,c1,m⟩:=s.at2 y;obtain⟨H,I,j,a,C,D⟩:=t k l[k] (mP hl);rw [p] at j;rw [q] at a;injection j with j;injection a with a;subst j;subst a;obtain⟨g,c,e,rfl,k1,k2,z,B⟩:=C;obtain⟨i,d,f,rfl,v1,v2,E,G⟩:=D;rw [Nat.mul_comm 2 k] at c1 m;rw [<-Nat.add_assoc] at m;exact⟨b,o,g,c,e,i,d,f,l[k].1,l[k].2,hA,x,mP hl,c1,m,k1,k2,z,B,v1,v2,E,G⟩
end
end
section
section
variable {S F G:Nat->Prop} {w w':World} {v:Value} {bs:List UInt8}
end
theorem kW:(prog.info? 69).map (fun i=>(i.zero,i.size,i.bytes))=some (some (.agg #[(),()]),2,48):=by kernel_rfl
section
variable {S F G:Nat->Prop} {w w':World} {k:Nat} {l:List aR} {xs:List Value}
end
end
section
abbrev aX:=Int×Nd
def gu (w:World) (C:Nat->Prop) (g:Nat) (s:aX):Prop:=
 ∃hA hn hc kA kn kc vA vn vc dA dn dc,ak w g 236 #[.int .u64 s.1,(s.2.lev:Int),.slice hA hn hc,(s.2.right:Int),.slice kA kn kc,.slice vA vn vc,.slice dA dn dc]/\
  Bt w C hA hn hc s.2.high/\Tx w C kA kn kc s.2.keys/\Tx w C vA vn vc s.2.vals/\It w C dA dn dc s.2.kids
def ptr (g:Nat):Value:= g
def Qh (p:Nat) (v:Value) (bs:List Nat):Nat->Prop:=fun b=>b=p\/v.ownBlock=some b\/b∈bs
structure og (w:World) (F:Nat->Prop) (p:Nat) (nodes:Int) (sl:List aX) (root:Int) (A:Option Addr) (n c:Nat) (bs:List Nat):Prop where
 len:Hid (n=sl.length)
 blen:Hid (bs.length=n)
 blk:ak w p 178 #[nodes,.slice A n c,root]
 row:w.ownsRow 0 232 1 (.slice A n c) n (bs.map ptr)
 fp:F p
 frow:∀b,(Value.slice A n c).ownBlock=some b->F b
 fbs:∀b∈bs,F b
 nodup:bs.Nodup
 slot:∀(i g:Nat) (s:aX),bs[i]? =some g->sl[i]? =some s->gu w (fun b=>F b/\¬Qh p (.slice A n c) bs b) g s
def gL (w:World) (F:Nat->Prop) (p:Nat) (nodes:Int) (sl:List aX) (root:Int):Prop:=∃A n c bs,og w F p nodes sl root A n c bs
section
variable {S F G C D:Nat->Prop} {w w':World} {p:Nat} {nodes root:Int} {sl:List aX} {A:Option Addr} {n c:Nat} {bs:List Nat}
theorem gu.weak {g:Nat} {s:aX} (h:gu w C g s) (a:∀b,C b->D b):gu w D g s:=by
 obtain⟨hA,hn,hc,kA,kn,kc,vA,vn,vc,dA,dn,dc,c,d,e,f,i⟩:=h;exact⟨hA,hn,hc,kA,kn,kc,vA,vn,vc,dA,dn,dc,c,d.weak a,e.weak a,f.weak a,i.weak a⟩
theorem gu.chg {g:Nat} {s:aX} (h:gu w C g s) (hc:ag S w w') (k:¬S g) (a:∀b,C b->¬S b):gu w' C g s:=by
 obtain⟨hA,hn,c,kA,kn,kc,vA,vn,vc,dA,dn,dc,d,e,f,i,j⟩:=h;exact⟨hA,hn,c,kA,kn,kc,vA,vn,vc,dA,dn,dc,d.chg hc k,e.chg hc a,f.chg hc a,i.chg hc a,j.chg hc a⟩
theorem Bt.lt {a:List UInt8} {m d:Nat} (h:Bt w C A m d a):Bt w (fun b=>C b/\b<w) A m d a:=⟨h.1,h.2.1,h.2.2.1,h.2.2.2.lt Nat.zero_lt_one⟩
theorem It.lt {ks:List Int} {m d:Nat} (h:It w C A m d ks):It w (fun b=>C b/\b<w) A m d ks:=⟨h.1,h.2.1,h.2.2.1,h.2.2.2.lt Nat.zero_lt_one⟩
theorem Tx.lt {ts:List (List UInt8)} {m d:Nat} (h:Tx w C A m d ts):Tx w (fun b=>C b/\b<w) A m d ts:=
 let⟨c,e,f,vs,g,j⟩:=h;⟨c,e,f,vs,g.lt Nat.zero_lt_one,fun i t k=>let⟨v,a,b⟩:=j i t k;⟨v,a,b.lt⟩⟩
theorem gu.lt {g:Nat} {s:aX} (h:gu w C g s):gu w (fun b=>C b/\b<w) g s:=by
 obtain⟨hA,hn,a,kA,kn,kc,vA,vn,vc,dA,dn,dc,c,d,e,f,i⟩:=h;exact⟨hA,hn,a,kA,kn,kc,vA,vn,vc,dA,dn,dc,c,d.lt,e.lt,f.lt,i.lt⟩
theorem og.weak (h:og w F p nodes sl root A n c bs) (K:∀_b,F _b->G _b):og w G p nodes sl root A n c bs:=
 ⟨h.len,h.blen,h.blk,h.row,K _ h.fp,fun _b a=>K _ (h.frow _b a),fun _b a=>K _ (h.fbs _b a),h.nodup,fun i g s d e=>(h.slot i g s d e).weak (fun _b a=>⟨K _ a.1,a.2⟩)⟩
theorem gL.weak (h:gL w F p nodes sl root) (K:∀b,F b->G b):gL w G p nodes sl root:=let⟨A,n,c,bs,h⟩:=h;⟨A,n,c,bs,h.weak K⟩
theorem og.chg (h:og w F p nodes sl root A n c bs) (hc:ag S w w') (Q:∀_b,F _b->¬S _b):og w' F p nodes sl root A n c bs:=
 ⟨h.len,h.blen,h.blk.chg hc (Q _ h.fp),aB h.row hc (fun g a=>Q _ (h.frow g a)),h.fp,h.frow,h.fbs,h.nodup,fun i g s a d=>(h.slot i g s a d).chg hc (Q _ (h.fbs g (nT a))) (fun _b e=>Q _ e.1)⟩
theorem gL.chg (h:gL w F p nodes sl root) (hc:ag S w w') (Q:∀b,F b->¬S b):gL w' F p nodes sl root:=let⟨A,n,c,bs,h⟩:=h;⟨A,n,c,bs,h.chg hc Q⟩
theorem gL.below (h:gL w F p nodes sl root) (o:Below w w w'):gL w' F p nodes sl root:=h.chg (ag.of_below (S:=Nil) o) (fun _ _ a=>a)
theorem og.below (h:og w F p nodes sl root A n c bs) (o:Below w w w'):og w' F p nodes sl root A n c bs:=h.chg (ag.of_below (S:=Nil) o) (fun _ _ a=>a)
theorem og.cells (h:og w F p nodes sl root A n c bs):w.cell? p=some (.int .i64 nodes)/\w.cell? ⟨p,1,none⟩=some (.slice A n c)/\w.cell? ⟨p,2,none⟩=some (.int .i64 root)/\∀o,w.frozen? ⟨p,o,none⟩=false:=
 ⟨by rw [h.blk.cell];rfl,by rw [h.blk.cell];rfl,by rw [h.blk.cell];rfl,h.blk.frozen⟩
theorem og.at_ (h:og w F p nodes sl root A n c bs) {k:Nat} (a:k<n):∃r g,A=some ⟨r,0,none⟩/\bs[k]? =some g/\w.cell? ⟨r,k,none⟩=some (g:Value):=by
 have hl:k<bs.length:=by have:bs.length=n:=h.blen;omega
 obtain⟨r,cap,hv,_,_⟩:=h.row.form (by omega);have hA:A=some ⟨r,0,none⟩:=by injection hv
 subst hA;refine⟨r,bs[k],rfl,mP hl,?_⟩;have:=h.row.cells (g:=r) rfl k (ptr bs[k]) (by rw [List.getElem?_map,mP hl];rfl);rw [jr,Nat.zero_add] at this;exact this
end
theorem ak.ne_ {w:World} {g d:Nat} {t e:TypeId} {cs b:Array Value} (h:ak w g t cs) (a:ak w d e b) (c:t≠e):g≠d:=by
 rintro rfl;unfold ak at h a;rw [h] at a;injection a with a
 injection a with _ f
 exact c f
theorem fT {w:World} {base:Nat} {e t:TypeId} {size n g:Nat} {v:Value} {xs:List Value} {cs:Array Value} (h:w.ownsRow base e size v n xs) (d:ak w g t cs) (a:e≠t):v.ownBlock≠some g:=by
 rcases h.2 with⟨rfl,_⟩|⟨b,cap,cur,rfl,_,f,_⟩
 ·simp [Value.ownBlock]
 ·intro c;have:b=g:=by simpa [Value.ownBlock] using c
  subst this;exact ak.ne_ (t:=e) f d a rfl
section
variable {S F G C D:Nat->Prop} {w w':World} {p:Nat} {nodes root:Int} {sl:List aX} {A:Option Addr} {n c:Nat} {bs:List Nat}
theorem og.ne_p (h:og w F p nodes sl root A n c bs) {g:Nat} (b:g∈bs):g≠p:=by
 obtain⟨i,hi,rfl⟩:=List.mem_iff_getElem.1 b;have d:i<sl.length:=by have e:n=sl.length:=h.len;have f:bs.length=n:=h.blen;omega
 obtain⟨hA,hn,hc,kA,kn,kc,vA,vn,vc,dA,dn,dc,a,_⟩:=h.slot i bs[i] sl[i] (mP hi) (mP d);exact a.ne_ h.blk (by decide)
theorem og.ne_row (h:og w F p nodes sl root A n c bs) {g:Nat} (b:g∈bs):(Value.slice A n c).ownBlock≠some g:=by
 obtain⟨i,hi,rfl⟩:=List.mem_iff_getElem.1 b;have d:i<sl.length:=by have e:n=sl.length:=h.len;have f:bs.length=n:=h.blen;omega
 obtain⟨hA,hn,hc,kA,kn,kc,vA,vn,vc,dA,dn,dc,a,_⟩:=h.slot i bs[i] sl[i] (mP hi) (mP d);exact fT h.row a (by decide)
theorem og.row_p (h:og w F p nodes sl root A n c bs):(Value.slice A n c).ownBlock≠some p:=fT h.row h.blk (by decide)
theorem og.lt_bs (h:og w F p nodes sl root A n c bs) {g:Nat} (b:g∈bs):g<w:=by
 obtain⟨i,hi,rfl⟩:=List.mem_iff_getElem.1 b;have d:i<sl.length:=by have e:n=sl.length:=h.len;have f:bs.length=n:=h.blen;omega
 obtain⟨hA,hn,hc,kA,kn,kc,vA,vn,vc,dA,dn,dc,a,_⟩:=h.slot i bs[i] sl[i] (mP hi) (mP d);exact a.lt
theorem og.upd (h:og w F p nodes sl root A n c bs) {i g:Nat} {s:aX} (m:bs[i]? =some g) (hc:ag (jX g) w w') (K:∀b,F b->G b)
  (u:gu w' (fun b=>G b/\¬Qh p (.slice A n c) bs b) g s):og w' G p nodes (sl.set i s) root A n c bs:=by
 have k:g∈bs:=nT m;have o:i<sl.length:=by have r:n=sl.length:=h.len;have z:bs.length=n:=h.blen;have:=(nE.1 m).1;omega
 refine⟨by have r:n=sl.length:=h.len;show n=(sl.set i s).length;simp [r],h.blen,h.blk.chg hc (fun e=>h.ne_p k (show p=g from e).symm),aB h.row hc (fun b f e=>h.ne_row k (by rw [f];rw [show b=g from e])),K _ h.fp,fun b f=>K _ (h.frow b f),fun b f=>K _ (h.fbs b f),h.nodup,?_⟩;intro j t y a d
 by_cases l:i=j
 ·subst l;rw [m] at a;injection a with a
  subst a;rw [List.getElem?_set_self o] at d;injection d with d
  subst d
  exact u
 ·rw [List.getElem?_set_ne l] at d
  have q:t≠g:=by
   rintro rfl;have v:=(nE.1 m);have x:=(nE.1 a);exact l ((List.getElem_inj h.nodup).1 (v.2.trans x.2.symm))
  exact((h.slot j t y a d).chg hc (fun e=>q e) (fun b f e=>f.2 (.inr (.inr ((show b=g from e)▸k))))).weak (fun b f=>⟨K _ f.1,f.2⟩)
theorem og.setRoot (h:og w F p nodes sl root A n c bs) (r:Int):og (w.setCell ⟨p,2,none⟩ r) F p nodes sl r A n c bs:=by
 have hc:=ag.set1 w p 2 r;refine⟨h.len,h.blen,?_,aB h.row hc (fun b a e=>h.row_p (by rw [a];rw [show b=p from e])),h.fp,h.frow,h.fbs,h.nodup,fun i g s d f=>(h.slot i g s d f).chg hc (fun e=>h.ne_p (nT d) e) (fun b a e=>a.2 (.inl e))⟩;have:=h.blk.set_ 2 r;exact this
def wP (a:Int):Array Value:= #[.int .u64 a,.int .i64 0,(),.int .i64 0,(),(),()]
theorem Fz {w:World} {g:Nat} {a:Int} (C:Nat->Prop) (h:ak w g 236 (wP a)):gu w C g (a,Nd.zero):=
 ⟨none,0,0,none,0,0,none,0,0,none,0,0,h,Bt.nil _ _,Tx.nil _ _,Tx.nil _ _,It.nil _ _⟩
theorem og.push {w1 w2 r:World} (h:og w F p nodes sl root A n c bs) {g:Nat} (hg:g=w.heap.size) (t:Below w w w1) (k1:ak w1 g 236 (wP 1))
  {m:Option Addr} {o:Nat} (l:w2.ownsRow 0 232 1 (.slice m (n+1) o) (n+1) (bs.map ptr++ [ptr g])) (I:w1.grownBy w2 (Value.slice A n c).ownBlock)
  (u:(Value.slice m (n+1) o).ownBlock=(Value.slice A n c).ownBlock\/(Value.slice m (n+1) o).ownBlock=some w1)
  (T:r=w2.setCell ⟨p,1,none⟩ (.slice m (n+1) o)):
  og r (fun b=>F b\/w<=b) p nodes (sl++ [(1,Nd.zero)]) root m (n+1) o (bs++ [g])/\ag F w r:=by
 have Y:p<w:=h.blk.lt;have Z:=t.size;have X:g<w1:=k1.lt;have B:=own_below h.row t;have L:(Value.slice A n c).ownBlock≠some p:=h.row_p;have C:(Value.slice A n c).ownBlock≠some g:=fT B k1 (by decide);have s:ag (fun b=>(Value.slice A n c).ownBlock=some b) w1 w2:=(ag.refl _ _).grown I (fun b d _=>d);have y:ag (jX p) w2 r:=by subst T;exact ag.set1 w2 p 1 _
 have ab:=s.size;have x:ak w2 p 178 #[nodes,.slice A n c,root]:=(h.blk.below t).chg s L;have K:ak r p 178 #[nodes,.slice m (n+1) o,root]:=by subst T;exact x.set_ 1 _
 have M:(Value.slice m (n+1) o).ownBlock≠some p:=fT l x (by decide);have q:=aB l y (fun b d e=>M (by rw [d];rw [show b=p from e]));have Q:ak r g 236 (wP 1):=(k1.chg s C).chg y (fun e=>by have e:g=p:=e;omega);have G:ag F w r:=((ag.of_below (S:=F) t).trans s (fun b _ d=>h.frow b d)).trans y (fun b _ d=>by have d:b=p:=d;rw [d];exact h.fp)
 refine⟨⟨?_,?_,K,?_,.inl h.fp,?_,?_,?_,?_⟩,G⟩
 ·have D:n=sl.length:=h.len;show n+1=(sl++ [(1,Nd.zero)]).length
  simp [D]
 ·have E:bs.length=n:=h.blen;show(bs++ [g]).length=n+1
  simp [E]
 ·rw [List.map_append];exact q
 ·intro b d
  rcases u with e|e
  ·exact .inl (h.frow b (by rw [<-e];exact d))
  ·rw [e] at d;injection d with d;exact .inr (by omega)
 ·intro b d
  rcases List.mem_append.1 d with d|d
  ·exact .inl (h.fbs b d)
  ·have:b=g:=by simpa using d
   exact .inr (by omega)
 ·rw [List.nodup_append];refine⟨h.nodup,by simp,fun a W b d e=> ?_⟩;have d:b=g:=by simpa using d
  have:=h.lt_bs W
  omega
 ·intro i z R j k;have D:n=sl.length:=h.len;have E:bs.length=n:=h.blen
  rcases Nat.lt_or_ge i n with hi|hi
  ·rw [qK (by omega)] at j k;have v:z∈bs:=nT j;have hx:=(h.slot i z R j k).lt;have N:gu w1 (fun b=>(F b/\¬Qh p (.slice A n c) bs b)/\b<w) z R:=hx.chg (ag.of_below (S:=Nil) t) (fun H=>H) (fun _ _ H=>H);have O:=N.chg s (fun e=>h.ne_row v e) (fun b d e=>d.1.2 (.inr (.inl e)));have P:=O.chg y (fun e=>h.ne_p v e) (fun b d e=>d.1.2 (.inl e));refine P.weak (fun b d=>⟨.inl d.1.1,fun f=> ?_⟩)
   rcases f with f|f|f
   ·exact d.1.2 (.inl f)
   ·rcases u with e|e
    ·exact d.1.2 (.inr (.inl (by rw [<-e];exact f)))
    ·rw [e] at f;injection f with f;omega
   ·rcases List.mem_append.1 f with f|f
    ·exact d.1.2 (.inr (.inr f))
    ·have:b=g:=by simpa using f
     omega
  ·have J:i=n:=by
    have:=(nE.1 j).1;simp at this;omega
   subst J;rw [q9 (by omega)] at j k;have U:z=g:=by simpa [E] using j.symm
   have V:R=(1,Nd.zero):=by simpa [<-D] using k.symm
   subst U;subst V;exact Fz _ Q
end
theorem og.mut_lt {F:Nat->Prop} {w:World} {p:Nat} {nodes root:Int} {sl:List aX} {A:Option Addr} {n c:Nat} {bs:List Nat} (h:og w F p nodes sl root A n c bs) {b:Nat} (a:w<=b):¬Qh p (.slice A n c) bs b:=by
 rintro(e|e|e)
 ·have:=h.blk.lt;omega
 ·have:=(ah h.row b e).2;omega
 ·have:=h.lt_bs e;omega
theorem gu.setWord {w:World} {C:Nat->Prop} {g:Nat} {s:aX} (h:gu w C g s) (m:¬C g) (x:Int):gu (w.setCell g (.int .u64 x)) C g (x,s.2):=by
 obtain⟨hA,hn,hc,kA,kn,kc,vA,vn,vc,dA,dn,dc,d,f,i,j,k⟩:=h;have a:=ag.set1 w g 0 (.int .u64 x);have c:∀b,C b->¬jX g b:=fun b l e=>m ((show b=g from e)▸l);exact⟨hA,hn,hc,kA,kn,kc,vA,vn,vc,dA,dn,dc,d.set_ 0 _,f.chg a c,i.chg a c,j.chg a c,k.chg a c⟩
theorem gu.setHead {w:World} {C:Nat->Prop} {g:Nat} {s:aX} (h:gu w C g s) (m:¬C g) {A:Option Addr} {n c:Nat} {lev right:Int} {high:List UInt8} (f:Bt w C A n c high):
  gu (((w.setCell ⟨g,1,none⟩ lev).setCell ⟨g,2,none⟩ (.slice A n c)).setCell ⟨g,3,none⟩ right) C g (s.1,⟨lev,high,right,s.2.keys,s.2.vals,s.2.kids⟩):=by
 obtain⟨hA,hn,hc,kA,kn,kc,vA,vn,vc,dA,dn,dc,i,o,j,k,l⟩:=h;have a:ag (jX g) w (((w.setCell ⟨g,1,none⟩ lev).setCell ⟨g,2,none⟩ (.slice A n c)).setCell ⟨g,3,none⟩ right):=((ag.set1 w g 1 _).setCell (p:=⟨g,2,none⟩) (fun _=>rfl) _).setCell (p:=⟨g,3,none⟩) (fun _=>rfl) _;have d:∀b,C b->¬jX g b:=fun b f e=>m ((show b=g from e)▸f);exact⟨A,n,c,kA,kn,kc,vA,vn,vc,dA,dn,dc,((i.set_ 1 _).set_ 2 _).set_ 3 _,f.chg a d,j.chg a d,k.chg a d,l.chg a d⟩
theorem gu.setBody {w:World} {C:Nat->Prop} {g:Nat} {s:aX} (h:gu w C g s) (t:¬C g) {A B D:Option Addr} {n c m d l k:Nat} {keys vals:List (List UInt8)} {kids:List Int} (q:Tx w C A n c keys) (i:Tx w C B m d vals) (r:It w C D l k kids):
  gu (((w.setCell ⟨g,4,none⟩ (.slice A n c)).setCell ⟨g,5,none⟩ (.slice B m d)).setCell ⟨g,6,none⟩ (.slice D l k)) C g (s.1,⟨s.2.lev,s.2.high,s.2.right,keys,vals,kids⟩):=by
 obtain⟨hA,hn,hc,kA,kn,kc,vA,vn,vc,dA,dn,dc,j,o,u,v,x⟩:=h;have a:ag (jX g) w (((w.setCell ⟨g,4,none⟩ (.slice A n c)).setCell ⟨g,5,none⟩ (.slice B m d)).setCell ⟨g,6,none⟩ (.slice D l k)):=((ag.set1 w g 4 _).setCell (p:=⟨g,5,none⟩) (fun _=>rfl) _).setCell (p:=⟨g,6,none⟩) (fun _=>rfl) _;have f:∀b,C b->¬jX g b:=fun b i e=>t ((show b=g from e)▸i);exact⟨hA,hn,hc,A,n,c,B,m,d,D,l,k,((j.set_ 4 _).set_ 5 _).set_ 6 _,o.chg a f,q.chg a f,i.chg a f,r.chg a f⟩
theorem FB (w:World) (g i j k:Nat) (u v x:Value):ag (jX g) w (((w.setCell ⟨g,i,none⟩ u).setCell ⟨g,j,none⟩ v).setCell ⟨g,k,none⟩ x):=
 ((ag.set1 w g i _).setCell (p:=⟨g,j,none⟩) (fun _=>rfl) _).setCell (p:=⟨g,k,none⟩) (fun _=>rfl) _
end
end Go.Proofs.YtepgcjbhabnciaaGreat
