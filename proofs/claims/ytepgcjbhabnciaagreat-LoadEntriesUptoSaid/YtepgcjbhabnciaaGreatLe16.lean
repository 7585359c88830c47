/- Part 16. -/
import Derived.Test.YtepgcjbhabnciaaGreatLe14
namespace Go.Proofs.YtepgcjbhabnciaaGreat
set_option maxRecDepth 100000
set_option maxHeartbeats 8000000
open Go.Proofs.Tryz Go.RowKit
theorem uP (b:List UInt8):∀(d:List UInt8) (p k:Nat),(∀j,j<k->b[p+j]? =d[j]?)->k<d.length->b[p+k]?≠d[k]? ->stand b d p=k
 | [],p,k,_,e,_=>by simp at e
 |c::r,p,0,_,_,a=>by
  unfold stand
  rw [if_neg (by simpa using a)]
 |c::r,p,k+1,h,e,a=>by
  have f:=h 0 (by omega);unfold stand;rw [if_pos (by simpa using f)];have:=uP b r (p+1) k (fun j g=>by have:=h (j+1) (by omega);simpa [Nat.add_assoc,Nat.add_comm 1 j] using this) (by simpa using e) (by simpa [Nat.add_assoc,Nat.add_comm 1 k] using a);omega
theorem rO (b:List UInt8):∀(a:List UInt8) (p:Nat),(∀j,j<a.length->b[p+j]? =a[j]?)->stand b a p=a.length
 | [],p,_=>rfl
 |c::r,p,h=>by
  have d:=h 0 (by simp);unfold stand;rw [if_pos (by simpa using d),List.length_cons];have:=rO b r (p+1) (fun j e=>by have:=h (j+1) (by simp;omega);simpa [Nat.add_assoc,Nat.add_comm 1 j] using this);omega
theorem Cu (l:List Nat):(l.flatMap two).length=2*l.length:=by
 induction l with
 |nil=>rfl
 |cons a r b=>rw [List.flatMap_cons,List.length_append,b,List.length_cons];simp [two];omega
theorem zT:∀(l:List Nat) (i k:Nat) (a:Nat),l[i]? =some a->k<2->(l.flatMap two)[2*i+k]? =(two a)[k]?
 | [],i,k,a,h,_=>by simp at h
 |x::r,0,k,a,h,b=>by
  have h:x=a:=by simpa using h
  subst h;rw [List.flatMap_cons,List.getElem?_append_left (by simp [two];omega)]
  simp
 |x::r,i+1,k,a,h,b=>by
  have:=zT r i k a (by simpa using h) b;rw [List.flatMap_cons,List.getElem?_append_right (by simp [two];omega)];rw [<-this];congr 1
  simp [two];omega
structure Yz (q:Nat) (b ws:List UInt8) (p:Nat) (w:World) (e:Ending) (w':World):Prop where
 chg:ag (fun g=>g=q) w w'
 bad:stand b ws p<ws.length->e= .panicked (fw 62 (p+stand b ws p))
 rest:stand b ws p=ws.length->p+ws.length<b.length->e= .panicked (fw 63 (p+ws.length))
 ok:stand b ws p=ws.length->¬p+ws.length<b.length->e= .returned (.tuple #[])
theorem Mm (F:Nat->Prop) (base q:Nat) (bA:Option Addr) (bn bc n:Nat) (b:List UInt8) (l:List aK) (ats:List Nat) (p:Nat) (lv rv:Value) (w:World) (h:BR w base q bA bn bc n l ats p lv rv) (hb:Rd w F 1 bA bn (aF b)) (t:bn=b.length) (z:∀g,F g->g<base) (hq:base<=q) (Y:p<=bn) (hm:bn<=1152921504606) (hr:(eighth ats).length<=64) (ad:∀a∈ats,a<=1152921504606):
  Calls prog 175 #[.pointer (some ⟨q,0,none⟩)] w (Yz q b ((eighth ats).flatMap two) p w):=by
 refine letter fun R T=> ?_;obtain⟨N,s⟩:∃N,N=eighth ats:=⟨_,rfl⟩;have a9:=aa s;have M:∀a∈N,a<=1152921504606:=fun a V=>ad a (ET _ ats (Nat.le_refl _) a (s▸V));have aq:=aa M;rw [<-s] at hr T;obtain⟨r,C⟩:∃r,r=N.length:=⟨_,rfl⟩;have YB:=aa C;have bb:r<=64:=by omega
 obtain⟨rA,rc,YC⟩:∃rA rc,rv= .slice rA r rc:=by obtain⟨A,c,e,_,_⟩:=au h.own;exact⟨A,c,by rw [e,<-s,C]⟩
 subst YC;obtain⟨m,I⟩:∃m,m=N.flatMap two:=⟨_,rfl⟩;have ar:=aa I;have Cv:Hid (m.length=2*r):=aa (by rw [I,Cu,C]);rw [<-I] at T
 have HO:Hid (Rd w (fun g=>(Value.slice rA r rc).ownBlock=some g) 1 rA r (mo N)):=aa (by
  have B:=h.own;rw [<-s] at B;refine⟨by simp [mo,C],fun h0=> ?_⟩;obtain⟨g,cap,hv,_,_⟩:=B.form (by omega);injection hv with a6 bm bo
  subst a6;exact⟨g,0,rfl,rfl,fun j u X=>by have:=B.cells (g:=g) rfl j u X;rw [iT] at this;exact this⟩)
 have z5:w.cell? ⟨q,5,none⟩=some (.slice rA r rc):=h.blk.cell 5;have HH:=aa h;have oG:=aa hb;have jN:=aa t;have HF:=aa z;clear h hb t z s hr C I ad M;go_enter func175,ntmps175
 go_wp2;obtain⟨K,YD⟩:∃v,v=Value.int .i64 l.length:=⟨_,rfl⟩
 obtain⟨L,YE⟩:∃v,v=Value.slice rA r rc:=⟨_,rfl⟩;have ao:Hid (aj w q 295 #[.slice bA bn bc,.int .i64 n,K,.int .i64 p,lv,L]):=aa (by rw [YD,YE];exact HH.blk);clear YD YE z5
 go_loopw [11] (fun iv wz=>∃i:Nat,i<=r/\iv= .int .i64 i/\Hid (aj wz q 295 #[.slice bA bn bc,.int .i64 n,K,.int .i64 (p+2*i:Nat),lv,L])/\Hid (ag (fun g=>g=q) w wz)/\Hid (∀j,j<2*i->b[p+j]? =m[j]?)/\Hid (p+2*i<=bn)) (fun iv _=>r-(intOf iv).toNat)
 case atStart=>exact⟨0,Nat.zero_le _,rfl,ao,aa (ag.refl _ _),aa (fun j X=>absurd X (by omega)),aa Y⟩
 case round=>
  obtain⟨i,hi,rfl,uQ,Jf,ac,ab⟩:=hrel
  by_cases O:i<r
  ·obtain⟨a,V⟩:∃a,N[i]? =some a:=⟨_,List.getElem?_eq_getElem (by rw [<-YB.out];exact O)⟩;have bh:a<=1152921504606:=aq.out a (List.mem_of_getElem? V);have HA:=aa V;obtain⟨g,o,u,rfl,aE,Z,d⟩:=HO.out.at_ O
   have a5:u= .int .i64 (a:Nat):=by
    simp only [mo,List.getElem?_map,V,Option.map_some,Option.some.injEq] at Z;exact Z.symm
   subst a5;have a0:g≠q:=fun e=>HH.ne (by rw [aE,e]);have z9:wr.cell? ⟨g,o+i,none⟩=some (.int .i64 (a:Nat)):=Jf.out.cell a0 d;clear Z d V;go_wp2;obtain⟨gb,G⟩:∃gb,gb=wr.heap.size:=⟨_,rfl⟩;have e0:Value.int IntKind.u8 ((a:Int)%256)=bv (UInt8.ofNat a):=by unfold bv;rw [UInt8.toNat_ofNat'];rfl
   have e1:Value.int IntKind.u8 ((a:Int)/256%256)=bv (UInt8.ofNat (a/256)):=by unfold bv;rw [UInt8.toNat_ofNat'];rfl
   rw [e0,e1];obtain⟨w1,H⟩:∃W,W=wr.alloc (.cells #[bv (UInt8.ofNat a),bv (UInt8.ofNat (a/256))] 5):=⟨_,rfl⟩;simp only [<-H,<-G];have XR:Hid (aj w1 gb 5 #[bv (UInt8.ofNat a),bv (UInt8.ofNat (a/256))]):=aa (by rw [H,G];exact aj.new _ _ _);have jL:Hid (Below wr.heap.size wr w1):=aa (by rw [H];exact(Below.refl _ _).alloc (Nat.le_refl _) _);have Ul:=aa G;have be:=uQ.out.lt;have ap:Hid (aj w1 q 295 #[.slice bA bn bc,.int .i64 n,K,.int .i64 (p+2*i:Nat),lv,L]):=aa (uQ.below jL);have aw:Hid (ag (fun g=>g=q) w w1):=aa (Jf.then jL)
   have oH:Hid (∀k,k<2->∃x:UInt8,m[2*i+k]? =some x/\(#[bv (UInt8.ofNat a),bv (UInt8.ofNat (a/256))]:Array Value)[k]? =some (bv x)):=aa (fun k hk=>by
    have B:=zT N i k a HA hk;rw [ar.out,B]
    match k,hk with
    |0,_=>exact⟨_,rfl,rfl⟩
    |1,_=>exact⟨_,rfl,rfl⟩)
   clear H G e0 e1 z9
   go_loopw [22] (fun kv wz=>∃k:Nat,k<=2/\kv= .int .i64 k/\Hid (aj wz q 295 #[.slice bA bn bc,.int .i64 n,K,.int .i64 (p+(2*i+k):Nat),lv,L])/\Hid (ag (fun g=>g=q) w1 wz)/\Hid (∀j,j<2*i+k->b[p+j]? =m[j]?)/\Hid (p+(2*i+k)<=bn)) (fun kv _=>2-(intOf kv).toNat)
   case atStart=>exact⟨0,by omega,rfl,ap,aa (ag.refl _ _),ac,ab⟩
   case round=>
    obtain⟨k,hk,rfl,E,Um,Un,Ls⟩:=hrel;have iZ:Hid (ag (fun g=>g=q) w wr):=aa (aw.out.trans Um (fun _ _ h=>h));obtain⟨P,U⟩:∃P,P=p+(2*i+k):=⟨_,rfl⟩;have D:=aa U;rw [<-U] at E Ls;have bk:P<=bn:=Ls.out;clear U
    by_cases a3:k<2
    ·obtain⟨x,am,an⟩:=oH.out k a3;have PK:=aa am;have zt:wr.cell? ⟨gb,k,none⟩=some (.int .u8 x.toNat):=((XR.chg Um (fun e=>by have B:=Ul.out;have e:gb=q:=e;omega)).cell k).trans an;have Uo:(k:Int)<2:=by omega
     have al:2*i+k<m.length:=by have:=Cv.out;omega
     have Mo:=aa al;have Ie:Hid (Rd wr F 1 bA bn (aF b)):=aa (oG.chg iZ (fun g hg e=>by have B:=HF.out g hg;have e:g=q:=e;omega));clear am an al;have z0:wr.cell? ⟨q,0,none⟩=some (.slice bA bn bc):=E.out.cell 0;have z3:wr.cell? ⟨q,3,none⟩=some (.int .i64 P):=E.out.cell 3;have Mq:Hid (b[p+(2*i+k)]?≠m[2*i+k]? ->stand b m p=2*i+k):=aa (fun Q=>uP b m p _ Un Mo Q)
     by_cases ae:P=bn
     ·have hd:decide ((P:Int)=(bn:Int))=true:=decide_eq_true (by omega);have aA:((P:Int)==(bn:Int))=true:=by rw [beq_iff_eq];omega
      have f:Hid (stand b m p=2*i+k):=aa (Mq.out (by rw [PK.out,<-D.out,List.getElem?_eq_none (by have:=jN.out;omega)];simp));clear ae;go_upto_region 6 with fail
      go_quiet (fail);have S:(wr.drewN nq).cell? ⟨q,3,none⟩=some (.int .i64 P):=E.out.cell 3;go_wp2;refine⟨rfl,?_⟩;rw [T.out]
      refine⟨iZ.drewN _,fun _=> ?_,fun h=> ?_,fun h=> ?_⟩
      ·rw [f.out,<-D.out];rfl
      ·rw [f.out] at h;exact absurd h (by have:=Mo.out;omega)
      ·rw [f.out] at h;exact absurd h (by have:=Mo.out;omega)
     ·have hd:decide ((P:Int)=(bn:Int))=false:=decide_eq_false (by omega);have aA:((P:Int)==(bn:Int))=false:=by rw [beq_eq_false_iff_ne];omega
      have ax:P<bn:=by omega
      have ba:(P:Int)<(bn:Int):=by omega
      obtain⟨b2,o2,u,rfl,_,Z,d⟩:=Ie.out.at_ ax;obtain⟨y,hy,rfl⟩:=dX Z;unfold bv at d;have HY:=aa hy;clear Z hy ae
      by_cases J:y=x
      ·subst J;go_upto_region 6 with fail
       go_quiet (fail);have S:(wr.drewN nq).cell? ⟨q,3,none⟩=some (.int .i64 P):=E.out.cell 3;have PS:(wr.drewN nq).frozen? ⟨q,3,none⟩=false:=E.out.frozen 3;clear z0 z3 zt d;go_wp2
       go_roundw
       case rel=>
        have a4:=PK.out
        refine⟨k+1,by omega,by go_num,aa ?_,aa ?_,aa (fun j X=> ?_),aa (by have:=D.out;omega)⟩
        ·have B:=(aj.drewN E nq).set_ 3 (.int .i64 ((P:Int)+1));have h2:(p+(2*i+(k+1)):Nat)=P+1:=by have:=D.out;omega
         rw [h2]
         exact B
        ·exact(Um.drewN nq).setCell (p:=⟨q,3,none⟩) (fun _=>rfl) _
        ·rcases Nat.lt_or_ge j (2*i+k) with h|h
         ·exact Un j h
         ·have a2:j=2*i+k:=by omega
          subst a2
          rw [a4,<-D.out,HY.out]
       case measure=>simp [intOf];omega
      ·have Q:((y.toNat:Int)==(x.toNat:Int))=false:=by
        rw [beq_eq_false_iff_ne];intro e;exact J (UInt8.toNat_inj.1 (by omega))
       have a8:((y.toNat:Int) !=(x.toNat:Int))=true:=by rw [bne,Q];rfl
       have f:Hid (stand b m p=2*i+k):=aa (Mq.out (by rw [PK.out,<-D.out,HY.out];intro e;exact J (Option.some.inj e)));clear J;go_upto_region 6 with fail
       go_quiet (fail);have S:(wr.drewN nq).cell? ⟨q,3,none⟩=some (.int .i64 P):=E.out.cell 3;go_wp2;refine⟨rfl,?_⟩;rw [T.out]
       refine⟨iZ.drewN _,fun _=> ?_,fun h=> ?_,fun h=> ?_⟩
       ·rw [f.out,<-D.out];rfl
       ·rw [f.out] at h;exact absurd h (by have:=Mo.out;omega)
       ·rw [f.out] at h;exact absurd h (by have:=Mo.out;omega)
    ·have Uo:¬((k:Int)<2):=by omega
     have Up:k=2:=by omega
     subst Up;go_wp2
     go_roundw
     case rel=>
      refine⟨i+1,by omega,by go_num,aa ?_,iZ,aa (fun j X=>Un j (by omega)),aa (by have:=Ls.out;have:=D.out;omega)⟩;have h2:p+2*(i+1)=P:=by have:=D.out;omega
      rw [h2]
      exact E
     case measure=>simp [intOf];omega
  ·have a1:i=r:=by omega
   have a7:¬((i:Int)<(r:Int)):=by omega
   have f:Hid (stand b m p=m.length):=aa (rO b m p (fun j X=>ac j (by have:=Cv.out;omega)));have Jg:Hid (p+m.length=p+2*i):=aa (by have:=Cv.out;omega);obtain⟨P,U⟩:∃P,P=p+2*i:=⟨_,rfl⟩;rw [<-U] at uQ ab Jg;have z0:wr.cell? ⟨q,0,none⟩=some (.slice bA bn bc):=uQ.out.cell 0;have z3:wr.cell? ⟨q,3,none⟩=some (.int .i64 P):=uQ.out.cell 3;clear a1 U O;go_upto_region 11 with fail
   go_quiet (fail);have S:(wr.drewN nq).cell? ⟨q,3,none⟩=some (.int .i64 P):=uQ.out.cell 3
   by_cases bj:P<bn
   ·have Uq:(P:Int)<(bn:Int):=by omega
    have Ig:Hid (p+m.length<b.length):=aa (by have B:=Jg.out;have h2:=jN.out;omega);clear z0 z3;go_wp2;refine⟨rfl,?_⟩;rw [T.out]
    refine⟨Jf.drewN _,fun h=> ?_,fun _ _=> ?_,fun _ h=> ?_⟩
    ·rw [f.out] at h;exact absurd h (by omega)
    ·rw [Jg.out];rfl
    ·exact absurd Ig.out h
   ·have Uq:¬((P:Int)<(bn:Int)):=by omega
    have Ig:Hid (¬p+m.length<b.length):=aa (by have B:=Jg.out;have h2:=jN.out;omega);clear z0 z3;go_wp2;go_end0
    rw [T.out]
    refine⟨Jf.drewN _,fun h=> ?_,fun _ h=> ?_,fun _ _=>rfl⟩
    ·rw [f.out] at h;exact absurd h (by omega)
    ·exact absurd h Ig
end Go.Proofs.YtepgcjbhabnciaaGreat
