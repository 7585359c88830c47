/- Part 13. -/
import Derived.Test.YtbjgeidjmhialaaGreatDoorLa12
import Derived.Deep.OwnRows
namespace Go.Proofs.YtbjgeidjmhialaaGreatDoor
set_option maxRecDepth 100000
set_option maxHeartbeats 8000000
section
open Go.Proofs.Tryz
open Go.RowKit
theorem Aj (b:List UInt8):∀(ws:List UInt8) (p k:Nat),(∀j,j<k→b[p+j]? =ws[j]?)→k<ws.length→b[p+k]?≠ws[k]? →stand b ws p=k
 | [],p,k,_,hk,_=>by simp at hk
 |c::r,p,0,_,_,hne=>by
  unfold stand
  rw [if_neg (by simpa using hne)]
 |c::r,p,k+1,h,hk,hne=>by
  have h0:=h 0 (by omega);unfold stand;rw [if_pos (by simpa using h0)];have:=Aj b r (p+1) k (fun j hj=>by have:=h (j+1) (by omega);simpa [Nat.add_assoc,Nat.add_comm 1 j] using this) (by simpa using hk) (by simpa [Nat.add_assoc,Nat.add_comm 1 k] using hne);omega
theorem xh (b:List UInt8):∀(ws:List UInt8) (p:Nat),(∀j,j<ws.length→b[p+j]? =ws[j]?)→stand b ws p=ws.length
 | [],p,_=>rfl
 |c::r,p,h=>by
  have h0:=h 0 (by simp);unfold stand;rw [if_pos (by simpa using h0),List.length_cons];have:=xh b r (p+1) (fun j hj=>by have:=h (j+1) (by simp;omega);simpa [Nat.add_assoc,Nat.add_comm 1 j] using this);omega
theorem Kq (l:List Nat):(l.flatMap two).length=2*l.length:=by
 induction l with
 |nil=>rfl
 |cons a r ih=>rw [List.flatMap_cons,List.length_append,ih,List.length_cons];simp [two];omega
theorem E8:∀(l:List Nat) (i k:Nat) (a:Nat),l[i]? =some a→k<2→(l.flatMap two)[2*i+k]? =(two a)[k]?
 | [],i,k,a,h,_=>by simp at h
 |x::r,0,k,a,h,hk=>by
  have h:x=a:=by simpa using h
  subst h;rw [List.flatMap_cons,List.getElem?_append_left (by simp [two];omega)]
  simp
 |x::r,i+1,k,a,h,hk=>by
  have:=E8 r i k a (by simpa using h) hk;rw [List.flatMap_cons,List.getElem?_append_right (by simp [two];omega)];rw [←this];congr 1
  simp [two];omega
structure UI (q:Nat) (b ws:List UInt8) (p:Nat) (w:World) (e:Ending) (w':World):Prop where
 chg:ag (fun g=>g=q) w w'
 bad:stand b ws p<ws.length→e= .panicked (eO 62 (p+stand b ws p))
 rest:stand b ws p=ws.length→p+ws.length<b.length→e= .panicked (eO 63 (p+ws.length))
 ok:stand b ws p=ws.length→¬p+ws.length<b.length→e= .returned (.tuple #[])
theorem Ko (F:Nat→Prop) (base q:Nat) (bA:Option Addr) (bn bc n:Nat) (b:List UInt8) (l:List aH) (ats:List Nat) (p:Nat) (lv rv:Value) (w:World) (h:BR w base q bA bn bc n l ats p lv rv) (hb:Rd w F 1 bA bn (aK b)) (hbn:bn=b.length) (hF:∀g,F g→g<base) (hq:base≤q) (hp:p≤bn) (hm:bn≤1152921504606) (hr:(eighth ats).length≤64) (has:∀a∈ats,a≤1152921504606):
  Calls prog 139 #[.pointer (some ⟨q,0,none⟩)] w (UI q b ((eighth ats).flatMap two) p w):=by
 refine letter fun R HR=> ?_;obtain⟨rs,hrs⟩:∃rs,rs=eighth ats:=⟨_,rfl⟩;have HRS:=aa hrs;have hmem:∀a∈rs,a≤1152921504606:=fun a ha=>has a (Dc _ ats (Nat.le_refl _) a (hrs▸ha));have HME:=aa hmem;rw [←hrs] at hr HR;obtain⟨rn,hrn⟩:∃rn,rn=rs.length:=⟨_,rfl⟩;have UJ:=aa hrn;have ai2:rn≤64:=by omega
 obtain⟨rA,rc,UK⟩:∃rA rc,rv= .slice rA rn rc:=by obtain⟨A,c,e,_,_⟩:=ay h.own;exact⟨A,c,by rw [e,←hrs,hrn]⟩
 subst UK;obtain⟨ws,hws⟩:∃ws,ws=rs.flatMap two:=⟨_,rfl⟩;have HWS:=aa hws;have Yv:Hid (ws.length=2*rn):=aa (by rw [hws,Kq,hrn]);rw [←hws] at HR
 have HO:Hid (Rd w (fun g=>(Value.slice rA rn rc).ownBlock=some g) 1 rA rn (Al rs)):=aa (by
  have h1:=h.own;rw [←hrs] at h1;refine⟨by simp [Al,hrn],fun h0=> ?_⟩;obtain⟨g,cap,hv,_,_⟩:=h1.form (by omega);injection hv with hv1 hv2 hv3
  subst hv1;exact⟨g,0,rfl,rfl,fun j u hj=>by have:=h1.cells (g:=g) rfl j u hj;rw [iP] at this;exact this⟩)
 have z5:w.cell? ⟨q,5,none⟩=some (.slice rA rn rc):=h.blk.cell 5;have HH:=aa h;have ER:=aa hb;have xk:=aa hbn;have HF:=aa hF;clear h hb hbn hF hrs hr hrn hws has hmem;go_enter func139,ntmps139
 go_wp2;obtain⟨Xo,UM⟩:∃v,v=Value.int .i64 l.length:=⟨_,rfl⟩
 obtain⟨Xp,UN⟩:∃v,v=Value.slice rA rn rc:=⟨_,rfl⟩;have HB0:Hid (ai w q 265 #[.slice bA bn bc,.int .i64 n,Xo,.int .i64 p,lv,Xp]):=aa (by rw [UM,UN];exact HH.blk);clear UM UN z5
 go_loopw [11] (fun iv wz=>∃i:Nat,i≤rn∧iv= .int .i64 i∧Hid (ai wz q 265 #[.slice bA bn bc,.int .i64 n,Xo,.int .i64 (p+2*i:Nat),lv,Xp])∧Hid (ag (fun g=>g=q) w wz)∧Hid (∀j,j<2*i→b[p+j]? =ws[j]?)∧Hid (p+2*i≤bn)) (fun iv _=>rn-(intOf iv).toNat)
 case atStart=>exact⟨0,Nat.zero_le _,rfl,HB0,aa (ag.refl _ _),aa (fun j hj=>absurd hj (by omega)),aa hp⟩
 case round=>
  obtain⟨i,hi,rfl,uE,Xq,HSI,UO⟩:=hrel
  by_cases hlt:i<rn
  ·obtain⟨a,ha⟩:∃a,rs[i]? =some a:=⟨_,List.getElem?_eq_getElem (by rw [←UJ.out];exact hlt)⟩;have hal:a≤1152921504606:=HME.out a (List.mem_of_getElem? ha);have HA:=aa ha;obtain⟨g,o,u,rfl,hgo,hu,hcell⟩:=HO.out.at_ hlt
   have hu':u= .int .i64 (a:Nat):=by
    simp only [Al,List.getElem?_map,ha,Option.map_some,Option.some.injEq] at hu;exact hu.symm
   subst hu';have hgq:g≠q:=fun e=>HH.ne (by rw [hgo,e]);have z9:wr.cell? ⟨g,o+i,none⟩=some (.int .i64 (a:Nat)):=Xq.out.cell hgq hcell;clear hu hcell ha;go_wp2;obtain⟨gb,hgb⟩:∃gb,gb=wr.heap.size:=⟨_,rfl⟩;have e0:Value.int IntKind.u8 ((a:Int)%256)=bv (UInt8.ofNat a):=by unfold bv;rw [UInt8.toNat_ofNat'];rfl
   have e1:Value.int IntKind.u8 ((a:Int)/256%256)=bv (UInt8.ofNat (a/256)):=by unfold bv;rw [UInt8.toNat_ofNat'];rfl
   rw [e0,e1];obtain⟨w1,hw1⟩:∃W,W=wr.alloc (.cells #[bv (UInt8.ofNat a),bv (UInt8.ofNat (a/256))] 5):=⟨_,rfl⟩;simp only [←hw1,←hgb];have Nl:Hid (ai w1 gb 5 #[bv (UInt8.ofNat a),bv (UInt8.ofNat (a/256))]):=aa (by rw [hw1,hgb];exact ai.new _ _ _);have ib:Hid (Below wr.heap.size wr w1):=aa (by rw [hw1];exact(Below.refl _ _).alloc (Nat.le_refl _) _);have UQ:=aa hgb;have ai3:=uE.out.lt;have HB1:Hid (ai w1 q 265 #[.slice bA bn bc,.int .i64 n,Xo,.int .i64 (p+2*i:Nat),lv,Xp]):=aa (uE.below ib);have Yw:Hid (ag (fun g=>g=q) w w1):=aa (Xq.then ib)
   have q8:Hid (∀k,k<2→∃x:UInt8,ws[2*i+k]? =some x∧(#[bv (UInt8.ofNat a),bv (UInt8.ofNat (a/256))]:Array Value)[k]? =some (bv x)):=aa (fun k hk=>by
    have h1:=E8 rs i k a HA hk;rw [HWS.out,h1]
    match k,hk with
    |0,_=>exact⟨_,rfl,rfl⟩
    |1,_=>exact⟨_,rfl,rfl⟩)
   clear hw1 hgb e0 e1 z9
   go_loopw [22] (fun kv wz=>∃k:Nat,k≤2∧kv= .int .i64 k∧Hid (ai wz q 265 #[.slice bA bn bc,.int .i64 n,Xo,.int .i64 (p+(2*i+k):Nat),lv,Xp])∧Hid (ag (fun g=>g=q) w1 wz)∧Hid (∀j,j<2*i+k→b[p+j]? =ws[j]?)∧Hid (p+(2*i+k)≤bn)) (fun kv _=>2-(intOf kv).toNat)
   case atStart=>exact⟨0,by omega,rfl,HB1,aa (ag.refl _ _),HSI,UO⟩
   case round=>
    obtain⟨k,hk,rfl,jT,Rj,Yx,EW⟩:=hrel;have uf:Hid (ag (fun g=>g=q) w wr):=aa (Yw.out.trans Rj (fun _ _ h=>h));obtain⟨P,hP⟩:∃P,P=p+(2*i+k):=⟨_,rfl⟩;have HP:=aa hP;rw [←hP] at jT EW;have hpn:P≤bn:=EW.out;clear hP
    by_cases hk2:k<2
    ·obtain⟨x,hx1,hx2⟩:=q8.out k hk2;have F3:=aa hx1;have zt:wr.cell? ⟨gb,k,none⟩=some (.int .u8 x.toNat):=((Nl.chg Rj (fun e=>by have h1:=UQ.out;have e:gb=q:=e;omega)).cell k).trans hx2;have Yy:(k:Int)<2:=by omega
     have hwl:2*i+k<ws.length:=by have:=Yv.out;omega
     have Kr:=aa hwl;have xm:Hid (Rd wr F 1 bA bn (aK b)):=aa (ER.chg uf (fun g hg e=>by have h1:=HF.out g hg;have e:g=q:=e;omega));clear hx1 hx2 hwl;have z0:wr.cell? ⟨q,0,none⟩=some (.slice bA bn bc):=jT.out.cell 0;have z3:wr.cell? ⟨q,3,none⟩=some (.int .i64 P):=jT.out.cell 3;have UR:Hid (b[p+(2*i+k)]?≠ws[2*i+k]? →stand b ws p=2*i+k):=aa (fun hne=>Aj b ws p _ Yx Kr hne)
     by_cases hpe:P=bn
     ·have hd:decide ((P:Int)=(bn:Int))=true:=decide_eq_true (by omega);have hd':((P:Int)==(bn:Int))=true:=by rw [beq_iff_eq];omega
      have HST:Hid (stand b ws p=2*i+k):=aa (UR.out (by rw [F3.out,←HP.out,List.getElem?_eq_none (by have:=xk.out;omega)];simp));clear hpe;go_upto_region 6 with fail
      go_quiet (fail);have Yz:(wr.drewN nq).cell? ⟨q,3,none⟩=some (.int .i64 P):=jT.out.cell 3;go_wp2;refine⟨rfl,?_⟩;rw [HR.out]
      refine⟨uf.drewN _,fun _=> ?_,fun h=> ?_,fun h=> ?_⟩
      ·rw [HST.out,←HP.out];rfl
      ·rw [HST.out] at h;exact absurd h (by have:=Kr.out;omega)
      ·rw [HST.out] at h;exact absurd h (by have:=Kr.out;omega)
     ·have hd:decide ((P:Int)=(bn:Int))=false:=decide_eq_false (by omega);have hd':((P:Int)==(bn:Int))=false:=by rw [beq_eq_false_iff_ne];omega
      have hPb:P<bn:=by omega
      have ai4:(P:Int)<(bn:Int):=by omega
      obtain⟨b2,o2,u,rfl,_,hu,hcell⟩:=xm.out.at_ hPb;obtain⟨y,hy,rfl⟩:=gH hu;unfold bv at hcell;have HY:=aa hy;clear hu hy hpe
      by_cases hxy:y=x
      ·subst hxy;go_upto_region 6 with fail
       go_quiet (fail);have Yz:(wr.drewN nq).cell? ⟨q,3,none⟩=some (.int .i64 P):=jT.out.cell 3;have TV:(wr.drewN nq).frozen? ⟨q,3,none⟩=false:=jT.out.frozen 3;clear z0 z3 zt hcell;go_wp2
       go_roundw
       case rel=>
        have hst:=F3.out
        refine⟨k+1,by omega,by go_num,aa ?_,aa ?_,aa (fun j hj=> ?_),aa (by have:=HP.out;omega)⟩
        ·have h1:=(ai.drewN jT nq).set_ 3 (.int .i64 ((P:Int)+1));have h2:(p+(2*i+(k+1)):Nat)=P+1:=by have:=HP.out;omega
         rw [h2]
         exact h1
        ·exact(Rj.drewN nq).setCell (p:=⟨q,3,none⟩) (fun _=>rfl) _
        ·rcases Nat.lt_or_ge j (2*i+k) with h|h
         ·exact Yx j h
         ·have hj2:j=2*i+k:=by omega
          subst hj2
          rw [hst,←HP.out,HY.out]
       case measure=>simp [intOf];omega
      ·have hne:((y.toNat:Int)==(x.toNat:Int))=false:=by
        rw [beq_eq_false_iff_ne];intro e;exact hxy (UInt8.toNat_inj.1 (by omega))
       have hne':((y.toNat:Int) !=(x.toNat:Int))=true:=by rw [bne,hne];rfl
       have HST:Hid (stand b ws p=2*i+k):=aa (UR.out (by rw [F3.out,←HP.out,HY.out];intro e;exact hxy (Option.some.inj e)));clear hxy;go_upto_region 6 with fail
       go_quiet (fail);have Yz:(wr.drewN nq).cell? ⟨q,3,none⟩=some (.int .i64 P):=jT.out.cell 3;go_wp2;refine⟨rfl,?_⟩;rw [HR.out]
       refine⟨uf.drewN _,fun _=> ?_,fun h=> ?_,fun h=> ?_⟩
       ·rw [HST.out,←HP.out];rfl
       ·rw [HST.out] at h;exact absurd h (by have:=Kr.out;omega)
       ·rw [HST.out] at h;exact absurd h (by have:=Kr.out;omega)
    ·have Yy:¬((k:Int)<2):=by omega
     have YA:k=2:=by omega
     subst YA;go_wp2
     go_roundw
     case rel=>
      refine⟨i+1,by omega,by go_num,aa ?_,uf,aa (fun j hj=>Yx j (by omega)),aa (by have:=EW.out;have:=HP.out;omega)⟩;have h2:p+2*(i+1)=P:=by have:=HP.out;omega
      rw [h2]
      exact jT
     case measure=>simp [intOf];omega
  ·have hie:i=rn:=by omega
   have hlt':¬((i:Int)<(rn:Int)):=by omega
   have HST:Hid (stand b ws p=ws.length):=aa (xh b ws p (fun j hj=>HSI j (by have:=Yv.out;omega)));have Xr:Hid (p+ws.length=p+2*i):=aa (by have:=Yv.out;omega);obtain⟨P,hP⟩:∃P,P=p+2*i:=⟨_,rfl⟩;rw [←hP] at uE UO Xr;have z0:wr.cell? ⟨q,0,none⟩=some (.slice bA bn bc):=uE.out.cell 0;have z3:wr.cell? ⟨q,3,none⟩=some (.int .i64 P):=uE.out.cell 3;clear hie hP hlt;go_upto_region 11 with fail
   go_quiet (fail);have Yz:(wr.drewN nq).cell? ⟨q,3,none⟩=some (.int .i64 P):=uE.out.cell 3
   by_cases hpb:P<bn
   ·have YB:(P:Int)<(bn:Int):=by omega
    have Qd:Hid (p+ws.length<b.length):=aa (by have h1:=Xr.out;have h2:=xk.out;omega);clear z0 z3;go_wp2;refine⟨rfl,?_⟩;rw [HR.out]
    refine⟨Xq.drewN _,fun h=> ?_,fun _ _=> ?_,fun _ h=> ?_⟩
    ·rw [HST.out] at h;exact absurd h (by omega)
    ·rw [Xr.out];rfl
    ·exact absurd Qd.out h
   ·have YB:¬((P:Int)<(bn:Int)):=by omega
    have Qd:Hid (¬p+ws.length<b.length):=aa (by have h1:=Xr.out;have h2:=xk.out;omega);clear z0 z3;go_wp2;go_end0
    rw [HR.out]
    refine⟨Xq.drewN _,fun h=> ?_,fun _ h=> ?_,fun _ _=>rfl⟩
    ·rw [HST.out] at h;exact absurd h (by omega)
    ·exact absurd h Qd
end
section
open Go.Proofs.Tryz
open Go.RowKit
theorem kC:(prog.info? 24).map (fun i=>(i.zero,i.size,i.bytes))=some (some (.slice none 0 0),1,24):=by kernel_rfl
def ja (w0:World) (ts:List (List UInt8)) (n k:Nat) (w:World):Prop:=
 ∃cs:List Value,cs.length=n∧ai w w0.heap.size 24 cs.toArray∧∀(j:Nat) (t:List UInt8),j<k→ts[j]? =some t→∃v,cs[j]? =some v∧SB w (fF (From (w0.heap.size+1)) w) v t
theorem wY (w:World) (ts:List (List UInt8)) (n:Nat):ja w ts n 0 (w.alloc (.cells (madeCells #[.slice none 0 0] n) 24)):=by
 refine⟨(madeCells #[.slice none 0 0] n).toList,by simp [size_madeCells],?_,fun j t hj=>absurd hj (by omega)⟩;simpa using ai.new w 24 (madeCells #[.slice none 0 0] n)
theorem zb {w0 w:World} {ts:List (List UInt8)} {n k:Nat} (h:ja w0 ts n k w) (i:Nat) (hi:i<n):(∃v,w.cell? ⟨w0.heap.size,i,none⟩=some v)∧w.frozen? ⟨w0.heap.size,i,none⟩=false:=by
 obtain⟨cs,hl,hb,_⟩:=h;refine⟨⟨cs[i],?_⟩,hb.frozen i⟩;rw [hb.cell];simp [hl,hi]
theorem nT {w0 w w':World} {ts:List (List UInt8)} {n k:Nat} (h:ja w0 ts n k w) (hb:Below w.heap.size w w'):ja w0 ts n k w':=by
 obtain⟨cs,hl,hk,hx⟩:=h;exact⟨cs,hl,hk.below hb,fun j t hj ht=>let⟨v,a,b⟩:=hx j t hj ht;⟨v,a,b.soft_chg (S:=Nil) (ag.of_below hb) (fun _ _ hf=>hf)⟩⟩
theorem ze {w0 w:World} {ts:List (List UInt8)} {n k:Nat} {t:List UInt8} {v:Value} (h:ja w0 ts n k w) (hk:k<n) (ht:ts[k]? =some t) (hv:SB w (fF (From (w0.heap.size+1)) w) v t):
  ja w0 ts n (k+1) (w.setCell ⟨w0.heap.size,k,none⟩ v):=by
 obtain⟨cs,hl,hb,hx⟩:=h;have hc:ag (jK w0.heap.size) w (w.setCell ⟨w0.heap.size,k,none⟩ v):=ag.set1 w _ k v;have hn:∀b,From (w0.heap.size+1) b→¬jK w0.heap.size b:=fun b h1 h2=>by have h1:w0.heap.size+1≤b:=h1;have h2:b=w0.heap.size:=h2;omega
 refine⟨cs.set k v,by simp [hl],by simpa using hb.set_ k v,fun j u hj hu=> ?_⟩
 rcases Nat.lt_or_ge j k with h|h
 ·obtain⟨x,hx1,hx2⟩:=hx j u h hu
  exact⟨x,by rw [List.getElem?_set_ne (by omega)];exact hx1,hx2.soft_chg hc hn⟩
 ·obtain rfl:j=k:=by omega
  rw [ht] at hu;injection hu with hu
  subst hu;exact⟨v,by rw [List.getElem?_set_self (by omega)],hv.soft_chg hc hn⟩
theorem zh {w0 w:World} {ts:List (List UInt8)} {n:Nat} (h:ja w0 ts n n w) (hn:n=ts.length) (hm:n≤maxLen):EZ w w0.heap.size w.heap.size (some ⟨w0.heap.size,0,none⟩) n n ts:=by
 obtain⟨cs,hl,hb,hx⟩:=h;refine⟨Nat.le_refl _,hm,hn,rfl,hb.lt,cs,⟨by simpa using hl,fun _=>⟨w0.heap.size,0,rfl,⟨rfl,hb.soft⟩,fun j u hj=>by rw [hb.cell];simpa using hj⟩⟩,fun i t ht=> ?_⟩;have hi:i<ts.length:=(List.getElem?_eq_some_iff.1 ht).1;obtain⟨v,h1,h2⟩:=hx i t (by omega) ht;exact⟨v,h1,h2.lt.weak (fun b hb=>⟨⟨by have hb:=hb.1.1;simp only [From] at hb;omega,hb.2⟩,hb.1.2⟩)⟩
def Jl (w:World) (ts:List (List UInt8)) (e:Ending) (w':World):Prop:=
 ∃A n c,e= .returned (.slice A n c)∧EZ w' w.heap.size w'.heap.size A n c ts∧Below w.heap.size w w'
theorem xE (A:Option Addr) (n c:Nat) (F:Nat→Prop) (ts:List (List UInt8)) (w:World) (h:Tx w F A n c ts) (hn2:n≤1152921504606) (hs:∀t∈ts,t.length≤1152921504606):
  Calls prog 112 #[.slice A n c] w (Jl w ts):=by
 have HH:=aa h;have HL:=aa h.len;have HS:=aa hs;have hmk:=run_make_row' (P:=prog) 100 24 (.slice none 0 0) 24 underlying100 kC rfl .i64 .i64 n (by omega) (by omega);clear h hs;go_enter func112,ntmps112
 go_wp2
 go_loopg [10] n (fun g i wr=>∃(k:Nat),g=n-k∧k≤n∧i= .int .i64 k∧ja w ts n k wr∧Below w.heap.size w wr)
 case atStart=>exact⟨0,by omega,by omega,rfl,wY w ts n,(Below.refl _ _).alloc (Nat.le_refl _) _⟩
 case round=>
  obtain⟨k,hg,hk,rfl,hf,hbl⟩:=hrel;have HG:=aa hg;have HF:=aa hf;clear hg hf
  by_cases hlt:k<n
  ·obtain⟨b,o,Ak,nk,ck,t,rfl,_,ht,c1,h1,h2,h3,h4⟩:=HH.out.at_ hlt;have d1:=ak hbl c1;have HT:=aa ht;have H4:=aa h4;have hz:w.heap.size<wr.heap.size:=by obtain⟨cs,_,hb,_⟩:=HF.out;exact hb.lt
   have hnk:nk≤1152921504606:=by have:=h3.out;have:=HS.out t (List.mem_of_getElem? ht);omega
   clear c1 ht h4;go_wp2_with (go_at_call 23;refine(dm _ _ _ F t _ (H4.below hbl) h3.out hnk).mono ?_;rintro e w1 ⟨A',n',c',rfl,q1,q2,q3,q4,hb1⟩;obtain⟨⟨u,hu⟩,hfz⟩:=zb (nT HF hb1) k hlt;have hz1:=hb1.size)
   go_roundg (n-(k+1))
   case measure=>have:=HG.out;omega
   case rel=>exact⟨k+1,rfl,by omega,by go_num,ze (nT HF hb1) hlt HT ⟨A',n',c',rfl,q1,q2,q3,q4.weak (fF.weak (fun b hb=>by simp only [From] at hb⊢;omega))⟩,(hbl.trans (hb1.mono (by omega))).setCell (Nat.le_refl _) _⟩
  ·have HD:=aa (zh (show ja w ts n n wr from(show k=n by omega)▸HF.out) HL (by simp only [maxLen];omega));go_wp2;go_ret
   exact⟨_,_,_,rfl,HD,hbl⟩
end
section
open Go.RowKit
def bO (w:World) (F:Nat→Prop) (A:Option Addr) (n:Nat) (l:List aH):Prop:=
 Hid (n=l.length)∧∃vs,Rd w F 2 A n vs∧∀(i:Nat) (e:aH),l[i]? =some e→∃u v,vs[2*i]? =some u∧vs[2*i+1]? =some v∧SB w F u e.1∧SB w F v e.2
section
variable {S F G:Nat→Prop} {w w':World} {A:Option Addr} {n:Nat} {l:List aH}
theorem bO.len (h:bO w F A n l):n=l.length:=h.1
theorem bO.nil (w:World) (F:Nat→Prop) (A:Option Addr):bO w F A 0 []:=⟨rfl,[],Rd.none_ _ _ _ _,fun i e h=>by simp at h⟩
theorem bO.weak (h:bO w F A n l) (hF:∀b,F b→G b):bO w G A n l:=
 let⟨h1,vs,h2,h3⟩:=h;⟨h1,vs,h2.weak hF,fun i e he=>let⟨u,v,a,b,c,d⟩:=h3 i e he;⟨u,v,a,b,c.weak hF,d.weak hF⟩⟩
theorem bO.chg (h:bO w F A n l) (hc:ag S w w') (hs:∀b,F b→¬S b):bO w' F A n l:=
 let⟨h1,vs,h2,h3⟩:=h;⟨h1,vs,h2.chg hc hs,fun i e he=>let⟨u,v,a,b,c,d⟩:=h3 i e he;⟨u,v,a,b,c.chg hc hs,d.chg hc hs⟩⟩
theorem bO.below (h:bO w F A n l) (hb:Below w.heap.size w w'):bO w' F A n l:=h.chg (ag.of_below (S:=Nil) hb) (fun _ _ hf=>hf)
theorem bO.at_ {k:Nat} (h:bO w F A n l) (hk:k<n):∃b o Ak nk ck Av nv cv key val,A=some ⟨b,o,none⟩∧F b∧l[k]? =some (key,val)∧
  w.cell? ⟨b,o+k*2,none⟩=some (.slice Ak nk ck)∧w.cell? ⟨b,o+k*2+1,none⟩=some (.slice Av nv cv)∧
  nk≤ck∧ck≤maxLen∧Hid (nk=key.length)∧Rd w F 1 Ak nk (aK key)∧nv≤cv∧cv≤maxLen∧Hid (nv=val.length)∧Rd w F 1 Av nv (aK val):=by
 obtain⟨h1,vs,h2,h3⟩:=h;have hl:k<l.length:=by have:n=l.length:=h1;omega
 obtain⟨b,o,u,v,hA,hF,e1,e2,c1,c2⟩:=h2.at2 hk;obtain⟨u',v',RE,e2',s1,s2⟩:=h3 k l[k] (List.getElem?_eq_getElem hl);rw [e1] at RE;rw [e2] at e2';injection RE with RE;injection e2' with e2'
 subst RE;subst e2';obtain⟨Ak,nk,ck,rfl,k1,k2,k3,k4⟩:=s1;obtain⟨Av,nv,cv,rfl,v1,v2,v3,v4⟩:=s2;rw [Nat.mul_comm 2 k] at c1 c2;rw [←Nat.add_assoc] at c2;exact⟨b,o,Ak,nk,ck,Av,nv,cv,l[k].1,l[k].2,hA,hF,List.getElem?_eq_getElem hl,c1,c2,k1,k2,k3,k4,v1,v2,v3,v4⟩
end
end
section
open Go.Proofs.Tryz
open Go.RowKit
section
variable {S F G:Nat→Prop} {w w':World} {v:Value} {bs:List UInt8}
end
theorem nW:(prog.info? 57).map (fun i=>(i.zero,i.size,i.bytes))=some (some (.agg #[.slice none 0 0,.slice none 0 0]),2,48):=by kernel_rfl
section
variable {S F G:Nat→Prop} {w w':World} {k:Nat} {l:List aH} {xs:List Value}
end
theorem Rd.one2 (w:World) (u v:Value) (t:TypeId):Rd (w.alloc (.cells #[u,v] t)) (From w.heap.size) 2 (some ⟨w.heap.size,0,none⟩) 1 [u,v]:=
 ⟨rfl,fun _=>⟨w.heap.size,0,rfl,Nat.le_refl _,fun j x hj=>by
  rw [(ai.new w t #[u,v]).cell]
  match j,hj with
  |0,hj=>simpa using hj
  |1,hj=>simpa using hj⟩⟩
end
section
open Go.RowKit
abbrev bB:=Int×Nd
def eF (w:World) (C:Nat→Prop) (g:Nat) (s:bB):Prop:=
 ∃hA hn hc kA kn kc vA vn vc dA dn dc,ai w g 126 #[.int .u64 s.1,.int .i64 s.2.lev,.slice hA hn hc,.int .i64 s.2.right,.slice kA kn kc,.slice vA vn vc,.slice dA dn dc]∧
  Bt w C hA hn hc s.2.high∧Tx w C kA kn kc s.2.keys∧Tx w C vA vn vc s.2.vals∧It w C dA dn dc s.2.kids
def ptr (g:Nat):Value:= .pointer (some ⟨g,0,none⟩)
def J9 (p:Nat) (v:Value) (bs:List Nat):Nat→Prop:=fun b=>b=p∨v.ownBlock=some b∨b∈bs
structure kG (w:World) (F:Nat→Prop) (p:Nat) (nodes:Int) (sl:List bB) (root:Int) (A:Option Addr) (n c:Nat) (bs:List Nat):Prop where
 len:Hid (n=sl.length)
 blen:Hid (bs.length=n)
 blk:ai w p 120 #[.int .i64 nodes,.slice A n c,.int .i64 root]
 row:w.ownsRow 0 121 1 (.slice A n c) n (bs.map ptr)
 fp:F p
 frow:∀b,(Value.slice A n c).ownBlock=some b→F b
 fbs:∀b∈bs,F b
 nodup:bs.Nodup
 slot:∀(i g:Nat) (s:bB),bs[i]? =some g→sl[i]? =some s→eF w (fun b=>F b∧¬J9 p (.slice A n c) bs b) g s
def gm (w:World) (F:Nat→Prop) (p:Nat) (nodes:Int) (sl:List bB) (root:Int):Prop:=∃A n c bs,kG w F p nodes sl root A n c bs
section
variable {S F G C D:Nat→Prop} {w w':World} {p:Nat} {nodes root:Int} {sl:List bB} {A:Option Addr} {n c:Nat} {bs:List Nat}
theorem eF.weak {g:Nat} {s:bB} (h:eF w C g s) (hF:∀b,C b→D b):eF w D g s:=by
 obtain⟨hA,hn,hc,kA,kn,kc,vA,vn,vc,dA,dn,dc,h1,h2,h3,h4,h5⟩:=h;exact⟨hA,hn,hc,kA,kn,kc,vA,vn,vc,dA,dn,dc,h1,h2.weak hF,h3.weak hF,h4.weak hF,h5.weak hF⟩
theorem eF.chg {g:Nat} {s:bB} (h:eF w C g s) (hc:ag S w w') (hg:¬S g) (hs:∀b,C b→¬S b):eF w' C g s:=by
 obtain⟨hA,hn,hc',kA,kn,kc,vA,vn,vc,dA,dn,dc,h1,h2,h3,h4,h5⟩:=h;exact⟨hA,hn,hc',kA,kn,kc,vA,vn,vc,dA,dn,dc,h1.chg hc hg,h2.chg hc hs,h3.chg hc hs,h4.chg hc hs,h5.chg hc hs⟩
theorem Bt.lt {bs':List UInt8} {m d:Nat} (h:Bt w C A m d bs'):Bt w (fun b=>C b∧b<w.heap.size) A m d bs':=⟨h.1,h.2.1,h.2.2.1,h.2.2.2.lt Nat.zero_lt_one⟩
theorem It.lt {ks:List Int} {m d:Nat} (h:It w C A m d ks):It w (fun b=>C b∧b<w.heap.size) A m d ks:=⟨h.1,h.2.1,h.2.2.1,h.2.2.2.lt Nat.zero_lt_one⟩
theorem Tx.lt {ts:List (List UInt8)} {m d:Nat} (h:Tx w C A m d ts):Tx w (fun b=>C b∧b<w.heap.size) A m d ts:=
 let⟨h1,h2,h3,vs,h4,h5⟩:=h;⟨h1,h2,h3,vs,h4.lt Nat.zero_lt_one,fun i t ht=>let⟨v,a,b⟩:=h5 i t ht;⟨v,a,b.lt⟩⟩
theorem eF.lt {g:Nat} {s:bB} (h:eF w C g s):eF w (fun b=>C b∧b<w.heap.size) g s:=by
 obtain⟨hA,hn,hc',kA,kn,kc,vA,vn,vc,dA,dn,dc,h1,h2,h3,h4,h5⟩:=h;exact⟨hA,hn,hc',kA,kn,kc,vA,vn,vc,dA,dn,dc,h1,h2.lt,h3.lt,h4.lt,h5.lt⟩
theorem kG.weak (h:kG w F p nodes sl root A n c bs) (hF:∀b,F b→G b):kG w G p nodes sl root A n c bs:=
 ⟨h.len,h.blen,h.blk,h.row,hF _ h.fp,fun b hb=>hF _ (h.frow b hb),fun b hb=>hF _ (h.fbs b hb),h.nodup,fun i g s hg hs=>(h.slot i g s hg hs).weak (fun b hb=>⟨hF _ hb.1,hb.2⟩)⟩
theorem gm.weak (h:gm w F p nodes sl root) (hF:∀b,F b→G b):gm w G p nodes sl root:=let⟨A,n,c,bs,h⟩:=h;⟨A,n,c,bs,h.weak hF⟩
theorem kG.chg (h:kG w F p nodes sl root A n c bs) (hc:ag S w w') (hs:∀b,F b→¬S b):kG w' F p nodes sl root A n c bs:=
 ⟨h.len,h.blen,h.blk.chg hc (hs _ h.fp),aF h.row hc (fun g hg=>hs _ (h.frow g hg)),h.fp,h.frow,h.fbs,h.nodup,fun i g s hg hsl=>(h.slot i g s hg hsl).chg hc (hs _ (h.fbs g (List.mem_of_getElem? hg))) (fun b hb=>hs _ hb.1)⟩
theorem gm.chg (h:gm w F p nodes sl root) (hc:ag S w w') (hs:∀b,F b→¬S b):gm w' F p nodes sl root:=let⟨A,n,c,bs,h⟩:=h;⟨A,n,c,bs,h.chg hc hs⟩
theorem gm.below (h:gm w F p nodes sl root) (hb:Below w.heap.size w w'):gm w' F p nodes sl root:=h.chg (ag.of_below (S:=Nil) hb) (fun _ _ hf=>hf)
theorem kG.below (h:kG w F p nodes sl root A n c bs) (hb:Below w.heap.size w w'):kG w' F p nodes sl root A n c bs:=h.chg (ag.of_below (S:=Nil) hb) (fun _ _ hf=>hf)
theorem kG.cells (h:kG w F p nodes sl root A n c bs):w.cell? ⟨p,0,none⟩=some (.int .i64 nodes)∧w.cell? ⟨p,1,none⟩=some (.slice A n c)∧w.cell? ⟨p,2,none⟩=some (.int .i64 root)∧∀o,w.frozen? ⟨p,o,none⟩=false:=
 ⟨by rw [h.blk.cell];rfl,by rw [h.blk.cell];rfl,by rw [h.blk.cell];rfl,h.blk.frozen⟩
theorem kG.at_ (h:kG w F p nodes sl root A n c bs) {k:Nat} (hk:k<n):∃r g,A=some ⟨r,0,none⟩∧bs[k]? =some g∧w.cell? ⟨r,k,none⟩=some (.pointer (some ⟨g,0,none⟩)):=by
 have hl:k<bs.length:=by have:bs.length=n:=h.blen;omega
 obtain⟨r,cap,hv,_,_⟩:=h.row.form (by omega);have hA:A=some ⟨r,0,none⟩:=by injection hv
 subst hA;refine⟨r,bs[k],rfl,List.getElem?_eq_getElem hl,?_⟩;have:=h.row.cells (g:=r) rfl k (ptr bs[k]) (by rw [List.getElem?_map,List.getElem?_eq_getElem hl];rfl);rw [iP,Nat.zero_add] at this;exact this
end
theorem ai.ne_ {w:World} {g g':Nat} {t t':TypeId} {cs cs':Array Value} (h:ai w g t cs) (h':ai w g' t' cs') (hne:t≠t'):g≠g':=by
 rintro rfl;unfold ai at h h';rw [h] at h';injection h' with h'
 injection h' with _ ht
 exact hne ht
theorem ic {w:World} {base:Nat} {e t:TypeId} {size n g:Nat} {v:Value} {xs:List Value} {cs:Array Value} (h:w.ownsRow base e size v n xs) (hg:ai w g t cs) (hne:e≠t):v.ownBlock≠some g:=by
 rcases h.2 with⟨rfl,_⟩|⟨g',cap,cur,rfl,_,hh,_⟩
 ·simp [Value.ownBlock]
 ·intro he;have:g'=g:=by simpa [Value.ownBlock] using he
  subst this;exact ai.ne_ (t:=e) hh hg hne rfl
section
variable {S F G C D:Nat→Prop} {w w':World} {p:Nat} {nodes root:Int} {sl:List bB} {A:Option Addr} {n c:Nat} {bs:List Nat}
theorem kG.ne_p (h:kG w F p nodes sl root A n c bs) {g:Nat} (hg:g∈bs):g≠p:=by
 obtain⟨i,hi,rfl⟩:=List.mem_iff_getElem.1 hg;have hs:i<sl.length:=by have e1:n=sl.length:=h.len;have e2:bs.length=n:=h.blen;omega
 obtain⟨hA,hn,hc,kA,kn,kc,vA,vn,vc,dA,dn,dc,hb,_⟩:=h.slot i bs[i] sl[i] (List.getElem?_eq_getElem hi) (List.getElem?_eq_getElem hs);exact hb.ne_ h.blk (by decide)
theorem kG.ne_row (h:kG w F p nodes sl root A n c bs) {g:Nat} (hg:g∈bs):(Value.slice A n c).ownBlock≠some g:=by
 obtain⟨i,hi,rfl⟩:=List.mem_iff_getElem.1 hg;have hs:i<sl.length:=by have e1:n=sl.length:=h.len;have e2:bs.length=n:=h.blen;omega
 obtain⟨hA,hn,hc,kA,kn,kc,vA,vn,vc,dA,dn,dc,hb,_⟩:=h.slot i bs[i] sl[i] (List.getElem?_eq_getElem hi) (List.getElem?_eq_getElem hs);exact ic h.row hb (by decide)
theorem kG.row_p (h:kG w F p nodes sl root A n c bs):(Value.slice A n c).ownBlock≠some p:=ic h.row h.blk (by decide)
theorem kG.lt_bs (h:kG w F p nodes sl root A n c bs) {g:Nat} (hg:g∈bs):g<w.heap.size:=by
 obtain⟨i,hi,rfl⟩:=List.mem_iff_getElem.1 hg;have hs:i<sl.length:=by have e1:n=sl.length:=h.len;have e2:bs.length=n:=h.blen;omega
 obtain⟨hA,hn,hc,kA,kn,kc,vA,vn,vc,dA,dn,dc,hb,_⟩:=h.slot i bs[i] sl[i] (List.getElem?_eq_getElem hi) (List.getElem?_eq_getElem hs);exact hb.lt
theorem kG.upd (h:kG w F p nodes sl root A n c bs) {i g:Nat} {s:bB} (hg:bs[i]? =some g) (hc:ag (jK g) w w') (hF:∀b,F b→G b)
  (hx:eF w' (fun b=>G b∧¬J9 p (.slice A n c) bs b) g s):kG w' G p nodes (sl.set i s) root A n c bs:=by
 have hgm:g∈bs:=List.mem_of_getElem? hg;have hil:i<sl.length:=by have e1:n=sl.length:=h.len;have e2:bs.length=n:=h.blen;have:=(List.getElem?_eq_some_iff.1 hg).1;omega
 refine⟨by have e1:n=sl.length:=h.len;show n=(sl.set i s).length;simp [e1],h.blen,h.blk.chg hc (fun e=>h.ne_p hgm (show p=g from e).symm),aF h.row hc (fun b hb e=>h.ne_row hgm (by rw [hb];rw [show b=g from e])),hF _ h.fp,fun b hb=>hF _ (h.frow b hb),fun b hb=>hF _ (h.fbs b hb),h.nodup,?_⟩;intro j g' s' hg' hs'
 by_cases hij:i=j
 ·subst hij;rw [hg] at hg';injection hg' with hg'
  subst hg';rw [List.getElem?_set_self hil] at hs';injection hs' with hs'
  subst hs'
  exact hx
 ·rw [List.getElem?_set_ne hij] at hs'
  have hne:g'≠g:=by
   rintro rfl;have l1:=(List.getElem?_eq_some_iff.1 hg);have l2:=(List.getElem?_eq_some_iff.1 hg');exact hij ((List.getElem_inj h.nodup).1 (l1.2.trans l2.2.symm))
  exact((h.slot j g' s' hg' hs').chg hc (fun e=>hne e) (fun b hb e=>hb.2 (.inr (.inr ((show b=g from e)▸hgm))))).weak (fun b hb=>⟨hF _ hb.1,hb.2⟩)
theorem kG.setRoot (h:kG w F p nodes sl root A n c bs) (r:Int):kG (w.setCell ⟨p,2,none⟩ (.int .i64 r)) F p nodes sl r A n c bs:=by
 have hc:=ag.set1 w p 2 (.int .i64 r);refine⟨h.len,h.blen,?_,aF h.row hc (fun b hb e=>h.row_p (by rw [hb];rw [show b=p from e])),h.fp,h.frow,h.fbs,h.nodup,fun i g s hg hs=>(h.slot i g s hg hs).chg hc (fun e=>h.ne_p (List.mem_of_getElem? hg) e) (fun b hb e=>hb.2 (.inl e))⟩;have:=h.blk.set_ 2 (.int .i64 r);exact this
def rY (word:Int):Array Value:= #[.int .u64 word,.int .i64 0,.slice none 0 0,.int .i64 0,.slice none 0 0,.slice none 0 0,.slice none 0 0]
theorem zZ {w:World} {g:Nat} {word:Int} (C:Nat→Prop) (h:ai w g 126 (rY word)):eF w C g (word,Nd.zero):=
 ⟨none,0,0,none,0,0,none,0,0,none,0,0,h,Bt.nil _ _,Tx.nil _ _,Tx.nil _ _,It.nil _ _⟩
theorem kG.push {w1 w2 w3:World} (h:kG w F p nodes sl root A n c bs) {g:Nat} (hg:g=w.heap.size) (h1:Below w.heap.size w w1) (k1:ai w1 g 126 (rY 1))
  {A':Option Addr} {c':Nat} (hrow:w2.ownsRow 0 121 1 (.slice A' (n+1) c') (n+1) (bs.map ptr++ [ptr g])) (hgr:w1.grownBy w2 (Value.slice A n c).ownBlock)
  (hat:(Value.slice A' (n+1) c').ownBlock=(Value.slice A n c).ownBlock∨(Value.slice A' (n+1) c').ownBlock=some w1.heap.size)
  (h3:w3=w2.setCell ⟨p,1,none⟩ (.slice A' (n+1) c')):
  kG w3 (fun b=>F b∨w.heap.size≤b) p nodes (sl++ [(1,Nd.zero)]) root A' (n+1) c' (bs++ [g])∧ag F w w3:=by
 have hpl:p<w.heap.size:=h.blk.lt;have hs1:=h1.size;have hgl:g<w1.heap.size:=k1.lt;have UE:=own_below h.row h1;have hpr:(Value.slice A n c).ownBlock≠some p:=h.row_p;have Yo:(Value.slice A n c).ownBlock≠some g:=ic UE k1 (by decide);have c2:ag (fun b=>(Value.slice A n c).ownBlock=some b) w1 w2:=(ag.refl _ _).grown hgr (fun b hb _=>hb);have c3:ag (jK p) w2 w3:=by subst h3;exact ag.set1 w2 p 1 _
 have hs2:=c2.size;have hp2:ai w2 p 120 #[.int .i64 nodes,.slice A n c,.int .i64 root]:=(h.blk.below h1).chg c2 hpr;have hp3:ai w3 p 120 #[.int .i64 nodes,.slice A' (n+1) c',.int .i64 root]:=by subst h3;exact hp2.set_ 1 _
 have hrp:(Value.slice A' (n+1) c').ownBlock≠some p:=ic hrow hp2 (by decide);have hrow3:=aF hrow c3 (fun b hb e=>hrp (by rw [hb];rw [show b=p from e]));have kg3:ai w3 g 126 (rY 1):=(k1.chg c2 Yo).chg c3 (fun e=>by have e:g=p:=e;omega);have hch:ag F w w3:=((ag.of_below (S:=F) h1).trans c2 (fun b _ hb=>h.frow b hb)).trans c3 (fun b _ hb=>by have hb:b=p:=hb;rw [hb];exact h.fp)
 refine⟨⟨?_,?_,hp3,?_,.inl h.fp,?_,?_,?_,?_⟩,hch⟩
 ·have e1:n=sl.length:=h.len;show n+1=(sl++ [(1,Nd.zero)]).length
  simp [e1]
 ·have e2:bs.length=n:=h.blen;show(bs++ [g]).length=n+1
  simp [e2]
 ·rw [List.map_append];exact hrow3
 ·intro b hb
  rcases hat with e|e
  ·exact .inl (h.frow b (by rw [←e];exact hb))
  ·rw [e] at hb;injection hb with hb;exact .inr (by omega)
 ·intro b hb
  rcases List.mem_append.1 hb with hb|hb
  ·exact .inl (h.fbs b hb)
  ·have:b=g:=by simpa using hb
   exact .inr (by omega)
 ·rw [List.nodup_append];refine⟨h.nodup,by simp,fun a ha b hb e=> ?_⟩;have hb:b=g:=by simpa using hb
  have:=h.lt_bs ha
  omega
 ·intro i g' s' hg' hs';have e1:n=sl.length:=h.len;have e2:bs.length=n:=h.blen
  rcases Nat.lt_or_ge i n with hi|hi
  ·rw [List.getElem?_append_left (by omega)] at hg' hs';have hgm:g'∈bs:=List.mem_of_getElem? hg';have hx:=(h.slot i g' s' hg' hs').lt;have hx1:eF w1 (fun b=>(F b∧¬J9 p (.slice A n c) bs b)∧b<w.heap.size) g' s':=hx.chg (ag.of_below (S:=Nil) h1) (fun hf=>hf) (fun _ _ hf=>hf);have hx2:=hx1.chg c2 (fun e=>h.ne_row hgm e) (fun b hb e=>hb.1.2 (.inr (.inl e)));have hx3:=hx2.chg c3 (fun e=>h.ne_p hgm e) (fun b hb e=>hb.1.2 (.inl e));refine hx3.weak (fun b hb=>⟨.inl hb.1.1,fun hm=> ?_⟩)
   rcases hm with hm|hm|hm
   ·exact hb.1.2 (.inl hm)
   ·rcases hat with e|e
    ·exact hb.1.2 (.inr (.inl (by rw [←e];exact hm)))
    ·rw [e] at hm;injection hm with hm;omega
   ·rcases List.mem_append.1 hm with hm|hm
    ·exact hb.1.2 (.inr (.inr hm))
    ·have:b=g:=by simpa using hm
     omega
  ·have hi2:i=n:=by
    have:=(List.getElem?_eq_some_iff.1 hg').1;simp at this;omega
   subst hi2;rw [List.getElem?_append_right (by omega)] at hg' hs';have e4:g'=g:=by simpa [e2] using hg'.symm
   have e5:s'=(1,Nd.zero):=by simpa [←e1] using hs'.symm
   subst e4;subst e5;exact zZ _ kg3
end
theorem kG.mut_lt {F:Nat→Prop} {w:World} {p:Nat} {nodes root:Int} {sl:List bB} {A:Option Addr} {n c:Nat} {bs:List Nat} (h:kG w F p nodes sl root A n c bs) {b:Nat} (hb:w.heap.size≤b):¬J9 p (.slice A n c) bs b:=by
 rintro(e|e|e)
 ·have:=h.blk.lt;omega
 ·have:=(ah h.row b e).2;omega
 ·have:=h.lt_bs e;omega
theorem eF.setWord {w:World} {C:Nat→Prop} {g:Nat} {s:bB} (h:eF w C g s) (hg:¬C g) (x:Int):eF (w.setCell ⟨g,0,none⟩ (.int .u64 x)) C g (x,s.2):=by
 obtain⟨hA,hn,hc,kA,kn,kc,vA,vn,vc,dA,dn,dc,h1,h2,h3,h4,h5⟩:=h;have hch:=ag.set1 w g 0 (.int .u64 x);have hs:∀b,C b→¬jK g b:=fun b hb e=>hg ((show b=g from e)▸hb);exact⟨hA,hn,hc,kA,kn,kc,vA,vn,vc,dA,dn,dc,h1.set_ 0 _,h2.chg hch hs,h3.chg hch hs,h4.chg hch hs,h5.chg hch hs⟩
theorem eF.setHead {w:World} {C:Nat→Prop} {g:Nat} {s:bB} (h:eF w C g s) (hg:¬C g) {A:Option Addr} {n c:Nat} {lev right:Int} {high:List UInt8} (hb:Bt w C A n c high):
  eF (((w.setCell ⟨g,1,none⟩ (.int .i64 lev)).setCell ⟨g,2,none⟩ (.slice A n c)).setCell ⟨g,3,none⟩ (.int .i64 right)) C g (s.1,⟨lev,high,right,s.2.keys,s.2.vals,s.2.kids⟩):=by
 obtain⟨hA,hn,hc,kA,kn,kc,vA,vn,vc,dA,dn,dc,h1,h2,h3,h4,h5⟩:=h;have hch:ag (jK g) w (((w.setCell ⟨g,1,none⟩ (.int .i64 lev)).setCell ⟨g,2,none⟩ (.slice A n c)).setCell ⟨g,3,none⟩ (.int .i64 right)):=((ag.set1 w g 1 _).setCell (p:=⟨g,2,none⟩) (fun _=>rfl) _).setCell (p:=⟨g,3,none⟩) (fun _=>rfl) _;have hs:∀b,C b→¬jK g b:=fun b hb e=>hg ((show b=g from e)▸hb);exact⟨A,n,c,kA,kn,kc,vA,vn,vc,dA,dn,dc,((h1.set_ 1 _).set_ 2 _).set_ 3 _,hb.chg hch hs,h3.chg hch hs,h4.chg hch hs,h5.chg hch hs⟩
theorem eF.setBody {w:World} {C:Nat→Prop} {g:Nat} {s:bB} (h:eF w C g s) (hg:¬C g) {A B D:Option Addr} {n c m d l k:Nat} {keys vals:List (List UInt8)} {kids:List Int} (ha:Tx w C A n c keys) (hb:Tx w C B m d vals) (hd:It w C D l k kids):
  eF (((w.setCell ⟨g,4,none⟩ (.slice A n c)).setCell ⟨g,5,none⟩ (.slice B m d)).setCell ⟨g,6,none⟩ (.slice D l k)) C g (s.1,⟨s.2.lev,s.2.high,s.2.right,keys,vals,kids⟩):=by
 obtain⟨hA,hn,hc,kA,kn,kc,vA,vn,vc,dA,dn,dc,h1,h2,h3,h4,h5⟩:=h;have hch:ag (jK g) w (((w.setCell ⟨g,4,none⟩ (.slice A n c)).setCell ⟨g,5,none⟩ (.slice B m d)).setCell ⟨g,6,none⟩ (.slice D l k)):=((ag.set1 w g 4 _).setCell (p:=⟨g,5,none⟩) (fun _=>rfl) _).setCell (p:=⟨g,6,none⟩) (fun _=>rfl) _;have hs:∀b,C b→¬jK g b:=fun b hb e=>hg ((show b=g from e)▸hb);exact⟨hA,hn,hc,A,n,c,B,m,d,D,l,k,((h1.set_ 4 _).set_ 5 _).set_ 6 _,h2.chg hch hs,ha.chg hch hs,hb.chg hch hs,hd.chg hch hs⟩
theorem Af (w:World) (g i j k:Nat) (u v x:Value):ag (jK g) w (((w.setCell ⟨g,i,none⟩ u).setCell ⟨g,j,none⟩ v).setCell ⟨g,k,none⟩ x):=
 ((ag.set1 w g i _).setCell (p:=⟨g,j,none⟩) (fun _=>rfl) _).setCell (p:=⟨g,k,none⟩) (fun _=>rfl) _
end
end Go.Proofs.YtbjgeidjmhialaaGreatDoor
