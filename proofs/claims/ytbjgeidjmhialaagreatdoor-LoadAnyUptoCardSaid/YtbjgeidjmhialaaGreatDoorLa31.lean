/- Part 31. -/
import Derived.Test.YtbjgeidjmhialaaGreatDoorLa30
namespace Go.Proofs.YtbjgeidjmhialaaGreatDoor
set_option maxRecDepth 100000
set_option maxHeartbeats 8000000
section
open Go.Proofs.Tryz
open Go.RowKit Go.Shelf
structure Y2 (F:Nat→Prop) (z q p base lo L Dd bl:Nat) (rc:Loop) (r0:aU) (w:World) (e:Ending) (w':World):Prop where
 ret:∃v,e= .returned v
 all:∃(out:List aH) (rf:aU) (D B:Nat→Prop),jA r0 out rf∧out.length≤536870912∧Jr w' lo L Dd bl base rc D B out∧(∀b,B b→base≤b)∧(∃v0 v1 v2 v3,ai w' z 150 #[v0,v1,v2,v3,.int .i64 rf.err,.int .i64 (rf.bad:Nat)])∧fU w' F p rf.cur.src
 chg:ag (KZ z q p lo) w w'
theorem Oy (z q p base hv K:Nat) (F Dr:Nat→Prop) (A:Option Addr) (n cc:Nat) (us:List Value) (r:aU) (left:Value) (w:World) (h:EX w F Dr z q p base hv A n cc us K r left) (hK:K≤1152921504606846976):
  Calls prog (if r.st=0 then 46 else 75) #[.pointer (some ⟨z,0,none⟩)] w (l8 F z q p base Dr (AO z 1) left A n cc us r.next.1 r.next.2 w):=by
 have hst:=h.ok.st;have hgo:=h.go;have hb:=h.rblk
 by_cases h0:r.st=0
 ·rw [if_pos h0]
  exact AP F Dr z q p base hv K _ left A n cc us r w h.sit h.zs h.nFz h.bw hb h.rows h.iny h.ok h0 hK
 ·rw [if_neg h0];have h1:r.st=1:=by omega
  have e1:r.next=r.frame:=by unfold aU.next;rw [if_neg (by omega),if_pos h1]
  rw [e1];have e2:AO z r.st=AO z 1:=by rw [h1]
  rw [e2] at hb;exact rq F Dr z q p base hv K (AO z 1) left A n cc us r w h.sit h.zs h.nFz h.bw hb h.rows h.iny h.ok h1 hK
theorem K9 (F:Nat→Prop) (z q p base hv lo L Dd bl rb K:Nat) (rc:Loop) (r:aU) (w:World) (h:EX w F Nil z q p base hv none 0 0 [] K r (.slice none 0 0)) (hj:Jr w lo L Dd bl base rc (zn Nil (.slice none 0 0)) Nil [])
  (hY:∀(D B:Nat→Prop) (out:List aH) (e:aH) (Ak Av:Option Addr) (nk ck nv cv:Nat) (W:World),Jr W lo L Dd bl base rc D B out→(∀b,B b→base≤b∧b<W.heap.size)→SB W D (.slice Ak nk ck) e.1→SB W D (.slice Av nv cv) e.2→out.length≤1152921504606→
   YieldAt Fence.wide 2 prog L #[.slice Ak nk ck,.slice Av nv cv] W fun en W'=>en= .returned (.bool true)∧Jr W' lo L Dd bl base rc D B (out++ [e])∧ag (fun b=>b=L∨b=bl∨base≤b∧¬B b) W W')
  (hb:ai w rb 73 #[.pointer (some ⟨z,0,none⟩)]) (hlo:z<lo∧q<lo∧p<lo∧∀b,F b→b<lo) (hrb:bl<rb∧rb<Dd) (hK:K≤1152921504606846976) (hr0:r.rows= []):
  Calls prog 47 #[.func (.yield L) #[] #[],.pointer (some ⟨rb,0,none⟩)] w (Y2 F z q p base lo L Dd bl rc r w):=by
 refine letter fun R HR=> ?_;have HY:=aa hY;have xu:=aa hlo;have Ai:=aa hrb;have H0:Hid (K7 F z q p base lo L Dd bl rb K rc r w (65*8388609) w):=aa ⟨r,[],[],Nil,none,0,0,[],hv,none,0,0,by rw [hr0];simp,h,Nat.le_refl _,by simp [maxLen],bO.nil _ _ _,hj,Came.nil r,hb,by simp,ag.refl _ _⟩;clear hY hlo hrb h hj hb hr0;go_enter func47,ntmps47
 go_wp2
 go_loopg [] (65*8388609) (fun g' wz=>Hid (K7 F z q p base lo L Dd bl rb K rc r w g' wz))
 case atStart=>exact H0
 case round=>
  obtain⟨r1,lf,out,Dr,A,n,cc,us,hv1,lA,ln,lc,UC,hX,hl1,hl2,hE,hJ,hCm,hB,hN,hC⟩:=hrel;have HGK:=aa UC;have HX:=aa hX;have HE:=aa hE;have HJ:=aa hJ;have HCM:=aa hCm;have HB:=aa hB;have HN:=aa hN;have HC:=aa hC;have HL:=aa (And.intro hl1 hl2);have x0:wr.cell? ⟨rb,0,none⟩=some (.pointer (some ⟨z,0,none⟩)):=hB.cell 0;have z2:wr.cell? ⟨z,2,none⟩=some (.slice lA ln lc):=hX.rblk.cell 2;have hlen:=hE.len;clear UC hX hE hJ hCm hB hN hC hl1 hl2
  cases lf with
  |cons e lf=>
   have hln:¬((ln:Int)=0):=by simp at hlen;omega
   go_upto_region 4 with fail
   refine Fx F Dr z q p base lo L Dd bl rb hv1 K rc r r1 e lf out A lA n cc ln lc us w wr _ _ HX HL.1 HL.2 HE HJ (aa (HY _ _ out e)) HCM HB HN HC xu Ai ?_ (by assumption);intro v5 v26 v27 v28 v29 v30 v31 v32 v33 v34 v35 v36 v37 v38 v39 v40 v41 v42 v43 v44 v45 v46 w' hA;go_wp2
   go_roundg (65*(8388609-r1.rows.length)+lf.length)
   case measure=>have:=HGK.out;simp at this;omega
   case rel=>exact aa hA
  |nil=>
   obtain rfl:ln=0:=by simpa using hlen
   obtain⟨fk,Vl⟩:∃fk,fk=(if r1.st=0 then 46 else 75):=⟨_,rfl⟩
   have Vm:∀args w',(callFunc fk args).run prog w'= .ok (.enter fk args) w':=by
    rw [Vl];intro args w';split<;>kernel_rfl
   have hnx:=Oy z q p base hv1 K F Dr A n cc us r1 _ wr HX hK;have z1:wr.cell? ⟨z,1,none⟩=some (.func (.func fk) #[.pointer (some ⟨z,0,none⟩)] #[]):=by rw [Vl];exact HX.rblk.cell 1
   rw [←Vl] at hnx;have zm:=aa hnx;have GD:=aa (aU.next_ok HX.ok);clear Vl hnx hlen;obtain⟨nx,hnx⟩:∃x,x=r1.next:=⟨_,rfl⟩;have zk:=aa hnx;rw [←hnx] at zm GD;obtain⟨o,r2⟩:=nx;clear hnx
   have JK:Hid (∀b,lo≤b→b<base→¬Fs z q p wr.heap.size (.slice A n cc) b):=aa (fun b h1 h2 e=>by
    have hlo:=xu.out;have hbw:=HX.out.bw
    rcases e with e|e|e|e|e
    ·omega
    ·omega
    ·omega
    ·have:=(ah HX.rows.own b e).1;omega
    ·omega)
   have HS2:Hid (∀b,base≤b→b<wr.heap.size→¬Dr b→¬Fs z q p wr.heap.size (.slice A n cc) b):=aa (fun b h1 h2 h3 e=>by
    have hs:=HX.out.sit;have hz:=HX.out.zs.lt
    rcases e with e|e|e|e|e
    ·omega
    ·have:=hs.qB;omega
    ·have:=hs.pB;omega
    ·exact h3 (HX.rows.dom b e)
    ·omega)
   have Nv:Hid (∀b,zn Dr (.slice A n cc) b→¬Fs z q p wr.heap.size (.slice A n cc) b):=aa (fun b hb e=>by
    have hs:=HX.out.sit;have hz:=HX.out.zs.lt;have hd:=HX.out.drl b hb.1
    rcases e with e|e|e|e|e
    ·omega
    ·have:=hs.qB;omega
    ·have:=hs.pB;omega
    ·exact hb.2 e
    ·omega)
   have ET:Hid (¬Fs z q p wr.heap.size (.slice A n cc) rb):=aa (JK rb (by have:=HJ.out.ord;have:=Ai.out;omega) (by have:=HJ.out.ord;have:=Ai.out;omega))
   have HSG:Hid (∀w',ag (Fs z q p wr.heap.size (.slice A n cc)) wr w'→ag (KZ z q p lo) w w'):=aa (fun w' hc=>HC.out.trans hc (fun b hb e=>by
    have ho:=HJ.out.ord;have hbw:=HX.out.bw
    rcases e with e|e|e|e|e
    ·exact .inl e
    ·exact .inr (.inl e)
    ·exact .inr (.inr (.inl e))
    ·have:=(ah HX.rows.own b e).1;exact .inr (.inr (.inr (by omega)))
    ·exact .inr (.inr (.inr (by omega)))))
   cases o with
   |none=>
    go_wp2_with ((refine zm.mono ?_);intro e w4 hf;have ny:=aa hf;obtain⟨rfl,_,_⟩:=hf.no rfl;clear hf)
    refine bodyPost_ret (results_none rfl _ _ _) rfl ?_;rw [HR.out];obtain⟨_,_,hbl,Qj⟩:=ny.out.no rfl;have hne:=zk.out
    have Qk:jA r out r2:=by
     have h1:=HCM.out;rw [List.append_nil] at h1;have h2:=h1.stop (by rw [←hne]);rw [←hne] at h2;exact h2
    refine⟨⟨_,rfl⟩,⟨out,r2,zn Dr (.slice A n cc),Dr,Qk,?_,HJ.chg ny.chg JK HS2 Nv,fun b hb=>(HX.drl b hb).1,⟨_,_,_,_,hbl⟩,Qj⟩,HSG _ ny.chg⟩;have h1:=HN.out;have h2:=HX.out.ok.rows.many;simp at h1
    omega
   |some es=>
    go_upto_region 4 with((refine zm.mono ?_);intro e w4 hf;have ny:=aa hf;obtain⟨eA,en,ec,A',n',pu,lh,hv',rfl,g1,g2,g3,g4,g5,g6,g7⟩:=hf.yes es rfl;have G1:=aa g1;have G2:=aa g2;have G3:=aa g3;have G4:=aa g4;have G5:=aa g5;have G6:=aa g6;have G7:=aa g7;have y0:w4.cell? ⟨rb,0,none⟩=some (.pointer (some ⟨z,0,none⟩)):=(HB.out.chg ny.chg ET).cell 0;have yf:=g6.frozen 2;have y2:=g6.cell 2;clear hf g1 g2 g3 g4 g5 g6 g7 x0 z2 z1)
    have jT:=aa (GD.2 es rfl);have hbk:=jT.out;have hne:r1.next.1=some es∧r1.next.2=r2:=by have:=zk.out;rw [←this];exact⟨rfl,rfl⟩
    obtain⟨e0,es',rfl⟩:∃e0 es',es=e0::es':=by
     have:=hbk.some
     cases es with
     |nil=>simp at this
     |cons a b=>exact⟨a,b,rfl⟩
    have hO:=HJ.out.ord;have hlo:=xu.out;have hs4:=ny.out.chg.size;obtain⟨Dn,hDn⟩:∃D:Nat→Prop,D=fun b=>Dr b∨(wr.heap.size≤b∧b<w4.heap.size):=⟨_,rfl⟩
    have hD4:∀b,Dn b→base≤b∧b<w4.heap.size:=fun b hb=>by
     rw [hDn] at hb
     rcases hb with hb|hb
     ·have:=HX.out.drl b hb;omega
     ·have:=HX.out.bw;omega
    have hX4:EX w4 F Dn z q p base hv' A' n' pu lh K r2 (.slice lA 0 lc):=
     ⟨HX.sit,HX.zs,HX.nFz,Nat.le_trans HX.bw hs4,by rw [hbk.st];exact G6.out,by rw [hDn];exact G4.out,G5.out,hD4,hbk.ok,by rw [hbk.st];decide⟩
    have hJ4:Jr w4 lo L Dd bl base rc (zn Dn (.slice A' n' pu)) Dn out:=HJ.out.step ny.chg JK HS2 Nv
     (fun b hb hd=>⟨by rw [hDn];exact .inl hd.1,fun e=>by
      rcases G7.out b e with h|h
      ·exact hd.2 h
      ·omega⟩)
     (fun g hg hn hd=>by
      rw [hDn] at hd
      rcases hd with h|h
      ·exact hn h
      ·omega)
     (fun b hb=>⟨hb.1,(hD4 b hb.1).2⟩)
    have hE4:bO w4 (zn Dn (.slice A' n' pu)) eA en (e0::es'):=(Lb G3.out).weak (fun b hb=>⟨by rw [hDn];exact .inr ⟨hb.1.1,hb.2⟩,hb.1.2⟩);have Vn:ag (fun b=>b=z) w4 (w4.setCell ⟨z,2,none⟩ (.slice eA en ec)):=(ag.refl (fun b=>b=z) w4).setCell (p:=⟨z,2,none⟩) (fun _=>rfl) _;have Y3:∀b,Dn b→¬b=z:=fun b hb e=>by have:=(hD4 b hb).1;have:=HX.out.zs.lt;omega
    have hN5:out.length+(es'.length+1)≤64*r2.rows.length:=by
     have h1:=HN.out;have h2:=hbk.rows;have h3:=hbk.most;simp at h1 h3;omega
    refine Fx F Dn z q p base lo L Dd bl rb hv' K rc r r2 e0 es' out A' eA n' pu en ec lh w (w4.setCell ⟨z,2,none⟩ (.slice eA en ec)) _ _ (hX4.set2 _) G1.out G2.out (hE4.chg Vn (fun b hb=>Y3 b hb.1))
     (hJ4.chg Vn (fun b h1 h2 e=>by omega) (fun b h1 h2 h3 e=>by omega) (fun b hb=>Y3 b hb.1)) (aa (HY _ _ out e0)) ?_ ((HB.chg ny.chg ET).chg Vn (by have:=Ai.out;omega)) hN5 ((HSG _ ny.chg).trans Vn (fun b _ e=> .inl e)) hlo Ai ?_ (by assumption)
    ·have h1:=HCM.out.more hne.1;rw [List.append_nil,hne.2] at h1
     exact h1
    ·have Fy:Hid (65*(8388609-r2.rows.length)+es'.length<gk):=aa (by
      have h1:=HGK.out;have h2:=hbk.rows;have h3:=hbk.most;have h4:=hbk.ok.rows.many;simp at h1 h3;omega)
     clear hbk hne hO hlo hs4 hDn hD4 hX4 hJ4 hE4 Vn Y3 hN5 y0 y2 yf;intro v5 v26 v27 v28 v29 v30 v31 v32 v33 v34 v35 v36 v37 v38 v39 v40 v41 v42 v43 v44 v45 v46 w' hA;go_wp2
     go_roundg (65*(8388609-r2.rows.length)+es'.length)
     case measure=>exact Fy
     case rel=>exact aa hA
end
section
def Src.calm (s:Src):Prop:=s.fail<1∧s.gives.length<16
theorem Src.read_cases (s:Src) (n:Nat):
  ((s.read n).1= []∧(s.read n).2.1=32∧(s.read n).2.2.left=s.left∧0<s.fail)∨((s.read n).1= []∧(s.read n).2.1=31∧(s.read n).2.2.left=s.left∧s.left= [])∨
  (∃k,k≤n∧(s.read n).1=s.left.take k∧(s.read n).2.2.left=s.left.drop k∧((s.read n).2.1=0∨(s.read n).2.1=31∧s.left.drop k= [])∧s.left≠ []∧(k=0→n=0∨s.calls<s.gives.length)):=by
 unfold Src.read
 split
 ·rename_i h;exact .inl ⟨rfl,rfl,rfl,h.1⟩
 ·split
  ·rename_i h1 h;exact .inr (.inl ⟨rfl,rfl,rfl,h⟩)
  ·rename_i h1 h
   refine .inr (.inr ⟨s.most n,s.most_le n,rfl,rfl,?_,h,fun hk=> ?_⟩)
   ·by_cases he:s.eager=true∧s.left.drop (s.most n)= []
    ·exact .inr ⟨if_pos he,he.2⟩
    ·exact .inl (if_neg he)
   ·unfold Src.most at hk
    split at hk
    ·rename_i g hg;exact .inr (List.getElem?_eq_some_iff.1 hg).1
    ·exact .inl hk
structure Wv (c:ax) (b:List UInt8) (n:Nat) (x:List UInt8×Int×ax):Prop where
 three:(x.2.1=0∧x.1=b++c.src.left.take (n-b.length)∧x.2.2.src.left=c.src.left.drop (n-b.length)∧n-b.length≤c.src.left.length)∨(x.2.1=41∧x.1= []∧c.src.left.length<n-b.length∧x.2.2.src.left= [])∨((x.2.1=32∨x.2.1=33)∧x.1= [])
 idle:x.2.1≠33→x.2.2.idle≤15
 at_:x.2.2.at_=c.at_
 err:x.2.2.err=c.err
 held:x.2.2.held=c.held
theorem xL (n:Nat):∀(M:Nat) (c:ax) (b:List UInt8),(n-b.length)*17+(16-c.idle)≤M→c.idle≤15→b.length≤n→Wv c b n (c.loop b n):=by
 intro M
 induction M with
 |zero=>intro c b hM hi hb;omega
 |succ M ih=>
  intro c b hM hi hb;rw [ax.loop_eq]
  split
  ·rename_i h1;have h0:n-b.length=0:=by omega
   exact⟨.inl ⟨rfl,by rw [h0];simp,by rw [h0];simp,by omega⟩,fun _=>hi,rfl,rfl,rfl⟩
  ·rename_i h1;have hidle:=c.ask_idle (n-b.length);have hle:(c.ask (n-b.length)).1.length≤n-b.length:=c.ask_len _;obtain⟨q,hq⟩:∃q,q=c.ask (n-b.length):=⟨_,rfl⟩;have hat:q.2.2.at_=c.at_∧q.2.2.err=c.err∧q.2.2.held=c.held:=by rw [hq];exact⟨rfl,rfl,rfl⟩
   have hc:=c.src.read_cases (min (n-b.length) 4096);have e1:(c.src.read (min (n-b.length) 4096)).1=q.1:=by rw [hq];rfl
   have e2:(c.src.read (min (n-b.length) 4096)).2.1=q.2.1:=by rw [hq];rfl
   have e3:(c.src.read (min (n-b.length) 4096)).2.2=q.2.2.src:=by rw [hq];rfl
   rw [e1,e2,e3] at hc;rw [←hq] at hidle hle⊢;clear e1 e2 e3 hq;have al1:q.2.2.idle≤16:=by split at hidle<;>omega
   have hne:q.2.1≠0→q.2.2.idle≤15:=fun h=>by rw [if_pos (.inr h)] at hidle;omega
   rcases hc with⟨d1,d2,d3,d4⟩|⟨d1,d2,d3,d4⟩|⟨k,k1,d1,d2,d3,d4,d5⟩
   ·have hlb:¬n≤(b++q.1).length:=by rw [d1];simp;omega
    rw [if_neg hlb,if_neg (by omega),if_pos (by omega)]
    exact⟨.inr (.inr ⟨.inl d2,rfl⟩),fun _=>hne (by omega),hat.1,hat.2.1,hat.2.2⟩
   ·have hlb:¬n≤(b++q.1).length:=by rw [d1];simp;omega
    rw [if_neg hlb,if_pos d2]
    exact⟨.inr (.inl ⟨rfl,rfl,by rw [d4];simp;omega,by rw [d3,d4]⟩),fun _=>hne (by omega),hat.1,hat.2.1,hat.2.2⟩
   ·have hkl:q.1.length=min k c.src.left.length:=by rw [d1,List.length_take]
    split
    ·rename_i h2;rw [List.length_append] at h2;have Gq:q.1.length=n-b.length:=by omega
     have hk:q.1=c.src.left.take (n-b.length)∧q.2.2.src.left=c.src.left.drop (n-b.length):=by
      by_cases hkk:k=n-b.length
      ·rw [←hkk];exact⟨d1,d2⟩
      ·have hL:c.src.left.length=n-b.length:=by omega
       exact⟨by rw [d1,List.take_of_length_le (by omega),List.take_of_length_le (by omega)],by rw [d2,List.drop_of_length_le (by omega),List.drop_of_length_le (by omega)]⟩
     refine⟨.inl ⟨rfl,by rw [hk.1],hk.2,by omega⟩,fun _=> ?_,hat.1,hat.2.1,hat.2.2⟩;have:q.1≠ []:=fun e=>by rw [e] at Gq;simp at Gq;omega
     rw [if_pos (.inl this)] at hidle;show q.2.2.idle≤15
     omega
    ·rename_i h2;rw [List.length_append] at h2
     split
     ·rename_i h3
      rcases d3 with d3|⟨_,d3⟩
      ·omega
      ·have hL:c.src.left.length≤k:=by
        have:=congrArg List.length d3;rw [List.length_drop] at this;simp at this;omega
       exact⟨.inr (.inl ⟨rfl,rfl,by omega,by rw [d2,d3]⟩),fun _=>hne (by omega),hat.1,hat.2.1,hat.2.2⟩
     ·rename_i h3;have h0:q.2.1=0:=by rcases d3 with d3|⟨d3,_⟩;exact d3;exact absurd d3 h3
      rw [if_neg (by omega)]
      split
      ·rename_i h4
       exact⟨.inr (.inr ⟨.inr rfl,rfl⟩),fun h=>absurd rfl h,hat.1,hat.2.1,hat.2.2⟩
      ·rename_i h4
       have hM2:(n-(b++q.1).length)*17+(16-q.2.2.idle)≤M:=by
        rw [List.length_append]
        by_cases h6:q.1= []
        ·rw [if_neg (by simp [h6,h0])] at hidle
         rw [h6];simp;omega
        ·have h8:0<q.1.length:=List.length_pos_iff.2 h6;omega
       have hr:=ih q.2.2 (b++q.1) hM2 (by omega) (by rw [List.length_append];omega);have hkk:q.1.length+(n-(b++q.1).length)=n-b.length:=by rw [List.length_append];omega
       have Ny:k≤c.src.left.length∨c.src.left.length<k:=by omega
       have hdrop:q.2.2.src.left=c.src.left.drop q.1.length∧q.1=c.src.left.take q.1.length:=by
        rcases Ny with h|h
        ·rw [show q.1.length=k by omega];exact⟨d2,d1⟩
        ·rw [show q.1.length=c.src.left.length by omega,d2,d1,List.drop_of_length_le (by omega),List.drop_of_length_le (by omega),List.take_of_length_le (by omega),List.take_of_length_le (by omega)];exact⟨rfl,rfl⟩
       refine⟨?_,hr.idle,hr.at_.trans hat.1,hr.err.trans hat.2.1,hr.held.trans hat.2.2⟩
       rcases hr.three with⟨r1,r2,r3,r4⟩|⟨r1,r2,r3,r4⟩|r
       ·refine .inl ⟨r1,?_,?_,?_⟩
        ·rw [r2,hdrop.1,List.append_assoc,←hkk];congr 1
         rw [List.take_add];congr 1
         exact hdrop.2
        ·rw [r3,hdrop.1,List.drop_drop,hkk]
        ·rw [hdrop.1,List.length_drop] at r4;omega
       ·refine .inr (.inl ⟨r1,r2,?_,r4⟩);rw [hdrop.1,List.length_drop] at r3
        omega
       ·exact .inr (.inr r)
theorem Src.read_fail (s:Src) (n:Nat):(s.read n).2.2.fail=s.fail:=by
 unfold Src.read
 split
 ·rfl
 ·split<;>rfl
structure Quiet (c:ax):Prop where
 calm:c.src.calm
 calls:c.idle≤c.src.calls
 gives:c.idle≤c.src.gives.length
theorem Quiet.low {c:ax} (h:Quiet c):c.idle≤15:=by have:=h.calm.2;have:=h.gives;omega
theorem Quiet.ask {c:ax} (h:Quiet c) {n:Nat} (hn:0<n):Quiet (c.ask n).2.2∧((c.ask n).2.1=0∨(c.ask n).2.1=31):=by
 have hc:=c.src.read_cases (min n 4096);have e1:(c.src.read (min n 4096)).1=(c.ask n).1:=rfl;have e2:(c.src.read (min n 4096)).2.1=(c.ask n).2.1:=rfl;have e3:(c.src.read (min n 4096)).2.2=(c.ask n).2.2.src:=rfl;have h1:=c.src.read_gives (min n 4096);have h2:=c.src.read_fail (min n 4096);have h3:=c.ask_calls n;have h4:=c.ask_idle n;rw [e1,e2,e3] at hc;rw [e3] at h1 h2;obtain⟨q,hq⟩:∃q,q=c.ask n:=⟨_,rfl⟩;rw [←hq] at hc h1 h2 h3 h4⊢;clear e1 e2 e3 hq;obtain⟨k1,k2⟩:=h.calm;have k3:=h.calls;have k4:=h.gives;have hcalm:q.2.2.src.calm:=⟨by rw [h2];exact k1,by rw [h1];exact k2⟩
 rcases hc with⟨d1,d2,d3,d4⟩|⟨d1,d2,d3,d4⟩|⟨k,kk,d1,d2,d3,d4,d5⟩
 ·omega
 ·rw [if_pos (.inr (by omega))] at h4
  exact⟨⟨hcalm,by omega,by omega⟩,.inr d2⟩
 ·refine⟨⟨hcalm,?_,?_⟩,?_⟩
  ·split at h4<;>omega
  ·rw [h1]
   by_cases h0:q.1≠ []∨q.2.1≠0
   ·rw [if_pos h0] at h4;omega
   ·rw [if_neg h0] at h4;have hq0:q.1= []:=Decidable.byContradiction (fun h=>h0 (.inl h))
    have hk0:k=0:=by
     rw [hq0] at d1;have hl:=congrArg List.length d1;rw [List.length_take] at hl;have:0<c.src.left.length:=List.length_pos_iff.2 d4;simp at hl;omega
    rcases d5 hk0 with h6|h6<;>omega
  ·exact d3.imp id (fun h=>h.1)
theorem rU (n:Nat):∀(M:Nat) (c:ax) (b:List UInt8),(n-b.length)*17+(16-c.idle)≤M→Quiet c→b.length≤n→((c.loop b n).2.1=0∨(c.loop b n).2.1=41)∧Quiet (c.loop b n).2.2:=by
 intro M
 induction M with
 |zero=>intro c b hM hi hb;have:=hi.low;omega
 |succ M ih=>
  intro c b hM hi hb;rw [ax.loop_eq]
  split
  ·exact⟨.inl rfl,hi⟩
  ·rename_i h1;have hidle:=c.ask_idle (n-b.length);have hle:(c.ask (n-b.length)).1.length≤n-b.length:=c.ask_len _;obtain⟨hq1,hq2⟩:=hi.ask (n:=n-b.length) (by omega);obtain⟨q,hq⟩:∃q,q=c.ask (n-b.length):=⟨_,rfl⟩;rw [←hq] at hidle hle hq1 hq2⊢;clear hq
   split
   ·exact⟨.inl rfl,hq1⟩
   ·rename_i h2
    split
    ·exact⟨.inr rfl,hq1⟩
    ·rename_i h3;have h0:q.2.1=0:=hq2.resolve_right h3;rw [if_neg (by omega)];have hl:=hq1.low;rw [if_neg (by omega)]
     have hM2:(n-(b++q.1).length)*17+(16-q.2.2.idle)≤M:=by
      rw [List.length_append]
      by_cases h6:q.1= []
      ·rw [if_neg (by simp [h6,h0])] at hidle
       rw [h6];simp;have:=hi.low;omega
      ·have h8:0<q.1.length:=List.length_pos_iff.2 h6;omega
     exact ih q.2.2 (b++q.1) hM2 hq1 (by rw [List.length_append];rw [List.length_append] at h2;omega)
end
section
structure kX (B:Prop) (c d:ax):Prop where
 left:c.src.left=d.src.left
 at_:c.at_=d.at_
 err:c.err=d.err
 held:c.held=d.held
 quiet:Quiet d
 low:c.idle≤15
 loud:B∨Quiet c
def Ww (B:Prop) {α:Type} (a b:α×Int×ax):Prop:=(a.1=b.1∧a.2.1=b.2.1∧kX B a.2.2 b.2.2)∨B∧(a.2.1=32∨a.2.1=33)
theorem Quiet.to {c d:ax} (h:Quiet c) (e1:c.src=d.src) (e2:c.idle=d.idle):Quiet d:=⟨by rw [←e1];exact h.calm,by rw [←e1,←e2];exact h.calls,by rw [←e1,←e2];exact h.gives⟩
section
variable {B:Prop}
theorem kX.withErr {c d:ax} (h:kX B c d) (e:Int):kX B {c with err:=e} {d with err:=e}:=⟨h.left,h.at_,rfl,h.held,h.quiet.to rfl rfl,h.low,h.loud.imp id (fun k=>k.to rfl rfl)⟩
theorem kX.withHeld {c d:ax} (h:kX B c d) (x:Option UInt8):kX B {c with held:=x} {d with held:=x}:=⟨h.left,h.at_,h.err,rfl,h.quiet.to rfl rfl,h.low,h.loud.imp id (fun k=>k.to rfl rfl)⟩
theorem xM {c d:ax} (h:kX B c d) (b:List UInt8) (n:Nat) (hb:b.length≤n):Ww B (c.loop b n) (d.loop b n):=by
 have h1:=xL n _ c b (Nat.le_refl _) h.low hb;have h2:=xL n _ d b (Nat.le_refl _) h.quiet.low hb;obtain⟨h3,h4⟩:=rU n _ d b (Nat.le_refl _) h.quiet hb;have hl:=h.left
 have like:∀(_:(c.loop b n).2.1≠33) (_:(c.loop b n).2.2.src.left=(d.loop b n).2.2.src.left),kX B (c.loop b n).2.2 (d.loop b n).2.2:=fun e1 e2=>
  ⟨e2,h1.at_.trans (h.at_.trans h2.at_.symm),h1.err.trans (h.err.trans h2.err.symm),h1.held.trans (h.held.trans h2.held.symm),h4,h1.idle e1,h.loud.imp id (fun k=>(rU n _ c b (Nat.le_refl _) k hb).2)⟩
 rcases h1.three with⟨a1,a2,a3,a4⟩|⟨a1,a2,a3,a4⟩|⟨a1,a2⟩
 ·rcases h2.three with⟨b1,b2,b3,b4⟩|⟨b1,b2,b3,b4⟩|⟨b1,b2⟩
  ·exact .inl ⟨by rw [a2,b2,hl],by rw [a1,b1],like (by omega) (by rw [a3,b3,hl])⟩
  ·rw [←hl] at b3;omega
  ·omega
 ·rcases h2.three with⟨b1,b2,b3,b4⟩|⟨b1,b2,b3,b4⟩|⟨b1,b2⟩
  ·rw [←hl] at b4;omega
  ·exact .inl ⟨by rw [a2,b2],by rw [a1,b1],like (by omega) (by rw [a4,b4])⟩
  ·omega
 ·rcases h.loud with k|k
  ·exact .inr ⟨k,a1⟩
  ·have:=(rU n _ c b (Nat.le_refl _) k hb).1;omega
theorem gy {c d:ax} (h:kX B c d) (n:Nat):Ww B (c.bytes n) (d.bytes n):=by
 have hs:=xM (h.withHeld none) c.held.toList n;have he:=h.err;have ha:=h.at_;unfold ax.bytes;rw [show d.held.toList=c.held.toList by rw [h.held]]
 by_cases e0:c.err≠0
 ·have f0:d.err≠0:=by rw [←he];exact e0
  rw [if_pos e0,if_pos f0]
  exact .inl ⟨rfl,he,h⟩
 ·have f0:¬d.err≠0:=by rw [←he];exact e0
  rw [if_neg e0,if_neg f0]
  by_cases e1:n=0
  ·rw [if_pos e1,if_pos e1];exact .inl ⟨rfl,rfl,h⟩
  ·rw [if_neg e1,if_neg e1];have hs:=hs (by have:=c.held_len;omega);generalize ax.loop {c with held:=none} c.held.toList n=x at hs⊢
   generalize ax.loop {d with held:=none} c.held.toList n=y at hs⊢
   rcases hs with⟨a1,a2,a3⟩|hs
   ·by_cases e2:x.2.1=0
    ·have S7:y.2.1=0:=by rw [←a2];exact e2
     rw [if_pos e2,if_pos S7]
     exact .inl ⟨a1,rfl,⟨a3.left,by show c.at_+n=d.at_+n;rw [ha],a3.err,a3.held,a3.quiet.to rfl rfl,a3.low,a3.loud.imp id (fun k=>k.to rfl rfl)⟩⟩
    ·have S7:¬y.2.1=0:=by rw [←a2];exact e2
     rw [if_neg e2,if_neg S7]
     exact .inl ⟨rfl,a2,⟨a3.left,a3.at_,a2,a3.held,a3.quiet.to rfl rfl,a3.low,a3.loud.imp id (fun k=>k.to rfl rfl)⟩⟩
   ·have e2:¬x.2.1=0:=by omega
    rw [if_neg e2];exact .inr hs
theorem Ja:∀(m k v:Nat) (c d:ax),k+m=9→kX B c d→Ww B (c.numL k v) (d.numL k v):=by
 intro m
 induction m with
 |zero=>
  intro k v c d hk h;have hb:=gy h 1;rw [ax.numL_eq k v c (by omega),ax.numL_eq k v d (by omega)];generalize c.bytes 1=x at hb⊢
  generalize d.bytes 1=y at hb⊢
  rcases hb with⟨e1,e2,e3⟩|hb
  ·rw [←e1,←e2]
   split
   ·exact .inl ⟨rfl,rfl,e3⟩
   ·split
    ·exact .inl ⟨rfl,rfl,e3.withErr _⟩
    ·split
     ·exact .inl ⟨rfl,rfl,e3.withErr _⟩
     ·split
      ·exact .inl ⟨rfl,rfl,e3⟩
      ·omega
  ·have e2:x.2.1≠0:=by omega
   rw [if_pos e2]
   exact .inr hb
 |succ m ih=>
  intro k v c d hk h;have hb:=gy h 1;rw [ax.numL_eq k v c (by omega),ax.numL_eq k v d (by omega)];generalize c.bytes 1=x at hb⊢
  generalize d.bytes 1=y at hb⊢
  rcases hb with⟨e1,e2,e3⟩|hb
  ·rw [←e1,←e2]
   split
   ·exact .inl ⟨rfl,rfl,e3⟩
   ·split
    ·exact .inl ⟨rfl,rfl,e3.withErr _⟩
    ·split
     ·exact .inl ⟨rfl,rfl,e3.withErr _⟩
     ·split
      ·exact .inl ⟨rfl,rfl,e3⟩
      ·exact ih _ _ _ _ (by omega) e3
  ·have e2:x.2.1≠0:=by omega
   rw [if_pos e2];exact .inr hb
theorem sP {c d:ax} (h:kX B c d):Ww B c.number d.number:=by
 have hn:=Ja 9 0 0 c d rfl h;unfold ax.number;generalize c.numL 0 0=x at hn⊢
 generalize d.numL 0 0=y at hn⊢
 rcases hn with⟨e1,e2,e3⟩|hn
 ·by_cases e:x.2.1=0
  ·have fe:y.2.1=0:=by rw [←e2];exact e
   rw [if_pos e,if_pos fe]
   exact .inl ⟨e1,e2,e3⟩
  ·have fe:¬y.2.1=0:=by rw [←e2];exact e
   rw [if_neg e,if_neg fe]
   exact .inl ⟨rfl,e2,⟨e3.left,h.at_,e3.err,e3.held,e3.quiet.to rfl rfl,e3.low,e3.loud.imp id (fun k=>k.to rfl rfl)⟩⟩
 ·have e:¬x.2.1=0:=by omega
  rw [if_neg e];exact .inr hn
theorem M4 {c d:ax} (h:kX B c d):Ww B c.end_ d.end_:=by
 have hs:=xM h [] 1 (by simp);unfold ax.end_
 by_cases e0:c.err≠0∨c.held.isSome=true
 ·have f0:d.err≠0∨d.held.isSome=true:=by rw [←h.err,←h.held];exact e0
  rw [if_pos e0,if_pos f0]
  exact .inl ⟨rfl,h.err,h⟩
 ·have f0:¬(d.err≠0∨d.held.isSome=true):=by rw [←h.err,←h.held];exact e0
  rw [if_neg e0,if_neg f0];generalize c.loop [] 1=x at hs⊢
  generalize d.loop [] 1=y at hs⊢
  rcases hs with⟨a1,a2,a3⟩|hs
  ·by_cases e1:x.2.1=0
   ·have fe1:y.2.1=0:=by rw [←a2];exact e1
    rw [if_pos e1,if_pos fe1]
    exact .inl ⟨rfl,rfl,⟨a3.left,a3.at_,a3.err,by show x.1.head? =y.1.head?;rw [a1],a3.quiet.to rfl rfl,a3.low,a3.loud.imp id (fun k=>k.to rfl rfl)⟩⟩
   ·have fe1:¬y.2.1=0:=by rw [←a2];exact e1
    rw [if_neg e1,if_neg fe1]
    by_cases e2:x.2.1=41
    ·have S7:y.2.1=41:=by rw [←a2];exact e2
     rw [if_pos e2,if_pos S7]
     exact .inl ⟨rfl,rfl,a3⟩
    ·have S7:¬y.2.1=41:=by rw [←a2];exact e2
     rw [if_neg e2,if_neg S7]
     exact .inl ⟨rfl,a2,⟨a3.left,a3.at_,a2,a3.held,a3.quiet.to rfl rfl,a3.low,a3.loud.imp id (fun k=>k.to rfl rfl)⟩⟩
  ·have e1:¬x.2.1=0:=by omega
   have e2:¬x.2.1=41:=by omega
   rw [if_neg e1,if_neg e2];exact .inr hs
end
end
section
def ad6 (B:Prop) (a b:Body):Prop:=(a.body=b.body∧a.err=b.err∧a.place=b.place∧kX B a.cur b.cur)∨B∧(a.err=32∨a.err=33)
section
variable {B:Prop}
theorem xN {c d:ax} (h:kX B c d) (n:Nat):ad6 B (c.body n) (d.body n):=by
 have ha:=h.at_;have h1:=gy h n;have h2:=fun hl=>gy (B:=B) (c:=(c.bytes n).2.2) (d:=(d.bytes n).2.2) hl 4;unfold ax.body;generalize c.bytes n=x at h1 h2⊢
 generalize d.bytes n=y at h1 h2⊢
 rcases h1 with⟨a1,a2,a3⟩|h1
 ·have h2:=h2 a3;have hat:=a3.at_;generalize x.2.2.bytes 4=x2 at h2⊢
  generalize y.2.2.bytes 4=y2 at h2⊢
  rw [←a1,←a2,←ha,←hat]
  split
  ·exact .inl ⟨rfl,rfl,rfl,a3⟩
  ·rcases h2 with⟨b1,b2,b3⟩|h2
   ·rw [←b1,←b2]
    split
    ·exact .inl ⟨rfl,rfl,rfl,b3⟩
    ·split
     ·exact .inl ⟨rfl,rfl,rfl,b3⟩
     ·exact .inl ⟨rfl,rfl,rfl,b3⟩
   ·have e:x2.2.1≠0:=by omega
    rw [if_pos e]
    exact .inr h2
 ·have e:x.2.1≠0:=by omega
  rw [if_pos e];exact .inr h1
structure nR (B:Prop) (r s:aU):Prop where
 cur:kX B r.cur s.cur
 st:r.st=s.st
 rows:r.rows=s.rows
 err:r.err=s.err
 bad:r.bad=s.bad
def M5 (B:Prop) (r:aU):Prop:=r.st=2∧B∧(r.err=32∨r.err=33)
def S8 (B:Prop) (a b:Option (List aH)×aU):Prop:=(a.1=b.1∧nR B a.2 b.2)∨(a.1=none∧M5 B a.2)
theorem nR.fail {r s:aU} (h:nR B r s) {c d:ax} (hc:kX B c d) (e:Int) (p:Nat):nR B (r.fail c e p) (s.fail d e p):=⟨hc,rfl,h.rows,rfl,rfl⟩
theorem fJ {r:aU} {c:ax} {e:Int} {p:Nat} (h:B∧(e=32∨e=33)):M5 B (r.fail c e p):=⟨rfl,h⟩
theorem EA {r s:aU} (h:nR B r s) {c d:ax} (hc:kX B c d) (at_:Nat):S8 B (r.block c at_) (s.block d at_):=by
 have ha:=hc.at_;have h1:=sP hc;have h2:=fun hl=>xN (B:=B) (c:=c.number.2.2) (d:=d.number.2.2) hl;unfold aU.block;rw [←h.rows,←ha];generalize c.number=x at h1 h2⊢
 generalize d.number=y at h1 h2⊢
 split
 ·exact .inl ⟨rfl,h.fail hc _ _⟩
 ·rcases h1 with⟨a1,a2,a3⟩|h1
  ·have h2:=h2 a3 x.1;rw [←a1,←a2,←a3.at_];generalize x.2.2.body x.1=x2 at h2⊢
   generalize y.2.2.body x.1=y2 at h2⊢
   split
   ·exact .inl ⟨rfl,h.fail a3 _ _⟩
   ·split
    ·exact .inl ⟨rfl,h.fail a3 _ _⟩
    ·rcases h2 with⟨b1,b2,b3,b4⟩|h2
     ·rw [←b1,←b2,←b3]
      split
      ·exact .inl ⟨rfl,h.fail b4 _ _⟩
      ·split
       ·exact .inl ⟨rfl,h.fail b4 _ _⟩
       ·split
        ·exact .inl ⟨rfl,h.fail b4 _ _⟩
        ·refine .inl ⟨rfl,⟨b4,h.st,?_,h.err,h.bad⟩⟩;show r.rows++_=r.rows++_
         rw [b4.at_]
     ·have e:x2.err≠0:=by omega
      rw [if_pos e]
      exact .inr ⟨rfl,fJ h2⟩
  ·have e:x.2.1≠0:=by omega
   rw [if_pos e];exact .inr ⟨rfl,fJ h1⟩
theorem Jb {r s:aU} (h:nR B r s) {c d:ax} (hc:kX B c d) (at_:Nat):nR B (r.footR c at_) (s.footR d at_)∨M5 B (r.footR c at_):=by
 have ha:=hc.at_;have h1:=sP hc;have h2:=fun hl=>xN (B:=B) (c:=c.number.2.2) (d:=d.number.2.2) hl (aT r.rows).length;unfold aU.footR;rw [←h.rows,←ha];generalize c.number=x at h1 h2⊢
 generalize d.number=y at h1 h2⊢
 generalize aT r.rows=F at h2⊢
 rcases h1 with⟨a1,a2,a3⟩|h1
 ·have h2:=h2 a3;rw [←a1,←a2,←a3.at_];generalize x.2.2.body F.length=x2 at h2⊢
  generalize y.2.2.body F.length=y2 at h2⊢
  split
  ·exact .inl (h.fail a3 _ _)
  ·split
   ·exact .inl (h.fail a3 _ _)
   ·rcases h2 with⟨b1,b2,b3,b4⟩|h2
    ·have h3:=gy b4 12;rw [←b1,←b2,←b3,←b4.at_];generalize x2.cur.bytes 12=x3 at h3⊢
     generalize y2.cur.bytes 12=y3 at h3⊢
     split
     ·exact .inl (h.fail b4 _ _)
     ·split
      ·exact .inl (h.fail b4 _ _)
      ·rcases h3 with⟨c1,c2,c3⟩|h3
       ·have h4:=M4 c3;rw [←c1,←c2,←c3.at_];generalize x3.2.2.end_=x4 at h4⊢
        generalize y3.2.2.end_=y4 at h4⊢
        split
        ·exact .inl (h.fail c3 _ _)
        ·split
         ·exact .inl (h.fail c3 _ _)
         ·rcases h4 with⟨d1,d2,d3⟩|h4
          ·rw [←d1,←d2]
           split
           ·exact .inl (h.fail d3 _ _)
           ·split
            ·exact .inl (h.fail d3 _ _)
            ·exact .inl ⟨d3,rfl,rfl,h.err,h.bad⟩
          ·have e:x4.2.1≠0:=by omega
           rw [if_pos e]
           exact .inr (fJ h4)
       ·have e:x3.2.1≠0:=by omega
        rw [if_pos e]
        exact .inr (fJ h3)
    ·have e:x2.err≠0:=by omega
     rw [if_pos e]
     exact .inr (fJ h2)
 ·have e:x.2.1≠0:=by omega
  rw [if_pos e];exact .inr (fJ h1)
theorem wh {r s:aU} (h:nR B r s):S8 B r.frame s.frame:=by
 have ha:=h.cur.at_;have h1:=gy h.cur 1;unfold aU.frame;generalize r.cur.bytes 1=x at h1⊢
 generalize s.cur.bytes 1=y at h1⊢
 rcases h1 with⟨a1,a2,a3⟩|h1
 ·rw [←a1,←a2,←ha]
  split
  ·exact .inl ⟨rfl,h.fail a3 _ _⟩
  ·split
   ·rcases Jb h a3 r.cur.at_ with hf|hf
    ·exact .inl ⟨rfl,hf⟩
    ·exact .inr ⟨rfl,hf⟩
   ·split
    ·exact .inl ⟨rfl,h.fail a3 _ _⟩
    ·exact EA h a3 _
 ·have e:x.2.1≠0:=by omega
  rw [if_pos e];exact .inr ⟨rfl,fJ h1⟩
theorem Jc {r s:aU} (h:nR B r s):S8 B r.next s.next:=by
 have h1:=gy h.cur 8;have h2:=fun hl=>wh (B:=B) (r:={r with cur:=(r.cur.bytes 8).2.2,st:=1}) (s:={s with cur:=(s.cur.bytes 8).2.2,st:=1}) hl;unfold aU.next;rw [←h.st];generalize r.cur.bytes 8=x at h1 h2⊢
 generalize s.cur.bytes 8=y at h1 h2⊢
 split
 ·exact .inl ⟨rfl,h⟩
 ·split
  ·exact wh h
  ·rcases h1 with⟨a1,a2,a3⟩|h1
   ·rw [←a1,←a2]
    split
    ·exact .inl ⟨rfl,h.fail a3 _ _⟩
    ·split
     ·exact .inl ⟨rfl,h.fail a3 _ _⟩
     ·exact h2 ⟨a3,rfl,h.rows,h.err,h.bad⟩
   ·have e:x.2.1≠0:=by omega
    rw [if_pos e];exact .inr ⟨rfl,fJ h1⟩
end
end
section
theorem SL {nd inn:Int}:∀(k:Nat) (m all:Int),(lv nd inn k m all).2=0∨(lv nd inn k m all).2=2:=by
 intro k
 induction k with
 |zero=>intro m all;exact .inr rfl
 |succ k ih=>
  intro m all;rw [lv]
  split
  ·exact .inr rfl
  ·split
   ·exact .inl rfl
   ·exact ih _ _
theorem FQ {nd inn:Int} (hi:3≤inn):∀(k:Nat) (m all:Int),1≤m→m≤3^k→all+3*m-2≤nd→(lv nd inn (k+1) m all).2=0:=by
 intro k
 induction k with
 |zero=>
  intro m all h1 h2 h3
  rw [uw (by omega) (by omega)]
 |succ k ih=>
  intro m all h1 h2 h3
  by_cases hm:m=1
  ·rw [uw (by omega) hm]
  ·rw [lv,if_neg (by omega),if_neg hm];have p1:=ko (n:=m) (most:=inn) (by omega) (by omega)
   have e3:(1:Int)≤3^k:=by
    have:0<3^k:=Nat.pow_pos (by decide);have:((3^k:Nat):Int)=3^k:=by simp
    omega
   have p2:=BV (n:=m) (most:=inn) (b:=3^k) (by omega) hi e3 (by rw [Int.pow_succ] at h2;omega);have p3:=BV (n:=m) (most:=inn) (b:=(m+2)/3) (by omega) hi (by omega) (by omega);exact ih _ _ p1 p2 (by omega)
theorem room {nd lf inn fl bl n:Int} (hc:aY nd lf inn fl bl) (hn:0≤n) (h:(aS nd lf inn fl bl n).2≠0):(aS nd lf inn fl bl n).2=2∧fl<n∧(nd<3∨fl*nd/3<n):=by
 have hc0:=hc;unfold aY at hc0;rw [gq hc (by omega)] at h⊢;have p1:=ko (n:=n) (most:=fl) hn (by omega);have hd:=Int.mul_ediv_add_emod n fl;have h0:=Int.emod_nonneg n (show fl≠0 by omega);have h1:0≤n/fl:=Int.ediv_nonneg hn (by omega)
 have p2:1<parts n fl→fl*(parts n fl-1)<n:=by
  intro hp;unfold parts at hp⊢
  split
  ·rename_i h;rw [if_pos h] at hp;omega
  ·rename_i h;rw [if_neg h] at hp
   split
   ·rename_i h2
    rw [show n/fl+1-1=n/fl by omega];omega
   ·rename_i h2;rw [Int.mul_sub];omega
 have hL:1<parts n fl:=by
  rcases Int.lt_or_le 1 (parts n fl) with hq|hq
  ·exact hq
  ·exact absurd (FQ (by omega) 31 (parts n fl) 0 p1 (by omega) (by omega)) h
 have p3:=p2 hL
 have hf:fl<n:=by
  have:fl*1≤fl*(parts n fl-1):=Int.mul_le_mul_of_nonneg_left (by omega) (by omega);omega
 refine⟨(SL 32 _ _).resolve_left h,hf,?_⟩
 rcases Int.lt_or_le nd 3 with hq|hq
 ·exact .inl hq
 ·refine .inr ?_
  rcases Int.lt_or_le (fl*nd/3) n with hr|hr
  ·exact hr
  ·have e1:3*n≤fl*nd:=by omega
   have e2:fl*(3*(parts n fl-1))<fl*nd:=by rw [show fl*(3*(parts n fl-1))=3*(fl*(parts n fl-1)) by rw [Int.mul_left_comm]];omega
   have e3:=Int.lt_of_mul_lt_mul_left e2 (by omega);exact absurd (FQ (by omega) 31 (parts n fl) 0 p1 (by omega) (by omega)) h
end
end Go.Proofs.YtbjgeidjmhialaaGreatDoor
