/- Part 25. -/
import Derived.Test.YtbjgeidjmhialaaGreatDoorLa24
namespace Go.Proofs.YtbjgeidjmhialaaGreatDoor
set_option maxRecDepth 100000
set_option maxHeartbeats 8000000
section
open Go.Proofs.Tryz
open Go.RowKit
theorem Rd.next {w w':World} {S D D':Nat→Prop} {size n:Nat} {A:Option Addr} {xs:List Value} (h:Rd w D size A n xs) (hz:0<size) (hc:ag S w w') (hs:∀b,D b→¬S b) (hD:∀b,b<w.heap.size→D b→D' b):Rd w' D' size A n xs:=
 ((h.lt hz).chg hc (fun b hb=>hs b hb.1)).weak (fun b hb=>hD b hb.2 hb.1)
theorem SB.next {w w':World} {S D D':Nat→Prop} {v:Value} {bs:List UInt8} (h:SB w D v bs) (hc:ag S w w') (hs:∀b,D b→¬S b) (hD:∀b,b<w.heap.size→D b→D' b):SB w' D' v bs:=
 let⟨A,n,c,h1,h2,h3,h4,h5⟩:=h;⟨A,n,c,h1,h2,h3,h4,h5.next Nat.zero_lt_one hc hs hD⟩
theorem nV.next {w w':World} {S D D':Nat→Prop} {base fill K m c:Nat} {t:TypeId} {gv:Value} {vs vals:List Value} {A:Option Addr} (h:nV w D base t gv vs fill K m vals A c) (hc:ag S w w') (hs:∀b,D b→¬S b) (hD:∀b,b<w.heap.size→D b→D' b):nV w' D' base t gv vs fill K m vals A c:=
 ⟨aF h.own hc (fun g hg=>hs g (h.blk g hg)),fun g hg=>hD g (ah h.own g hg).2 (h.blk g hg),h.len,fun i hi=>let⟨B,d,a,b,e,f⟩:=h.parts i hi;⟨B,d,a,b,e,f.next (by omega) hc hs hD⟩,h.last.next (by omega) hc hs hD,h.mc,h.cm⟩
theorem D4.next {w w':World} {S D D':Nat→Prop} {vs:List Value} {l:List aH} (h:D4 w D vs l) (hc:ag S w w') (hs:∀b,D b→¬S b) (hD:∀b,b<w.heap.size→D b→D' b):D4 w' D' vs l:=
 fun i e he=>let⟨u,v,a,b,c,d⟩:=h i e he;⟨u,v,a,b,c.next hc hs hD,d.next hc hs hD⟩
theorem BD {w:World} {base k fill mi:Nat} {D G:Nat→Prop} {vs:List Value} {l:List aH} {kv vv:Value} {iN tq:List Value} (h:gW w base ((vs.drop (k*fill*2)).take (mi*2)) mi mi kv vv iN tq) (ht:D4 w D vs l) (zi:k*fill+mi≤l.length)
  (h1:∀b,base≤b→G b) (h2:∀b,D b→G b):∃kA kc vA vc,kv= .slice kA mi kc∧vv= .slice vA mi vc∧Tx w G kA mi kc (((l.drop (k*fill)).take mi).map Prod.fst)∧Tx w G vA mi vc (((l.drop (k*fill)).take mi).map Prod.snd):=by
 obtain⟨kA,kc,rfl,a1,a2⟩:=ay h.k;obtain⟨vA,vc,rfl,b1,b2⟩:=ay h.v;have hl:((l.drop (k*fill)).take mi).length=mi:=by rw [List.length_take,List.length_drop];omega
 have key:∀(i:Nat),i<mi→∃e:aH,((l.drop (k*fill)).take mi)[i]? =some e∧l[k*fill+i]? =some e:=by
  intro i hi;have:k*fill+i<l.length:=by omega
  exact⟨l[k*fill+i],by rw [List.getElem?_take,if_pos hi,List.getElem?_drop];exact List.getElem?_eq_getElem this,List.getElem?_eq_getElem this⟩
 have idx:∀(i j:Nat),i<mi→j<2→((vs.drop (k*fill*2)).take (mi*2))[2*i+j]? =vs[2*(k*fill+i)+j]? :=by
  intro i j hi hj;rw [List.getElem?_take,if_pos (by omega),List.getElem?_drop,show k*fill*2+(2*i+j)=2*(k*fill+i)+j by omega]
 refine⟨kA,kc,vA,vc,rfl,rfl,⟨a1,a2,aa (by rw [List.length_map,hl]),iN,(Rd.of_own h.k).weak h1,fun i t ht'=> ?_⟩,⟨b1,b2,aa (by rw [List.length_map,hl]),tq,(Rd.of_own h.v).weak h1,fun i t ht'=> ?_⟩⟩
 ·have hi:i<mi:=by have:=(List.getElem?_eq_some_iff.1 ht').1;rw [List.length_map,hl] at this;exact this
  obtain⟨e,e1,e2⟩:=key i hi;rw [List.getElem?_map,e1] at ht';injection ht' with ht'
  subst ht';obtain⟨u,v,q1,q2,q3,q4⟩:=ht _ e e2;have hx:=idx i 0 hi (by omega);rw [Nat.add_zero,Nat.add_zero] at hx
  exact⟨u,by rw [h.ku i hi,hx];exact q1,q3.weak h2⟩
 ·have hi:i<mi:=by have:=(List.getElem?_eq_some_iff.1 ht').1;rw [List.length_map,hl] at this;exact this
  obtain⟨e,e1,e2⟩:=key i hi;rw [List.getElem?_map,e1] at ht';injection ht' with ht'
  subst ht';obtain⟨u,v,q1,q2,q3,q4⟩:=ht _ e e2;exact⟨v,by rw [h.vu i hi,idx i 1 hi (by omega)];exact q2,q4.weak h2⟩
theorem xX {w wq wx w':World} {F F':Nat→Prop} {p mm:Nat} {nodes root:Int} {sG:List bB} {f:Nat→bB} {hi:Nat→List UInt8} {k:Nat} {o o':Value} (h:Lv w wq F F' p mm nodes root sG f hi k o) (hb:Below wq.heap.size wq wx)
  {s:bB} {high:List UInt8} {id:Int} (hp:Put wx w' F' p mm nodes root ((sG++(List.range k).map f)++ [s]) w.heap.size o o' (((List.range k).map fun(i:Nat)=>((sG.length:Int)+(i:Int)+1,hi i))++ [(id,high)]))
  (hs:s=f k) (hid:id=(sG.length:Int)+(k:Int)+1) (hh:high=hi k) (JL:∀g,o.ownBlock=some g→w.heap.size≤g):∃Ni,Lv w w' F Ni p mm nodes root sG f hi (k+1) o'∧∀b,b<wx.heap.size→Rest F' mm o b→Rest Ni mm o' b:=by
 obtain⟨⟨Ni,m1,m2,m3,m4⟩,hc⟩:=hp;subst hs;subst hid;subst hh;have hsz:=h.chg.size
 refine⟨Ni,⟨?_,?_,?_,fun b hb'=>(m2 b hb').elim (fun h'=>h.sub b h') (fun h'=> .inr (by have:=hb.size;omega))⟩,m4⟩
 ·rw [List.range_succ,List.map_append,←List.append_assoc];exact m1
 ·rw [List.range_succ,List.map_append];exact m3
 ·refine(h.chg.then hb).trans hc (fun b hb' hx=> ?_)
  rcases hx with(hx|hx)|hx
  ·exact(h.sub b hx).elim .inl (fun h'=>by omega)
  ·exact .inr hx
  ·exact absurd (JL b hx) (by omega)
theorem oZ {l:List aH} (hs:∀e∈l,e.1.length≤1152921504606∧e.2.length≤1152921504606) (s m:Nat) (hm:m≤1152921504606) (lev right:Int) (high:List UInt8) (hh:high.length≤1152921504606):Small ⟨lev,high,right,((l.drop s).take m).map Prod.fst,((l.drop s).take m).map Prod.snd,[]⟩:=by
 have hl:((l.drop s).take m).length≤m:=by rw [List.length_take];exact Nat.min_le_left _ _
 have hmem:∀e∈(l.drop s).take m,e∈l:=fun e he=>List.mem_of_mem_drop (List.mem_of_mem_take he)
 refine⟨hh,?_,?_,by simp,fun t ht=> ?_,fun t ht=> ?_⟩
 ·show(((l.drop s).take m).map Prod.fst).length≤_;rw [List.length_map];omega
 ·show(((l.drop s).take m).map Prod.snd).length≤_;rw [List.length_map];omega
 ·obtain⟨e,he,rfl⟩:=List.mem_map.1 ht;exact(hs e (hmem e he)).1
 ·obtain⟨e,he,rfl⟩:=List.mem_map.1 ht;exact(hs e (hmem e he)).2
theorem BF (a b:List UInt8):(nu a b).1.length≤b.length:=by
 unfold nu;split
 ·rw [List.length_take];exact Nat.min_le_right _ _
 ·simp
theorem D5 (F:Nat→Prop) (p mm:Nat) (nodes root:Int) (A:Option Addr) (n c:Nat) (l:List aH) (fill M:Nat) (w:World) (hst:dI w F p mm nodes root []) (hE:bO w (Off F mm) A n l) (hnc:n≤c) (hcm:c≤maxLen)
  (h1:1≤fill) (h2:fill≤1152921504606) (hn:n≤1152921504606) (hpos:0<n) (hsm:∀e∈l,e.1.length≤1152921504606∧e.2.length≤1152921504606) (hM:n≤M*fill∧M*fill<n+fill) (Xj:(M:Int)≤nodes) (hn1:nodes≤65536):
  Calls prog 90 #[.pointer (some ⟨mm,0,none⟩),.slice A n c,.int .i64 fill] w fun e w'=>∃F' v,e= .returned v∧Lv w w' F F' p mm nodes root [] (j6 fill l M) (iU fill l) M v:=by
 obtain⟨i0,hi0,jO,jP,jQ⟩:=info_parts kC;have HST:=aa hst;have HL:=aa hE.len;obtain⟨_,vs,hrd,htx⟩:=hE;have HR:=aa hrd;have HT:=aa (show D4 w (Off F mm) vs l from htx);have HS:=aa hsm;clear hst hrd htx hsm;go_enter func90,ntmps90
 go_wp2_with (go_at_call 121;refine(Bo A n c fill (Off F mm) vs w HR hnc hcm h1 h2 hn).mono ?_;rintro e w0 ⟨K,vals,A',m,c',gv,rfl,g1,g2,g3,g4,g5,g6,g7,g8,g9,hb0⟩;obtain⟨r,cp,hgv,hbr,hlr⟩:=g1.form (by omega);subst hgv)
 have hm0:0<m:=by rcases g6 with h|h;subst h;simp at g4;omega;exact h
 have Yd:M=K+1:=by
  have a1:K*fill<M*fill:=by omega
  have a2:M*fill<(K+2)*fill:=by rw [Nat.add_mul];omega
  have a3:=Nat.lt_of_mul_lt_mul_right a1;have a4:=Nat.lt_of_mul_lt_mul_right a2;omega
 subst Yd;have kE:∀b,Off F mm b→Rest F mm (.slice none 0 0) b:=fun b h=>⟨h,by simp [Value.ownBlock]⟩;have H0:=aa (show nV w0 (Rest F mm (.slice none 0 0)) w.heap.size 37 (.slice (some ⟨r,0,none⟩) (K+1) cp) vs fill K m vals A' c' from⟨g1,fun g hg=>by have hg:some r=some g:=hg;injection hg with hg;subst hg;exact kE _ ⟨fun h=>by have:=HST.out.2.1 _ h;omega,by have:=HST.out.2.2.1;omega⟩,g2,fun i hi=>let⟨B,d,a,b,e,f⟩:=g3 i hi;⟨B,d,a,b,e,f.weak kE⟩,g9.weak kE,g7,g8⟩);have HN:=aa g4;have HM:=aa g5;have HB0:=aa hb0;clear g1 g2 g3 g4 g5 g6 g9 hb0
 go_loopg [7,20] (K+1) (fun g' out i wr=>∃(k:Nat) (o:Value) (F':Nat→Prop),g'=K+1-k∧k≤K+1∧i= .int .i64 k∧o=out∧Lv w wr F F' p mm nodes root [] (j6 fill l (K+1)) (iU fill l) k o∧nV wr (Rest F' mm o) w.heap.size 37 (.slice (some ⟨r,0,none⟩) (K+1) cp) vs fill K m vals A' c'∧D4 wr (Rest F' mm o) vs l)
 case atStart=>exact⟨0,_,F,by omega,by omega,rfl,rfl,⟨HST.below HB0,bZ.nil _ _ _,ag.of_below HB0,fun b hb=> .inl hb⟩,H0,(HT.below HB0).next (ag.refl Nil _) (fun _ _ h=>h) (fun b _ h=>kE b h)⟩
 case round=>
  obtain⟨k,o,F',hg,hk,rfl,rfl,hlv,hho,htx⟩:=hrel;have HG:=aa hg;have jr:=aa hlv;have QW:=aa hho;have xV:=aa htx;clear hg hlv hho htx
  rename World=>wq
  by_cases hlt:k<K+1
  ·obtain⟨r',cp',B,mi,d,hr',hrl,hrD,Nh,hcell,hd1,hd2,hpr⟩:=QW.out.at_ hlt;injection hr' with hr' _ QX
   injection hr' with hr'
   injection hr' with hr'
   subst hr';subst QX;have VL:=aa Nh;have CK:=aa hpr;clear Nh hpr
   have zi:k*fill+mi≤l.length:=by
    have a1:=HL.out;have a2:=HN.out;have a3:=VL.out
    by_cases hk':k<K
    ·rw [if_pos hk'] at a3;have a4:(k+1)*fill≤K*fill:=Nat.mul_le_mul_right _ hk';rw [Nat.add_mul] at a4
     omega
    ·rw [if_neg hk'] at a3;obtain rfl:k=K:=by omega
     omega
   have CP:mi≤1152921504606:=by have:=HL.out;omega
   have Uu:0<mi:=by have a3:=VL.out;rw [a3];split<;>omega
   have Cw:=aa zi;clear zi hd2;have zA:Hid (∀g,o.ownBlock=some g→w.heap.size≤g∧Off F' mm g):=aa (by obtain⟨us,a,b,_⟩:=jr.out.row;exact fun g hg=>⟨(ah a g hg).1,b g hg⟩);have xW:=aa jr.chg.size;have PX:Hid (((List.range k).map (j6 fill l (K+1))).length=k):=aa (by simp);go_wp2;refine Hw (Rest F' mm o) vs l B mi d k fill wq CP hd1 _ CK xV Cw ?_;intro v13 v28 v29 v30 v31 v32 v33 v34 v35 v36 v37 v38 v39 v40 v41 v42 v43 v44 v45 v46 v47 v48 v49 kv vv iN tq wz hbk hrw hbz;have jT:=aa hbk;have kD:=aa hbz;obtain⟨kA,kc,vA,vc,rfl,rfl,tk,tv⟩:=BD (G:=Off F' mm) hrw (xV.below hbz) Cw (fun b hb=>⟨fun h=>by have:=jr.out.st.2.1 b h;omega,by have:=jr.out.st.2.2.1;omega⟩) (fun b hb=>hb.1)
   have Ud:Hid ((∀(w5:World),Below wz.heap.size wz w5→∀u,Tx (w5.setCell ⟨wq.heap.size,1,none⟩ u) (Off F' mm) kA mi kc (((l.drop (k*fill)).take mi).map Prod.fst))∧(∀(w5:World),Below wz.heap.size wz w5→∀u,Tx (w5.setCell ⟨wq.heap.size,1,none⟩ u) (Off F' mm) vA mi vc (((l.drop (k*fill)).take mi).map Prod.snd))):=aa (by
    obtain⟨kA',kc',vA',vc',e1,e2,tk',tv'⟩:=BD (G:=fun b=>Off F' mm b∧b≠wq.heap.size) hrw (D4.next xV (ag.of_below (S:=Nil) hbz) (fun _ _ h=>h) (D':=fun b=>Rest F' mm o b∧b<wq.heap.size) (fun b hb h=>⟨h,hb⟩)) Cw (fun b hb=>⟨⟨fun h=>by have:=jr.out.st.2.1 b h;omega,by have:=jr.out.st.2.2.1;omega⟩,by omega⟩) (fun b hb=>⟨hb.1.1,by omega⟩);injection e1 with e1 _ RE
    injection e2 with e2 _ e2'
    subst e1;subst RE;subst e2;subst e2';exact⟨fun w5 h5 u=>((tk'.below h5).chg (ag.set1 _ _ _ _) (fun b hb e=>hb.2 e)).weak (fun b hb=>hb.1),fun w5 h5 u=>((tv'.below h5).chg (ag.set1 _ _ _ _) (fun b hb e=>hb.2 e)).weak (fun b hb=>hb.1)⟩)
   have PY:=aa tk;have Yf:=aa tv;have hqR:Rest F' mm o wq.heap.size:=⟨⟨fun h=>by have:=jr.out.st.2.1 _ h;omega,by have:=jr.out.st.2.2.1;omega⟩,fun e=>by obtain⟨us,a,_⟩:=jr.out.row;have:=(ah a _ e).2;omega⟩;have HQR:=aa hqR;clear hbk hrw hbz tk tv hqR
   by_cases hmore:k<K
   ·have Qe:Hid (mi=fill):=aa (by have:=VL.out;rw [if_pos hmore] at this;exact this);obtain⟨r2,cp2,B2,OP,d2,hr2,_,_,FH,hcell2,_,_,VM⟩:=QW.out.at_ (show k+1<K+1 by omega);injection hr2 with hr2 _ hr2'
    injection hr2 with hr2
    injection hr2 with hr2
    subst hr2;subst hr2';have hm2:0<OP:=by rw [FH];split<;>omega
    have hlk:(k+1)*fill+OP≤l.length:=by
     have a1:=HL.out;have a2:=HN.out
     by_cases hk':k+1<K
     ·rw [if_pos hk'] at FH;have a4:(k+1+1)*fill≤K*fill:=Nat.mul_le_mul_right _ hk';rw [Nat.add_mul (k+1)] at a4
      omega
     ·rw [if_neg hk'] at FH;obtain rfl:k+1=K:=by omega
      omega
    have U2:=aa hlk;obtain⟨b,o1,Ak,nk,ck,Av,nv,cv,rfl,TQ,e1,e2,c1',c2',ea,ZF,sa,_⟩:=yE CK.out xV Cw (j:=mi-1) (by omega);obtain⟨b3,o3,Bk,OQ,Qq,Bv,nv3,cv3,rfl,ZG,f1,f2,d1',QT,eb,XK,sb,_⟩:=yE VM xV hlk (j:=0) hm2;rw [Nat.zero_mul,Nat.add_zero] at d1';have C1:=aa (ak kD c1');have C2:=aa (ak kD hcell2);have C3:=aa (ak kD d1');have la:ea.1.length≤1152921504606:=(HS.out _ (List.mem_of_getElem? ZF)).1;have lb:eb.1.length≤1152921504606:=(HS.out _ (List.mem_of_getElem? XK)).1;have EU:=aa (sa.below kD).bt;have ET:=aa (sb.below kD).bt
    have hhi:Hid (iU fill l k=(nu ea.1 eb.1).1):=aa (by
     have q1:l.getD ((k+1)*fill-1) ([],[])=ea:=by
      rw [show(k+1)*fill-1=k*fill+(mi-1) by have:=Qe.out;rw [Nat.add_mul];omega,List.getD_eq_getElem?_getD,ZF];rfl
     have q2:l.getD ((k+1)*fill) ([],[])=eb:=by
      rw [List.getD_eq_getElem?_getD];rw [Nat.add_zero] at XK;rw [XK];rfl
     unfold iU;rw [if_pos (by omega),q1,q2])
    clear hlk FH VM hcell2 c1' c2' d1' QT e1 e2 f1 f2 ZF XK sa sb TQ ZG;have Ye:K≤65536:=by omega
    go_wp2;refine G8 r K cp k b o1 mi d wq.heap.size b3 o3 OP d2 Ak Bk nk OQ ck Qq _ _ ea.1 eb.1 wz _ (aa (fun _ _ _ _ h=>h)) hmore (by omega) Uu CP hm2 C1.out C2.out C3.out EU ET la lb _ _ _ _ _ jT ?_
    intro v56 v57 v58 v59 v60 v61 v62 v63 v64 v65 v66 v67 v68 v69 v70 v71 v72 v73 v74 v75 v76 K5 n5 c5 w5 hk5 hb5;have fO:=aa hb5;have iC:Hid (Below wq.heap.size wq (w5.setCell ⟨wq.heap.size,1,none⟩ (.slice K5 n5 c5))):=aa ((kD.out.trans (hb5.mono kD.size)).setCell (p:=⟨wq.heap.size,1,none⟩) (Nat.le_refl _) _);have ZH:Hid (ai (w5.setCell ⟨wq.heap.size,1,none⟩ (.slice K5 n5 c5)) wq.heap.size 104 #[.int .i64 0,.slice K5 n5 c5,.int .i64 0,.slice kA mi kc,.slice vA mi vc,.slice none 0 0]):=aa ((jT.below hb5).set_ 1 _);have hqz:wq.heap.size<wz.heap.size:=jT.out.lt;have hcx:ag (jK wq.heap.size) w5 (w5.setCell ⟨wq.heap.size,1,none⟩ (.slice K5 n5 c5)):=ag.set1 _ _ _ _;have HT5:=aa (((hk5.weak (G:=fun b=>Rest F' mm o b∧b≠wq.heap.size) (fun b hb=>⟨⟨⟨fun h=>by have:=jr.out.st.2.1 b h;have hb:wz.heap.size≤b:=hb;omega,by have:=jr.out.st.2.2.1;have hb:wz.heap.size≤b:=hb;omega⟩,fun e=>by obtain⟨us,a,_⟩:=jr.out.row;have:=(ah a _ e).2;have hb:wz.heap.size≤b:=hb;omega⟩,by have hb:wz.heap.size≤b:=hb;omega⟩)).chg hcx (fun b hb e=>hb.2 e)).weak (G:=Rest F' mm o) (fun b hb=>hb.1));clear hk5 hb5 hcx;have H5K:Hid (Tx (w5.setCell ⟨wq.heap.size,1,none⟩ (.slice K5 n5 c5)) (Off F' mm) kA mi kc (((l.drop (k*fill)).take mi).map Prod.fst)):=aa (Ud.1 _ fO (.slice K5 n5 c5));have H5V:Hid (Tx (w5.setCell ⟨wq.heap.size,1,none⟩ (.slice K5 n5 c5)) (Off F' mm) vA mi vc (((l.drop (k*fill)).take mi).map Prod.snd)):=aa (Ud.2 _ fO (.slice K5 n5 c5));go_wp2;refine Qs F' p mm nodes root ([]++(List.range k).map (j6 fill l (K+1))) ⟨0,(nu ea.1 eb.1).1,0,((l.drop (k*fill)).take mi).map Prod.fst,((l.drop (k*fill)).take mi).map Prod.snd,[]⟩ K5 kA vA none n5 c5 mi kc mi vc 0 0 true wq.heap.size (w5.setCell ⟨wq.heap.size,1,none⟩ (.slice K5 n5 c5)) w.heap.size o _ _ (aa (fun _ _ _ _ h=>h)) (jr.st.below iC) (by simp;omega) hn1 (by simp;omega) (by have:=xW.out;have:=iC.out.size;omega) ZH HQR HT5 H5K H5V (It.nil _ _) (oZ HS _ _ CP _ _ _ (Nat.le_trans (BF _ _) lb)) (jr.row.below iC) ?_;intro v77 v78 v79 v80 v81 v82 v83 v84 v85 v86 v87 o' w' hput
    obtain⟨Ni,PZ,hr2⟩:=xX jr iC hput (by
     have e1:mi=fill:=Qe.out;have e2:=hhi.out;simp only [j6,e1,e2,if_pos (show k+1<K+1 by omega),if_true,List.nil_append,List.length_map,List.length_range]) (by simp) hhi.out.symm (fun g hg=>(zA g hg).1)
    have P4:=aa hput.chg;have JN:=aa PZ;have HR2:=aa hr2;clear hput PZ hr2;have zD:∀b,Rest F' mm o b→¬((F' b∨b=mm)∨o.ownBlock=some b):=fun b hb h=>h.elim (fun h=>h.elim hb.1.1 hb.1.2) hb.2;go_wp2
    go_roundg (K+1-(k+1))
    case measure=>have:=HG.out;omega
    case rel=>exact⟨k+1,o',Ni,rfl,by omega,by go_num,rfl,JN,(QW.below iC).next P4 zD HR2,(xV.below iC).next P4 zD HR2⟩
   ·obtain rfl:k=K:=by omega
    have hlm:l.length=k*fill+mi:=by have a1:=HL.out;have a2:=HN.out;have a3:=VL.out;rw [if_neg (by omega)] at a3;omega
    have Qe:mi≤fill:=by have a2:=HM.out;have a3:=VL.out;rw [if_neg (by omega)] at a3;omega
    have ZI:=aa hlm;clear hlm;go_wp2;refine Qs F' p mm nodes root ([]++(List.range k).map (j6 fill l (k+1))) ⟨0,[],0,((l.drop (k*fill)).take mi).map Prod.fst,((l.drop (k*fill)).take mi).map Prod.snd,[]⟩ none kA vA none 0 0 mi kc mi vc 0 0 false wq.heap.size wz w.heap.size o _ _ (aa (fun _ _ _ _ h=>h)) (jr.st.below kD) (by simp;omega) hn1 (by simp;omega) (by have:=xW.out;have:=kD.out.size;omega) jT HQR (Bt.nil _ _) PY Yf (It.nil _ _) (oZ HS _ _ CP _ _ _ (by simp)) (jr.row.below kD) ?_;intro v77 v78 v79 v80 v81 v82 v83 v84 v85 v86 v87 o' w' hput
    obtain⟨Ni,PZ,hr2⟩:=xX jr kD hput (by
     have e1:(l.drop (k*fill)).take fill=(l.drop (k*fill)).take mi:=by
      have:=ZI.out;rw [List.take_of_length_le (by rw [List.length_drop];omega),List.take_of_length_le (by rw [List.length_drop];omega)]
     have e2:iU fill l k= []:=by unfold iU;rw [if_neg (by have:=ZI.out;rw [Nat.add_mul];omega)]
     simp only [j6,e1,e2,if_neg (Nat.lt_irrefl _),Bool.false_eq_true,if_false]) (by simp) (by unfold iU;rw [if_neg (by have:=ZI.out;rw [Nat.add_mul];omega)]) (fun g hg=>(zA g hg).1)
    have P4:=aa hput.chg;have JN:=aa PZ;have HR2:=aa hr2;clear hput PZ hr2;have zD:∀b,Rest F' mm o b→¬((F' b∨b=mm)∨o.ownBlock=some b):=fun b hb h=>h.elim (fun h=>h.elim hb.1.1 hb.1.2) hb.2;go_wp2
    go_roundg (k+1-(k+1))
    case measure=>have:=HG.out;omega
    case rel=>exact⟨k+1,o',Ni,rfl,by omega,by go_num,rfl,JN,(QW.below kD).next P4 zD HR2,(xV.below kD).next P4 zD HR2⟩
  ·obtain rfl:k=K+1:=by omega
   go_wp2;go_ret
   exact⟨F',_,rfl,jr⟩
end
section
open Go.Proofs.Tryz
open Go.RowKit
structure fT (w:World) (base:Nat) (mD:List Value) (j i:Nat) (kv dv:Value) (iN tJ:List Value):Prop where
 k:w.ownsRow base 24 1 kv j iN
 v:w.ownsRow base 3 1 dv i tJ
 dis:∀g,kv.ownBlock=some g→dv.ownBlock≠some g
 ku:∀a,a<j→iN[a]? =mD[2*a+1]?
 vu:∀a,a<i→tJ[a]? =mD[2*a]?
section
variable {w w2 w':World} {base:Nat} {mD:List Value} {j i:Nat} {kv dv v2 u:Value} {iN tJ:List Value}
theorem fT.nil (w:World) (base:Nat) (mD:List Value):fT w base mD 0 0 (.slice none 0 0) (.slice none 0 0) [] []:=
 ⟨World.ownsRow_nil _ _ _ _,World.ownsRow_nil _ _ _ _,fun g h=>by simp [Value.ownBlock] at h,fun a ha=>absurd ha (by omega),fun a ha=>absurd ha (by omega)⟩
theorem fT.below (h:fT w base mD j i kv dv iN tJ) (hb:Below w.heap.size w w'):fT w' base mD j i kv dv iN tJ:=⟨own_below h.k hb,own_below h.v hb,h.dis,h.ku,h.vu⟩
theorem fT.far (h:fT w base mD j i kv dv iN tJ) {b:Nat} (o:Nat) (u:Value) (hb:b<base):fT (w.setCell ⟨b,o,none⟩ u) base mD j i kv dv iN tJ:=
 ⟨aF h.k (ag.set1 w b o u) (fun g hg e=>by have:=(ah h.k g hg).1;have e:g=b:=e;omega),aF h.v (ag.set1 w b o u) (fun g hg e=>by have:=(ah h.v g hg).1;have e:g=b:=e;omega),h.dis,h.ku,h.vu⟩
theorem fT.key (h:fT w base mD j i kv dv iN tJ) (ho:w2.ownsRow base 24 1 v2 (j+1) (iN++ [u])) (hg:w.grownBy w2 kv.ownBlock) (hat:v2.ownBlock=kv.ownBlock∨v2.ownBlock=some w.heap.size)
  (hu:mD[2*j+1]? =some u):fT w2 base mD (j+1) i v2 dv (iN++ [u]) tJ:=
 ⟨ho,aF h.v (ag.of_grown hg) (fun g hv hk=>h.dis g hk hv),fun g hk hv=>hat.elim (fun e=>h.dis g (e▸hk) hv) (fun e=>by rw [e] at hk;injection hk with hk;have:=(ah h.v g hv).2;omega),pE (f:=fun a=>2*a+1) h.ku (by have:=h.k.1;omega) hu,h.vu⟩
theorem fT.kid (h:fT w base mD j i kv dv iN tJ) (ho:w2.ownsRow base 3 1 v2 (i+1) (tJ++ [u])) (hg:w.grownBy w2 dv.ownBlock) (hat:v2.ownBlock=dv.ownBlock∨v2.ownBlock=some w.heap.size)
  (hu:mD[2*i]? =some u):fT w2 base mD j (i+1) kv v2 iN (tJ++ [u]):=
 ⟨aF h.k (ag.of_grown hg) (fun g hk hv=>h.dis g hk hv),ho,fun g hk hv=>hat.elim (fun e=>h.dis g hk (e▸hv)) (fun e=>by rw [e] at hv;injection hv with hv;have:=(ah h.k g hk).2;omega),h.ku,pE (f:=fun a=>2*a) h.vu (by have:=h.v.1;omega) hu⟩
end
def JG (w:World) (D:Nat→Prop) (us:List Value) (ks:List (Int×List UInt8)):Prop:=∀(i:Nat) (k:Int×List UInt8),ks[i]? =some k→us[2*i]? =some (.int .i64 k.1)∧∃u,us[2*i+1]? =some u∧SB w D u k.2
theorem JG.next {w w':World} {S D D':Nat→Prop} {us:List Value} {ks:List (Int×List UInt8)} (h:JG w D us ks) (hc:ag S w w') (hs:∀b,D b→¬S b) (hD:∀b,b<w.heap.size→D b→D' b):JG w' D' us ks:=
 fun i k hk=>let⟨a,u,b,c⟩:=h i k hk;⟨a,u,b,c.next hc hs hD⟩
theorem JG.below {w w':World} {D:Nat→Prop} {us:List Value} {ks:List (Int×List UInt8)} (h:JG w D us ks) (hb:Below w.heap.size w w'):JG w' D us ks:=h.next (ag.of_below (S:=Nil) hb) (fun _ _ h=>h) (fun _ _ h=>h)
theorem CJ {w:World} {D:Nat→Prop} {us:List Value} {ks:List (Int×List UInt8)} {B:Option Addr} {s m j:Nat} (hr:Rd w D 2 B m ((us.drop (s*2)).take (m*2))) (ht:JG w D us ks) (hm:s+m≤ks.length) (hj:j<m):
  ∃b o id Ah nh ch,B=some ⟨b,o,none⟩∧D b∧((us.drop (s*2)).take (m*2))[2*j]? =some (.int .i64 id)∧((us.drop (s*2)).take (m*2))[2*j+1]? =some (.slice Ah nh ch)∧w.cell? ⟨b,o+j*2,none⟩=some (.int .i64 id)∧w.cell? ⟨b,o+j*2+1,none⟩=some (.slice Ah nh ch)∧∃x:Int×List UInt8,ks[s+j]? =some x∧id=x.1∧SB w D (.slice Ah nh ch) x.2:=by
 obtain⟨b,o,u,v,e,hb,e1,e2,c1,c2⟩:=hr.at2 hj;have hl:s+j<ks.length:=by omega
 obtain⟨a1,v',a2,s2⟩:=ht (s+j) _ (List.getElem?_eq_getElem hl);have q1:=e1;have q2:=e2;rw [List.getElem?_take,if_pos (by omega),List.getElem?_drop,show s*2+2*j=2*(s+j) by omega,a1] at q1;rw [List.getElem?_take,if_pos (by omega),List.getElem?_drop,show s*2+(2*j+1)=2*(s+j)+1 by omega,a2] at q2;injection q1 with q1
 injection q2 with q2
 subst q1;subst q2;obtain⟨Av,nv,cv,rfl,t2⟩:=s2;rw [Nat.mul_comm 2 j] at c1 c2;rw [←Nat.add_assoc] at c2;exact⟨b,o,_,Av,nv,cv,e,hb,e1,e2,c1,c2,_,List.getElem?_eq_getElem hl,rfl,⟨_,_,_,rfl,t2⟩⟩
noncomputable def QP:Code:=aP (f91.body.bind (aA 12))
theorem QQ (b o mi d q j:Nat) (base:Nat) (kv:Value) (n:Nat) (iN:List Value) (Ah:Option Addr) (nh ch:Nat) (w:World) {u0 u1 u2 u3 u4 u5 u6 u7 u8 u9 u10 u11 bq u16 u17 bC bD u20 u21 u22 u23 u24 u25 u26 u27 u28 u29 u30 u31 u32 u33 u34 u35 u36 u37 u38 dh u40 bX u42 bY u44 u45 u46 di u48 u49 bV u51 u52 u53 bW u55 dz dB u58 u59 u60 dH dG u63 u64 dO u66 dU u68 u69 u70 dV u72 u73 dP u75 eQ eU eX eY eZ fo fq fu fw fE iO:Value} (Q:Exit→Act→World→Prop) (nC:Hid (∀c t (a:Act) w,Q (.panic c) ⟨t,a.defers⟩ w→Q (.panic c) a w))
  (hj:1≤j) (hjm:j≤mi) (hm:mi≤1152921504606) (hn:n≤1152921504606) (hbase:base≤w.heap.size) (hqb:q<base) (hbb:b<base)
  (c1:w.cell? ⟨b,o+(j-1)*2+1,none⟩=some (.slice Ah nh ch)) (c2:w.cell? ⟨q,3,none⟩=some kv) (cf:∀o,w.frozen? ⟨q,o,none⟩=false) (hown:w.ownsRow base 24 1 kv n iN)
  (au:∀(v38 v39 v40 v41 v42 v43 v44 v45 v46 v47 v48 v49 v50:Value) (v2:Value) (wa w2:World),Below w.heap.size w wa→w2.ownsRow base 24 1 v2 (n+1) (iN++ [.slice Ah nh ch])→wa.grownBy w2 kv.ownBlock→(v2.ownBlock=kv.ownBlock∨v2.ownBlock=some wa.heap.size)→Q .normal ⟨(u0::u1::u2::u3::u4::u5::u6::u7::u8::u9::u10::u11:: .slice (some ⟨b,o,none⟩) mi d:: .pointer (some ⟨q,0,none⟩):: .int .i64 j::bq::u16::u17::bC::bD::u20::u21::u22::u23::u24::u25::u26::u27::u28::u29::u30::u31::u32::u33::u34::u35::u36::u37::v38::v39::v40::v41::v42::v43::v44::v45::v46::v47::v48::v49::v50::u51::u52::u53::bW::u55::dz::dB::u58::u59::u60::dH::dG::u63::u64::dO::u66::dU::u68::u69::u70::dV::u72::u73::dP::u75::eQ::eU::eX::eY::eZ::fo::fq::fu::fw::fE::iO:: []).toArray,[]⟩ (w2.setCell ⟨q,3,none⟩ v2)):
  Code.wp prog QP Q ⟨(u0::u1::u2::u3::u4::u5::u6::u7::u8::u9::u10::u11:: .slice (some ⟨b,o,none⟩) mi d:: .pointer (some ⟨q,0,none⟩):: .int .i64 j::bq::u16::u17::bC::bD::u20::u21::u22::u23::u24::u25::u26::u27::u28::u29::u30::u31::u32::u33::u34::u35::u36::u37::u38::dh::u40::bX::u42::bY::u44::u45::u46::di::u48::u49::bV::u51::u52::u53::bW::u55::dz::dB::u58::u59::u60::dH::dG::u63::u64::dO::u66::dU::u68::u69::u70::dV::u72::u73::dP::u75::eQ::eU::eX::eY::eZ::fo::fq::fu::fw::fE::iO:: []).toArray,[]⟩ w:=by
 obtain⟨i0,hi0,jO,jP,jQ⟩:=info_parts kC;have dF:=aa au;have HO:=aa hown;have w1:=IntWalk.i64_in ((j:Int)-1) (by omega);have w2:(0:Int)≤(j:Int)-1:=by omega
 have w3:((j:Int)-1)<mi:=by omega
 have w4:((j:Int)-1).toNat=j-1:=by omega
 have w8:(1:Int)≤(j:Int):=by omega
 have HC:=aa cf;clear au hown cf;conv=>arg 2;whnf
 refine aM (fun w'=>w'.cell? ⟨b,o+(j-1)*2+1,none⟩=some (.slice Ah nh ch)∧w'.cell? ⟨q,3,none⟩=some kv) 13 (by kernel_rfl) ?_;have S0:w.drew.cell? ⟨b,o+(j-1)*2+1,none⟩=some (.slice Ah nh ch)∧w.drew.cell? ⟨q,3,none⟩=some kv:=⟨c1,c2⟩;refine uF 0 (fun _=>S0) ?_;refine uF 1 (fun _=>S0) ?_;refine uF 3 (fun _=>S0) ?_;refine uF 4 (fun _=>S0) ?_;refine uF 5 (fun _=>S0) ?_;refine uF 6 (fun _=>S0) ?_;refine uF 7 (fun _=>S0) ?_;refine uT 2 S0 ?_;refine uT 8 S0 ?_;refine az (i:=9) (by kernel_rfl) rfl (fun K hK=> ?_);go_simp
 have hb2:Below w.drew.heap.size w.drew (w.drew.alloc (.cells #[.slice Ah nh ch] 24)):=(Below.refl _ _).alloc (Nat.le_refl _) _;have S2:(w.drew.alloc (.cells #[.slice Ah nh ch] 24)).cell? ⟨b,o+(j-1)*2+1,none⟩=some (.slice Ah nh ch)∧(w.drew.alloc (.cells #[.slice Ah nh ch] 24)).cell? ⟨q,3,none⟩=some kv:=⟨ak hb2 S0.1,ak hb2 S0.2⟩;refine hK.out _ _ (fun _=>S2) ?_;clear hK K;try simp only [aL,aN,aZ,aC]
 refine az (i:=10) (by kernel_rfl) rfl (fun K hK=> ?_);refine aV _ rfl (.tmp 40) (.tmp 47) _ rfl base 24 i0 _ 1 24 underlying100 hi0 jO jP jQ rfl (by omega) kv n iN rfl (own_below HO ((Below.refl _ _).drew.alloc (Nat.le_refl _) _)) (From w.heap.size) (some ⟨w.heap.size,0,none⟩) 1 1 [.slice Ah nh ch] rfl (Rd.one w.drew _ _) (by intro u hu;simp at hu;subst hu;rfl) (by simp only [maxLen];omega) (by omega) (by simp;omega) ?_;intro v2 w2 hown2 hg2 gP;obtain⟨K2,TP,hv2,_,_⟩:=ay hown2;subst hv2;have Ya:=hg2;have iV:=aa hown2;have wF:=aa hg2;have HA2:=aa gP;have Jp:w2.cell? ⟨q,3,none⟩=some kv:=(ag.of_grown hg2).cell (fun e=>by have:=(ah HO _ e).1;omega) S2.2;have hf2:∀o,w2.frozen? ⟨q,o,none⟩=false:=jb.chg (w:=w) HC (((ag.refl (fun b=>kv.ownBlock=some b) w).then ((Below.refl _ _).drew.alloc (Nat.le_refl _) _)).trans (ag.of_grown hg2) (fun _ _ h=>h)) (by have:=mF c2;exact this) (fun e=>by have:=(ah HO _ e).1;omega);clear hown2 hg2 gP;have S3:w2.cell? ⟨b,o+(j-1)*2+1,none⟩=some (.slice Ah nh ch)∧w2.cell? ⟨q,3,none⟩=some kv:=⟨(ag.of_grown Ya).cell (fun e=>by have:=(ah HO _ e).1;omega) S2.1,Jp⟩;refine hK.out _ _ (fun _=>S3) ?_;clear hK K;try simp only [aL,aN,aZ,aC]
 refine uF 11 (fun _=>S3) ?_;refine uF 12 (fun _=>S3) ?_;refine az (i:=13) (by kernel_rfl) rfl (fun K hK=> ?_);go_simp
 refine hK.out _ _ (fun h=>absurd h (by decide)) ?_;clear hK K;try simp only [aL,aN,aZ,aC]
 refine bL (by kernel_rfl) ?_ _;exact dF _ _ _ _ _ _ _ _ _ _ _ _ _ _ _ w2 ((Below.refl _ _).drew.alloc (Nat.le_refl _) _) iV wF HA2
end
section
open Go.Proofs.Tryz
open Go.RowKit
noncomputable def NF:Code:=aP (f91.body.bind (fC 2))
theorem JH (D:Nat→Prop) (us:List Value) (ks:List (Int×List UInt8)) (B:Option Addr) (mi d s q:Nat) (lev:Int) (wq wa:World) (hb:mi≤1152921504606) (hd:mi≤d) {u0 u1 u2 u3 u4 u5 u6 u7 u8 u9 u10 u11 bN bq u16 u17 bC bD u20 u21 u22 u23 u24 u25 u26 u27 u28 u32 u33 u34 u35 u36 u37 u38 dh u40 bX u42 bY u44 u45 u46 di u48 u49 bV u51 u52 u53 bW u55 dz dB u58 u59 u60 dH dG u63 u64 dO u66 dU u68 u69 u70 dV u72 u73 dP u75 eQ eU eX eY eZ fo fq fu fw fE iO:Value} (Q:Exit→Act→World→Prop) (nC:Hid (∀c t (a:Act) w,Q (.panic c) ⟨t,a.defers⟩ w→Q (.panic c) a w))
  (hq:q=wq.heap.size) (hpr:Rd wq D 2 B mi ((us.drop (s*2)).take (mi*2))) (htx:JG wq D us ks) (zi:s+mi≤ks.length) (lG:Below wq.heap.size wq wa) (hbk:ai wa q 104 #[.int .i64 lev,.slice none 0 0,.int .i64 0,.slice none 0 0,.slice none 0 0,.slice none 0 0])
  (au:∀(v14 v15 v32 v33 v34 v35 v36 v37 v38 v39 v40 v41 v42 v43 v44 v45 v46 v47 v48 v49 v50 v51 v52 v53 v54 v55 v56 v57 v58 v59 v60:Value) (kv dv:Value) (iN tJ:List Value) (wz:World),ai wz q 104 #[.int .i64 lev,.slice none 0 0,.int .i64 0,kv,.slice none 0 0,dv]→fT wz (q+1) ((us.drop (s*2)).take (mi*2)) (mi-1) mi kv dv iN tJ→Below wq.heap.size wq wz→Q (.exit 2) ⟨(u0::u1::u2::u3::u4::u5::u6::u7::u8::u9::u10::u11:: .slice B mi d:: .pointer (some ⟨q,0,none⟩)::v14::v15::u16::u17::bC::bD::u20::u21::u22::u23::u24::u25::u26::u27::u28:: .slice B mi d:: .int .i64 mi:: .int .i64 mi::v32::v33::v34::v35::v36::v37::v38::v39::v40::v41::v42::v43::v44::v45::v46::v47::v48::v49::v50::v51::v52::v53::v54::v55::v56::v57::v58::v59::v60::dH::dG::u63::u64::dO::u66::dU::u68::u69::u70::dV::u72::u73::dP::u75::eQ::eU::eX::eY::eZ::fo::fq::fu::fw::fE::iO:: []).toArray,[]⟩ wz):
  Code.wp prog NF Q ⟨(u0::u1::u2::u3::u4::u5::u6::u7::u8::u9::u10::u11:: .slice B mi d:: .pointer (some ⟨q,0,none⟩)::bN::bq::u16::u17::bC::bD::u20::u21::u22::u23::u24::u25::u26::u27::u28:: .slice B mi d:: .int .i64 mi:: .int .i64 0::u32::u33::u34::u35::u36::u37::u38::dh::u40::bX::u42::bY::u44::u45::u46::di::u48::u49::bV::u51::u52::u53::bW::u55::dz::dB::u58::u59::u60::dH::dG::u63::u64::dO::u66::dU::u68::u69::u70::dV::u72::u73::dP::u75::eQ::eU::eX::eY::eZ::fo::fq::fu::fw::fE::iO:: []).toArray,[]⟩ wa:=by
 obtain⟨i0,hi0,jO,jP,jQ⟩:=info_parts pF;have dF:=aa au;have CK:=aa hpr;have xV:=aa htx;have Cw:=aa zi;have HWA:=aa lG;have hq1:wq.heap.size≤q:=by omega
 have hq2:q≤wq.heap.size:=by omega
 clear hq;have kY:=aa hbk;clear au hpr htx zi lG hbk;conv=>arg 2;whnf
 go_loopg [31] mi (fun g' i wz=>∃(j:Nat) (kv dv:Value) (iN tJ:List Value),g'=mi-j∧j≤mi∧i= .int .i64 j∧ai wz q 104 #[.int .i64 lev,.slice none 0 0,.int .i64 0,kv,.slice none 0 0,dv]∧fT wz (q+1) ((us.drop (s*2)).take (mi*2)) (j-1) j kv dv iN tJ∧Below wq.heap.size wq wz)
 case atStart=>exact⟨0,_,_,[],[],by omega,by omega,rfl,kY,fT.nil _ _ _,HWA⟩
 case round=>
  obtain⟨j,kv,dv,iN,tJ,hg2,hj,rfl,hbk,hrw,hbz⟩:=hrel;have wF:=aa hg2;have jT:=aa hbk;have HRW:=aa hrw;have kD:=aa hbz
  rename World=>wr
  have hzz:q<wr.heap.size:=hbk.lt;clear hg2 hbk hrw
  by_cases QR:j<mi
  ·obtain⟨b,o,id,Ah,nh,ch,rfl,TQ,e1,e2,c1',c2',_⟩:=CJ CK.out xV Cw QR;have hbl:b<wq.heap.size:=mF c1';have c1:=ak hbz c1';have c2:=ak hbz c2';have zx:=aa e1;clear e1 e2 c1' c2' hbz;have HX:Hid (ai (wr.alloc (.cells #[.int .i64 id,.slice Ah nh ch] 221)) wr.heap.size 221 #[.int .i64 id,.slice Ah nh ch]):=aa (ai.new _ _ _);have HB1:Hid (Below wr.heap.size wr (wr.alloc (.cells #[.int .i64 id,.slice Ah nh ch] 221))):=aa ((Below.refl _ _).alloc (Nat.le_refl _) _);have CL:=aa (jT.below HB1);have zy:=aa (HRW.below HB1);have HZ1:Hid ((wr.alloc (.cells #[.int .i64 id,.slice Ah nh ch] 221)).heap.size=wr.heap.size+1):=aa (by simp)
   by_cases hj0:j=0
   ·subst hj0;rw [Nat.zero_mul,Nat.add_zero] at c1 c2;have q5:(wr.alloc (.cells #[.int .i64 id,.slice Ah nh ch] 221)).cell? ⟨q,5,none⟩=some dv:=(CL.out.cell 5).trans rfl;have qx:(wr.alloc (.cells #[.int .i64 id,.slice Ah nh ch] 221)).cell? ⟨wr.heap.size,0,none⟩=some (.int .i64 id):=(HX.out.cell 0).trans rfl;go_wp2_with (first|(at_builtin;go_loud (refine af _ rfl (.tmp 53) (.tmp 56) _ rfl (q+1) 3 i0 _ 1 8 underlying25 hi0 jO jP jQ rfl (by omega) dv 0 tJ rfl (own_below zy.v ((Below.refl _ _).alloc (Nat.le_refl _) _)) (From (wr.heap.size+1)) (some ⟨(wr.heap.size+1),0,none⟩) 1 1 [.int .i64 id] rfl (by have:=Rd.one (wr.alloc (.cells #[.int .i64 id,.slice Ah nh ch] 221)) (.int .i64 id) 3;simpa using this) (by intro u hu;simp at hu;subst hu;rfl) (by simp only [maxLen];omega) (by omega) (by have:=HZ1.out;simp at this⊢;omega) ?_);intro v3 w3 hown3 hg3 wG;obtain⟨K3,PV,hv3,_,_⟩:=ay hown3;subst hv3;have nD:=aa hown3;have JI:=aa hg3;have PW:=aa wG;have hK3:=((CL.alloc (.cells #[.int .i64 id] 3)).chg (ag.of_grown hg3) (fun e=>by have:=(ah zy.v _ e).1;omega));have q53:w3.cell? ⟨q,5,none⟩=some dv:=(hK3.cell 5).trans rfl;have hf3:∀o,w3.frozen? ⟨q,o,none⟩=false:=hK3.frozen;have QS:=aa hK3;clear hown3 hg3 wG hK3))
    have HB3:=aa ((((kD.out.trans (HB1.mono kD.size)).alloc (by have:=kD.out.size;have:=HZ1.out;omega) (.cells #[.int .i64 id] 3)).grown JI (by have:=kD.out.size;have:=HZ1.out;simp at this⊢;omega) (fun g hg=>by have:=(ah zy.v g hg).1;omega)).setCell (p:=⟨q,5,none⟩) (by show wq.heap.size≤q;omega) (.slice K3 (0+1) PV));have HR3:=aa ((fT.kid (zy.below ((Below.refl _ _).alloc (Nat.le_refl _) _)) nD JI PW zx).far 5 (.slice K3 (0+1) PV) (b:=q) (by omega));have HKK:=aa (QS.set_ 5 (.slice K3 (0+1) PV))
    go_roundg (mi-(0+1))
    case measure=>have:=wF.out;omega
    case rel=>exact⟨0+1,_,_,_,_,rfl,by omega,by go_num,HKK,HR3,HB3⟩
   ·have hj1:(0:Int)<(j:Int):=by omega
    obtain⟨b',o',id',Ah',nh',ch',hB',_,f1,f2,d1',QT,_⟩:=CJ CK.out xV Cw (j:=j-1) (by omega);injection hB' with hB'
    injection hB' with hB' Yb
    subst hB';subst Yb;have D2:=aa (ak HB1 (ak kD QT));have HE2:=aa f2;clear f1 f2 d1' QT;go_wp2_with fail
    refine QQ b o mi d q j (q+1) kv (j-1) iN Ah' nh' ch' _ _ (by exact aa (fun c t a w h=>nC c t a w h)) (by omega) (by omega) hb (by omega) (by have:=HZ1.out;omega) (by omega) (by omega) D2.out ((CL.cell 3).trans rfl) CL.frozen zy.k ?_;intro v38 v39 v40 v41 v42 v43 v44 v45 v46 v47 v48 v49 v50 v2 wa' w2 CO ho2 hg2 gP;have hs2:wr.heap.size+1≤w2.heap.size:=by have:=hg2.size;have:=CO.size;have:=HZ1.out;omega
    have HR2:=aa ((fT.key (zy.below CO) ho2 hg2 gP HE2).far 3 v2 (b:=q) (by omega));have HB2:Hid (Below wq.heap.size wq (w2.setCell ⟨q,3,none⟩ v2)):=aa ((((kD.out.trans (HB1.mono kD.size)).trans (CO.mono (by have:=kD.out.size;have:=HZ1.out;omega))).grown hg2 (by have:=kD.out.size;have:=HZ1.out;have:=CO.size;omega) (fun g hg=>by have:=(ah zy.k g hg).1;omega)).setCell (p:=⟨q,3,none⟩) (by show wq.heap.size≤q;omega) v2);have hko:∀(g:Nat),g<q+1→kv.ownBlock≠some g:=fun g hg e=>by have:=(ah zy.k g e).1;omega
    have QU:=aa (((CL.below CO).chg (ag.of_grown hg2) (hko q (by omega))).set_ 3 v2);have pG:=aa (((HX.below CO).chg (ag.of_grown hg2) (fun e=>by have:=(ah HRW.k _ e).2;omega)).far (p:=⟨q,3,none⟩) (by show wr.heap.size≠q;omega) v2);have HZ2:Hid (wr.heap.size+1≤(w2.setCell ⟨q,3,none⟩ v2).heap.size):=aa (by simpa [World.setCell] using hs2);clear ho2 hg2 gP CO hs2;obtain⟨W2,hW2⟩:∃W,W=w2.setCell ⟨q,3,none⟩ v2:=⟨_,rfl⟩;rw [←hW2] at HR2 HB2 QU pG HZ2⊢;clear hW2;have q5:W2.cell? ⟨q,5,none⟩=some dv:=(QU.out.cell 5).trans rfl;have qx:W2.cell? ⟨wr.heap.size,0,none⟩=some (.int .i64 id):=(pG.out.cell 0).trans rfl;obtain⟨i,rfl⟩:∃i,j=i+1:=⟨j-1,by omega⟩;go_wp2_with (first|(at_builtin;go_loud (refine af _ rfl (.tmp 53) (.tmp 56) _ rfl (q+1) 3 i0 _ 1 8 underlying25 hi0 jO jP jQ rfl (by omega) dv (i+1) tJ rfl (own_below HR2.v ((Below.refl _ _).alloc (Nat.le_refl _) _)) (From W2.heap.size) (some ⟨W2.heap.size,0,none⟩) 1 1 [.int .i64 id] rfl (Rd.one _ _ _) (by intro u hu;simp at hu;subst hu;rfl) (by simp only [maxLen];omega) (by omega) (by have:=HZ2.out;simp at this⊢;omega) ?_);intro v3 w3 hown3 hg3 wG;obtain⟨K3,PV,hv3,_,_⟩:=ay hown3;subst hv3;have nD:=aa hown3;have JI:=aa hg3;have PW:=aa wG;have hK3:=((QU.alloc (.cells #[.int .i64 id] 3)).chg (ag.of_grown hg3) (fun e=>by have:=(ah HR2.v _ e).1;omega));have q53:w3.cell? ⟨q,5,none⟩=some dv:=(hK3.cell 5).trans rfl;have hf3:∀o,w3.frozen? ⟨q,o,none⟩=false:=hK3.frozen;have QS:=aa hK3;clear hown3 hg3 wG hK3))
    have HB3:=aa (((HB2.alloc (by have:=kD.out.size;have:=HZ2.out;omega) (.cells #[.int .i64 id] 3)).grown JI (by have:=kD.out.size;have:=HZ2.out;simp;omega) (fun g hg=>by have:=(ah HR2.v g hg).1;omega)).setCell (p:=⟨q,5,none⟩) (by show wq.heap.size≤q;omega) (.slice K3 ((i+1)+1) PV));have HR3:=aa ((fT.kid (HR2.below ((Below.refl _ _).alloc (Nat.le_refl _) _)) nD JI PW zx).far 5 (.slice K3 ((i+1)+1) PV) (b:=q) (by omega));have HKK:=aa (QS.set_ 5 (.slice K3 ((i+1)+1) PV))
    go_roundg (mi-((i+1)+1))
    case measure=>have:=wF.out;omega
    case rel=>exact⟨(i+1)+1,_,_,_,_,rfl,by omega,by go_num,HKK,HR3,HB3⟩
  ·obtain rfl:j=mi:=by omega
   clear hbz;go_wp2;exact dF _ _ _ _ _ _ _ _ _ _ _ _ _ _ _ _ _ _ _ _ _ _ _ _ _ _ _ _ _ _ _ _ _ _ _ _ jT HRW kD
end
end Go.Proofs.YtbjgeidjmhialaaGreatDoor
