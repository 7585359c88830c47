/- Part 18. -/
import Derived.Test.YtbjgeidjmhialaaGreatDoorLa17
namespace Go.Proofs.YtbjgeidjmhialaaGreatDoor
set_option maxRecDepth 100000
set_option maxHeartbeats 8000000
section
open Go.RowKit
def bZ (w:World) (D:Nat→Prop) (base:Nat) (v:Value) (ks:List (Int×List UInt8)):Prop:=
 ∃us,w.ownsRow base 221 2 v ks.length us∧(∀g,v.ownBlock=some g→D g)∧∀(i:Nat) (k:Int×List UInt8),ks[i]? =some k→us[2*i]? =some (.int .i64 k.1)∧∃u,us[2*i+1]? =some u∧SB w (fun b=>D b∧v.ownBlock≠some b) u k.2
theorem qa {w w':World} {F:Nat→Prop} {mm base size n:Nat} {e:TypeId} {v:Value} {xs:List Value} (h:w.ownsRow base e size v n xs) (hb:∀g,v.ownBlock=some g→Off F mm g) (hc:ag (fun b=>F b∨b=mm) w w'):
  w'.ownsRow base e size v n xs∧∀g,v.ownBlock=some g→Off (Grown F w w') mm g:=
 ⟨aF h hc (fun g hg h=>h.elim (hb g hg).1 (hb g hg).2),fun g hg=>off_next (ah h g hg).2 (hb g hg)⟩
def Rest (F:Nat→Prop) (mm:Nat) (o:Value):Nat→Prop:=fun b=>Off F mm b∧o.ownBlock≠some b
section
variable {S D G F:Nat→Prop} {w w':World} {base mm:Nat} {v:Value} {ks:List (Int×List UInt8)}
theorem bZ.chg (h:bZ w D base v ks) (hc:ag S w w') (hs:∀b,D b→¬S b):bZ w' D base v ks:=
 let⟨us,h1,h2,h3⟩:=h;⟨us,aF h1 hc (fun g hg=>hs g (h2 g hg)),h2,fun i k hk=>let⟨a,u,b,c⟩:=h3 i k hk;⟨a,u,b,c.chg hc (fun b hb=>hs b hb.1)⟩⟩
theorem bZ.below (h:bZ w D base v ks) (hb:Below w.heap.size w w'):bZ w' D base v ks:=h.chg (S:=Nil) (ag.of_below hb) (fun _ _ hf=>hf)
theorem bZ.off_next (h:bZ w (Off F mm) base v ks) (hc:ag (fun b=>F b∨b=mm) w w'):bZ w' (Off (Grown F w w') mm) base v ks:=
 let⟨us,h1,h2,h3⟩:=h;⟨us,(qa h1 h2 hc).1,(qa h1 h2 hc).2,fun i k hk=>let⟨a,u,b,c⟩:=h3 i k hk;⟨a,u,b,(c.lt.chg hc (fun b hb h=>h.elim hb.1.1.1 hb.1.1.2)).weak (fun b hb=>⟨Go.Proofs.YtbjgeidjmhialaaGreatDoor.off_next hb.2 hb.1.1,hb.1.2⟩)⟩⟩
theorem bZ.nil (w:World) (D:Nat→Prop) (base:Nat):bZ w D base (.slice none 0 0) []:=⟨[],World.ownsRow_nil _ _ _ _,fun g h=>by simp [Value.ownBlock] at h,fun i k hk=>by simp at hk⟩
theorem bZ.push {D':Nat→Prop} {w2:World} {v2 hv:Value} {us:List Value} {id:Int} {high:List UInt8} (h1:w.ownsRow base 221 2 v ks.length us) (h2:∀g,v.ownBlock=some g→D g)
  (h3:∀(i:Nat) (k:Int×List UInt8),ks[i]? =some k→us[2*i]? =some (.int .i64 k.1)∧∃u,us[2*i+1]? =some u∧SB w (fun b=>D b∧v.ownBlock≠some b) u k.2)
  (ho:w2.ownsRow base 221 2 v2 (ks.length+1) (us++ [.int .i64 id,hv])) (hg:w.grownBy w2 v.ownBlock) (hat:v2.ownBlock=v.ownBlock∨v2.ownBlock=some w.heap.size)
  (hh:SB w (fun b=>D b∧v.ownBlock≠some b) hv high) (hD:∀b,D b→D' b) (hn:D' w.heap.size):bZ w2 D' base v2 (ks++ [(id,high)]):=by
 have hl:us.length=ks.length*2:=h1.1;have hc:ag (fun b=>v.ownBlock=some b) w w2:=(ag.refl _ _).grown hg (fun _ hk _=>hk);have up:∀b,((D b∧v.ownBlock≠some b)∧b<w.heap.size)→D' b∧v2.ownBlock≠some b:=fun b hb=>⟨hD b hb.1.1,fun e=>hat.elim (fun e'=>hb.1.2 (e'▸e)) (fun e'=>by rw [e'] at e;injection e with e;omega)⟩;refine⟨_,by simpa using ho,fun g hg'=>hat.elim (fun e=>hD g (h2 g (e▸hg'))) (fun e=>by rw [e] at hg';injection hg' with hg';exact hg'▸hn),fun i k hk=> ?_⟩
 rcases Nat.lt_or_ge i ks.length with hi|hi
 ·rw [List.getElem?_append_left hi] at hk;obtain⟨a,u,b,c⟩:=h3 i k hk
  exact⟨by rw [List.getElem?_append_left (by omega)];exact a,u,by rw [List.getElem?_append_left (by omega)];exact b,(c.lt.chg hc (fun b hb e=>hb.1.2 e)).weak up⟩
 ·rw [List.getElem?_append_right hi] at hk
  obtain⟨hi0,rfl⟩:i=ks.length∧k=(id,high):=by
   have:=(List.getElem?_eq_some_iff.1 hk).1;have hi0:i=ks.length:=by simp at this;omega
   subst hi0;simp at hk;exact⟨rfl,hk.symm⟩
  subst hi0;refine⟨by rw [List.getElem?_append_right (by omega),hl,show 2*ks.length-ks.length*2=0 by omega];rfl,hv,by rw [List.getElem?_append_right (by omega),hl,show 2*ks.length+1-ks.length*2=1 by omega];rfl,(hh.lt.chg hc (fun b hb e=>hb.1.2 e)).weak up⟩
theorem xc {o o':Value} {b:Nat} (hb:b<w.heap.size) (h:Rest F mm o b) (hat:o'.ownBlock=o.ownBlock∨∃x,w.heap.size≤x∧o'.ownBlock=some x):Rest (Grown F w w') mm o' b:=
 ⟨Go.Proofs.YtbjgeidjmhialaaGreatDoor.off_next hb h.1,fun e=>hat.elim (fun e'=>h.2 (e'▸e)) (fun⟨x,hx,e'⟩=>by rw [e'] at e;injection e with e;omega)⟩
end
structure nV (w:World) (D:Nat→Prop) (base:Nat) (t:TypeId) (gv:Value) (vs:List Value) (fill K m:Nat) (vals:List Value) (A:Option Addr) (c:Nat):Prop where
 own:w.ownsRow base t 1 gv (K+1) (vals++ [.slice A m c])
 blk:∀g,gv.ownBlock=some g→D g
 len:vals.length=K
 parts:j4 w D vs fill K vals
 last:Rd w D 2 A m (vs.drop (K*fill*2))
 mc:m≤c
 cm:c≤maxLen
section
variable {S D G F:Nat→Prop} {w w':World} {base mm fill K m c:Nat} {t:TypeId} {gv:Value} {vs vals:List Value} {A:Option Addr}
theorem nV.chg (h:nV w D base t gv vs fill K m vals A c) (hc:ag S w w') (hs:∀b,D b→¬S b):nV w' D base t gv vs fill K m vals A c:=
 ⟨aF h.own hc (fun g hg=>hs g (h.blk g hg)),h.blk,h.len,h.parts.chg hc hs,h.last.chg hc hs,h.mc,h.cm⟩
theorem nV.below (h:nV w D base t gv vs fill K m vals A c) (hb:Below w.heap.size w w'):nV w' D base t gv vs fill K m vals A c:=h.chg (S:=Nil) (ag.of_below hb) (fun _ _ hf=>hf)
theorem nV.at_ (h:nV w D base t gv vs fill K m vals A c) {i:Nat} (hi:i<K+1):∃r cp B mi d,gv= .slice (some ⟨r,0,none⟩) (K+1) cp∧r<w.heap.size∧D r∧mi=(if i<K then fill else m)∧w.cell? ⟨r,i,none⟩=some (.slice B mi d)∧mi≤d∧d≤maxLen∧Rd w D 2 B mi ((vs.drop (i*fill*2)).take (mi*2)):=by
 obtain⟨r,cp,hv,hbr,hlt⟩:=h.own.form (by omega);have hcell:∀j u,(vals++ [.slice A m c])[j]? =some u→w.cell? ⟨r,j,none⟩=some u:=fun j u hu=>by have:=h.own.cells (g:=r) (by rw [hv];rfl) j u hu;rw [iP,Nat.zero_add] at this;exact this
 have hD:=h.blk r (by rw [hv];rfl);have hlt':=(ah h.own r (by rw [hv];rfl)).2
 rcases Nat.lt_or_ge i K with hk|hk
 ·obtain⟨B,d,q1,q2,q3,q4⟩:=h.parts i hk
  refine⟨r,cp,B,fill,d,hv,hlt',hD,by rw [if_pos hk],hcell i _ (by rw [List.getElem?_append_left (List.getElem?_eq_some_iff.1 q1).1];exact q1),q2,q3,q4⟩
 ·obtain rfl:i=K:=by omega
  refine⟨r,cp,A,m,c,hv,hlt',hD,by rw [if_neg (by omega)],hcell i _ (by rw [List.getElem?_append_right (by have:=h.len;omega),h.len];simp),h.mc,h.cm,?_⟩;have hl:=h.last.1;rw [List.take_of_length_le (by omega)];exact h.last
end
structure Lv (w wr:World) (F F':Nat→Prop) (p mm:Nat) (nodes root:Int) (sG:List bB) (f:Nat→bB) (hi:Nat→List UInt8) (k:Nat) (out:Value):Prop where
 st:dI wr F' p mm nodes root (sG++(List.range k).map f)
 row:bZ wr (Off F' mm) w.heap.size out ((List.range k).map fun(i:Nat)=>((sG.length:Int)+(i:Int)+1,hi i))
 chg:ag (fun b=>F b∨b=mm) w wr
 sub:∀b,F' b→F b∨w.heap.size≤b
end
section
open Go.Proofs.Tryz
open Go.RowKit
theorem zz:(prog.info? 221).map (fun i=>(i.zero,i.size,i.bytes))=some (some (.agg #[.int .i64 0,.slice none 0 0]),2,32):=by kernel_rfl
theorem Rd.two (w:World) (u v:Value) (t:TypeId):Rd (w.alloc (.cells #[u,v] t)) (From w.heap.size) 2 (some ⟨w.heap.size,0,none⟩) 1 [u,v]:=
 ⟨rfl,fun _=>⟨w.heap.size,0,rfl,Nat.le_refl _,fun j x hj=>by
  rw [(ai.new w t #[u,v]).cell]
  match j,hj with
  |0,hj=>simpa using hj
  |1,hj=>simpa using hj⟩⟩
def QV (q:Nat) (lev:Int) (hA:Option Addr) (hn hc:Nat) (right:Int) (kA:Option Addr) (kn kc:Nat) (vA:Option Addr) (vn vc:Nat) (dA:Option Addr) (dn dc:Nat) (w:World):Prop:=
 w.cell? ⟨q,0,none⟩=some (.int .i64 lev)∧w.cell? ⟨q,1,none⟩=some (.slice hA hn hc)∧w.cell? ⟨q,2,none⟩=some (.int .i64 right)∧w.cell? ⟨q,3,none⟩=some (.slice kA kn kc)∧w.cell? ⟨q,4,none⟩=some (.slice vA vn vc)∧w.cell? ⟨q,5,none⟩=some (.slice dA dn dc)
theorem QV.chg {S:Nat→Prop} {w w':World} {q:Nat} {lev right:Int} {hA kA vA dA:Option Addr} {hn hc kn kc vn vc dn dc:Nat} (h:QV q lev hA hn hc right kA kn kc vA vn vc dA dn dc w) (hc':ag S w w') (hs:¬S q):QV q lev hA hn hc right kA kn kc vA vn vc dA dn dc w':=
 ⟨hc'.cell hs h.1,hc'.cell hs h.2.1,hc'.cell hs h.2.2.1,hc'.cell hs h.2.2.2.1,hc'.cell hs h.2.2.2.2.1,hc'.cell hs h.2.2.2.2.2⟩
structure Put (w w':World) (F:Nat→Prop) (p mm:Nat) (nodes root:Int) (Wl:List bB) (base:Nat) (o o':Value) (ks':List (Int×List UInt8)):Prop where
 st:∃F',dI w' F' p mm nodes root Wl∧(∀b,F' b→F b∨w.heap.size≤b)∧bZ w' (Off F' mm) base o' ks'∧∀b,b<w.heap.size→Rest F mm o b→Rest F' mm o' b
 chg:ag (fun b=>(F b∨b=mm)∨o.ownBlock=some b) w w'
noncomputable def SG:Code:=aP (f90.body.bind (aA 16))
theorem Qs (F:Nat→Prop) (p mm:Nat) (nodes root:Int) (done:List bB) (nd:Nd) (hA kA vA dA:Option Addr) (hn hc kn kc vn vc dn dc:Nat) (more:Bool) (q:Nat) (w:World) (base:Nat) (o:Value) (ks:List (Int×List UInt8)) {u1 u2 u3 u4 u5 u6 u8 u9 u10 u12 u13 bq u16 u17 bC bD u20 u21 u22 u23 u24 u25 u26 u27 u28 u29 u30 u31 u32 u33 u34 u35 u36 u37 u38 dh u40 bX u42 bY u44 u45 u46 di u48 u49 bV u51 u52 u53 bW u55 dz dB u58 u59 u60 dH dG u63 u64 dO u66 dU u68 u69 u70 dV u72 u73 dP u75 eQ eU eX eY eZ fo fq fu fw fE iO jM jC jD:Value} (Q:Exit→Act→World→Prop) (nC:Hid (∀c t (a:Act) w,Q (.panic c) ⟨t,a.defers⟩ w→Q (.panic c) a w))
  (hst:dI w F p mm nodes root done) (hf:(done.length:Int)<nodes) (hn1:nodes≤65536) (hks:ks.length≤65536) (hbase:base≤w.heap.size)
  (hq:ai w q 104 #[.int .i64 nd.lev,.slice hA hn hc,.int .i64 nd.right,.slice kA kn kc,.slice vA vn vc,.slice dA dn dc]) (NG:Rest F mm o q)
  (h1:Bt w (Rest F mm o) hA hn hc nd.high) (h2:Tx w (Off F mm) kA kn kc nd.keys) (h3:Tx w (Off F mm) vA vn vc nd.vals) (h4:It w (Off F mm) dA dn dc nd.kids) (hs:Small nd)
  (hrow:bZ w (Off F mm) base o ks)
  (au:∀(v77 v78 v79 v80 v81 v82 v83 v84 v85 v86 v87:Value) (o':Value) (w':World),Put w w' F p mm nodes root (done++ [(2,⟨nd.lev,nd.high,if more then(done.length:Int)+1+1 else nd.right,nd.keys,nd.vals,nd.kids⟩)]) base o o' (ks++ [((done.length:Int)+1,nd.high)])→Q .normal ⟨(.pointer (some ⟨mm,0,none⟩)::u1::u2::u3::u4::u5::u6::o'::u8::u9::u10:: .pointer (some ⟨q,0,none⟩)::u12::u13:: .bool more::bq::u16::u17::bC::bD::u20::u21::u22::u23::u24::u25::u26::u27::u28::u29::u30::u31::u32::u33::u34::u35::u36::u37::u38::dh::u40::bX::u42::bY::u44::u45::u46::di::u48::u49::bV::u51::u52::u53::bW::u55::dz::dB::u58::u59::u60::dH::dG::u63::u64::dO::u66::dU::u68::u69::u70::dV::u72::u73::dP::u75::eQ::v77::v78::v79::v80::v81::v82::v83::v84::v85::v86::v87::jC::jD:: []).toArray,[]⟩ w'):
  Code.wp prog SG Q ⟨(.pointer (some ⟨mm,0,none⟩)::u1::u2::u3::u4::u5::u6::o::u8::u9::u10:: .pointer (some ⟨q,0,none⟩)::u12::u13:: .bool more::bq::u16::u17::bC::bD::u20::u21::u22::u23::u24::u25::u26::u27::u28::u29::u30::u31::u32::u33::u34::u35::u36::u37::u38::dh::u40::bX::u42::bY::u44::u45::u46::di::u48::u49::bV::u51::u52::u53::bW::u55::dz::dB::u58::u59::u60::dH::dG::u63::u64::dO::u66::dU::u68::u69::u70::dV::u72::u73::dP::u75::eQ::eU::eX::eY::eZ::fo::fq::fu::fw::fE::iO::jM::jC::jD:: []).toArray,[]⟩ w:=by
 obtain⟨i0,hi0,jO,jP,jQ⟩:=info_parts zz;have S0:QV q nd.lev hA hn hc nd.right kA kn kc vA vn vc dA dn dc w.drew:=⟨by rw [hq.drew.cell];rfl,by rw [hq.drew.cell];rfl,by rw [hq.drew.cell];rfl,by rw [hq.drew.cell];rfl,by rw [hq.drew.cell];rfl,by rw [hq.drew.cell];rfl⟩;have HQ:=aa NG;have ql:=hq.lt;have dF:=aa au;have HST:=aa (hst.below (Below.refl _ _).drew);have H1:=aa h1;have H2:=aa (h2.below (Below.refl _ _).drew);have H3:=aa (h3.below (Below.refl _ _).drew);have H4:=aa (h4.below (Below.refl _ _).drew);have HS:=aa hs;have HR:=aa (hrow.below (Below.refl _ _).drew);have HK:=aa hks;have HB:=aa hbase;have kZ:=aa hst.2.1;have Ng:=hst.2.2.1;have zA:Hid (∀g,o.ownBlock=some g→Off F mm g∧g<w.heap.size):=aa (by obtain⟨us,a,b,_⟩:=hrow;exact fun g hg=>⟨b g hg,(ah a g hg).2⟩);clear hq NG au hst h1 h2 h3 h4 hs hrow hks hbase;conv=>arg 2;whnf
 refine aX (QV q nd.lev hA hn hc nd.right kA kn kc vA vn vc dA dn dc) (by kernel_rfl) ?_;refine vT 0 S0 ?_;refine vT 1 S0 ?_;refine vT 3 S0 ?_;refine vT 5 S0 ?_;refine vT 6 S0 ?_;refine vT 2 S0 ?_;refine vT 7 S0 ?_;refine aR (i:=4) (by kernel_rfl) rfl (fun K hK=> ?_);go_simp
 refine(EO more nd hA kA vA dA hn hc kn kc vn vc dn dc HST hf hn1 (H1.below (Below.refl _ _).drew|>.weak (fun b hb=>hb.1)) H2 H3 H4 HS).mono ?_;rintro e w1 ⟨rfl,st1,JJ⟩;have S1:=S0.chg JJ (fun h=>h.elim HQ.1.1 HQ.1.2);have JK:=aa st1;have ib:=aa JJ;have hz1:w.heap.size≤w1.heap.size:=JJ.size;obtain⟨us,r1,r2,r3⟩:=HR.out.off_next JJ;have HR1:=aa r1;have HR2:=aa r2;have HR3:=aa r3;clear st1 r1 r2 r3 JJ;refine hK.out _ _ S1 ?_;clear hK K;try simp only [aL,aN,aZ,aC]
 refine vT 8 S1 ?_;refine aR (i:=9) (by kernel_rfl) rfl (fun K hK=> ?_);go_simp
 have hb2:Below w1.heap.size w1 (w1.alloc (.cells #[.int .i64 ((done.length:Int)+1),.slice hA hn hc] 221)):=(Below.refl _ _).alloc (Nat.le_refl _) _;have S2:=S1.chg (S:=Nil) (ag.of_below hb2) (fun hf=>hf);refine hK.out _ _ S2 ?_;clear hK K;try simp only [aL,aN,aZ,aC]
 refine aR (i:=10) (by kernel_rfl) rfl (fun K hK=> ?_);refine aV _ rfl (.tmp 77) (.tmp 86) _ rfl base 221 i0 _ 2 32 underlying215 hi0 jO jP jQ rfl (by omega) o ks.length us rfl (own_below HR1 hb2) (From w1.heap.size) (some ⟨w1.heap.size,0,none⟩) 1 1 [.int .i64 ((done.length:Int)+1),.slice hA hn hc] rfl (Rd.two w1 _ _ _) (by intro u hu;simp at hu;rcases hu with hu|hu<;>subst hu<;>rfl) (by simp only [maxLen];have:=HK.out;omega) (by have:=HK.out;omega) (by have:=HB.out;simp;omega) ?_;intro v2 w2 hown2 hg2 gP;have hc2:=(ag.refl (fun b=>o.ownBlock=some b) _).grown hg2 (fun k hk _=>hk);have S3:=S2.chg hc2 (fun e=>HQ.2 e);refine hK.out _ _ S3 ?_;clear hK K;try simp only [aL,aN,aZ,aC]
 refine vT 11 S3 ?_;refine bP (by kernel_rfl) ?_ _;have hm2:Off (Grown F w.drew w1) mm (w1.alloc (.cells #[.int .i64 ((done.length:Int)+1),.slice hA hn hc] 221)).heap.size:=⟨fun h=>h.elim (fun h=>by have:=kZ.out _ h;simp at this;omega) (fun h=>by have:=h.2;rw [World.size_alloc] at this;omega),by simp;omega⟩;have hh:SB w1 (fun b=>Off (Grown F w.drew w1) mm b∧o.ownBlock≠some b) (.slice hA hn hc) nd.high:=SB.weak ((H1.lt.below (Below.refl _ _).drew).chg ib (fun b hb h=>h.elim hb.1.1.1 hb.1.1.2)).sb (fun b hb=>⟨off_next (w:=w.drew) hb.2 hb.1.1,hb.1.2⟩);have JL:∀b,Grown F w.drew w1 b→o.ownBlock≠some b:=fun b hb e=>hb.elim (fun h=>(zA b e).1.1 h) (fun h=>by have h1:w.heap.size≤b:=h.1;have:=(zA.out b e).2;omega)
 refine dF _ _ _ _ _ _ _ _ _ _ _ v2 w2 ⟨⟨Grown F w.drew w1,?_,fun b hb=>hb.elim .inl (fun h=> .inr h.1),?_,?_⟩,?_⟩
 ·exact(JK.below hb2).chg hc2 JL (fun e=>(zA mm e).1.2 rfl)
 ·exact bZ.push (own_below HR1 hb2) HR2 (fun i k hk=>let⟨a,u,b,c⟩:=HR3.out i k hk;⟨a,u,b,c.below hb2⟩) hown2 hg2 gP (hh.below hb2) (fun _ h=>h) hm2
 ·exact fun b hb h=>xc (w:=w.drew) hb h (gP.imp id (fun e=>⟨_,by simp;omega,e⟩))
 ·exact(((ag.refl _ _).drew.trans ib (fun b _ h=> .inl h)).then hb2).trans hc2 (fun b _ h=> .inr h)
end
section
open Go.Proofs.Tryz
open Go.RowKit
open Go.Lib (compareBytes)
theorem SB.next3 {S D D':Nat→Prop} {w w':World} {v:Value} {bs:List UInt8} (h:SB w D v bs) (hc:ag S w w') (hs:∀b,b<w.heap.size→D b→¬S b) (hD:∀b,b<w.heap.size→D b→D' b):SB w' D' v bs:=
 (h.lt.chg hc (fun b hb=>hs b hb.2 hb.1)).weak (fun b hb=>hD b hb.2 hb.1)
structure C9 (w:World) (base q:Nat) (rv out:Value) (us:List Value) (l:List aH):Prop where
 own:w.ownsRow base 57 2 out l.length us
 ne:∀g,out.ownBlock=some g→g≠q∧rv.ownBlock≠some g
 at_:∀(i:Nat) (e:aH),l[i]? =some e→∃u v,us[2*i]? =some u∧us[2*i+1]? =some v∧SB w (fun g=>base≤g∧g≠q∧rv.ownBlock≠some g∧out.ownBlock≠some g) u e.1∧SB w (fun g=>base≤g∧g≠q∧rv.ownBlock≠some g∧out.ownBlock≠some g) v e.2
section
variable {S:Nat→Prop} {w w':World} {base q:Nat} {rv rv' out:Value} {us:List Value} {l:List aH}
theorem C9.nil (w:World) (base q:Nat) (rv:Value):C9 w base q rv (.slice none 0 0) [] []:=⟨World.ownsRow_nil _ _ _ _,fun g hg=>by simp [Value.ownBlock] at hg,fun i e h=>by simp at h⟩
theorem C9.step (h:C9 w base q rv out us l) (hc:ag (fun g=>g=q∨rv.ownBlock=some g) w w') (hr:∀g,rv'.ownBlock=some g→rv.ownBlock=some g∨w.heap.size≤g):C9 w' base q rv' out us l:=by
 have hnew:∀g,g<w.heap.size→rv.ownBlock≠some g→rv'.ownBlock≠some g:=fun g hg hn e=>by
  rcases hr g e with h|h
  ·exact hn h
  ·omega
 refine⟨aF h.own hc (fun g hg e=>by rcases e with e|e;exact(h.ne g hg).1 e;exact(h.ne g hg).2 e),fun g hg=>⟨(h.ne g hg).1,hnew g (ah h.own g hg).2 (h.ne g hg).2⟩,fun i e he=> ?_⟩;obtain⟨u,v,a,b,s1,s2⟩:=h.at_ i e he;exact⟨u,v,a,b,s1.next3 hc (fun g _ hg e=>by rcases e with e|e;exact hg.2.1 e;exact hg.2.2.1 e) (fun g hl hg=>⟨hg.1,hg.2.1,hnew g hl hg.2.2.1,hg.2.2.2⟩),s2.next3 hc (fun g _ hg e=>by rcases e with e|e;exact hg.2.1 e;exact hg.2.2.1 e) (fun g hl hg=>⟨hg.1,hg.2.1,hnew g hl hg.2.2.1,hg.2.2.2⟩)⟩
theorem C9.chg (h:C9 w base q rv out us l) (hc:ag S w w') (hs:∀g,base≤g→g<w.heap.size→¬S g):C9 w' base q rv out us l:=
 ⟨aF h.own hc (fun g hg=>hs g (ah h.own g hg).1 (ah h.own g hg).2),h.ne,fun i e he=>let⟨u,v,a,b,s1,s2⟩:=h.at_ i e he;⟨u,v,a,b,s1.next3 hc (fun g hl hg=>hs g hg.1 hl) (fun _ _ h=>h),s2.next3 hc (fun g hl hg=>hs g hg.1 hl) (fun _ _ h=>h)⟩⟩
theorem C9.push {v2 u v:Value} {e:aH} (h:C9 w base q rv out us l) (hq:q<w.heap.size) (hrl:∀g,rv.ownBlock=some g→g<w.heap.size) (ho:w'.ownsRow base 57 2 v2 (l.length+1) (us++ [u,v])) (hg:w.grownBy w' out.ownBlock) (hat:v2.ownBlock=out.ownBlock∨v2.ownBlock=some w.heap.size)
  (hu:SB w (fun g=>base≤g∧g≠q∧rv.ownBlock≠some g∧out.ownBlock≠some g) u e.1) (hv:SB w (fun g=>base≤g∧g≠q∧rv.ownBlock≠some g∧out.ownBlock≠some g) v e.2):C9 w' base q rv v2 (us++ [u,v]) (l++ [e]):=by
 have hl:us.length=l.length*2:=h.own.1
 have key:∀g,g<w.heap.size→(base≤g∧g≠q∧rv.ownBlock≠some g∧out.ownBlock≠some g)→(base≤g∧g≠q∧rv.ownBlock≠some g∧v2.ownBlock≠some g):=fun g hb hx=>⟨hx.1,hx.2.1,hx.2.2.1,fun e=>by
  rcases hat with h|h
  ·exact hx.2.2.2 (h▸e)
  ·rw [h] at e;injection e with e;omega⟩
 have nx:∀{x:Value} {bs:List UInt8},SB w (fun g=>base≤g∧g≠q∧rv.ownBlock≠some g∧out.ownBlock≠some g) x bs→SB w' (fun g=>base≤g∧g≠q∧rv.ownBlock≠some g∧v2.ownBlock≠some g) x bs:=fun hx=>hx.next3 (ag.of_grown hg) (fun b _ hb e=>hb.2.2.2 e) key
 refine⟨by rw [List.length_append];exact ho,fun g e'=> ?_,fun i e' hi=> ?_⟩
 ·rcases hat with h'|h'
  ·exact h.ne g (h'▸e')
  ·rw [h'] at e';injection e' with e';exact⟨by omega,fun e2=>by have:=hrl g e2;omega⟩
 ·rcases Nat.lt_or_ge i l.length with h1|h1
  ·rw [List.getElem?_append_left h1] at hi;obtain⟨x,y,a,b,s1,s2⟩:=h.at_ i e' hi
   exact⟨x,y,by rw [List.getElem?_append_left (by omega)];exact a,by rw [List.getElem?_append_left (by omega)];exact b,nx s1,nx s2⟩
  ·rw [List.getElem?_append_right h1] at hi;have hi0:i=l.length:=by have:=(List.getElem?_eq_some_iff.1 hi).1;simp at this;omega
   subst hi0;simp at hi;subst hi
   refine⟨u,v,?_,?_,nx hu,nx hv⟩
   ·rw [List.getElem?_append_right (by omega),show 2*l.length-us.length=0 by omega];rfl
   ·rw [List.getElem?_append_right (by omega),show 2*l.length+1-us.length=1 by omega];rfl
theorem C9.ents {A:Option Addr} {n c:Nat} (h:C9 w base q rv (.slice A n c) us l) (hn:n=l.length):bO w (From base) A n l:=by
 subst hn;exact⟨aa rfl,us,Rd.of_own h.own,fun i e he=>let⟨u,v,a,b,s1,s2⟩:=h.at_ i e he;⟨u,v,a,b,s1.weak (fun _ hb=>hb.1),s2.weak (fun _ hb=>hb.1)⟩⟩
end
noncomputable def UF:Code:=aP (f136.body.bind (aA 2))
theorem E6 (gb gl q:Nat) (ov:Value) (R:Ending→World→Prop) (ch:List PanicEntry) (w:World) {u3 u4 u5 u6 u7 u8 u9 u10 u11 u12 u13 bN bq u16 u17 bC bD u20:Value} (Q:Exit→Act→World→Prop) (nC:Hid (∀c t (a:Act) w,Q (.panic c) ⟨t,a.defers⟩ w→Q (.panic c) a w))
  (HL:Hid (ai w gl 37 #[ov])) (HN:Hid (∀k,Calls prog 138 #[.pointer (some ⟨q,0,none⟩)] (w.drewN k) R)) (Ai:Hid (∀e w',R e w'→e= .panicked ch))
  (au:∀t (w':World),R (.panicked ch) w'→Q (.panic ch) ⟨t,[]⟩ w'):
  Code.wp prog UF Q ⟨(.pointer (some ⟨gb,0,none⟩):: .pointer (some ⟨gl,0,none⟩):: .pointer (some ⟨q,0,none⟩)::u3::u4::u5::u6::u7::u8::u9::u10::u11::u12::u13::bN::bq::u16::u17::bC::bD::u20:: []).toArray,[]⟩ w:=by
 have dF:=aa au;have S0:w.drew.cell? ⟨gl,0,none⟩=some ov:=HL.out.cell 0;clear au;conv=>arg 2;whnf
 refine aM (fun w'=>w'.cell? ⟨gl,0,none⟩=some ov) 5 (by kernel_rfl) ?_;refine uF 1 (fun _=>S0) ?_;refine uT 0 S0 ?_;refine az (i:=2) (by kernel_rfl) rfl (fun K hK=> ?_);go_simp
 refine(HN 1).mono ?_;intro e w2 hR;obtain rfl:=Ai.out e w2 hR;exact dF _ w2 hR
theorem Re (gb gl q base m oc:Nat) (oA:Option Addr) (us:List Value) (R:Ending→World→Prop) (X:Option Addr→Nat→Nat→Option Addr→Nat→Nat→World→Prop) (w:World) {u3 u4 u5 u6 u7 u8 u9 u10 u11 u12 u13 bN bq u16 u17 bC bD u20:Value} (Q:Exit→Act→World→Prop) (nC:Hid (∀c t (a:Act) w,Q (.panic c) ⟨t,a.defers⟩ w→Q (.panic c) a w))
  (HL:Hid (ai w gl 37 #[.slice oA m oc])) (HN:Hid (∀k,Calls prog 138 #[.pointer (some ⟨q,0,none⟩)] (w.drewN k) R)) (Ai:Hid (∀e w',R e w'→∃K kn kc V vn vc,e= .returned (.agg #[.slice K kn kc,.slice V vn vc])∧X K kn kc V vn vc w'))
  (HX:Hid (∀K kn kc V vn vc w',X K kn kc V vn vc w'→w'.ownsRow base 57 2 (.slice oA m oc) m us∧ai w' gl 37 #[.slice oA m oc]∧base≤w'.heap.size∧(Value.slice oA m oc).ownBlock≠some gl)) (hm:m≤64)
  (au:∀(v14 v15 v16 v17 v18:Value) (K:Option Addr) (kn kc:Nat) (V:Option Addr) (vn vc:Nat) (x:Value) (w2 wa w3:World),X K kn kc V vn vc w2→Below w2.heap.size w2 wa→w3.ownsRow base 57 2 x (m+1) (us++ [.slice K kn kc,.slice V vn vc])→wa.grownBy w3 (Value.slice oA m oc).ownBlock→(x.ownBlock=(Value.slice oA m oc).ownBlock∨x.ownBlock=some wa.heap.size)→Q .normal ⟨(.pointer (some ⟨gb,0,none⟩):: .pointer (some ⟨gl,0,none⟩):: .pointer (some ⟨q,0,none⟩)::u3::u4::u5::u6::u7::u8::u9::u10::u11::u12::u13::v14::v15::v16::v17::v18::bD::u20:: []).toArray,[]⟩ (w3.setCell ⟨gl,0,none⟩ x)):
  Code.wp prog UF Q ⟨(.pointer (some ⟨gb,0,none⟩):: .pointer (some ⟨gl,0,none⟩):: .pointer (some ⟨q,0,none⟩)::u3::u4::u5::u6::u7::u8::u9::u10::u11::u12::u13::bN::bq::u16::u17::bC::bD::u20:: []).toArray,[]⟩ w:=by
 obtain⟨i0,hi0,jO,jP,jQ⟩:=info_parts nW;have dF:=aa au;have S0:w.drew.cell? ⟨gl,0,none⟩=some (.slice oA m oc):=HL.out.cell 0;clear au;conv=>arg 2;whnf
 refine aM (fun w'=>w'.cell? ⟨gl,0,none⟩=some (.slice oA m oc)) 5 (by kernel_rfl) ?_;refine uF 1 (fun _=>S0) ?_;refine uT 0 S0 ?_;refine az (i:=2) (by kernel_rfl) rfl (fun K hK=> ?_);go_simp
 refine(HN 1).mono ?_;intro e w2 hR;obtain⟨J,kn,kc,V,vn,vc,rfl,hx⟩:=Ai.out e w2 hR;obtain⟨o1,o2,o3,o4⟩:=HX.out _ _ _ _ _ _ _ hx;have Rf:=aa hx;have mH:=aa o1;have iV:=aa o2;have S1:w2.cell? ⟨gl,0,none⟩=some (.slice oA m oc):=o2.cell 0;clear hR hx o1 o2;refine hK.out _ _ (fun _=>S1) ?_;clear hK K;try simp only [aL,aN,aZ,aC]
 refine az (i:=3) (by kernel_rfl) rfl (fun K hK=> ?_);go_simp
 have hb3:Below w2.heap.size w2 (w2.alloc (.cells #[.slice J kn kc,.slice V vn vc] 57)):=(Below.refl _ _).alloc (Nat.le_refl _) _;have HB3:=aa hb3;have S3:(w2.alloc (.cells #[.slice J kn kc,.slice V vn vc] 57)).cell? ⟨gl,0,none⟩=some (.slice oA m oc):=ak hb3 S1;refine hK.out _ _ (fun _=>S3) ?_;clear hK K;try simp only [aL,aN,aZ,aC]
 refine az (i:=4) (by kernel_rfl) rfl (fun K hK=> ?_);refine aV _ rfl (.tmp 14) (.tmp 17) _ rfl base 57 i0 _ 2 48 underlying37 hi0 jO jP jQ rfl (by omega) (.slice oA m oc) m us rfl (own_below mH HB3) (From w2.heap.size) (some ⟨w2.heap.size,0,none⟩) 1 1 [.slice J kn kc,.slice V vn vc] rfl (Rd.two w2 _ _ _) (by intro u hu;simp at hu;rcases hu with hu|hu<;>subst hu<;>rfl) (by simp only [maxLen];omega) (by omega) (Nat.le_trans o3 HB3.size) ?_;intro x w4 eu hg4 jd;obtain⟨K4,P5,hv4,_,_⟩:=ay eu;subst hv4;have lI:=aa eu;have F4:=aa hg4;have F5:=aa jd;have Jp:w4.cell? ⟨gl,0,none⟩=some (.slice oA m oc):=(ag.of_grown hg4).cell o4 S3;have Uv:w4.frozen? ⟨gl,0,none⟩=false:=((iV.below HB3).chg (ag.of_grown hg4) o4).frozen 0;clear eu hg4 jd;refine hK.out _ _ (fun _=>Jp) ?_;clear hK K;try simp only [aL,aN,aZ,aC]
 refine az (i:=5) (by kernel_rfl) rfl (fun K hK=> ?_);go_simp
 refine hK.out _ _ (fun h=>absurd h (by decide)) ?_;clear hK K;try simp only [aL,aN,aZ,aC]
 refine bL (by kernel_rfl) ?_ _;exact dF _ _ _ _ _ _ _ _ _ _ _ _ w2 _ w4 Rf HB3 lI F4 F5
end
end Go.Proofs.YtbjgeidjmhialaaGreatDoor
