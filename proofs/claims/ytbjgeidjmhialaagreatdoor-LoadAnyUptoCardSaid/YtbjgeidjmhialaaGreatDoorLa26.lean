/- Part 26. -/
import Derived.Test.YtbjgeidjmhialaaGreatDoorLa25
namespace Go.Proofs.YtbjgeidjmhialaaGreatDoor
set_option maxRecDepth 100000
set_option maxHeartbeats 8000000
section
open Go.Proofs.Tryz
open Go.RowKit
noncomputable def Yc:Code:=aP (f91.body.bind (aA 16))
theorem abp (F:Nat→Prop) (p mm:Nat) (nodes root:Int) (done:List bB) (nd:Nd) (hA kA vA dA:Option Addr) (hn hc kn kc vn vc dn dc:Nat) (more:Bool) (q:Nat) (w:World) (base:Nat) (o:Value) (ks:List (Int×List UInt8)) (r M cp i:Nat) {u1 u2 u3 u4 u5 u6 u7 u8 u12 bN bq u16 u17 bC bD u20 u21 u22 u23 u24 u25 u26 u27 u28 u29 u30 u31 u32 u33 u34 u35 u36 u37 u38 dh u40 bX u42 bY u44 u45 u46 di u48 u49 bV u51 u52 u53 bW u55 dz dB u58 u59 u60 dH dG u63 u64 dO u66 dU u68 u69 u70 dV u72 u73 dP u75 eQ eU eX eY eZ fo fq fu fw fE iO:Value} (Q:Exit→Act→World→Prop) (nC:Hid (∀c t (a:Act) w,Q (.panic c) ⟨t,a.defers⟩ w→Q (.panic c) a w))
  (hst:dI w F p mm nodes root done) (hf:(done.length:Int)<nodes) (hn1:nodes≤65536) (hks:ks.length≤65536) (hbase:base≤w.heap.size)
  (hq:ai w q 104 #[.int .i64 nd.lev,.slice hA hn hc,.int .i64 nd.right,.slice kA kn kc,.slice vA vn vc,.slice dA dn dc]) (NG:Rest F mm o q)
  (h1:Bt w (Rest F mm o) hA hn hc nd.high) (h2:Tx w (Off F mm) kA kn kc nd.keys) (h3:Tx w (Off F mm) vA vn vc nd.vals) (h4:It w (Off F mm) dA dn dc nd.kids) (hs:Small nd)
  (hrow:bZ w (Off F mm) base o ks) (hM1:1≤M) (hM2:M≤65536) (hmore:decide ((i:Int)<(M:Int)-1)=more) (hwr:IntKind.i64.wrap ((M:Int)-1)=(M:Int)-1)
  (au:∀(v70 v71 v72 v73 v74 v75 v76 v77 v78 v79 v80 v81 v82 v83 v84:Value) (o':Value) (w':World),Put w w' F p mm nodes root (done++ [(2,⟨nd.lev,nd.high,if more then(done.length:Int)+1+1 else nd.right,nd.keys,nd.vals,nd.kids⟩)]) base o o' (ks++ [((done.length:Int)+1,nd.high)])→Q .normal ⟨(.pointer (some ⟨mm,0,none⟩)::u1::u2::u3::u4::u5::u6::u7::u8::o':: .slice (some ⟨r,0,none⟩) M cp:: .int .i64 i::u12:: .pointer (some ⟨q,0,none⟩)::bN::bq::u16::u17::bC::bD::u20::u21::u22::u23::u24::u25::u26::u27::u28::u29::u30::u31::u32::u33::u34::u35::u36::u37::u38::dh::u40::bX::u42::bY::u44::u45::u46::di::u48::u49::bV::u51::u52::u53::bW::u55::dz::dB::u58::u59::u60::dH::dG::u63::u64::dO::u66::dU::u68::u69::v70::v71::v72::v73::v74::v75::v76::v77::v78::v79::v80::v81::v82::v83::v84::fE::iO:: []).toArray,[]⟩ w'):
  Code.wp prog Yc Q ⟨(.pointer (some ⟨mm,0,none⟩)::u1::u2::u3::u4::u5::u6::u7::u8::o:: .slice (some ⟨r,0,none⟩) M cp:: .int .i64 i::u12:: .pointer (some ⟨q,0,none⟩)::bN::bq::u16::u17::bC::bD::u20::u21::u22::u23::u24::u25::u26::u27::u28::u29::u30::u31::u32::u33::u34::u35::u36::u37::u38::dh::u40::bX::u42::bY::u44::u45::u46::di::u48::u49::bV::u51::u52::u53::bW::u55::dz::dB::u58::u59::u60::dH::dG::u63::u64::dO::u66::dU::u68::u69::u70::dV::u72::u73::dP::u75::eQ::eU::eX::eY::eZ::fo::fq::fu::fw::fE::iO:: []).toArray,[]⟩ w:=by
 obtain⟨i0,hi0,jO,jP,jQ⟩:=info_parts zz;have S0:QV q nd.lev hA hn hc nd.right kA kn kc vA vn vc dA dn dc w.drew:=⟨by rw [hq.drew.cell];rfl,by rw [hq.drew.cell];rfl,by rw [hq.drew.cell];rfl,by rw [hq.drew.cell];rfl,by rw [hq.drew.cell];rfl,by rw [hq.drew.cell];rfl⟩;have HQ:=aa NG;have ql:=hq.lt;have dF:=aa au;have HST:=aa (hst.below (Below.refl _ _).drew);have H1:=aa h1;have H2:=aa (h2.below (Below.refl _ _).drew);have H3:=aa (h3.below (Below.refl _ _).drew);have H4:=aa (h4.below (Below.refl _ _).drew);have HS:=aa hs;have HR:=aa (hrow.below (Below.refl _ _).drew);have HK:=aa hks;have HB:=aa hbase;have kZ:=aa hst.2.1;have Ng:=hst.2.2.1;have zA:Hid (∀g,o.ownBlock=some g→Off F mm g∧g<w.heap.size):=aa (by obtain⟨us,a,b,_⟩:=hrow;exact fun g hg=>⟨b g hg,(ah a g hg).2⟩);clear hq NG au hst h1 h2 h3 h4 hs hrow hks hbase;conv=>arg 2;whnf
 refine aX (QV q nd.lev hA hn hc nd.right kA kn kc vA vn vc dA dn dc) (by kernel_rfl) ?_;refine vT 0 S0 ?_;refine vT 1 S0 ?_;refine vT 3 S0 ?_;refine vT 4 S0 ?_;refine vT 5 S0 ?_;refine vT 6 S0 ?_;refine vT 7 S0 ?_;refine vT 9 S0 ?_;refine vT 10 S0 ?_;refine vT 2 S0 ?_;refine vT 11 S0 ?_;refine aR (i:=8) (by kernel_rfl) rfl (fun K hK=> ?_);go_simp
 refine(EO more nd hA kA vA dA hn hc kn kc vn vc dn dc HST hf hn1 (H1.below (Below.refl _ _).drew|>.weak (fun b hb=>hb.1)) H2 H3 H4 HS).mono ?_;rintro e w1 ⟨rfl,st1,JJ⟩;have S1:=S0.chg JJ (fun h=>h.elim HQ.1.1 HQ.1.2);have JK:=aa st1;have ib:=aa JJ;have hz1:w.heap.size≤w1.heap.size:=JJ.size;obtain⟨us,r1,r2,r3⟩:=HR.out.off_next JJ;have HR1:=aa r1;have HR2:=aa r2;have HR3:=aa r3;clear st1 r1 r2 r3 JJ;refine hK.out _ _ S1 ?_;clear hK K;try simp only [aL,aN,aZ,aC]
 refine vT 12 S1 ?_;refine aR (i:=13) (by kernel_rfl) rfl (fun K hK=> ?_);go_simp
 have hb2:Below w1.heap.size w1 (w1.alloc (.cells #[.int .i64 ((done.length:Int)+1),.slice hA hn hc] 221)):=(Below.refl _ _).alloc (Nat.le_refl _) _;have S2:=S1.chg (S:=Nil) (ag.of_below hb2) (fun hf=>hf);refine hK.out _ _ S2 ?_;clear hK K;try simp only [aL,aN,aZ,aC]
 refine aR (i:=14) (by kernel_rfl) rfl (fun K hK=> ?_);refine aV _ rfl (.tmp 70) (.tmp 83) _ rfl base 221 i0 _ 2 32 underlying215 hi0 jO jP jQ rfl (by omega) o ks.length us rfl (own_below HR1 hb2) (From w1.heap.size) (some ⟨w1.heap.size,0,none⟩) 1 1 [.int .i64 ((done.length:Int)+1),.slice hA hn hc] rfl (Rd.two w1 _ _ _) (by intro u hu;simp at hu;rcases hu with hu|hu<;>subst hu<;>rfl) (by simp only [maxLen];have:=HK.out;omega) (by have:=HK.out;omega) (by have:=HB.out;simp;omega) ?_;intro v2 w2 hown2 hg2 gP;have hc2:=(ag.refl (fun b=>o.ownBlock=some b) _).grown hg2 (fun k hk _=>hk);have S3:=S2.chg hc2 (fun e=>HQ.2 e);refine hK.out _ _ S3 ?_;clear hK K;try simp only [aL,aN,aZ,aC]
 refine vT 15 S3 ?_;refine bP (by kernel_rfl) ?_ _;have hm2:Off (Grown F w.drew w1) mm (w1.alloc (.cells #[.int .i64 ((done.length:Int)+1),.slice hA hn hc] 221)).heap.size:=⟨fun h=>h.elim (fun h=>by have:=kZ.out _ h;simp at this;omega) (fun h=>by have:=h.2;rw [World.size_alloc] at this;omega),by simp;omega⟩;have hh:SB w1 (fun b=>Off (Grown F w.drew w1) mm b∧o.ownBlock≠some b) (.slice hA hn hc) nd.high:=SB.weak ((H1.lt.below (Below.refl _ _).drew).chg ib (fun b hb h=>h.elim hb.1.1.1 hb.1.1.2)).sb (fun b hb=>⟨off_next (w:=w.drew) hb.2 hb.1.1,hb.1.2⟩);have JL:∀b,Grown F w.drew w1 b→o.ownBlock≠some b:=fun b hb e=>hb.elim (fun h=>(zA b e).1.1 h) (fun h=>by have h1:w.heap.size≤b:=h.1;have:=(zA.out b e).2;omega)
 refine dF _ _ _ _ _ _ _ _ _ _ _ _ _ _ _ v2 w2 ⟨⟨Grown F w.drew w1,?_,fun b hb=>hb.elim .inl (fun h=> .inr h.1),?_,?_⟩,?_⟩
 ·exact(JK.below hb2).chg hc2 JL (fun e=>(zA mm e).1.2 rfl)
 ·exact bZ.push (own_below HR1 hb2) HR2 (fun i k hk=>let⟨a,u,b,c⟩:=HR3.out i k hk;⟨a,u,b,c.below hb2⟩) hown2 hg2 gP (hh.below hb2) (fun _ h=>h) hm2
 ·exact fun b hb h=>xc (w:=w.drew) hb h (gP.imp id (fun e=>⟨_,by simp;omega,e⟩))
 ·exact(((ag.refl _ _).drew.trans ib (fun b _ h=> .inl h)).then hb2).trans hc2 (fun b _ h=> .inr h)
theorem nU {w:World} {base:Nat} {e:TypeId} {size n c:Nat} {A:Option Addr} {xs:List Value} {D:Nat→Prop} (h:w.ownsRow base e size (.slice A n c) n xs) (hD:∀g,(Value.slice A n c).ownBlock=some g→D g):Rd w D size A n xs:=by
 refine⟨h.1,fun hn=> ?_⟩;obtain⟨g,cap,hv,hbg,hlt⟩:=h.form hn;have hA:A=some ⟨g,0,none⟩:=by injection hv
 subst hA;exact⟨g,0,rfl,hD g rfl,fun j u hu=>by have:=h.cells (g:=g) rfl j u hu;rw [iP] at this;exact this⟩
def gU (most:Nat) (ks:List (Int×List UInt8)) (i:Nat):List (Int×List UInt8):=(ks.drop (i*most)).take most
def Cx (most:Nat) (ks:List (Int×List UInt8)) (i:Nat):List UInt8:=((gU most ks i).getLastD (0,[])).2
def iQ (most:Nat) (lev:Int) (ks:List (Int×List UInt8)) (d0 M i:Nat):bB:=(2,⟨lev,Cx most ks i,if i+1<M then(d0:Int)+(i:Int)+1+1 else 0,(gU most ks i).dropLast.map Prod.snd,[],(gU most ks i).map Prod.fst⟩)
theorem JM {w:World} {base s mi:Nat} {D G:Nat→Prop} {us:List Value} {ks:List (Int×List UInt8)} {kv dv:Value} {iN tJ:List Value} (h:fT w base ((us.drop (s*2)).take (mi*2)) (mi-1) mi kv dv iN tJ) (ht:JG w D us ks) (zi:s+mi≤ks.length)
  (h1:∀b,base≤b→G b) (h2:∀b,D b→G b):∃kA kc dA dc,kv= .slice kA (mi-1) kc∧dv= .slice dA mi dc∧Tx w G kA (mi-1) kc (((ks.drop s).take mi).dropLast.map Prod.snd)∧It w G dA mi dc (((ks.drop s).take mi).map Prod.fst):=by
 obtain⟨kA,kc,rfl,a1,a2⟩:=ay h.k;obtain⟨dA,dc,rfl,b1,b2⟩:=ay h.v;have hl:((ks.drop s).take mi).length=mi:=by rw [List.length_take,List.length_drop];omega
 have key:∀(i:Nat),i<mi→∃e:Int×List UInt8,((ks.drop s).take mi)[i]? =some e∧ks[s+i]? =some e:=by
  intro i hi;have:s+i<ks.length:=by omega
  exact⟨ks[s+i],by rw [List.getElem?_take,if_pos hi,List.getElem?_drop];exact List.getElem?_eq_getElem this,List.getElem?_eq_getElem this⟩
 have idx:∀(i j:Nat),i<mi→j<2→((us.drop (s*2)).take (mi*2))[2*i+j]? =us[2*(s+i)+j]? :=by
  intro i j hi hj;rw [List.getElem?_take,if_pos (by omega),List.getElem?_drop,show s*2+(2*i+j)=2*(s+i)+j by omega]
 refine⟨kA,kc,dA,dc,rfl,rfl,⟨a1,a2,aa (by rw [List.length_map,List.length_dropLast,hl]),iN,(Rd.of_own h.k).weak h1,fun i t ht'=> ?_⟩,⟨b1,b2,aa (by rw [List.length_map,hl]),?_⟩⟩
 ·have hi:i<mi-1:=by have:=(List.getElem?_eq_some_iff.1 ht').1;rw [List.length_map,List.length_dropLast,hl] at this;exact this
  obtain⟨e,e1,e2⟩:=key i (by omega);rw [List.getElem?_map,List.getElem?_dropLast,if_pos (by rw [hl];exact hi),e1] at ht';injection ht' with ht'
  subst ht';obtain⟨_,u,q1,q2⟩:=ht _ e e2
  exact⟨u,by rw [h.ku i hi,idx i 1 (by omega) (by omega)];exact q1,q2.weak h2⟩
 ·have he:tJ=(((ks.drop s).take mi).map Prod.fst).map (Value.int .i64):=by
   apply List.ext_getElem?;intro i
   rcases Nat.lt_or_ge i mi with hi|hi
   ·obtain⟨e,e1,e2⟩:=key i hi;have hx:=idx i 0 hi (by omega);rw [Nat.add_zero,Nat.add_zero] at hx
    rw [h.vu i hi,hx,(ht _ e e2).1,List.getElem?_map,List.getElem?_map,e1];rfl
   ·have hd:tJ.length=mi*1:=h.v.1;rw [List.getElem?_eq_none (by omega),List.getElem?_eq_none (by rw [List.length_map,List.length_map,hl];exact hi)]
  rw [←he];exact(Rd.of_own h.v).weak h1
theorem zB {ks:List (Int×List UInt8)} (hs:∀k∈ks,k.2.length≤1152921504606) (s m:Nat) (hm:m≤1152921504606) (lev right:Int) (high:List UInt8) (hh:high.length≤1152921504606):Small ⟨lev,high,right,((ks.drop s).take m).dropLast.map Prod.snd,[],((ks.drop s).take m).map Prod.fst⟩:=by
 have hl:((ks.drop s).take m).length≤m:=by rw [List.length_take];exact Nat.min_le_left _ _
 have hmem:∀e∈(ks.drop s).take m,e∈ks:=fun e he=>List.mem_of_mem_drop (List.mem_of_mem_take he)
 refine⟨hh,?_,by simp,?_,fun t ht=> ?_,by simp⟩
 ·show(((ks.drop s).take m).dropLast.map Prod.snd).length≤_;rw [List.length_map,List.length_dropLast];omega
 ·show(((ks.drop s).take m).map Prod.fst).length≤_;rw [List.length_map];omega
 ·obtain⟨e,he,rfl⟩:=List.mem_map.1 ht;exact hs e (hmem e (List.dropLast_subset _ he))
theorem FY (F:Nat→Prop) (p mm:Nat) (nodes root:Int) (done:List bB) (A:Option Addr) (n c:Nat) (ks:List (Int×List UInt8)) (most M:Nat) (lev:Int) (w:World) (base:Nat) (hst:dI w F p mm nodes root done) (hE:bZ w (Off F mm) base (.slice A n c) ks) (hnl:Hid (n=ks.length))
  (h1:1≤most) (h2:most≤1152921504606) (hn:n≤65536) (hpos:0<n) (hsm:∀k∈ks,k.2.length≤1152921504606) (hM:n≤M*most∧M*most<n+most) (Xj:(done.length:Int)+(M:Int)≤nodes) (hn1:nodes≤65536):
  Calls prog 91 #[.pointer (some ⟨mm,0,none⟩),.slice A n c,.int .i64 most,.int .i64 lev] w fun e w'=>∃F' v,e= .returned v∧Lv w w' F F' p mm nodes root done (iQ most lev ks done.length M) (Cx most ks) M v:=by
 have HST:=aa hst;have HL:=hnl;obtain⟨us,hown,hblk,FZ⟩:=hE;have hrow:w.ownsRow base 221 2 (.slice A n c) n us:=by have:=hown;rwa [←hnl.out] at this
 have HR:Hid (Rd w (Off F mm) 2 A n us):=aa (nU hrow hblk);have HT:Hid (JG w (Off F mm) us ks):=aa (fun i k hk=>let⟨a,u,b,c⟩:=FZ i k hk;⟨a,u,b,c.weak (fun b hb=>hb.1)⟩);have hnc:n≤c∧c≤maxLen:=by obtain⟨_,_,e,q1,q2⟩:=ay hrow;injection e with _ _ e;subst e;exact⟨q1,q2⟩
 have HS:=aa hsm;clear hst hsm hown hblk FZ hrow hnl;go_enter func91,ntmps91
 go_wp2_with (go_at_call 124;refine(zC A n c most (Off F mm) us w HR hnc.1 hnc.2 h1 h2 (by omega)).mono ?_;rintro e w0 ⟨K,vals,A',m,c',gv,rfl,g1,g2,g3,g4,g5,g6,g7,g8,g9,hb0⟩;obtain⟨r,cp,hgv,hbr,hlr⟩:=g1.form (by omega);subst hgv)
 have hm0:0<m:=by rcases g6 with h|h;subst h;simp at g4;omega;exact h
 have Yd:M=K+1:=by
  have a1:K*most<M*most:=by omega
  have a2:M*most<(K+2)*most:=by rw [Nat.add_mul];omega
  have a3:=Nat.lt_of_mul_lt_mul_right a1;have a4:=Nat.lt_of_mul_lt_mul_right a2;omega
 subst Yd;have kE:∀b,Off F mm b→Rest F mm (.slice none 0 0) b:=fun b h=>⟨h,by simp [Value.ownBlock]⟩;have H0:=aa (show nV w0 (Rest F mm (.slice none 0 0)) w.heap.size 215 (.slice (some ⟨r,0,none⟩) (K+1) cp) us most K m vals A' c' from⟨g1,fun g hg=>by have hg:some r=some g:=hg;injection hg with hg;subst hg;exact kE _ ⟨fun h=>by have:=HST.out.2.1 _ h;omega,by have:=HST.out.2.2.1;omega⟩,g2,fun i hi=>let⟨B,d,a,b,e,f⟩:=g3 i hi;⟨B,d,a,b,e,f.weak kE⟩,g9.weak kE,g7,g8⟩);have HN:=aa g4;have HM:=aa g5;have HB0:=aa hb0;have Ye:K+1≤65536:=by omega
 clear g1 g2 g3 g4 g5 g6 g9 hb0
 go_loopg [9,21] (K+1) (fun g' out i wr=>∃(k:Nat) (o:Value) (F':Nat→Prop),g'=K+1-k∧k≤K+1∧i= .int .i64 k∧o=out∧Lv w wr F F' p mm nodes root done (iQ most lev ks done.length (K+1)) (Cx most ks) k o∧nV wr (Rest F' mm o) w.heap.size 215 (.slice (some ⟨r,0,none⟩) (K+1) cp) us most K m vals A' c'∧JG wr (Rest F' mm o) us ks)
 case atStart=>exact⟨0,_,F,by omega,by omega,rfl,rfl,⟨by simpa using HST.out.below HB0,bZ.nil _ _ _,ag.of_below HB0,fun b hb=> .inl hb⟩,H0,(HT.below HB0).next (ag.refl Nil _) (fun _ _ h=>h) (fun b _ h=>kE b h)⟩
 case round=>
  obtain⟨k,o,F',hg,hk,rfl,rfl,hlv,hho,htx⟩:=hrel;have HG:=aa hg;have jr:=aa hlv;have QW:=aa hho;have xV:=aa htx;clear hg hlv hho htx
  rename World=>wq
  by_cases hlt:k<K+1
  ·obtain⟨r',cp',B,mi,d,hr',hrl,hrD,Nh,hcell,hd1,hd2,hpr⟩:=QW.out.at_ hlt;injection hr' with hr' _ QX
   injection hr' with hr'
   injection hr' with hr'
   subst hr';subst QX
   have zi:k*most+mi≤ks.length∧(ks.drop (k*most)).take most=(ks.drop (k*most)).take mi:=by
    have a1:=HL.out;have a2:=HN.out;have a3:=Nh;have a5:=HM.out
    by_cases hk':k<K
    ·rw [if_pos hk'] at a3;have a4:(k+1)*most≤K*most:=Nat.mul_le_mul_right _ hk';rw [Nat.add_mul] at a4
     exact⟨by omega,by rw [a3]⟩
    ·rw [if_neg hk'] at a3;obtain rfl:k=K:=by omega
     exact⟨by omega,by rw [List.take_of_length_le (by rw [List.length_drop];omega),List.take_of_length_le (by rw [List.length_drop];omega)]⟩
   have CP:mi≤1152921504606:=by have:=HL.out;omega
   have Uu:0<mi:=by rw [Nh];split<;>omega
   have CK:=aa hpr;have Cw:=aa zi;clear Nh hpr zi hd2;have zA:Hid (∀g,o.ownBlock=some g→w.heap.size≤g∧Off F' mm g):=aa (by obtain⟨us,a,b,_⟩:=jr.out.row;exact fun g hg=>⟨(ah a g hg).1,b g hg⟩);have xW:=aa jr.chg.size;have PX:Hid ((done++(List.range k).map (iQ most lev ks done.length (K+1))).length=done.length+k):=aa (by simp);obtain⟨b,o1,id,Ah,nh,ch,rfl,TQ,_,_,_,c2',x,hx,_,sx⟩:=CJ CK.out xV Cw.1 (j:=mi-1) (by omega);have C2:=aa c2';have HX:=aa hx;have SX:=aa sx;have HDB:=aa TQ;clear c2' hx sx TQ;go_wp2;refine JH (Rest F' mm o) us ks (some ⟨b,o1,none⟩) mi d (k*most) wq.heap.size lev wq _ CP hd1 _ (aa (fun _ _ _ _ h=>h)) rfl CK xV Cw.1 ((Below.refl _ _).alloc (Nat.le_refl _) _) (ai.new _ _ _) ?_;intro v14 v15 v32 v33 v34 v35 v36 v37 v38 v39 v40 v41 v42 v43 v44 v45 v46 v47 v48 v49 v50 v51 v52 v53 v54 v55 v56 v57 v58 v59 v60 kv dv iN tJ wz hbk hrw hbz;have kD:=aa hbz;have NG:∀b,wq.heap.size≤b→Rest F' mm o b:=fun b hb=>⟨⟨fun h=>by have:=jr.out.st.2.1 _ h;omega,by have:=jr.out.st.2.2.1;omega⟩,fun e=>by obtain⟨us,a,_⟩:=jr.out.row;have:=(ah a _ e).2;omega⟩;have HQF:=aa NG;obtain⟨kA,kc,dA,dc,rfl,rfl,tk,tv⟩:=JM (G:=fun b=>Off F' mm b∧b≠wq.heap.size) hrw (xV.next (ag.of_below (S:=Nil) hbz) (fun _ _ h=>h) (D':=fun b=>Rest F' mm o b∧b<wq.heap.size) (fun b hb h=>⟨h,hb⟩)) Cw.1 (fun b hb=>⟨(NG b (by omega)).1,by omega⟩) (fun b hb=>⟨hb.1.1,by omega⟩);have jT:=aa hbk;have c2:=ak hbz C2.out;have NH:ag (jK wq.heap.size) wz (wz.setCell ⟨wq.heap.size,1,none⟩ (.slice Ah nh ch)):=ag.set1 _ _ _ _;have PY:=aa ((tk.chg NH (fun b hb e=>hb.2 e)).weak (G:=Off F' mm) (fun b hb=>hb.1));have Yf:=aa ((tv.chg NH (fun b hb e=>hb.2 e)).weak (G:=Off F' mm) (fun b hb=>hb.1));have HTH:=aa (((((SX.out.lt.below hbz)).chg NH (fun b hb e=>by have:=hb.2;have e:b=wq.heap.size:=e;omega)).weak (G:=Rest F' mm o) (fun b hb=>hb.1)).bt);have iC:Hid (Below wq.heap.size wq (wz.setCell ⟨wq.heap.size,1,none⟩ (.slice Ah nh ch))):=aa (hbz.setCell (p:=⟨wq.heap.size,1,none⟩) (Nat.le_refl _) _);have CL:=aa (hbk.set_ 1 (.slice Ah nh ch));have q1:wz.cell? ⟨wq.heap.size,1,none⟩=some (.slice none 0 0):=(hbk.cell 1).trans rfl;have qf:=hbk.frozen;have w1:=IntWalk.i64_in ((mi:Int)-1) (by omega);have w2:(0:Int)≤(mi:Int)-1:=by omega
   have w3:((mi:Int)-1)<mi:=by omega
   have w4:((mi:Int)-1).toNat=mi-1:=by omega
   have w8:(1:Int)≤(mi:Int):=by omega
   have hxl:x.2.length≤1152921504606:=HS.out _ (List.mem_of_getElem? HX)
   have hhi:Hid (x.2=Cx most ks k):=aa (by
    unfold Cx gU;rw [Cw.out.2,List.getLastD_eq_getLast?,List.getLast?_eq_getElem?,List.length_take,List.length_drop,Nat.min_eq_left (by have:=Cw.out.1;omega),List.getElem?_take,if_pos (by omega),List.getElem?_drop,HX.out];rfl)
   clear hbk hrw hbz tk tv NH NG;go_wp2;refine abp F' p mm nodes root (done++(List.range k).map (iQ most lev ks done.length (K+1))) ⟨lev,x.2,0,((ks.drop (k*most)).take mi).dropLast.map Prod.snd,[],((ks.drop (k*most)).take mi).map Prod.fst⟩ Ah kA none dA nh ch (mi-1) kc 0 0 mi dc (decide (k<K)) wq.heap.size (wz.setCell ⟨wq.heap.size,1,none⟩ (.slice Ah nh ch)) w.heap.size o _ r (K+1) cp k _ (aa (fun _ _ _ _ h=>h)) (jr.st.below iC) (by have:=PX.out;omega) hn1 (by simp;omega) (by have:=xW.out;have:=iC.out.size;omega) CL (HQF _ (Nat.le_refl _)) HTH PY (Tx.nil _ _) Yf (zB HS _ _ CP _ _ _ hxl) (jr.row.below iC) (by omega) Ye (decide_eq_decide.2 (by omega)) (IntWalk.i64_in _ (by omega)) ?_;intro v70 v71 v72 v73 v74 v75 v76 v77 v78 v79 v80 v81 v82 v83 v84 o' w' hput
   obtain⟨Ni,PZ,hr2⟩:=xX jr iC hput (by
    have e1:=PX.out;have e2:=hhi.out;have e3:=Cw.out.2;simp only [iQ,gU,e2,e3,e1,Nat.add_lt_add_iff_right,Int.natCast_add,decide_eq_true_eq]) (by have:=PX.out;omega) hhi.out (fun g hg=>(zA g hg).1)
   have P4:=aa hput.chg;have JN:=aa PZ;have HR2:=aa hr2;clear hput PZ hr2;have zD:∀b,Rest F' mm o b→¬((F' b∨b=mm)∨o.ownBlock=some b):=fun b hb h=>h.elim (fun h=>h.elim hb.1.1 hb.1.2) hb.2;go_wp2
   go_roundg (K+1-(k+1))
   case measure=>have:=HG.out;omega
   case rel=>exact⟨k+1,o',Ni,rfl,by omega,by go_num,rfl,JN,(QW.below iC).next P4 zD HR2,(xV.below iC).next P4 zD HR2⟩
  ·obtain rfl:k=K+1:=by omega
   go_wp2;go_ret
   exact⟨F',_,rfl,jr⟩
end
section
def aY (nd lf inn fl bl:Int):Prop:=1≤nd∧nd≤65536∧2≤lf∧lf≤64∧3≤inn∧inn≤64∧1≤fl∧fl≤lf∧1≤bl∧bl≤64
instance (nd lf inn fl bl:Int):Decidable (aY nd lf inn fl bl):=by unfold aY;infer_instance
def MJ (nd lf inn fl bl:Int):Int:=if aY nd lf inn fl bl then 0 else 1
theorem pW {nd lf inn fl bl:Int} (h:aY nd lf inn fl bl):MJ nd lf inn fl bl=0:=by simp [MJ,h]
theorem MK {nd lf inn fl bl:Int} (h:¬aY nd lf inn fl bl):MJ nd lf inn fl bl=1:=by simp [MJ,h]
def parts (n most:Int):Int:=if n=0 then 1 else if 0<n%most then n/most+1 else n/most
theorem xF {n most:Int} (hn:0≤n) (hm:1≤most):max 1 (n/most+min 1 (n%most))=parts n most:=by
 have hd:=Int.mul_ediv_add_emod n most;have h0:=Int.emod_nonneg n (show most≠0 by omega);have h1:0≤n/most:=Int.ediv_nonneg hn (by omega);unfold parts
 by_cases hz:n=0
 ·subst hz;simp;omega
 ·simp only [hz,if_false]
  by_cases hr:0<n%most
  ·simp only [hr,if_true];omega
  ·simp only [hr,if_false];have:n%most=0:=by omega
   have:n/most≠0:=by
    intro h;rw [h] at hd;simp at hd;omega
   omega
theorem ko {n most:Int} (hn:0≤n) (hm:1≤most):1≤parts n most:=by
 rw [←xF hn hm];omega
theorem BV {n most b:Int} (hn:0≤n) (hm:3≤most) (hb:1≤b) (h:n≤3*b):parts n most≤b:=by
 have hd:=Int.mul_ediv_add_emod n most;have h0:=Int.emod_nonneg n (show most≠0 by omega);have h1:0≤n/most:=Int.ediv_nonneg hn (by omega);have h3:3*(n/most)≤most*(n/most):=Int.mul_le_mul_of_nonneg_right hm h1;unfold parts
 by_cases hz:n=0
 ·simp [hz];omega
 ·simp only [hz,if_false];split<;>omega
theorem BU {n most:Int} (hn:0≤n):parts n most≤n+1:=by
 have h:=Int.ediv_le_self most hn;unfold parts
 by_cases hz:n=0
 ·simp [hz]
 ·simp only [hz,if_false];split<;>omega
theorem El {m q:Int} (hm:0≤m) (hq:1≤q):m/q+m%q≤m:=by
 have hd:=Int.mul_ediv_add_emod m q;have h1:0≤m/q:=Int.ediv_nonneg hm (by omega);have h3:1*(m/q)≤q*(m/q):=Int.mul_le_mul_of_nonneg_right hq h1;omega
def lv (nd inn:Int):Nat→Int→Int→Int×Int
 |0,_,_=>(0,2)
 |k+1,m,all=>if nd-all<m then(0,2) else if m=1 then(all+m,0) else lv nd inn k (parts m inn) (all+m)
theorem jH {nd inn m all:Int} {k:Nat} (h:nd-all<m):lv nd inn k m all=(0,2):=by
 cases k with
 |zero=>rfl
 |succ k=>simp [lv,h]
theorem uw {nd inn m all:Int} {k:Nat} (h:¬nd-all<m) (h1:m=1):lv nd inn (k+1) m all=(all+m,0):=by
 rw [lv,if_neg h,if_pos h1]
theorem p9 {nd inn m all:Int} {k:Nat} (h:¬nd-all<m) (h1:¬m=1):lv nd inn (k+1) m all=lv nd inn k (parts m inn) (all+m):=by simp [lv,h,h1]
def aS (nd lf inn fl bl n:Int):Int×Int:=
 if aY nd lf inn fl bl then(if n<0 then(0,1) else lv nd inn 32 (parts n fl) 0) else(0,1)
theorem gq {nd lf inn fl bl n:Int} (h:aY nd lf inn fl bl) (hn:¬n<0):aS nd lf inn fl bl n=lv nd inn 32 (parts n fl) 0:=by simp [aS,h,hn]
end
section
open Go.RowKit
def pn (n most:Nat):Nat:=(parts (n:Int) (most:Int)).toNat
theorem gK (n most:Nat) (hm:1≤most):((pn n most:Nat):Int)=parts (n:Int) (most:Int):=by
 have:=ko (n:=(n:Int)) (most:=(most:Int)) (by omega) (by omega);unfold pn;omega
theorem iA (n most:Nat) (hm:1≤most) (hn:1≤n):n≤pn n most*most∧pn n most*most<n+most:=by
 have h:=gK n most hm;have hd:=Int.mul_ediv_add_emod (n:Int) (most:Int);have h0:=Int.emod_nonneg (n:Int) (show(most:Int)≠0 by omega);have h1:=Int.emod_lt_of_pos (n:Int) (show(0:Int)<(most:Int) by omega);have e:(((pn n most)*most:Nat):Int)=parts (n:Int) (most:Int)*(most:Int):=by rw [Int.natCast_mul,h]
 unfold parts at e;rw [if_neg (by omega)] at e
 by_cases hr:0<(n:Int)%(most:Int)
 ·rw [if_pos hr,Int.add_mul,Int.mul_comm ((n:Int)/(most:Int))] at e
  omega
 ·rw [if_neg hr,Int.mul_comm ((n:Int)/(most:Int))] at e;omega
theorem o6 (n most:Nat) (hm:1≤most):1≤pn n most:=by
 have:=ko (n:=(n:Int)) (most:=(most:Int)) (by omega) (by omega);have h:=gK n most hm;omega
abbrev Kd:=Int×List UInt8
def tu (d0 M:Nat) (hi:Nat→List UInt8):List Kd:=(List.range M).map fun(i:Nat)=>((d0:Int)+(i:Int)+1,hi i)
def CG (inn:Nat):Nat→Int→List bB→List Kd→List bB×List Kd
 |0,_,done,ks=>(done,ks)
 |f+1,lev,done,ks=>if 1<ks.length then CG inn f (lev+1) (done++(List.range (pn ks.length inn)).map (iQ inn lev ks done.length (pn ks.length inn))) (tu done.length (pn ks.length inn) (Cx inn ks)) else(done,ks)
theorem pZ {inn f:Nat} {lev:Int} {done:List bB} {ks:List Kd} (h:¬1<ks.length):CG inn f lev done ks=(done,ks):=by
 cases f with
 |zero=>rfl
 |succ f=>rw [CG,if_neg h]
def jo (fill:Nat) (l:List aH):List bB:=(List.range (pn l.length fill)).map (j6 fill l (pn l.length fill))
def kr (fill:Nat) (l:List aH):List Kd:=tu 0 (pn l.length fill) (iU fill l)
def aO (fill inn:Nat) (l:List aH):List bB×Int:=
 if l= [] then([(0,Nd.zero)],1) else((CG inn 32 1 (jo fill l) (kr fill l)).1,((CG inn 32 1 (jo fill l) (kr fill l)).2.headD (0,[])).1)
theorem uH (fill inn:Nat):aO fill inn []=([(0,Nd.zero)],1):=by simp [aO]
theorem mq {fill inn:Nat} {l:List aH} (h:l≠ []):aO fill inn l=((CG inn 32 1 (jo fill l) (kr fill l)).1,((CG inn 32 1 (jo fill l) (kr fill l)).2.headD (0,[])).1):=by rw [aO,if_neg h]
theorem p8 (d0 M:Nat) (hi:Nat→List UInt8):(tu d0 M hi).length=M:=by simp [tu]
def Xf (done:List bB) (ks:List Kd):Prop:=ks.length≤done.length∧1≤ks.length∧∀k∈ks,1≤k.1∧k.1≤(done.length:Int)∧k.2.length≤1152921504606
theorem FX {done:List bB} {M:Nat} {f:Nat→bB} {hi:Nat→List UInt8} (hM:1≤M) (h:∀i,(hi i).length≤1152921504606):Xf (done++(List.range M).map f) (tu done.length M hi):=by
 refine⟨by simp [tu],by simpa [tu] using hM,fun k hk=> ?_⟩;simp only [tu,List.mem_map,List.mem_range] at hk;obtain⟨i,hi',rfl⟩:=hk;simp only [List.length_append,List.length_map,List.length_range];exact⟨by omega,by omega,h i⟩
theorem Jm {inn:Nat} {ks:List Kd} (h:∀k∈ks,k.2.length≤1152921504606) (i:Nat):(Cx inn ks i).length≤1152921504606:=by
 unfold Cx gU
 rcases List.eq_nil_or_concat ((ks.drop (i*inn)).take inn) with e|⟨L,b,e⟩
 ·rw [e];simp
 ·rw [e];have:b∈(ks.drop (i*inn)).take inn:=by rw [e];simp
  have hb:=h b (List.mem_of_mem_drop (List.mem_of_mem_take this));simpa using hb
theorem vW {fill:Nat} {l:List aH} (h:∀e∈l,e.1.length≤1152921504606) (i:Nat):(iU fill l i).length≤1152921504606:=by
 unfold iU
 split
 ·rename_i hi;refine Nat.le_trans (BF _ _) ?_;rw [List.getD_eq_getElem?_getD,List.getElem?_eq_getElem hi]
  exact h _ (List.getElem_mem hi)
 ·simp
def wZ (nd:Int) (inn:Nat) (k:Nat) (done:List bB) (ks:List Kd):Prop:=ks.length=1∨(lv nd inn k (ks.length:Int) ((done.length:Int)-(ks.length:Int))).2=0
theorem wZ.one {nd:Int} {inn:Nat} {done:List bB} {ks:List Kd} (h:wZ nd inn 0 done ks):ks.length=1:=h.elim id (fun h=>by simp [lv] at h)
theorem wZ.step {nd:Int} {inn k:Nat} {done:List bB} {ks:List Kd} (hi:1≤inn) (h:wZ nd inn (k+1) done ks) (h1:1<ks.length) {f:Nat→bB} {g:Nat→List UInt8}:
  ((done.length:Int)+((pn ks.length inn:Nat):Int)≤nd∨pn ks.length inn=0)∧wZ nd inn k (done++(List.range (pn ks.length inn)).map f) (tu done.length (pn ks.length inn) g):=by
 rcases h with h|h
 ·omega
 ·have hp:=gK ks.length inn hi
  by_cases hf:nd-((done.length:Int)-(ks.length:Int))<(ks.length:Int)
  ·rw [jH hf] at h;simp at h
  ·rw [p9 hf (by omega)] at h;rw [show(done.length:Int)-(ks.length:Int)+(ks.length:Int)=(done.length:Int) by omega,←hp] at h
   refine⟨?_,.inr ?_⟩
   ·by_cases hf2:nd-(done.length:Int)<((pn ks.length inn:Nat):Int)
    ·rw [jH hf2] at h;simp at h
    ·exact .inl (by omega)
   ·rw [p8,List.length_append,List.length_map,List.length_range];rw [show(((done.length+pn ks.length inn:Nat):Int))-((pn ks.length inn:Nat):Int)=(done.length:Int) by omega];exact h
end
section
open Go.Proofs.Tryz
open Go.RowKit
theorem bO.lt {w:World} {F:Nat→Prop} {A:Option Addr} {n:Nat} {l:List aH} (h:bO w F A n l):bO w (fun b=>F b∧b<w.heap.size) A n l:=
 let⟨h1,vs,h2,h3⟩:=h;⟨h1,vs,h2.lt (by omega),fun i e he=>let⟨u,v,a,b,c,d⟩:=h3 i e he;⟨u,v,a,b,c.lt,d.lt⟩⟩
def tN (w:World) (nodes:Int) (t:List bB×Int) (e:Ending) (w':World):Prop:=
 ∃p,e= .returned (.pointer (some ⟨p,0,none⟩))∧gm w' (From w.heap.size) p nodes t.1 t.2∧Below w.heap.size w w'
theorem KI (nd lf bl:Int) (inn fill:Nat) (A:Option Addr) (c:Nat) (w:World) (h1:1≤nd) (h2:nd≤65536):
  Calls prog 68 #[.agg #[.int .i64 nd,.int .i64 lf,.int .i64 inn,.int .i64 fill,.int .i64 bl],.slice A 0 c] w (tN w nd ([(0,Nd.zero)],1)):=by
 go_enter func68,ntmps68
 go_wp2_with (go_at_call 89;refine(E4 nd h1 h2 _).mono ?_;rintro e w1 ⟨p,rfl,q1,q2⟩;have Qh:=aa q1;have sS:=aa q2;clear q1 q2)
 go_ret
 exact⟨p,rfl,Qh.weak (fun b hb=>by simp only [From,World.size_alloc] at hb⊢;omega),((Below.refl _ _).alloc (Nat.le_refl _) _).trans (sS.mono (by simp))⟩
def Nf (w wr:World) (p mm:Nat) (nd:Int) (done:List bB) (top:Value) (ks:List Kd):Prop:=
 ∃F base,dI wr F p mm nd 1 done∧bZ wr (Off F mm) base top ks∧(∀b,F b→w.heap.size<b)∧Below w.heap.size w wr
theorem Lv.top {w w0 wr:World} {F F':Nat→Prop} {p mm:Nat} {nd:Int} {done:List bB} {f:Nat→bB} {hi:Nat→List UInt8} {M:Nat} {v:Value} (h:Lv w0 wr F F' p mm nd 1 done f hi M v) (hF:∀b,F b→w.heap.size<b) (hm:w.heap.size≤mm) (hl:w.heap.size<w0.heap.size) (hb:Below w.heap.size w w0):
  Nf w wr p mm nd (done++(List.range M).map f) v (tu done.length M hi):=
 ⟨F',w0.heap.size,h.st,h.row,fun b hb'=>(h.sub b hb').elim (hF b) (fun h=>by omega),hb.trans (h.chg.below_of hb.size (fun b hb' hs=>hs.elim (fun h=>by have:=hF b h;omega) (fun h=>by omega)))⟩
theorem Gr (nd lf bl:Int) (inn fill:Nat) (A:Option Addr) (n c:Nat) (F0:Nat→Prop) (l:List aH) (w:World) (h1:1≤nd) (h2:nd≤65536) (hi1:3≤inn) (hi2:inn≤64) (hf1:1≤fill) (hf2:fill≤64) (hE:bO w F0 A n l) (hnc:n≤c) (hcm:c≤maxLen) (hn:n≤1152921504606) (hpos:0<n)
  (hsm:∀e∈l,e.1.length≤1152921504606∧e.2.length≤1152921504606) (hlv:(lv nd inn 32 (parts n fill) 0).2=0):
  Calls prog 68 #[.agg #[.int .i64 nd,.int .i64 lf,.int .i64 inn,.int .i64 fill,.int .i64 bl],.slice A n c] w (tN w nd (aO fill inn l)):=by
 have HL:=aa hE.len;have hne:l≠ []:=fun e=>by have:=HL.out;rw [e] at this;simp at this;omega
 have zk:=aa hne;have HE:=aa hE.lt;have HS:=aa hsm;have hM1:=iA l.length fill hf1 (by have:=HL.out;omega);have hpc:=gK l.length fill hf1
 have Xj:((pn l.length fill:Nat):Int)≤nd:=by
  rw [hpc,←HL.out]
  by_cases hf:nd-0<parts n fill
  ·rw [jH hf] at hlv;simp at hlv
  ·omega
 have HUP:Hid (wZ nd inn 32 (jo fill l) (kr fill l)):=aa (.inr (by
  have e1:(jo fill l).length=pn l.length fill:=by simp [jo]
  have e2:(kr fill l).length=pn l.length fill:=p8 _ _ _;rw [e1,e2,hpc,←HL.out,Int.sub_self];exact hlv))
 have HM:=aa hM1;have HMN:=aa Xj;clear hne hE hsm hM1 hpc Xj hlv;have hn0:((n:Int)==0)=false:=by rw [beq_eq_false_iff_ne];omega
 go_enter func68,ntmps68
 go_wp2_with (first|(go_at_call 89;refine(E4 nd h1 h2 _).mono ?_;rintro e w1 ⟨p,rfl,q1,q2⟩;have Qh:=aa q1;have sS:=aa q2;have HB1:Hid (Below w.heap.size w w1):=aa (((Below.refl _ _).alloc (Nat.le_refl _) _).trans (q2.mono (by simp)));have ib:=aa ((ai.new w 23 #[.int .i64 nd,.int .i64 lf,.int .i64 inn,.int .i64 fill,.int .i64 bl]).below q2);have cc3:w1.cell? ⟨w.heap.size,3,none⟩=some (.int .i64 fill):=(ib.out.cell 3).trans rfl;have cl:w.heap.size<w1.heap.size:=ib.out.lt;clear q1 q2)|(go_at_call 90;have hM:dI (w1.alloc (.cells #[.pointer (some ⟨p,0,none⟩),.bool true] 214)) (fun b=>w.heap.size+1≤b∧b<w1.heap.size) p w1.heap.size nd 1 []:=⟨fun h=>by have:=h.2;omega,fun b hb=>by have:=hb.2;simp;omega,by simp,.inl ⟨rfl,(Qh.lt.weak (fun b hb=>⟨by have:=hb.1;simpa [From] using this,hb.2⟩)).below ((Below.refl _ _).alloc (Nat.le_refl _) _),ai.new _ _ _⟩⟩;go_loud (refine(D5 _ p w1.heap.size nd 1 A n c l fill (pn l.length fill) _ hM (((HE.below HB1).below ((Below.refl _ _).alloc (Nat.le_refl _) _)).weak (fun b hb=>⟨fun h=>by have:=h.1;have:=hb.2;omega,by have:=hb.2;omega⟩)) hnc hcm hf1 (by omega) hn hpos HS (by have:=HM.out;have:=HL.out;omega) HMN h2).mono ?_);rintro e w3 ⟨F',v,rfl,hlv⟩;have HT3:Hid (Nf w w3 p w1.heap.size nd (jo fill l) v (kr fill l)):=aa (by have:=hlv.top (w:=w) (fun b hb=>by have:=hb.1;omega) (by omega) (by simp;omega) (HB1.alloc HB1.size _);simpa [jo,kr] using this);have gN:=aa ((ib.alloc (.cells #[.pointer (some ⟨p,0,none⟩),.bool true] 214)).chg hlv.chg (fun h=>h.elim (fun h=>by have:=h.1;omega) (fun h=>by omega)));clear hlv hM))
 go_loopg [8,28] 32 (fun g' top i wr=>∃(k:Nat) (o:Value) (done:List bB) (ks:List Kd),g'=32-k∧k≤32∧i= .int .i64 k∧o=top∧Nf w wr p w1.heap.size nd done o ks∧wZ nd inn (32-k) done ks∧Xf done ks∧CG inn (32-k) ((k:Int)+1) done ks=CG inn 32 1 (jo fill l) (kr fill l)∧ai wr w.heap.size 23 #[.int .i64 nd,.int .i64 lf,.int .i64 inn,.int .i64 fill,.int .i64 bl]∧(done.length:Int)≤nd)
 case atStart=>exact⟨0,_,_,_,rfl,by omega,rfl,rfl,HT3,HUP,by have:=FX (done:= []) (M:=pn l.length fill) (f:=j6 fill l (pn l.length fill)) (hi:=iU fill l) (o6 _ _ hf1) (vW (fun e he=>(HS e he).1));simpa [jo,kr] using this,rfl,gN,by have:=HMN.out;simpa [jo] using this⟩
 case round=>
  obtain⟨k,o,done,ks,hg,hk,rfl,rfl,ht,hu,ho,he,hc,hdl⟩:=hrel;have NA:=aa hdl;have HG:=aa hg;have HT:=aa ht;have HU:=aa hu;have HO:=aa ho;have OV:=aa he;have HC:=aa hc
  rename World=>wq
  clear hg ht hu ho he hc hdl;obtain⟨F,base,st,⟨us,hown,hblk,FZ⟩,hFw,hbw⟩:=HT.out;obtain⟨A2,c2,rfl,hn2,hc2⟩:=ay hown;obtain⟨n2,TK⟩:∃n2,n2=ks.length:=⟨_,rfl⟩;have zl:=aa TK;rw [←TK] at hown hn2 hblk FZ⊢;have He:Hid (bZ wq (Off F p) base (.slice A2 n2 c2) ks∨True):=aa (.inr trivial);have HST:=aa st;have TL:=aa hown;have TM:=aa hblk;have TN:=aa FZ;have CF:=aa hFw;have ek:=aa hbw;clear TK st hown hblk FZ hFw hbw HT He;have cc2:wq.cell? ⟨w.heap.size,2,none⟩=some (.int .i64 inn):=(HC.out.cell 2).trans rfl
  by_cases hlt:k<32
  ·have hk1:((k:Int)<32):=by omega
   have hwrap:=IntWalk.i64_in ((k:Int)+1) (by omega)
   by_cases hks:1<n2
   ·have ah2:(1:Int)<(n2:Int):=by omega
    have hstep:=wZ.step (k:=31-k) (f:=iQ inn ((k:Int)+1) ks done.length (pn ks.length inn)) (g:=Cx inn ks) (by omega) (show wZ nd inn (31-k+1) done ks from by have:=HU.out;rwa [show 32-k=31-k+1 by omega] at this) (by have:=zl.out;omega);have Jz:=o6 ks.length inn (by omega);have Xg:=aa hstep;have hlen:=HO.out.1;have hdn:(done.length:Int)+((pn ks.length inn:Nat):Int)≤nd:=hstep.1.elim id (fun h=>by omega);have Qd:=aa (iA ks.length inn (by omega) (by have:=zl.out;omega));have zu:=aa hdn;have ah3:n2≤65536:=by have:=zl.out;omega
    clear hstep Jz hlen hdn;go_wp2_with (first|(go_at_call 91;go_loud (refine(FY F p w1.heap.size nd 1 done A2 n2 c2 ks inn (pn ks.length inn) ((k:Int)+1) wq base HST ⟨us,(by have:=TL.out;have e:=zl.out;rwa [e] at this⊢),TM,TN⟩ (aa zl) (by omega) (by omega) ah3 (by omega) (fun k hk=>(HO.2.2 k hk).2.2) (by have:=Qd.out;have:=zl.out;omega) zu h2).mono ?_);go_loud (rintro e w3 ⟨F',v,rfl,hlv⟩);go_loud (have HT3:=aa (hlv.top (w:=w) CF (Nat.le_of_lt cl) (mF cc2) ek));go_loud (have gN:=aa (HC.chg hlv.chg (fun h=>h.elim (fun h=>by have:=CF.out _ h;omega) (fun h=>by omega))));clear hlv))
    go_roundg (32-(k+1))
    case measure=>have:=HG.out;omega
    case rel=>
     refine⟨k+1,_,_,_,rfl,by omega,by go_num,rfl,HT3,by have:=Xg.out.2;rwa [show 31-k=32-(k+1) by omega] at this,FX (o6 _ _ (by omega)) (Jm (fun k hk=>(HO.2.2 k hk).2.2)),?_,gN,by have:=zu.out;simp;omega⟩;have e:=OV.out;rw [show 32-k=31-k+1 by omega,CG,if_pos (by have:=zl.out;omega)] at e
     rw [←e,show 32-(k+1)=31-k by omega,show((k+1:Nat):Int)+1=(k:Int)+1+1 by omega]
   ·have ah2:¬(1:Int)<(n2:Int):=by omega
    go_wp2
    go_roundg (32-(k+1))
    case measure=>have:=HG.out;omega
    case rel=>
     have hl1:¬1<ks.length:=by have:=zl.out;omega
     refine⟨k+1,_,done,ks,rfl,by omega,by go_num,rfl,⟨F,base,HST,⟨us,(by have:=TL.out;have e:=zl.out;rwa [e] at this⊢),TM,TN⟩,CF,ek⟩,.inl (by have:=HO.out.2.1;omega),HO,?_,HC,NA⟩
     rw [←OV.out,pZ hl1,pZ hl1]
  ·obtain rfl:k=32:=by omega
   have hone:ks.length=1:=(show wZ nd inn 0 done ks from HU).one;obtain⟨x,hx⟩:∃x,ks= [x]:=List.length_eq_one_iff.1 hone;have hx0:=TN.out 0 x (by rw [hx];rfl);have hn1:n2=1:=by have:=zl.out;omega
   subst hn1;obtain⟨b,o1,u,v,hA2,hD,e1,e2,cc,_⟩:=(nU TL TM).at2 (k:=0) (by omega);subst hA2;rw [hx0.1] at e1;injection e1 with e1
   subst e1;have hxo:=HO.out.2.2 x (by rw [hx];simp)
   have HTO:Hid (aO fill inn l=(done,x.1)):=aa (by
    rw [mq zk.out,←OV.out,pZ (by omega),hx];rfl)
   have HX:=aa hxo;clear hone hx hD hx0 e2 hxo;have hdl:done.length≤65536:=by have:=NA.out;omega
   obtain⟨_,_,_,st4⟩:=HST.out;have hAr:gm wq F p nd done 1:=by rcases st4 with⟨e,_⟩|⟨_,a,_⟩;exact absurd HO.out.1 (by have:=HO.out.2.1;rw [e];show¬ks.length≤0;omega);exact a
   have Z0:=aa hAr;clear st4 hAr;simp only [Nat.mul_zero,Nat.add_zero] at cc;go_wp2_with (first|(go_at_call 92;go_loud (refine(Kh F p nd 1 done x.1 _ Z0 HX.1 HX.2.1 hdl (by omega)).mono ?_);rintro e w4 ⟨rfl,hx4,hc4⟩;have OY:=aa hx4;have mP:=aa hc4;clear hx4 hc4))
   go_ret
   exact⟨p,rfl,by rw [HTO.out];exact OY.weak (fun b hb=>by have:=CF.out b hb;simp only [From];omega),ek.out.trans (mP.below_of ek.size (fun b hb h=>by have:=CF.out b h;omega))⟩
end
end Go.Proofs.YtbjgeidjmhialaaGreatDoor
