/- Part 6. -/
import Derived.Test.YtepgcjbhabnciaaGreatLp05
namespace Go.Proofs.YtepgcjbhabnciaaGreat
set_option maxRecDepth 100000
set_option maxHeartbeats 8000000
open Go.Proofs.Tryz Go.RowKit
variable {q p hv K base n B a x:Nat} {c c0:ay} {F:Nat->Prop} {w:World}
def Cs (q p base:Nat):Nat->Prop:=fun b=>b=q\/b=p\/base<=b
structure Mid (F:Nat->Prop) (q p base n hv K:Nat) (c0:ay) (b0:List UInt8) (w0:World) (c:ay) (bs:List UInt8) (v:Value) (w:World):Prop where
 iny:oU w F q p c hv
 row:Ow w base v bs
 fine:c.Fine K
 len:bs.length<=n
 eq:c0.loop b0 n=c.loop bs n
 chg:ag (Cs q p base) w0 w
 gl:c.src.gives.length<=1152921504606
 ll:c.src.left.length<=1152921504606
noncomputable def CX:Code:=aQ (f134.body.bind (fQ 0))
theorem Q6 (b0:List UInt8) {v0:Value} {u2 u3 u4 u5 u7 u8 u9 L E O W Z U u16 f C I u20 u21 u22 u23 u24 u25 u26 u27 u28 u29 u30 u31 u32 u33 u34 u35 u36 u37 u38 N u40 R u42 X u44 u45 u46 v u48 u49 H u51 dP u53 dR u55 S dZ u58 u59 u60 fw fJ u63 u64 gm u66 l u68 u69 u70 T u72 u73 iN u75 iV jY jZ j6 kg kG kP k kR ko:Value} (Q:Exit->Act->World->Prop)
  (H0:Hid (Mid F q p base n hv K c0 b0 w c0 b0 v0 w)) (hF:Hid (¬F p)) (db:q<base) (wU:p<base) (o:q≠p) (i:¬F q) (FX:Hid (∀b,F b->b<base)) (B:base<=w) (hK:K<=1152921504606846976) (hn:n<=1152921504606)
  (au:∀(v4 v5 v7 v8 v9 bU b1 b2 b3 b4 b5 b6 b7 b8 b9 ca ao ap aq ar aw aA aE a0 a1 cb cd ce cf cg ch ci cj ck cl cn co cq a2 a3 a4 a5 a6 a7 a8 a9 ba be cr ct cu cv cw cx cy cA cC cD cE cF cG cH:Value) (c:ay) (bs:List UInt8) (vv:Value) (w':World),c0.loop b0 n=(bs,0,c)->oU w' F q p c hv->Ow w' base vv bs->ag (Cs q p base) w w'->Q (.exit 0) ⟨(.pointer (some ⟨q,0,none⟩):: .int .i64 n::u2::u3::v4::v5::vv::v7::v8::v9::bU::E::O::W::Z::U::u16::f::C::I::u20::u21::u22::u23::u24::u25::u26::u27::u28::b1::b2::b3::b4::b5::b6::b7::b8::b9::ca::ao::ap::aq::ar::aw::aA::aE::a0::a1::cb::cd::ce::cf::cg::ch::ci::cj::ck::cl::cn::co::cq::a2::a3::a4::a5::a6::a7::a8::a9::ba::be::cr::ct::cu::cv::cw::cx::cy::cA::cC::cD::cE::cF::cG::cH::ko:: []).toArray,[]⟩ w')
  (bh:∀(v6 v7 v8 v9 bU b1 b2 b3 b4 b5 b6 b7 b8 b9 ca ao ap aq ar aw aA aE a0 a1 cb cd ce cf cg ch ci cj ck cl cn co cq a2 a3 a4 a5 a6 a7 a8 a9 ba be cr ct cu cv cw cx cy cA cC cD cE cF cG cH:Value) (c:ay) (ez:Int) (w':World),c0.loop b0 n=([],ez,c)->ez≠0->oU w' F q p c hv->ag (Cs q p base) w w'->Q .ret ⟨(.pointer (some ⟨q,0,none⟩):: .int .i64 n::u2::u3:: .slice none 0 0:: .int .i64 ez::v6::v7::v8::v9::bU::E::O::W::Z::U::u16::f::C::I::u20::u21::u22::u23::u24::u25::u26::u27::u28::b1::b2::b3::b4::b5::b6::b7::b8::b9::ca::ao::ap::aq::ar::aw::aA::aE::a0::a1::cb::cd::ce::cf::cg::ch::ci::cj::ck::cl::cn::co::cq::a2::a3::a4::a5::a6::a7::a8::a9::ba::be::cr::ct::cu::cv::cw::cx::cy::cA::cC::cD::cE::cF::cG::cH::ko:: []).toArray,[]⟩ w'):
  Code.wp prog CX Q ⟨(.pointer (some ⟨q,0,none⟩):: .int .i64 n::u2::u3::u4::u5::v0::u7::u8::u9::L::E::O::W::Z::U::u16::f::C::I::u20::u21::u22::u23::u24::u25::u26::u27::u28::u29::u30::u31::u32::u33::u34::u35::u36::u37::u38::N::u40::R::u42::X::u44::u45::u46::v::u48::u49::H::u51::dP::u53::dR::u55::S::dZ::u58::u59::u60::fw::fJ::u63::u64::gm::u66::l::u68::u69::u70::T::u72::u73::iN::u75::iV::jY::jZ::j6::kg::kG::kP::k::kR::ko:: []).toArray,[]⟩ w:=by
 have dz:=aa au;have bm:=aa bh;obtain⟨i0,cP,cT,cX,cU⟩:=info_parts bD;have al:=fun(m:Nat) (hm:m<=4096) (w:World)=>mg (P:=prog) 24 5 i0 _ underlying24 cP cT .i64 .i64 m m (Nat.le_refl _) (by rw [cU];omega) (by omega) w;have pP:=aa al;clear au bh al;conv=>arg 2;whnf
 go_loopg [6] ((n-b0.length)*17+(16-c0.idle)) (fun g' Vg wz=>∃(c:ay) (bs:List UInt8),g'=(n-bs.length)*17+(16-c.idle)/\Mid F q p base n hv K c0 b0 w c bs Vg wz)
 case atStart=>exact⟨c0,b0,rfl,H0⟩
 case round=>
  obtain⟨c,bs,hg,hm⟩:=hrel;have HG:=aa hg;have d:=aa hm;obtain⟨A,cp,bE,c6,bo⟩:=ax hm.row;subst bE;have cY:=hm.len;clear hg hm
  by_cases da:bs.length<n
  ·obtain⟨m,cQ⟩:=gF (min (n-bs.length) 4096);have LB:min ((n:Int)-(bs.length:Int)) 4096=(m:Int):=by omega
   have Vh:m<=4096:=by omega
   have al:=pP.out m Vh wr;have Jv:=aa cQ;clear cQ;go_upto_region 6 with fail
   obtain⟨pb,am⟩:=gF wr.heap.size;obtain⟨w1,an⟩:=gF (wr.alloc (.cells (madeCells #[Value.int .u8 0] m) 5));simp only [<-an,<-am];have LP:=aa am;have z:Hid (Below wr wr w1):=aa (by rw [an];exact gV);have Ay:Hid (Bf w1 pb m []):=aa ⟨(madeCells #[Value.int .u8 0] m).toList,by rw [an,am,Array.toArray_toList];exact ak.new _ _ _,by rw [Array.length_toList,size_madeCells],by simp [aI]⟩;have c5:base<=pb:=by have:=d.out.chg.size;omega
   have z3:w1.cell? ⟨q,3,none⟩=some (.iface 29 p):=aj z (d.iny.blk.cell 3);have ae:c.src.calls<4611686018427387904:=by have G:=d.out.fine.pot;unfold ay.pot at G;omega
   clear an am al;refine Vf _ z3 (aa (d.iny.src.below z)) hF (aa (fun b hb=>by have:=FX.out b hb;omega)) Ay (by omega) ae Vh d.gl d.ll ?_;intro ao ap aq ar aw aA aE a0 a1 w2 cS cM bo;have cL:=aa cS;have cJ:=aa cM;have NI:Hid (c.ask (n-bs.length)=((c.src.read m).1,(c.src.read m).2.1,{c with src:=(c.src.read m).2.2,idle:=if(c.src.read m).1≠ []\/(c.src.read m).2.1≠0 then 0 else c.idle+1})):=aa (by rw [Jv.out];rfl);have vg:(c.src.read m).1.length<=m:=Src.read_len _ _;obtain⟨t,Zb⟩:=gF ((c.src.read m).1);obtain⟨M,L6⟩:=gF ((c.src.read m).2.1);obtain⟨ss,bx⟩:=gF ((c.src.read m).2.2);rw [<-Zb] at NI cJ vg|-;rw [<-L6] at NI|-;rw [<-bx] at NI cL;obtain⟨y,bp⟩:=gF t.length;rw [<-bp] at vg|-;have J:=aa bp;have NJ:=aa Zb;have NK:=aa L6;have Zc:=aa bx;have dc:¬((m:Int)<(y:Int)):=by omega
   have dd:decide (m<y)=false:=decide_eq_false (by omega);have cV:=aa (d.row.below z);have bz:=aa bo;clear cS cM bo Zb L6 bx bp z3;have kZ:Hid (Ow w2 base (.slice A bs.length cp) bs):=aa (cV.chg bz (fun g hg e=>by have G:=(ah d.row g hg);have x:=LP.out;rcases e with e|e<;>omega));obtain⟨cur,cN,cW,cO⟩:=cJ.out
   have tL:Hid (Rd w2 (fun b=>b=pb) 1 (some ⟨pb,0,none⟩) y (aI t)):=aa ⟨by rw [dO,<-J.out];omega,fun _=>⟨pb,0,rfl,rfl,fun j u hj=>by
    rw [cN.cell];rw [<-cO] at hj;rw [List.getElem?_take] at hj
    split at hj
    ·simpa using hj
    ·cases hj⟩⟩
   have c8:(y:Int)<=(m:Int):=by omega
   clear cN cW cO;go_upto_region 10 with(at_builtin;go_loud (refine af _ rfl (.tmp 56) (.tmp 59) _ rfl base 5 i0 _ 1 1 underlying24 cP cT cX cU rfl (by omega) (.slice A bs.length cp) _ (aI bs) rfl kZ (fun b=>b=pb) (some ⟨pb,0,none⟩) y m (aI t) rfl tL (bJ _) (by simp only [maxLen];omega) (by omega) (by have G:=bz.out.size;have x:=z.out.size;have a:=LP.out;omega) ?_);intro v6 w6 Y eX dF;have lX:=aa Y;have mE:=aa eX;have AA:=aa dF;clear Y eX dF)
   obtain⟨r,hr⟩:=gF (if y≠0\/M≠0 then 0 else c.idle+1);have Jw:=aa hr;have vI:Hid (ak w6 q 188 #[(c.at_:Int),(c.err:Int),(c.idle:Int),.iface 29 p,.int .i64 9223372036854775807,.int .u8 hv,c.held.isSome]):=aa (((d.iny.blk.below z).chg bz (fun e=>by rcases e with e|e<;>omega)).chg ((ag.refl _ _).grown mE (fun _ hk _=>hk)) (fun e=>by have:=(ah kZ q e).1;omega));clear hr;refine Q7 _ vI (aa rfl) (by have:=d.out.fine.idle;omega) Jw ?_;intro a2 a3 a4 a5 a6 a7 a8 a9 ba be w7 xA ad;obtain⟨s,V⟩:∃s:ay,s={c with src:=ss,idle:=r}:=⟨_,rfl⟩
   have PM:Hid (r=if t≠ []\/M≠0 then 0 else c.idle+1):=aa (by
    rw [Jw.out];have e:(y≠0)=(t≠ []):=by rw [J.out];simp
    simp only [e])
   have bj:Hid (c.ask (n-bs.length)=(t,M,s)):=aa (by rw [NI.out,V,PM.out]);have eX:ag (fun b=>base<=b) w2 w6:=(ag.refl _ _).grown mE (fun g hg _=>(ah kZ g hg).1)
   have Zd:Hid (oU w7 F q p s hv):=aa (by
    rw [V];refine⟨xA,?_,d.iny.hl⟩;exact(cL.chg eX (by omega) (fun b hb e=>by have:=FX.out b hb;omega)).chg ad (fun e=>o e.symm) (fun b hb e=>i (e▸hb)))
   have AB:Hid (Ow w7 base v6 (bs++t)):=aa (by
    have G:=lX.out;have x:Ow w6 base v6 (bs++t):=by unfold Ow;rw [mq,<-J.out];simpa [aI] using G
    exact x.chg ad (fun g hg e=>by have:=(ah x g hg).1;have e:g=q:=e;omega))
   have oZ:Hid (ag (Cs q p base) w w7):=aa ((((d.chg.then z).trans (bz.mono (fun b _ e=>by rcases e with e|e;exact .inr (.inl e);exact .inr (.inr (by omega)))) (fun _ _ h=>h)).trans (eX.mono (fun b _ e=> .inr (.inr e))) (fun _ _ h=>h)).trans (ad.mono (fun b _ e=> .inl e)) (fun _ _ h=>h));have L8:=aa d.eq;have EU:=ay.loop_eq c bs n;rw [if_neg (by omega),bj.out] at EU;have cK:=aa EU;obtain⟨A6,c3,bE,_,_⟩:=ax AB;subst bE;have ae:(bs++t).length=bs.length+y:=by rw [mq,J.out]
   have EP:=aa ae;have c9:bs.length+y<=n:=by have:=Jv.out;omega
   have Jy:Hid (s.src.gives.length<=1152921504606/\s.src.left.length<=1152921504606):=aa (by
    rw [V,Zc.out];refine⟨?_,by have G:=Src.read_left c.src m;have x:=d.out.ll;simp only [];omega⟩;have:(c.src.read m).2.2.gives=c.src.gives:=by unfold Src.read;split;rfl;split<;>rfl
    rw [this];exact d.gl)
   have D:Hid (s.idle=r):=aa (by rw [V]);clear V xA ad eX EU ae;rw [EP.out]
   have mG:Hid ((y≠0\/M=0)->s.pot<=K):=aa (fun h=>by
    have G:=ay.ask_pot (n-bs.length) d.fine (by
     rw [bj.out]
     rcases h with h|h
     ·exact .inl (fun e=>h (by rw [J.out];exact congrArg List.length e))
     ·exact .inr h)
    rw [bj.out] at G;exact G)
   by_cases e1:n<=bs.length+y
   ·have e2:n=bs.length+y:=by omega
    have c4:(bs.length:Int)+(y:Int)=(n:Int):=by omega
    have bk:Hid (y≠0/\r=0):=aa ⟨by omega,by rw [Jw.out,if_pos (.inl (by omega))]⟩;have wO:=aa e1;clear e1 e2;go_wp2
    go_roundg ((n-(bs++t).length)*17+(16-s.idle))
    case measure=>have G:=HG.out;have x:=EP.out;have a:=D.out;have h4:=bk.out;have h5:=wO.out;rw [x,a];omega
    case rel=>
     have a:=cK.out;have x:=EP.out;have h5:=wO.out;rw [if_pos (by show n<=(bs++t).length;omega)] at a;have h4:s.loop (bs++t) n=(bs++t,0,s):=by rw [ay.loop_eq,if_pos (by omega)]
     exact⟨s,bs++t,rfl,Zd,(by have h9:=AB.out;rw [x] at h9;exact h9),⟨by rw [D.out,bk.out.2];omega,mG (.inl bk.1)⟩,by omega,by rw [L8.out,a,h4],oZ,Jy.1,Jy.2⟩
   ·have Y1:¬((bs.length:Int)+(y:Int)=(n:Int)):=by omega
    have a:=cK.out;have x:=EP.out;rw [if_neg (by show¬n<=(bs++t).length;omega)] at a;have Ca:=aa e1;clear e1
    by_cases ac:M=31
    ·rw [if_pos ac] at a;have H3:=aa a;have c2:(M==31)=true:=by rw [beq_iff_eq];exact ac
     clear a x;subst ac;go_wp2
     exact bm _ _ _ _ _ _ _ _ _ _ _ _ _ _ _ _ _ _ _ _ _ _ _ _ _ _ _ _ _ _ _ _ _ _ _ _ _ _ _ _ _ _ _ _ _ _ _ _ _ _ _ _ _ _ _ _ _ _ _ _ _ s 41 w7 (by rw [L8.out,H3.out]) (by decide) Zd oZ
    ·rw [if_neg (show¬((t,M,s).2.1=31) from ac)] at a
     by_cases e0:M=0
     ·rw [if_neg (show¬((t,M,s).2.1≠0) from fun h=>h e0)] at a;subst e0
      by_cases ab:r=16
      ·rw [if_pos (by show 16<=s.idle;rw [D.out];omega)] at a;have H3:=aa a;have hd:decide (r=16)=true:=decide_eq_true ab;clear a x;subst ab;go_wp2
       exact bm _ _ _ _ _ _ _ _ _ _ _ _ _ _ _ _ _ _ _ _ _ _ _ _ _ _ _ _ _ _ _ _ _ _ _ _ _ _ _ _ _ _ _ _ _ _ _ _ _ _ _ _ _ _ _ _ _ _ _ _ _ s 33 w7 (by rw [L8.out,H3.out]) (by decide) Zd oZ
      ·have Q8:r<=15:=by have G:=Jw.out;have x:=d.out.fine.idle;split at G<;>omega
       rw [if_neg (by show¬16<=s.idle;rw [D.out];omega)] at a;have H3:=aa a;have cI:=aa Q8;have hd:decide (r=16)=false:=decide_eq_false ab;obtain⟨rb,cR⟩:=gF (decide (r=16));rw [<-cR] at hd|-;subst hd;clear a x cR ab Q8;go_wp2
       go_roundg ((n-(bs++t).length)*17+(16-s.idle))
       case measure=>
        have G:=HG.out;have x:=EP.out;have a:=D.out;have h4:=Jw.out;have h5:=cI.out;have h6:=d.out.fine.idle;rw [x,a]
        by_cases h7:y=0
        ·rw [if_neg (by simp [h7])] at h4;omega
        ·omega
       case rel=>
        have x:=EP.out;have h5:=Ca.out
        exact⟨s,bs++t,rfl,Zd,(by have h9:=AB.out;rw [x] at h9;exact h9),⟨by rw [D.out];exact cI,mG (.inr trivial)⟩,by omega,by rw [L8.out,H3.out],oZ,Jy.1,Jy.2⟩
     ·rw [if_pos (show(t,M,s).2.1≠0 from e0)] at a;have H3:=aa a;have mM:=aa e0;clear a x;go_wp2
      exact bm _ _ _ _ _ _ _ _ _ _ _ _ _ _ _ _ _ _ _ _ _ _ _ _ _ _ _ _ _ _ _ _ _ _ _ _ _ _ _ _ _ _ _ _ _ _ _ _ _ _ _ _ _ _ _ _ _ _ _ _ _ s M w7 (by rw [L8.out,H3.out]) mM Zd oZ
  ·have c7:¬((bs.length:Int)<(n:Int)):=by omega
   go_wp2;have he:=d.out.eq
   rw [ay.loop_eq c,if_pos (by omega)] at he;exact dz _ _ _ _ _ _ _ _ _ _ _ _ _ _ _ _ _ _ _ _ _ _ _ _ _ _ _ _ _ _ _ _ _ _ _ _ _ _ _ _ _ _ _ _ _ _ _ _ _ _ _ _ _ _ _ _ _ _ _ _ _ _ c bs _ _ he d.iny d.row d.chg
def qY (F:Nat->Prop) (q p hv n:Nat) (c:ay) (w:World) (e:Ending) (w':World):Prop:=
 ∃v,e= .returned (.tuple #[v,.int .i64 (ay.loop {c with held:=none} c.held.toList n).2.1])/\((ay.loop {c with held:=none} c.held.toList n).2.1=0->Ow w' w v (ay.loop {c with held:=none} c.held.toList n).1)/\oU w' F q p (ay.loop {c with held:=none} c.held.toList n).2.2 hv/\ag (Cs q p w) w w'
theorem NL (n:Nat) (h:oU w F q p c hv) (a:c.Fine K) (A:¬F p) (wU:p<w) (o:q≠p) (i:¬F q) (S:∀b,F b->b<w) (hK:K<=1152921504606846976) (hn:n<=1152921504606) (_hn0:0<n) (hg:c.src.gives.length<=1152921504606) (hl:c.src.left.length<=1152921504606) (t:c.held=none):
  Calls prog 134 #[q,(n:Int)] w (qY F q p hv n c w):=by
 refine letter fun R HR=> ?_;have z6:w.cell? ⟨q,6,none⟩=some (.bool false):=(h.blk.cell 6).trans (by rw [t];rfl);have HH:=aa h;have Vj:=aa a;have Rb:=aa t;have HG:=aa hg;have HL:=aa hl;have EQ:=h.blk.lt;have Ze:=aa S;have sN:Hid (({c with held:=none}:ay)=c):=aa (by cases c;simp only at t;subst t;rfl);clear h a t hg hl S;go_enter func134,ntmps134;go_upto_region 4 with fail
 refine Q6 [] _ (aa ⟨HH,Ow.nil _ _,Vj,by simp,rfl,ag.refl _ _,HG,HL⟩) (aa A) EQ wU o i Ze jO hK hn ?_ ?_
 ·intro v4 v5 v7 v8 v9 j k l m r s u x y z B C D E G H I J L M N O P Q T U V W X Y Z ab ac ad ae al am an ao ap aq ar au aw aA aE a0 a1 a2 a3 a4 a5 a6 a7 a8 a9 ba c2 bs vv w2 d hi ho hc;have f:=aa d;have g:=aa hi;have HO:=aa ho;have e:=aa hc;clear d hi ho hc;go_wp2;rw [HR.out];unfold qY;rw [sN.out,Rb.out];show∃v,_;rw [show(none:Option UInt8).toList= [] from rfl,f.out]
  exact⟨_,rfl,fun _=>HO,g,e⟩
 ·intro v6 v7 v8 v9 j k l m r s u x y z B C D E G H I J L M N O P Q T U V W X Y Z ab ac ad ae al am an ao ap aq ar au aw aA aE a0 a1 a2 a3 a4 a5 a6 a7 a8 a9 ba c2 ez w2 d hz hi hc;have f:=aa d;have HZ:=aa hz;have g:=aa hi;have e:=aa hc;clear d hz hi hc;go_ret2;rw [HR.out];unfold qY;rw [sN.out,Rb.out];rw [show(none:Option UInt8).toList= [] from rfl,f.out];exact⟨_,rfl,fun h=>absurd h HZ,g,e⟩
theorem NM (n:Nat) (x:UInt8) (h:oU w F q p c hv) (a:c.Fine K) (A:¬F p) (wU:p<w) (o:q≠p) (i:¬F q) (S:∀b,F b->b<w) (hK:K<=1152921504606846976) (hn:n<=1152921504606) (t:0<n) (r:c.src.gives.length<=1152921504606) (hl:c.src.left.length<=1152921504606) (s:c.held=some x):
  Calls prog 134 #[q,(n:Int)] w (qY F q p hv n c w):=by
 obtain⟨i0,H,I,J,L⟩:=info_parts bD;refine letter fun R HR=> ?_;have z6:w.cell? ⟨q,6,none⟩=some (.bool true):=(h.blk.cell 6).trans (by rw [s];rfl);have z5:w.cell? ⟨q,5,none⟩=some (.int .u8 hv):=h.blk.cell 5;have l:hv=x.toNat:=h.hl x s;have HX:=aa l;have HH:=aa h;have Vj:=aa a;have D:=aa s;have HG:=aa r;have HL:=aa hl;have EQ:=h.blk.lt;have Ze:=aa S;have b0:(0:Int)<(n:Int):=by omega
 clear h a s r hl S l;go_enter func134,ntmps134;go_upto_region 4 with(at_builtin;go_loud (refine af _ rfl (.tmp 20) (.tmp 25) _ rfl w 5 i0 _ 1 1 underlying24 H I J L rfl (by omega) () 0 [] rfl (World.ownsRow_nil _ _ _ _) (From w) (some ⟨w,0,none⟩) 1 1 [.int .u8 hv] rfl (Rd.one w _ _) (by simp [Value.oneCell']) (by simp only [maxLen];omega) (by omega) (by simp) ?_);intro v6 m d E dF;have lX:=aa d;have mE:=aa E;have j:ak m q 188 #[(c.at_:Int),(c.err:Int),(c.idle:Int),.iface 29 p,.int .i64 9223372036854775807,.int .u8 hv,c.held.isSome]:=(HH.out.blk.alloc _).chg (ag.of_grown E) (fun e=>by simp [Value.ownBlock] at e);have gG:=aa j;have y6:m.cell? ⟨q,6,none⟩=some (.bool true):=(j.cell 6).trans (by rw [D.out];rfl);have bX:=j.frozen 6;clear d E dF j z5 z6)
 obtain⟨u,f⟩:=gF (m.setCell ⟨q,6,none⟩ (.bool false));rw [<-f]
 have G:Hid (ag (fun b=>b=q) w u):=aa (by
  rw [f];exact(((ag.refl (fun b=>b=q) w).then gV).trans (ag.of_grown mE) (fun g _ e=>by simp [Value.ownBlock] at e)).setCell (p:=⟨q,6,none⟩) (fun _=>rfl) _)
 have nW:Hid (Ow u w v6 [x]):=aa (by
  have h1:=lX.out;rw [HX.out] at h1;have h2:Ow m w v6 [x]:=by unfold Ow;simpa [aI,bv] using h1
  rw [f];exact h2.chg ((ag.refl (fun b=>b=q) m).setCell (p:=⟨q,6,none⟩) (fun _=>rfl) _) (fun g r e=>by have:=(ah h2 g r).1;have e:g=q:=e;omega))
 have C:Hid (oU u F q p {c with held:=none} hv):=aa ⟨by rw [f];exact gG.set_ 6 _,HH.src.chg G (fun e=>o e.symm) (fun b hb e=>i (e▸hb)),fun y hy=>by cases hy⟩;have II:Hid (ag (Cs q p w) w u):=aa (G.mono (fun b _ e=> .inl e));clear f y6 bX
 refine Q6 (c0:={c with held:=none}) [x] _ (aa ⟨C,nW,⟨Vj.idle,Vj.pot⟩,by simp;omega,rfl,ag.refl _ _,HG,HL⟩) (aa A) EQ wU o i Ze G.size hK hn ?_ ?_
 ·intro v4 v5 v7 v8 v9 M N O P Q T U V W X Y Z ab ac ad ae al am an ao ap aq ar au aw aA aE a0 a1 a2 a3 a4 a5 a6 a7 a8 a9 ba be bh bj bk bm bo bp bx bz bE bF bG bI bL bN bP bQ bT bU c2 bs vv w2 k hi ho hc;have z:=aa k;have B:=aa hi;have HO:=aa ho;have v:=aa hc;clear k hi ho hc;go_wp2;rw [HR.out];unfold qY;rw [D.out,show(some x).toList= [x] from rfl,z.out]
  exact⟨_,rfl,fun _=>HO,B,II.out.trans v (fun _ _ h=>h)⟩
 ·intro v6 v7 v8 v9 M N O P Q T U V W X Y Z ab ac ad ae al am an ao ap aq ar au aw aA aE a0 a1 a2 a3 a4 a5 a6 a7 a8 a9 ba be bh bj bk bm bo bp bx bz bE bF bG bI bL bN bP bQ bT bU c2 ez w2 k hz hi hc;have z:=aa k;have HZ:=aa hz;have B:=aa hi;have v:=aa hc;clear k hz hi hc;go_ret2;rw [HR.out];unfold qY;rw [D.out,show(some x).toList= [x] from rfl,z.out];exact⟨_,rfl,fun h=>absurd h HZ,B,II.out.trans v (fun _ _ h=>h)⟩
theorem yL (n:Nat) (h:oU w F q p c hv) (a:c.Fine K) (A:¬F p) (wU:p<w) (o:q≠p) (i:¬F q) (S:∀b,F b->b<w) (d:K<=1152921504606846976) (hn:n<=1152921504606) (t:0<n) (e:c.src.gives.length<=1152921504606) (hl:c.src.left.length<=1152921504606):
  Calls prog 134 #[q,(n:Int)] w (qY F q p hv n c w):=by
 cases hh:c.held with
 |none=>exact NL n h a A wU o i S d hn t e hl hh
 |some x=>exact NM n x h a A wU o i S d hn t e hl hh
def NN (F:Nat->Prop) (q p n:Nat) (c:ay) (w:World) (e:Ending) (w':World):Prop:=
 ∃v hv,e= .returned (.tuple #[v,.int .i64 (c.bytes n).2.1])/\((c.bytes n).2.1=0->Ow w' w v (c.bytes n).1)/\oU w' F q p (c.bytes n).2.2 hv/\ag (Cs q p w) w w'
theorem bytes_err (n:Nat) (h:oU w F q p c hv) (b:c.err≠0):
  Calls prog 90 #[q,(n:Int)] w (NN F q p n c w):=by
 refine letter fun R f=> ?_;obtain⟨er,a⟩:=gF c.err;have j:=aa a;have k:w.cell? ⟨q,1,none⟩=some (.int .i64 er):=(h.blk.cell 1).trans (by rw [a];rfl);have d:=aa h;rw [<-a] at b;have e:=aa b;have g:(er==0)=false:=by rw [mi];exact b
 have i:Hid (c.bytes n=([],er,c)):=aa (by unfold ay.bytes;rw [a] at b;rw [if_pos b,a]);clear h a;go_enter func90,ntmps90;go_wp2;go_quiet (fail)
 go_wp2;rw [f.out]
 unfold NN;rw [i.out];exact⟨_,hv,rfl,fun h=>absurd h e,⟨d.blk.chg ((ag.refl Nil w).drewN _) (fun h=>h),d.src.chg ((ag.refl Nil w).drewN _) (fun h=>h) (fun _ _ h=>h),d.hl⟩,(ag.refl _ _).drewN _⟩
theorem bytes_ok (n:Nat) (h:oU w F q p c hv) (B:c.err=0) (z:c.at_<=1152921504606) (a:c.Fine K) (A:¬F p) (wU:p<w) (o:q≠p) (i:¬F q) (S:∀b,F b->b<w) (X:K<=1152921504606846976) (hn:n<=1152921504606) (t:0<n) (C:c.src.gives.length<=1152921504606) (hl:c.src.left.length<=1152921504606):
  Calls prog 90 #[q,(n:Int)] w (NN F q p n c w):=by
 refine letter fun R N=> ?_;obtain⟨L,hL⟩:∃L,L=ay.loop {c with held:=none} c.held.toList n:=⟨_,rfl⟩;have O:Hid (c.bytes n=if L.2.1=0 then(L.1,0,{L.2.2 with at_:=c.at_+n}) else([],L.2.1,{L.2.2 with err:=L.2.1})):=aa (by unfold ay.bytes;rw [if_neg (fun h=>h B),if_neg (by omega),hL]);have G:(w.drewN 0)=w.drewN 0:=rfl;obtain⟨l,r⟩:=gF c.at_;have V:=aa r;rw [<-r] at z;have P:w.cell? q=some (.int .i64 l):=(h.blk.cell 0).trans (by rw [r];rfl);have Y:w.cell? ⟨q,1,none⟩=some (.int .i64 0):=(h.blk.cell 1).trans (by rw [B];rfl);have Z:w.cell? ⟨q,4,none⟩=some (.int .i64 9223372036854775807):=h.blk.cell 4;have T:=aa h;have U:Hid (∀k,Calls prog 134 #[q,(n:Int)] (w.drewN k) (qY F q p hv n c (w.drewN k))):=aa (fun k=>yL n ⟨h.blk.chg ((ag.refl Nil w).drewN k) (fun h=>h),h.src.chg ((ag.refl Nil w).drewN k) (fun h=>h) (fun _ _ h=>h),h.hl⟩ a A wU o i S X hn t C hl);have Q:=aa hL
 have u:Hid (L.2.2.at_=l):=aa (by
  rw [hL,r];exact(ay.loop_out (K:=K) n _ {c with held:=none} c.held.toList jO ⟨a.idle,a.pot⟩ (by cases c.held<;>simp;omega)).2.2.2.1)
 have I:IntKind.i64.wrap ((9223372036854775807:Int)-l)=9223372036854775807-l:=IntWalk.i64_in _ (by omega);have D:¬((9223372036854775807:Int)-l<n):=by omega
 clear h B hL r G;go_enter func90,ntmps90;go_wp2;go_quiet (fail)
 go_upto_region 8 with(go_at_call 134;go_loud (refine(U _).mono ?_);rintro e w2 ⟨v,rfl,E,hi,hc⟩;rw [<-Q.out] at E hi|-;have M:=aa E;have d:=aa hi;have J:Hid (ag (Cs q p w) w w2):=aa (((ag.refl (Cs q p w) w).drewN _).trans hc (fun _ _ h=>h));clear E hi hc)
 obtain⟨er,x⟩:=gF L.2.1;rw [<-x];have s:=aa x;clear x P Y Z I D
 by_cases y:er=0
 ·have m:Hid (L.2.1=0):=aa (by rw [<-s.out];exact y);have P:w2.cell? q=some (.int .i64 l):=(d.out.blk.cell 0).trans (by rw [u.out];rfl);have IJ:=d.out.blk.frozen 0;subst y;go_wp2;rw [N.out];unfold NN;rw [O.out,if_pos m.out];have j:=(ag.refl (fun b=>b=q) w2).setCell (p:=q) (fun _=>rfl) (.int .i64 ((l:Int)+n))
  refine⟨v,hv,rfl,fun _=> ?_,⟨?_,d.src.chg j (fun e=>o e.symm) (fun b f e=>i (e▸f)),d.hl⟩,J.setCell (p:=q) (fun _=> .inl rfl) _⟩
  ·exact(M m).chg j (fun g C e=>by have W:=(ah (M m) g C).1;have h2:=T.out.blk.lt;have e:g=q:=e;have h3:w<=g:=W;omega)
  ·have f:=d.out.blk.set_ 0 (.int .i64 ((l:Int)+n));rw [V.out] at f|-
   exact f
 ·have m:Hid (¬L.2.1=0):=aa (by rw [<-s.out];exact y);have H:1<(#[Value.int .i64 L.2.2.at_,(L.2.2.err:Int),(L.2.2.idle:Int),.iface 29 p,.int .i64 9223372036854775807,.int .u8 hv,L.2.2.held.isSome]).size:=by simp
  go_wp2_with (go_at_call 133;go_loud (refine(yK er d.blk H).mono ?_);rintro e w3 ⟨rfl,rfl⟩)
  rw [N.out];unfold NN;rw [O.out,if_neg m.out];have j:=(ag.refl (fun b=>b=q) w2).setCell (p:=⟨q,1,none⟩) (fun _=>rfl) (er:Int);refine⟨_,hv,by{rw [s.out];rfl},fun h=>absurd h m,⟨?_,d.src.chg j (fun e=>o e.symm) (fun b f e=>i (e▸f)),d.hl⟩,J.setCell (p:=⟨q,1,none⟩) (fun _=> .inl rfl) _⟩;have f:=d.out.blk.set_ 1 (er:Int);rw [s.out] at f|-;exact f
structure ay.Ok (K:Nat) (c:ay):Prop where
 fine:c.err=0->c.Fine K
 sum:c.at_+c.held.toList.length+c.src.left.length<=1152921504606
 gives:c.src.gives.length<=1152921504606
theorem Src.read_gives (s:Src) (n:Nat):(s.read n).2.2.gives=s.gives:=by
 unfold Src.read
 split
 ·rfl
 ·split<;>rfl
theorem ay.loop_gives (n:Nat):∀(M:Nat) (c:ay) (b:List UInt8),(n-b.length)*17+(16-c.idle)<=M->(c.loop b n).2.2.src.gives=c.src.gives:=by
 intro M
 induction M with
 |zero=>
  intro c b h
  rw [ay.loop_eq,if_pos (by omega)]
 |succ M j=>
  intro c b h;have a:(c.ask (n-b.length)).2.2.src.gives=c.src.gives:=Src.read_gives _ _;have e:=c.ask_idle (n-b.length);rw [ay.loop_eq]
  split
  ·rfl
  ·split
   ·exact a
   ·rename_i k f
    split
    ·exact a
    ·split
     ·exact a
     ·rename_i l g;have i:(c.ask (n-b.length)).2.1=0:=Decidable.byContradiction g
      split
      ·exact a
      ·rename_i m;rw [j _ _ ?_,a];rw [mq] at f|-
       by_cases d:(c.ask (n-b.length)).1= []
       ·rw [if_neg (by simp [d,i])] at e
        rw [d];simp only [List.length_nil];omega
       ·have o:0<(c.ask (n-b.length)).1.length:=List.length_pos_iff.2 d;rw [if_pos (.inl d)] at e;omega
theorem ay.held_len (c:ay):c.held.toList.length<=1:=by cases c.held<;>simp
theorem ay.bytes_len (h:c.Ok K) (n:Nat) (hn:0<n) (a:(c.bytes n).2.1=0):(c.bytes n).1.length=n:=by
 unfold ay.bytes at a|-
 by_cases b:c.err=0
 ·rw [if_neg (fun h=>h b),if_neg (by omega)] at a|-
  split at a
  ·rename_i d;rw [if_pos d]
   exact((ay.loop_out (K:=K) n _ {c with held:=none} c.held.toList jO ⟨(h.fine b).idle,(h.fine b).pot⟩ (by have:=c.held_len;omega)).1 d).1
  ·rename_i d;exact absurd a d
 ·rw [if_pos b] at a;exact absurd a b
theorem ay.bytes_err (c:ay) (n:Nat) (h:(c.bytes n).2.1≠0):(c.bytes n).1= []:=by
 unfold ay.bytes at h|-
 split
 ·rfl
 ·rename_i a;rw [if_neg a] at h
  split
  ·rfl
  ·rename_i b;rw [if_neg b] at h
   split
   ·rename_i d;rw [if_pos d] at h;exact absurd rfl h
   ·rfl
theorem ay.bytes_ok (h:c.Ok K) (n:Nat):(c.bytes n).2.2.Ok K:=by
 unfold ay.bytes
 split
 ·exact h
 ·rename_i b;have b:c.err=0:=Decidable.byContradiction b
  split
  ·exact h
  ·rename_i hn;obtain⟨g,q,l,i,m,e⟩:=ay.loop_out (K:=K) n _ {c with held:=none} c.held.toList jO ⟨(h.fine b).idle,(h.fine b).pot⟩ (by have:=c.held_len;omega);have f:=ay.loop_gives n _ {c with held:=none} c.held.toList jO;have r:=h.sum;have a:=h.gives;simp only [] at g l i m e f
   split
   ·rename_i d;obtain⟨o,j,k,p⟩:=g d
    refine⟨fun _=>⟨k,j⟩,?_,?_⟩
    ·simp only [e,Option.toList_none,List.length_nil];omega
    ·simp only [f];exact a
   ·rename_i d
    refine⟨fun h=>absurd h d,?_,?_⟩
    ·simp only [e,i,Option.toList_none,List.length_nil];omega
    ·simp only [f];exact a
theorem ay.bytes_e (n:Nat) (h:c.err≠0):c.bytes n=([],c.err,c):=by unfold ay.bytes;rw [if_pos h]
theorem ay.bytes_same (h:c.Ok K) (n:Nat):(c.bytes n).2.2.err=(c.bytes n).2.1:=by
 unfold ay.bytes
 split
 ·rfl
 ·rename_i a;have a:c.err=0:=Decidable.byContradiction a
  split
  ·exact a
  ·rename_i hn;obtain⟨d,e,f,g,b,i⟩:=ay.loop_out (K:=K) n _ {c with held:=none} c.held.toList jO ⟨(h.fine a).idle,(h.fine a).pot⟩ (by have:=c.held_len;omega)
   split
   ·exact b.trans a
   ·rfl
theorem ay.err_ok (h:c.Ok K) {e:Int} (a:e≠0):({c with err:=e}:ay).Ok K:=⟨fun h=>absurd h a,h.sum,h.gives⟩
theorem ay.numL_eq (k v:Nat) (c:ay) (a:k<10):c.numL k v=if(c.bytes 1).2.1≠0 then(0,(c.bytes 1).2.1,(c.bytes 1).2.2)
 else if k=9/\1<((c.bytes 1).1.headD 0).toNat then(0,12,{(c.bytes 1).2.2 with err:=12})
 else if 0<k/\((c.bytes 1).1.headD 0).toNat=0 then(0,13,{(c.bytes 1).2.2 with err:=13})
 else if((c.bytes 1).1.headD 0).toNat<128 then(v+((c.bytes 1).1.headD 0).toNat%128*128^k,0,(c.bytes 1).2.2)
 else(c.bytes 1).2.2.numL (k+1) (v+((c.bytes 1).1.headD 0).toNat%128*128^k):=by
 conv=>lhs;unfold ay.numL
 rw [if_neg (by omega)]
theorem ay.numL_ok:∀(m k v:Nat) (c:ay),k+m=10->c.Ok K->(c.numL k v).2.2.Ok K/\(c.numL k v).2.2.err=(c.numL k v).2.1:=by
 intro m
 induction m with
 |zero=>
  intro k v c e h;have:10<=k:=by omega
  unfold ay.numL;rw [if_pos this]
  exact⟨ay.err_ok (ay.bytes_ok h 1) (by decide),rfl⟩
 |succ m f=>
  intro k v c e h;have a:=ay.bytes_ok h 1;have d:=ay.bytes_same h 1;rw [ay.numL_eq _ _ _ (by omega)]
  split
  ·exact⟨a,d⟩
  ·rename_i b;have b:(c.bytes 1).2.1=0:=Decidable.byContradiction b
   split
   ·exact⟨ay.err_ok a (by decide),rfl⟩
   ·split
    ·exact⟨ay.err_ok a (by decide),rfl⟩
    ·split
     ·exact⟨a,d.trans b⟩
     ·exact f _ _ _ (by omega) a
theorem ay.bytes_at' (h:c.Ok K) (n:Nat):c.at_<=(c.bytes n).2.2.at_:=by
 unfold ay.bytes
 split
 ·exact jO
 ·rename_i a;have a:c.err=0:=Decidable.byContradiction a
  split
  ·exact jO
  ·rename_i hn;obtain⟨d,e,f,b,g,i⟩:=ay.loop_out (K:=K) n _ {c with held:=none} c.held.toList jO ⟨(h.fine a).idle,(h.fine a).pot⟩ (by have:=c.held_len;omega)
   split
   ·exact Nat.le_add_right _ _
   ·exact Nat.le_of_eq b.symm
theorem ay.number_ok (h:c.Ok K):c.number.2.2.Ok K/\c.number.2.2.err=c.number.2.1:=by
 obtain⟨b,d⟩:=ay.numL_ok (K:=K) 10 0 0 c rfl h;unfold ay.number
 split
 ·exact⟨b,d⟩
 ·rename_i f
  have hl:∀(m k v:Nat) (c:ay),k+m=10->c.Ok K->c.at_<=(c.numL k v).2.2.at_:=by
   intro m
   induction m with
   |zero=>
    intro k v c g hc;have:10<=k:=by omega
    unfold ay.numL;rw [if_pos this]
    exact ay.bytes_at' hc 1
   |succ m i=>
    intro k v c g hc;have a:=ay.bytes_at' hc 1;rw [ay.numL_eq _ _ _ (by omega)]
    split
    ·exact a
    ·split
     ·exact a
     ·split
      ·exact a
      ·split
       ·exact a
       ·exact ma a (i _ _ _ (by omega) (ay.bytes_ok hc 1))
  have j:=hl 10 0 0 c rfl h;have l:=b.sum;exact⟨⟨fun e=>absurd (d.symm.trans e) f,by simp only [];omega,b.gives⟩,d⟩
structure Sit (F:Nat->Prop) (q p B:Nat):Prop where
 nFp:¬F p
 nFq:¬F q
 ne:q≠p
 lt:∀b,F b->b<B
 pB:p<B
 qB:q<B
theorem Sit.up (s:Sit F q p B) (h:B<=a):Sit F q p a:=⟨s.nFp,s.nFq,s.ne,fun b c=>mU (s.lt b c) h,mU s.pB h,mU s.qB h⟩
theorem mY (n:Nat) (s:Sit F q p w) (h:oU w F q p c hv) (Q:c.Ok K) (b:K<=1152921504606846976) (hn:n<=1152921504606) (t:0<n):
  Calls prog 90 #[q,(n:Int)] w (NN F q p n c w):=by
 by_cases a:c.err=0
 ·have d:=Q.sum
  exact bytes_ok n h a (by omega) (Q.fine a) s.nFp s.pB s.ne s.nFq s.lt b hn t Q.gives (by omega)
 ·exact bytes_err n h a
def Re (F:Nat->Prop) (q p:Nat) (c:ay) (w:World) (e:Ending) (w':World):Prop:=
 ∃hv,e= .returned (.tuple #[.int .u8 ((c.bytes 1).1.headD 0).toNat,.int .i64 (c.bytes 1).2.1])/\oU w' F q p (c.bytes 1).2.2 hv/\ag (Cs q p w) w w'
theorem Gj (s:Sit F q p w) (h:oU w F q p c hv) (Q:c.Ok K) (W:K<=1152921504606846976):
  Calls prog 137 #[q] w (Re F q p c w):=by
 refine letter fun R G=> ?_;have S:=aa (mY 1 s h Q W (by omega) (by omega));obtain⟨L,hL⟩:=gF (c.bytes 1);have m:=aa hL;have N:Hid (L.2.1≠0->L.1= []):=aa (by rw [hL];exact c.bytes_err 1);have O:Hid (L.2.1=0->L.1.length=1):=aa (by rw [hL];exact ay.bytes_len Q 1 (by omega));clear h Q hL s;go_enter func137,ntmps137;go_upto_region 2 with(go_at_call 90;go_loud (refine S.mono ?_);rintro e w2 ⟨v,d,rfl,B,z,I⟩;rw [<-m.out] at B z|-;have P:=aa B;have E:=aa z;have D:=aa I;clear B z I)
 obtain⟨er,n⟩:=gF L.2.1;rw [<-n];have t:=aa n;clear n
 by_cases j:er=0
 ·have i:Hid (L.2.1=0):=aa (by rw [<-t.out];exact j);obtain⟨A,M,cc,rfl,Y,Z,V,H⟩:=(P.out i).sb;have C:=O.out i;obtain⟨b,o,u,rfl,_,J,a⟩:=H.at_ (k:=0) (by omega);obtain⟨x,f,rfl⟩:=eO J
  have g:L.1.headD 0=x:=by
   cases hl:L.1 with
   |nil=>rw [hl] at f;cases f
   |cons y r=>rw [hl] at f;simpa using f
  have T:=aa g;have X:0<M:=by omega
  have U:(0:Int)<(M:Int):=by omega
  unfold bv at a;rw [Nat.add_zero] at a;clear g J f H C V;subst j;go_wp2;rw [G.out];unfold Re;rw [<-m.out];refine⟨d,?_,E,D⟩;rw [T.out,i.out]
  rfl
 ·have i:=aa j;have l:Hid (L.1= []):=aa (N (by rw [<-t.out];exact j));go_wp2;rw [G.out];unfold Re;rw [<-m.out];refine⟨d,?_,E,D⟩;rw [t.out,l.out];rfl
theorem oU.chg {S:Nat->Prop} {w w':World} {F:Nat->Prop} {q p hv:Nat} {c:ay} (h:oU w F q p c hv) (hc:ag S w w') (a:¬S q) (e:¬S p) (t:∀b,F b->¬S b):oU w' F q p c hv:=⟨h.blk.chg hc a,h.src.chg hc e t,h.hl⟩
def Ma (F:Nat->Prop) (q p:Nat) (c:ay) (w:World) (e:Ending) (w':World):Prop:=
 ∃hv,e= .returned (.tuple #[.int .u64 c.number.1,(c.number.2.1:Int)])/\oU w' F q p c.number.2.2 hv/\ag (Cs q p w) w w'
structure D6 (F:Nat->Prop) (q p t K:Nat) (c0:ay) (w0:World) (c:ay) (k v hv:Nat) (w:World):Prop where
 iny:oU w F q p c hv
 tk:xU w t v k 0
 k9:k<=9
 vlt:v<128^k
 ok:c.Ok K
 eq:c0.numL 0 0=c.numL k v
 chg:ag (Cs q p w0) w0 w
theorem Rf {k v:Nat} (hv:v<128^k):v+x%128*128^k<128^(k+1):=by
 have a:x%128*128^k<=127*128^k:=Nat.mul_le_mul_right _ (by omega);rw [Nat.pow_succ];omega
theorem yM (s:Sit F q p w) (h:oU w F q p c hv) (Q:c.Ok K) (hK:K<=1152921504606846976):
  Calls prog 139 #[q] w (Ma F q p c w):=by
 refine letter fun R HR=> ?_;obtain⟨u,y⟩:=gF c.at_;have HA:=aa y;have X:w.cell? q=some (.int .i64 u):=(h.blk.cell 0).trans (by rw [y];rfl);have HH:=aa h;have HO:=aa Q;have m:=aa s;clear h Q s y;go_enter func139,ntmps139;go_upto_region 3 with(go_at_call 166;go_loud (refine(Rh w).mono ?_);rintro e w1 ⟨rfl,C,o⟩;have HT:=aa C;have HB:=aa o;clear C o)
 obtain⟨t,C⟩:=gF w.heap.size;rw [<-C];have Ue:=aa C;have X6:Hid (t≠q/\t≠p):=aa (by have B:=m.out.qB;have f:=m.out.pB;omega);clear X C
 go_loopg [] 10 (fun g' wz=>∃(c':ay) (k v M:Nat),g'=10-k/\D6 F q p t K c w c' k v M wz)
 case atStart=>exact⟨c,0,0,hv,rfl,HH.chg (ag.of_below (S:=Nil) HB) (fun h=>h) (fun h=>h) (fun _ _ h=>h),by rw [Ue.out];exact HT,by omega,by simp,HO,rfl,ag.of_below HB⟩
 case round=>
  obtain⟨c',k,v,M,hg,U⟩:=hrel;have HG:=aa hg;have d:=aa U;have xu:Hid (w.heap.size<=wr):=aa U.chg.size;have Dw:Hid (t<wr):=aa U.tk.lt;clear hg U;obtain⟨L,hL⟩:=gF (c'.bytes 1);obtain⟨x,hx⟩:=gF (L.1.headD 0);obtain⟨er,dN⟩:=gF L.2.1;have HL:=aa hL;have HX:=aa hx;have gJ:=aa dN;have rQ:=aa (Gj (m.up xu) d.iny d.ok hK)
  have O:Hid (c.numL 0 0=if er≠0 then(0,er,L.2.2)
   else if k=9/\1<x.toNat then(0,12,{L.2.2 with err:=12})
   else if 0<k/\x.toNat=0 then(0,13,{L.2.2 with err:=13})
   else if x.toNat<128 then(v+x.toNat%128*128^k,0,L.2.2)
   else L.2.2.numL (k+1) (v+x.toNat%128*128^k)):=aa (by rw [d.out.eq,ay.numL_eq _ _ _ (by have:=d.out.k9;omega),dN,hx,hL])
  have o9:Hid (L.2.2.Ok K):=aa (by rw [hL];exact ay.bytes_ok d.ok 1);clear hL hx dN;go_upto_region 4 with(go_at_call 137;go_loud (refine rQ.mono ?_);rintro e w2 ⟨j,rfl,hI,hC⟩;rw [<-HL.out] at hI|-;rw [<-HX.out,<-gJ.out];have A:=aa hI;have HC:=aa hC;clear hI hC)
  have bz:Hid (ag (Cs q p w) w w2):=aa (d.chg.trans (HC.mono (fun b _ e=>by rcases e with e|e|e;exact .inl e;exact .inr (.inl e);exact .inr (.inr (ma xu e)))) (fun _ _ h=>h));have ab:Hid (xU w2 t v k 0):=aa (d.tk.chg HC (fun e=>by have B:=X6.out;have f:=Dw.out;rcases e with e|e|e<;>omega));have X:w2.cell? q=some (.int .i64 L.2.2.at_):=A.out.blk.cell 0;have IJ:=A.out.blk.frozen 0
  by_cases h0:er=0
  ·subst h0;have PE:=aa (tO k x ab d.k9 d.vlt);obtain⟨r,J⟩:=gF (aW k x);obtain⟨tb,I⟩:=gF (decide (aW k x=0/\x.toNat<128));have Jz:=aa J;have Y:=aa I;clear J I X IJ;go_upto_region 8 with(go_at_call 167;go_loud (refine PE.mono ?_);rintro e l ⟨rfl,Vk,G⟩;rw [<-Y.out,<-Jz.out];have fu:=aa Vk;have E:=aa G;clear Vk G)
   have a:Hid (oU l F q p L.2.2 j):=aa (A.chg fu (fun e=>X6.1 e.symm) (fun e=>X6.2 e.symm) (fun b o e=>by have B:=m.out.lt b o;have f:=Ue.out;have e:b=t:=e;omega));have tJ:Hid (ag (Cs q p w) w l):=aa (bz.out.trans (fu.mono (fun b _ e=>by have e:b=t:=e;have:=Ue.out;exact .inr (.inr (by omega)))) (fun _ _ h=>h))
   by_cases B:r=0
   ·have P:Hid (aW k x=0):=aa (by rw [<-Jz.out];exact B)
    have N:Hid (¬(k=9/\1<x.toNat)/\¬(0<k/\x.toNat=0)):=aa (by
     have:=P.out;unfold aW at this
     split at this
     ·exact absurd this (by decide)
     ·rename_i V
      split at this
      ·exact absurd this (by decide)
      ·rename_i W;exact⟨V,W⟩)
    subst B
    by_cases f:x.toNat<128
    ·have h3:tb=true:=by rw [Y.out,decide_eq_true_iff];exact⟨P,f⟩
     subst h3;have T:Hid (xU l t (v+x.toNat%128*128^k) (k+1) 1):=aa (by have:=E.out P;rwa [if_pos f] at this);have Z:=aa f;obtain⟨vv,z⟩:=gF (v+x.toNat%128*128^k);rw [<-z] at T;have ac:=aa z;clear f z;go_wp2_with (go_at_call 168;go_loud (refine(Ri T).mono ?_);rintro e w4 ⟨rfl,rfl⟩);rw [HR.out];unfold Ma;have hn:=O.out;rw [if_neg (fun h=>h rfl),if_neg N.out.1,if_neg N.out.2,if_pos Z.out,<-ac.out] at hn;have i:c.number=(vv,0,L.2.2):=by unfold ay.number;rw [hn,if_pos rfl]
     rw [i]
     exact⟨j,rfl,a,tJ⟩
    ·have h3:tb=false:=by rw [Y.out,decide_eq_false_iff_not];exact fun h=>f h.2
     subst h3;have T:Hid (xU l t (v+x.toNat%128*128^k) (k+1) 0):=aa (by have:=E.out P;rwa [if_neg f] at this);have D:Hid (k+1<=9):=aa (by have:=d.out.k9;have:=N.out;omega);have Z:=aa f;clear f;go_wp2
     go_roundg (10-(k+1))
     case measure=>have:=HG.out;have:=D.out;omega
     case rel=>
      refine⟨L.2.2,k+1,v+x.toNat%128*128^k,j,rfl,a,T,D,Rf d.vlt,o9,?_,tJ⟩
      rw [O.out,if_neg (fun h=>h rfl),if_neg N.out.1,if_neg N.out.2,if_neg Z.out]
   ·have LW:=aa B;have X:l.cell? q=some (.int .i64 L.2.2.at_):=a.out.blk.cell 0;have IJ:=a.out.blk.frozen 0;have H:ak (l.setCell q (u:Int)) q 188 _:=a.out.blk.set_ 0 (u:Int);have dE:=aa H;clear H;go_wp2_with (go_at_call 133;go_loud (refine(yK r dE (by simp)).mono ?_);rintro e w4 ⟨rfl,rfl⟩);rw [HR.out];unfold Ma
    have hn:c.numL 0 0=(0,r,{L.2.2 with err:=r}):=by
     rw [O.out,if_neg (fun h=>h rfl)];have n:=Jz.out;unfold aW at n
     by_cases V:k=9/\1<x.toNat
     ·rw [if_pos V] at n|-;rw [n]
     ·rw [if_neg V] at n|-
      by_cases W:0<k/\x.toNat=0
      ·rw [if_pos W] at n|-;rw [n]
      ·rw [if_neg W] at n;exact absurd n LW
    have i:c.number=(0,r,{L.2.2 with err:=r,at_:=c.at_}):=by unfold ay.number;rw [hn,if_neg LW.out]
    rw [i];have g:ag (fun b=>b=q) l ((l.setCell q (u:Int)).setCell ⟨q,1,none⟩ (r:Int)):=((ag.refl (fun b=>b=q) l).setCell (p:=q) (fun _=>rfl) _).setCell (p:=⟨q,1,none⟩) (fun _=>rfl) _;refine⟨j,rfl,⟨?_,a.src.chg g (fun e=>m.ne e.symm) (fun b o e=>m.nFq (e▸o)),a.hl⟩,tJ.out.trans (g.mono (fun b _ e=> .inl e)) (fun _ _ h=>h)⟩;have:=(a.out.blk.set_ 0 (u:Int)).set_ 1 (r:Int);rw [HA.out] at this|-
    exact this
  ·have H0:=aa h0;go_wp2;rw [HR.out];unfold Ma;have i:c.number=(0,er,{L.2.2 with at_:=c.at_}):=by unfold ay.number;rw [O.out,if_pos H0.out,if_neg H0.out]
   rw [i];have g:ag (fun b=>b=q) w2 (w2.setCell q (u:Int)):=(ag.refl (fun b=>b=q) w2).setCell (p:=q) (fun _=>rfl) _;refine⟨j,rfl,⟨?_,A.src.chg g (fun e=>m.ne e.symm) (fun b o e=>m.nFq (e▸o)),A.hl⟩,bz.out.trans (g.mono (fun b _ e=> .inl e)) (fun _ _ h=>h)⟩;have:=A.out.blk.set_ 0 (u:Int);rw [HA.out] at this|-;exact this
end Go.Proofs.YtepgcjbhabnciaaGreat
