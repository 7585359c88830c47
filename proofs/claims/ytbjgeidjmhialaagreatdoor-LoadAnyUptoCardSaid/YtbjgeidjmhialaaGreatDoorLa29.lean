/- Part 29. -/
import Derived.Test.YtbjgeidjmhialaaGreatDoorLa28
namespace Go.Proofs.YtbjgeidjmhialaaGreatDoor
set_option maxRecDepth 100000
set_option maxHeartbeats 8000000
section
open Go.Proofs.Tryz
open Go.RowKit
def uY (z st:Nat):Value:= .func (.func (if st=0 then 46 else 75)) #[.pointer (some ⟨z,0,none⟩)] #[]
def XS (mp z q p:Nat) (Dr Fb:Nat→Prop):Nat→Prop:=fun b=>b=mp∨b=z∨b=q∨b=p∨Dr b∨Fb b
structure LX (w:World) (F Dr Fb:Nat→Prop) (mp z q p pb base hv:Nat) (A:Option Addr) (n cc:Nat) (us:List Value) (nd lf inn fl bl:Int) (K:Nat) (m:bg):Prop where
 sit:Sit F q p base
 zs:Zs z q p base
 nFz:¬F z
 bw:base≤w.heap.size
 mblk:ai w mp 139 #[.pointer (some ⟨z,0,none⟩),.pointer (some ⟨pb,0,none⟩),.bool false,.pointer none,.nilIface]
 rblk:ai w z 150 #[.pointer (some ⟨q,0,none⟩),uY z m.rdr.st,.slice none 0 0,.slice A n cc,.int .i64 m.rdr.err,.int .i64 (m.rdr.bad:Nat)]
 rows:bG w base Dr (.slice A n cc) n m.rdr.rows us
 iny:kP w F q p m.rdr.cur hv
 bd:Bd w 185 Fb Nil pb nd lf inn fl bl m.ents
 mpb:mp<base
 mpn:mp≠z∧mp≠q∧mp≠p∧¬F mp∧¬Fb mp
 fb:∀b,Fb b→b≠z∧b≠q∧b≠p∧¬F b∧¬Dr b
 drl:∀b,Dr b→b<w.heap.size
 ok:m.Ok nd lf inn fl bl K
 go:m.done=false
def pY (w:World) (s:Nat) (v:Value) (nd:Int) (t:Option (List bB×Int)):Prop:=(t=none∧v= .pointer none)∨∃x a,t=some x∧v= .pointer (some ⟨a,0,none⟩)∧gm w (From s) a nd x.1 x.2
structure DX (w:World) (F:Nat→Prop) (mp p s:Nat) (nd:Int) (m:bg):Prop where
 mblk:∃v0 v1 tv ev,ai w mp 139 #[v0,v1,.bool true,tv,ev]∧yD w s ev m.err (m.bad:Nat)∧pY w s tv nd m.tree
 src:fU w F p m.rdr.cur.src
 mps:mp<s
 done:m.done=true
section
variable {S F Dr Fb:Nat→Prop} {w w':World} {mp z q p pb base hv:Nat} {A:Option Addr} {n cc:Nat} {us:List Value} {nd lf inn fl bl:Int} {K s:Nat} {m:bg}
theorem pY.chg {v:Value} {t:Option (List bB×Int)} (h:pY w s v nd t) (hc:ag S w w') (hs:∀b,s≤b→¬S b):pY w' s v nd t:=by
 rcases h with h|⟨x,a,h1,h2,h3⟩
 ·exact .inl h
 ·exact .inr ⟨x,a,h1,h2,h3.chg hc (fun b hb=>hs b hb)⟩
theorem LX.lt (h:LX w F Dr Fb mp z q p pb base hv A n cc us nd lf inn fl bl K m):∀b,XS mp z q p Dr Fb b→b<w.heap.size:=by
 intro b hb;have h1:=h.bw;have h2:=h.mpb;have h3:=h.zs.lt;have h4:=h.sit.qB;have h5:=h.sit.pB
 rcases hb with rfl|rfl|rfl|rfl|hb|hb
 ·omega
 ·omega
 ·omega
 ·omega
 ·exact h.drl b hb
 ·obtain⟨_,_,_,_,_,h6,_⟩:=h.bd;exact h6 b hb
theorem LX.fs (h:LX w F Dr Fb mp z q p pb base hv A n cc us nd lf inn fl bl K m) (hc:ag (Fs z q p w.heap.size (.slice A n cc)) w w'):ag (XS mp z q p Dr Fb) w w':=hc.mono (fun b hl hb=>by
 rcases hb with hb|hb|hb|hb|hb
 ·exact .inr (.inl hb)
 ·exact .inr (.inr (.inl hb))
 ·exact .inr (.inr (.inr (.inl hb)))
 ·exact .inr (.inr (.inr (.inr (.inl (h.rows.dom b hb)))))
 ·omega)
end
noncomputable def VG:Code:=aP (f20.body.bind (aA 13))
theorem LH (Fb D:Nat→Prop) (mp x pb:Nat) (Ak Av:Option Addr) (nk ck nv cv:Nat) (nd lf inn fl bl:Int) (l:List aH) (e:aH) (w:World) {u1 u2 u3 u4 u5 u7 u8 u9 u10 u11 u12 u13 bN bq u16 u17 bC bD u20 u21 u22 u23 u24 u25 u26 u27 u28 u29 u30 u31 u32 u33 u34 u35 u36 u37 u38 dh u40 bX u42 bY u44 u45 u46 di u48 u49 bV u51 u52 u53 bW u55 dz dB u58 u59 u60 dH dG u63 u64 dO u66 dU u68 u69 u70 dV u72 u73 dP u75 eQ eU eX eY eZ fo fq fu fw:Value} (Q:Exit→Act→World→Prop) (nC:Hid (∀c t (a:Act) w,Q (.panic c) ⟨t,a.defers⟩ w→Q (.panic c) a w))
  (hc1:w.cell? ⟨mp,1,none⟩=some (.pointer (some ⟨pb,0,none⟩))) (hx0:w.cell? ⟨x,0,none⟩=some (.slice Ak nk ck)) (hx1:w.cell? ⟨x,1,none⟩=some (.slice Av nv cv)) (HB:Hid (Bd w 185 Fb Nil pb nd lf inn fl bl l)) (AM:Hid ((cK nd lf inn fl bl l).1=0))
  (H1:Hid (Bt w D Ak nk ck e.1)) (H2:Hid (Bt w D Av nv cv e.2)) (he:e.1.length≤64∧e.2.length≤256) (hmp:¬Fb mp) (hxf:¬Fb x)
  (au:∀(v56 v57 v58 v59 v60 v61:Value) (w':World),Bd w' 185 (Grown Fb w w') Nil pb nd lf inn fl bl (tY nd lf inn fl bl l e)→ag Fb w w'→Q .normal ⟨(.pointer (some ⟨mp,0,none⟩)::u1::u2::u3::u4::u5:: .pointer (some ⟨x,0,none⟩):: .int .i64 (iG nd lf inn fl bl l e)::u8::u9::u10::u11::u12::u13::bN::bq::u16::u17::bC::bD::u20::u21::u22::u23::u24::u25::u26::u27::u28::u29::u30::u31::u32::u33::u34::u35::u36::u37::u38::dh::u40::bX::u42::bY::u44::u45::u46::di::u48::u49::bV::u51::u52::u53::bW::u55::v56::v57::v58::v59::v60::v61::dG::u63::u64::dO::u66::dU::u68::u69::u70::dV::u72::u73::dP::u75::eQ::eU::eX::eY::eZ::fo::fq::fu::fw:: []).toArray,[]⟩ w'):
  Code.wp prog VG Q ⟨(.pointer (some ⟨mp,0,none⟩)::u1::u2::u3::u4::u5:: .pointer (some ⟨x,0,none⟩)::u7::u8::u9::u10::u11::u12::u13::bN::bq::u16::u17::bC::bD::u20::u21::u22::u23::u24::u25::u26::u27::u28::u29::u30::u31::u32::u33::u34::u35::u36::u37::u38::dh::u40::bX::u42::bY::u44::u45::u46::di::u48::u49::bV::u51::u52::u53::bW::u55::dz::dB::u58::u59::u60::dH::dG::u63::u64::dO::u66::dU::u68::u69::u70::dV::u72::u73::dP::u75::eQ::eU::eX::eY::eZ::fo::fq::fu::fw:: []).toArray,[]⟩ w:=by
 have dF:=aa au;have HD:Hid (Below w.heap.size w w.drew):=aa (Below.refl _ _).drew;have aj3:=Bz AM;have tL:=aa (uZ AM);have HAD:=aa (NI Fb Nil D pb nd lf inn fl bl l e Ak Av nk ck nv cv w.drew (HB.below HD) (gp.1 AM).1 (fun _ h=>h.elim) (H1.below HD) (H2.below HD) (by omega) (by omega) (by omega) (fun x hx=>by have:=(tL.out x hx).1;omega));have S0:w.drew.cell? ⟨mp,1,none⟩=some (.pointer (some ⟨pb,0,none⟩))∧w.drew.cell? ⟨x,0,none⟩=some (.slice Ak nk ck)∧w.drew.cell? ⟨x,1,none⟩=some (.slice Av nv cv):=⟨hc1,hx0,hx1⟩;clear au hc1 hx0 hx1;conv=>arg 2;whnf
 refine aX (fun w'=>w'.cell? ⟨mp,1,none⟩=some (.pointer (some ⟨pb,0,none⟩))∧w'.cell? ⟨x,0,none⟩=some (.slice Ak nk ck)∧w'.cell? ⟨x,1,none⟩=some (.slice Av nv cv)) (by kernel_rfl) ?_;refine vT 0 S0 ?_;refine vT 1 S0 ?_;refine vT 2 S0 ?_;refine vT 3 S0 ?_;refine vT 4 S0 ?_;refine aR (i:=5) (by kernel_rfl) rfl (fun K hK=> ?_);go_simp
 go_loud (refine HAD.mono ?_);rintro en w2 ⟨rfl,q1,q2⟩;have Qh:=aa q1;have sS:=aa q2;have S5:w2.cell? ⟨mp,1,none⟩=some (.pointer (some ⟨pb,0,none⟩))∧w2.cell? ⟨x,0,none⟩=some (.slice Ak nk ck)∧w2.cell? ⟨x,1,none⟩=some (.slice Av nv cv):=⟨q2.cell hmp S0.1,q2.cell hxf S0.2.1,q2.cell hxf S0.2.2⟩;clear q1 q2
 refine hK.out _ _ S5 ?_;clear hK K;try simp only [aL,aN,aZ,aC]
 refine vT 6 S5 ?_;refine bP (by kernel_rfl) ?_ _;exact dF _ _ _ _ _ _ _ Qh ((ag.of_below (S:=Fb) HD).trans sS (fun _ _ h=>h))
end
section
open Go.Proofs.Tryz
open Go.RowKit
structure LJ (F Dr Fb:Nat→Prop) (mp z q p pb base:Nat) (nd lf inn fl bl:Int) (K:Nat) (m':bg) (w:World) (e:Ending) (w':World):Prop where
 ret:e= .returned (.bool m'.done)
 chg:ag (XS mp z q p Dr Fb) w w'
 out:(m'.done=false∧∃(XF XG:Nat→Prop) (hv':Nat) (A':Option Addr) (n' pu:Nat) (lh:List Value),LX w' F XF XG mp z q p pb base hv' A' n' pu lh nd lf inn fl bl K m'∧(∀b,XF b→Dr b∨w.heap.size≤b)∧(∀b,XG b→Fb b∨w.heap.size≤b))∨DX w' F mp p w.heap.size nd m'
theorem vg {nd lf inn fl bl:Int} {m:bg} (h:m.done=false) (hn:m.rdr.next.1=none):m.step nd lf inn fl bl=m.ends inn fl m.rdr.next.2:=by
 unfold bg.step;rw [if_neg (by simp [h]),hn]
theorem vk {nd lf inn fl bl:Int} {m:bg} {l:List aH} (h:m.done=false) (hn:m.rdr.next.1=some l):m.step nd lf inn fl bl=m.took nd lf inn fl bl l m.rdr.next.2:=by
 unfold bg.step;rw [if_neg (by simp [h]),hn]
theorem xB (f:Nat) (hf:f=46∨f=75):∀args w',(callFunc f args).run prog w'= .ok (.enter f args) w':=by
 rcases hf with rfl|rfl
 ·intro args w';kernel_rfl
 ·intro args w';kernel_rfl
theorem BA {F Dr Fb:Nat→Prop} {w:World} {mp z q p pb base hv:Nat} {A:Option Addr} {n cc:Nat} {us:List Value} {nd lf inn fl bl:Int} {K:Nat} {m:bg} (h:LX w F Dr Fb mp z q p pb base hv A n cc us nd lf inn fl bl K m) (hK:K≤1152921504606846976):
  Calls prog 41 #[.pointer (some ⟨z,0,none⟩)] w (l8 F z q p base Dr (uY z 1) (.slice none 0 0) A n cc us m.rdr.next.1 m.rdr.next.2 w):=by
 have hs:=h.ok.rdr.st;have hg:=(h.ok.go h.go).1;have hb:=h.rblk
 by_cases h0:m.rdr.st=0
 ·have e:uY z m.rdr.st= .func (.func 46) #[.pointer (some ⟨z,0,none⟩)] #[]:=by unfold uY;rw [if_pos h0]
  rw [e] at hb
  exact vo F Dr z q p base _ _ _ (.slice none 0 0) _ _ _ A n cc us m.rdr.next.1 m.rdr.next.2 w hb (xB _ (.inl rfl)) (AP F Dr z q p base hv K _ _ A n cc us m.rdr w h.sit h.zs h.nFz h.bw hb h.rows h.iny h.ok.rdr h0 hK)
 ·have h1:m.rdr.st=1:=by omega
  have e:uY z m.rdr.st= .func (.func 75) #[.pointer (some ⟨z,0,none⟩)] #[]:=by unfold uY;rw [if_neg h0]
  have e2:m.rdr.next=m.rdr.frame:=by unfold aU.next;rw [if_neg (by omega),if_pos h1]
  rw [e] at hb;rw [e2];exact vo F Dr z q p base _ _ _ (.slice none 0 0) _ _ _ A n cc us m.rdr.frame.1 m.rdr.frame.2 w hb (xB _ (.inr rfl)) (rq F Dr z q p base hv K _ _ A n cc us m.rdr w h.sit h.zs h.nFz h.bw hb h.rows h.iny h.ok.rdr h1 hK)
theorem DY (F Dr Fb:Nat→Prop) (mp z q p pb base hv:Nat) (A:Option Addr) (n cc:Nat) (us:List Value) (nd lf inn fl bl:Int) (K:Nat) (m:bg) (w:World) (h:LX w F Dr Fb mp z q p pb base hv A n cc us nd lf inn fl bl K m) (hK:K≤1152921504606846976) (hn:m.rdr.next.1=none):
  Calls prog 20 #[.pointer (some ⟨mp,0,none⟩)] w (LJ F Dr Fb mp z q p pb base nd lf inn fl bl K (m.step nd lf inn fl bl) w):=by
 refine letter fun R HR=> ?_;have HM:=aa h;have jT:=aa (BA h hK);have HST:=aa (vg (nd:=nd) (lf:=lf) (inn:=inn) (fl:=fl) (bl:=bl) h.go hn);obtain⟨r',hr'⟩:∃r',r'=m.rdr.next.2:=⟨_,rfl⟩;rw [hn,←hr'] at jT;rw [←hr'] at HST;have y2:w.cell? ⟨mp,2,none⟩=some (.bool false):=h.mblk.cell 2;have y0:w.cell? ⟨mp,0,none⟩=some (.pointer (some ⟨z,0,none⟩)):=h.mblk.cell 0;have CF:Hid (∀b,Fb b→b<w.heap.size):=aa (fun b hb=>h.lt b (.inr (.inr (.inr (.inr (.inr hb))))));clear h hn hr';go_enter func20,ntmps20
 go_upto_region 4 with(go_at_call 41;go_loud (refine jT.mono ?_);intro e w2 hf;have ny:=aa hf;obtain⟨rfl,_,_,_⟩:=hf.no rfl;clear hf)
 have bI:Hid (ag (XS mp z q p Dr Fb) w w2):=aa (HM.fs ny.chg)
 have Zr:Hid (¬Fs z q p w.heap.size (.slice A n cc) mp):=aa (fun e=>by
  have h1:=HM.out.mpn;have h2:=HM.out.mpb;have h3:=HM.out.bw
  rcases e with e|e|e|e|e
  ·exact h1.1 e
  ·exact h1.2.1 e
  ·exact h1.2.2.1 e
  ·have:=(ah HM.rows.own mp e).1;omega
  ·omega)
 have HB2:=aa (HM.mblk.chg ny.chg Zr);have HZ2:=aa (ny.no rfl).2.2.1;have HS2:=aa (ny.no rfl).2.2.2
 have O0:=aa (HM.bd.chg ny.chg (fun b hb e=>by
  have h1:=HM.out.fb b hb;have h2:=CF.out b hb
  rcases e with e|e|e|e|e
  ·exact h1.1 e
  ·exact h1.2.1 e
  ·exact h1.2.2.1 e
  ·exact h1.2.2.2.2 (HM.rows.dom b e)
  ·omega) (fun _ h=>h.elim))
 have hs2:w.heap.size≤w2.heap.size:=bI.out.size;have Zt:=HB2.out.frozen 2;have XH:=HB2.out.frozen 3;have XI:=HB2.out.frozen 4;have x2:w2.cell? ⟨mp,2,none⟩=some (.bool false):=HB2.out.cell 2;have x0:w2.cell? ⟨mp,0,none⟩=some (.pointer (some ⟨z,0,none⟩)):=HB2.out.cell 0;clear y2 y0;go_upto_region 6 with fail
 obtain⟨w3,hw3⟩:∃W,W=w2.setCell ⟨mp,2,none⟩ (.bool true):=⟨_,rfl⟩;rw [←hw3];have hcs:ag (fun b=>b=mp) w2 w3:=by rw [hw3];exact(ag.refl (fun b=>b=mp) w2).setCell (p:=⟨mp,2,none⟩) (fun _=>rfl) _
 have CX:=aa hcs;have HB3:Hid (ai w3 mp 139 #[.pointer (some ⟨z,0,none⟩),.pointer (some ⟨pb,0,none⟩),.bool true,.pointer none,.nilIface]):=aa (by rw [hw3];exact HB2.set_ 2 _);have HZ3:=aa (HZ2.chg hcs (fun e=>HM.mpn.1 e.symm));have Nv:=aa (HS2.chg hcs (fun e=>HM.mpn.2.2.1 e.symm) (fun b hb e=>HM.mpn.2.2.2.1 ((show b=mp from e)▸hb)));have Zu:=aa (O0.chg hcs (fun b hb e=>HM.mpn.2.2.2.2 ((show b=mp from e)▸hb)) (fun _ h=>h.elim));have gN:Hid (ag (XS mp z q p Dr Fb) w w3):=aa (bI.out.trans hcs (fun b _ e=> .inl e));obtain⟨er,jf⟩:∃e,e=r'.err:=⟨_,rfl⟩;have jR:=aa jf;rw [←jf] at HZ3;have NL:=aa (rC z _ _ _ _ er (r'.bad:Nat) w3 HZ3);clear hw3 hcs Zt XH XI x2 x0 jf;have x0:w3.cell? ⟨mp,0,none⟩=some (.pointer (some ⟨z,0,none⟩)):=HB3.out.cell 0;have x4:w3.cell? ⟨mp,4,none⟩=some .nilIface:=HB3.out.cell 4;have XI:=HB3.out.frozen 4;have wE:Hid (mp<w.heap.size):=aa (Nat.lt_of_lt_of_le HM.mpb HM.bw)
 by_cases he:er=0
 ·subst he;go_upto_region 7 with(first|(go_at_call 26;go_loud (refine NL.mono ?_);rintro e w4 ⟨rfl,k,rfl⟩)|(go_at_call 19;go_loud (refine(Bw (r'.bad:Nat) _).mono ?_);rintro e w5 ⟨rfl,rfl⟩))
  obtain⟨w5,jg⟩:∃W,W=(w3.drewN k).setCell ⟨mp,4,none⟩ .nilIface:=⟨_,rfl⟩;rw [←jg];have hcs:ag (fun b=>b=mp) w3 w5:=by rw [jg];exact((ag.refl (fun b=>b=mp) w3).drewN k).setCell (p:=⟨mp,4,none⟩) (fun _=>rfl) _
  have fO:Hid (ai w5 mp 139 #[.pointer (some ⟨z,0,none⟩),.pointer (some ⟨pb,0,none⟩),.bool true,.pointer none,.nilIface]):=aa (by rw [jg];exact(HB3.drewN k).set_ 4 _);have TZ:=aa (Nv.chg hcs (fun e=>HM.mpn.2.2.1 e.symm) (fun b hb e=>HM.mpn.2.2.2.1 ((show b=mp from e)▸hb)));have Zv:=aa (Zu.chg hcs (fun b hb e=>HM.mpn.2.2.2.2 ((show b=mp from e)▸hb)) (fun _ h=>h.elim));have fQ:Hid (ag (XS mp z q p Dr Fb) w w5):=aa (gN.out.trans hcs (fun b _ e=> .inl e));have zu:=aa (KY Fb Nil pb nd lf inn fl bl m.ents w5 Zv HM.ok.bld (by have:=Bz HM.ok.bld;omega) (fun e he=>by have:=uZ HM.ok.bld e he;omega));have hs5:w.heap.size≤w5.heap.size:=fQ.out.size;clear jg hcs XI x4 x0;have x4:w5.cell? ⟨mp,4,none⟩=some .nilIface:=fO.out.cell 4;have x1:w5.cell? ⟨mp,1,none⟩=some (.pointer (some ⟨pb,0,none⟩)):=fO.out.cell 1;go_wp2_with (go_at_call 42;go_loud (refine zu.mono ?_);rintro e w6 ⟨a,rfl,h1,h2,h3⟩;have H1:=aa h1;have H3:=aa h3;have lg:=aa (fO.chg h3 HM.mpn.2.2.2.2);have y3:w6.cell? ⟨mp,3,none⟩=some (.pointer none):=lg.out.cell 3;have XH:=lg.out.frozen 3;clear h1 h2 h3)
  rw [HR.out,HST.out];have hcs:=(ag.refl (fun b=>b=mp) w6).setCell (p:=⟨mp,3,none⟩) (fun _=>rfl) (.pointer (some ⟨a,0,none⟩));have Jw:m.rdr.next.2=m.rdr.next.2:=rfl
  refine⟨rfl,(fQ.out.trans H3 (fun b _ e=> .inr (.inr (.inr (.inr (.inr e)))))).trans hcs (fun b _ e=> .inl e),.inr ⟨⟨_,_,_,_,lg.set_ 3 _,.inl ⟨jR.out.symm,rfl⟩,.inr ⟨aO fl.toNat inn.toNat m.ents,a,?_,rfl,?_⟩⟩,?_,wE,rfl⟩⟩
  ·show(if r'.err=0 then some (aO fl.toNat inn.toNat m.ents) else none)=_
   rw [if_pos jR.out.symm]
  ·exact(H1.weak (fun b hb=>Nat.le_trans hs5 hb)).chg hcs (fun b hb e=>by have e:b=mp:=e;have hb:w.heap.size≤b:=hb;have:=wE.out;omega)
  ·exact(TZ.chg H3 (fun e=>(HM.fb p e).2.2.1 rfl) (fun b hb e=>(HM.fb b e).2.2.2.1 hb)).chg hcs (fun e=>HM.mpn.2.2.1 e.symm) (fun b hb e=>HM.mpn.2.2.2.1 ((show b=mp from e)▸hb))
 ·have he':(er==0)=false:=by rw [beq_eq_false_iff_ne];exact he
  have HE:=aa he;go_upto_region 7 with(first|(go_at_call 26;go_loud (refine NL.mono ?_);rintro e w4' ⟨rfl,k,rfl⟩;obtain⟨w4,hw4⟩:∃W,W=w3.drewN k:=⟨_,rfl⟩;rw [←hw4];have HD4:Hid (ag Nil w3 w4):=aa (by rw [hw4];exact(ag.refl Nil w3).drewN k);clear hw4)|(go_at_call 19;go_loud (refine(sF er (r'.bad:Nat) _ HE).mono ?_);rintro e w5 ⟨rfl,h1,h2⟩;have H1:=aa h1;have H2:=aa h2;have fO:=aa ((HB3.chg HD4 (fun h=>h)).below h2);have x45:w5.cell? ⟨mp,4,none⟩=some .nilIface:=fO.out.cell 4;have Zw:=fO.out.frozen 4;clear h1 h2))
  obtain⟨w6,kF⟩:∃W,W=w5.setCell ⟨mp,4,none⟩ (.iface 41 (.pointer (some ⟨w4.heap.size,0,none⟩))):=⟨_,rfl⟩;rw [←kF];have hcs:ag (fun b=>b=mp) w5 w6:=by rw [kF];exact(ag.refl (fun b=>b=mp) w5).setCell (p:=⟨mp,4,none⟩) (fun _=>rfl) _
  have RV:ag Nil w3 w5:=HD4.out.then H2;have lg:Hid (ai w6 mp 139 #[.pointer (some ⟨z,0,none⟩),.pointer (some ⟨pb,0,none⟩),.bool true,.pointer none,.iface 41 (.pointer (some ⟨w4.heap.size,0,none⟩))]):=aa (by rw [kF];exact fO.set_ 4 _);have OD:=aa ((Nv.nil RV).chg hcs (fun e=>HM.mpn.2.2.1 e.symm) (fun b hb e=>HM.mpn.2.2.2.1 ((show b=mp from e)▸hb)));have iW:Hid (ag (XS mp z q p Dr Fb) w w6):=aa ((gN.out.trans RV (fun b _ e=>e.elim)).trans hcs (fun b _ e=> .inl e));have hs4:w.heap.size≤w4.heap.size:=Nat.le_trans gN.size HD4.size;have HF6:Hid (ai w6 w4.heap.size 45 #[.int .i64 er,.int .i64 (r'.bad:Nat)]):=aa (H1.chg hcs (fun e=>by have e:w4.heap.size=mp:=e;have:=wE.out;omega));clear kF hcs RV x45 Zw XI x4 x0;have x4:w6.cell? ⟨mp,4,none⟩=some (.iface 41 (.pointer (some ⟨w4.heap.size,0,none⟩))):=lg.out.cell 4;go_wp2;rw [HR.out,HST.out]
  refine⟨rfl,iW,.inr ⟨⟨_,_,_,_,lg,.inr ⟨?_,_,rfl,?_,hs4⟩,.inl ⟨?_,rfl⟩⟩,OD,wE,rfl⟩⟩
  ·show r'.err≠0
   rw [←jR.out];exact HE
  ·show ai w6 w4.heap.size 45 #[.int .i64 r'.err,.int .i64 (r'.bad:Nat)]
   rw [←jR.out];exact HF6
  ·show(if r'.err=0 then some (aO fl.toNat inn.toNat m.ents) else none)=none;rw [if_neg (by rw [←jR.out];exact HE)]
structure BB (Fb:Nat→Prop) (pb:Nat) (nd lf inn fl bl:Int) (l0 es:List aH) (i:Nat) (w2 wr:World) (T:TypeId) (In:Nat→Prop):Prop where
 eq:eP nd lf inn fl bl l0 es=eP nd lf inn fl bl (l0++es.take i) (es.drop i)
 bd:Bd wr T (Grown Fb w2 wr) In pb nd lf inn fl bl (l0++es.take i)
 chg:ag Fb w2 wr
 ok:(cK nd lf inn fl bl (l0++es.take i)).1=0
end
section
open Go.Proofs.Tryz
open Go.RowKit
theorem BB.start {Fb In:Nat→Prop} {pb:Nat} {nd lf inn fl bl:Int} {l0 es:List aH} {w2:World} {T:TypeId} (h:Bd w2 T Fb In pb nd lf inn fl bl l0) (hok:(cK nd lf inn fl bl l0).1=0):BB Fb pb nd lf inn fl bl l0 es 0 w2 w2 T In:=
 ⟨by simp,by rw [List.take_zero,List.append_nil];exact h.grow (Below.refl _ _),ag.refl _ _,by simpa using hok⟩
theorem BB.next {Fb In:Nat→Prop} {pb:Nat} {nd lf inn fl bl:Int} {l0 es:List aH} {i:Nat} {w2 wr w4:World} {T:TypeId} {e:aH} (h:BB Fb pb nd lf inn fl bl l0 es i w2 wr T In) (he:es[i]? =some e) (ha:iG nd lf inn fl bl (l0++es.take i) e=0)
  (hb:Bd w4 T (fun b=>Fb b∨(w2.heap.size≤b∧b<w4.heap.size)) In pb nd lf inn fl bl (tY nd lf inn fl bl (l0++es.take i) e)) (hc:ag Fb w2 w4):BB Fb pb nd lf inn fl bl l0 es (i+1) w2 w4 T In:=by
 have e1:es.take (i+1)=es.take i++ [e]:=by rw [List.take_add_one,he];rfl
 have e2:tY nd lf inn fl bl (l0++es.take i) e=l0++es.take (i+1):=by unfold tY;rw [if_pos ha,e1,List.append_assoc]
 rw [e2] at hb
 refine⟨?_,hb,hc,?_⟩
 ·rw [h.eq,rD he,if_pos ha,e1,List.append_assoc]
 ·rw [←e2];exact E5 h.ok
theorem DZ (F Dr Fb:Nat→Prop) (mp z q p pb base hv:Nat) (A:Option Addr) (n cc:Nat) (us:List Value) (nd lf inn fl bl:Int) (K:Nat) (m:bg) (es:List aH) (w:World) (h:LX w F Dr Fb mp z q p pb base hv A n cc us nd lf inn fl bl K m) (hK:K≤1152921504606846976) (hn:m.rdr.next.1=some es):
  Calls prog 20 #[.pointer (some ⟨mp,0,none⟩)] w (LJ F Dr Fb mp z q p pb base nd lf inn fl bl K (m.step nd lf inn fl bl) w):=by
 have hez:=Am;refine letter fun R HR=> ?_;have HM:=aa h;have jT:=aa (BA h hK);have HST:=aa (vk (nd:=nd) (lf:=lf) (inn:=inn) (fl:=fl) (bl:=bl) h.go hn);have AM:=aa (bg.step_ok h.ok);have GD:=aa ((aU.next_ok h.ok.rdr).2 es hn);obtain⟨r',hr'⟩:∃r',r'=m.rdr.next.2:=⟨_,rfl⟩;rw [hn,←hr'] at jT;rw [←hr'] at HST GD;have y2:w.cell? ⟨mp,2,none⟩=some (.bool false):=h.mblk.cell 2;have y0:w.cell? ⟨mp,0,none⟩=some (.pointer (some ⟨z,0,none⟩)):=h.mblk.cell 0;have CF:Hid (∀b,Fb b→b<w.heap.size):=aa (fun b hb=>h.lt b (.inr (.inr (.inr (.inr (.inr hb))))));have wE:Hid (mp<w.heap.size):=aa (Nat.lt_of_lt_of_le h.mpb h.bw);clear h hn hr';go_enter func20,ntmps20
 go_upto_region 4 with(go_at_call 41;go_loud (refine jT.mono ?_);intro e w2 hf;have ny:=aa hf;obtain⟨eA,en,ec,A',n',pu,lh,hv',rfl,g1,g2,g3,g4,g5,g6,-⟩:=hf.yes es rfl;have G1:=aa g1;have G2:=aa g2;have G3:=aa g3;have G4:=aa g4;have G5:=aa g5;have G6:=aa g6;clear hf g1 g2 g3 g4 g5 g6)
 have bI:Hid (ag (XS mp z q p Dr Fb) w w2):=aa (HM.fs ny.chg)
 have Zr:Hid (¬Fs z q p w.heap.size (.slice A n cc) mp):=aa (fun e=>by
  have h1:=HM.out.mpn;have h2:=HM.out.mpb;have h3:=HM.out.bw
  rcases e with e|e|e|e|e
  ·exact h1.1 e
  ·exact h1.2.1 e
  ·exact h1.2.2.1 e
  ·have:=(ah HM.rows.own mp e).1;omega
  ·omega)
 have HB2:=aa (HM.mblk.chg ny.chg Zr)
 have O0:=aa (HM.bd.chg ny.chg (fun b hb e=>by
  have h1:=HM.out.fb b hb;have h2:=CF.out b hb
  rcases e with e|e|e|e|e
  ·exact h1.1 e
  ·exact h1.2.1 e
  ·exact h1.2.2.1 e
  ·exact h1.2.2.2.2 (HM.rows.dom b e)
  ·omega) (fun _ h=>h.elim))
 have hs2:w.heap.size≤w2.heap.size:=bI.out.size;obtain⟨l0,hl0⟩:∃l,l=m.ents:=⟨_,rfl⟩;have JA:=aa hl0;rw [←hl0] at O0;have wH:Hid (en=es.length):=aa G3.out.len;have RX:Hid (∀e∈es,e.1.length≤64∧e.2.length≤256):=aa (fun e he=>(dC GD.rise he).2);have Zx:Hid (BB Fb pb nd lf inn fl bl l0 es 0 w2 w2 185 Nil):=aa (BB.start O0 (by rw [JA.out];exact HM.ok.bld));have LM:en≤64:=by rw [wH.out];exact GD.most
 clear y2 y0 hl0;go_wp2
 go_loopg [52] en (fun g' iv wz=>∃i:Nat,g'=en-i∧i≤en∧iv= .int .i64 i∧Hid (BB Fb pb nd lf inn fl bl l0 es i w2 wz 185 Nil))
 case atStart=>exact⟨0,by omega,by omega,rfl,Zx⟩
 case round=>
  obtain⟨i,hg,hi,rfl,HA⟩:=hrel;have Zq:=aa hg;clear hg;have HMr:=aa (HB2.chg HA.chg HM.mpn.2.2.2.2);have Qj:w2.heap.size≤wr.heap.size:=HA.out.chg.size
  by_cases hlt:i<en
  ·have hlt':(i:Int)<(en:Int):=by omega
   have HEr:Hid (bO wr (fun b=>w.heap.size≤b∧b<w2.heap.size) eA en es):=aa (((bO.lt G3.out).weak (fun b hb=>⟨hb.1.1,hb.2⟩)).chg HA.chg (fun b hb e=>by have h1:=CF.out b e;have h2:=hb.1;omega));obtain⟨g,o,Ak,nk,ck,Av,nv,cv,key,val,rfl,hgb,hel,c0,c1,h1⟩:=HEr.out.at_ (k:=i) hlt;have JZ:=aa hel;have H1:=aa h1;have hgl:g<wr.heap.size:=by have:=hgb.2;omega
   clear hel h1 hgb;go_upto_region 13 with fail
   obtain⟨wn,hwn⟩:∃W,W=wr.alloc (.cells #[.slice Ak nk ck,.slice Av nv cv] 57):=⟨_,rfl⟩;have hbn:Below wr.heap.size wr wn:=by rw [hwn];exact(Below.refl _ _).alloc (Nat.le_refl _) _
   have HKx:Hid (ai wn wr.heap.size 57 #[.slice Ak nk ck,.slice Av nv cv]):=aa (by rw [hwn];exact ai.new _ _ _);have xk:=aa hbn;have HMn:=aa (HMr.below hbn);have Zy:=aa (HA.bd.below hbn);have hsn:wr.heap.size≤wn.heap.size:=hbn.size;rw [←hwn];clear hwn hbn;have HT1:Hid (Bt wn (fun b=>w.heap.size≤b∧b<w2.heap.size) Ak nk ck key):=aa (by obtain⟨q1,q2,q3,q4,_⟩:=H1.out;exact⟨q1,q2,q3,q4.below xk⟩);have HT2:Hid (Bt wn (fun b=>w.heap.size≤b∧b<w2.heap.size) Av nv cv val):=aa (by obtain⟨_,_,_,_,q1,q2,q3,q4⟩:=H1.out;exact⟨q1,q2,q3,q4.below xk⟩)
   refine LH (Grown Fb w2 wr) (fun b=>w.heap.size≤b∧b<w2.heap.size) mp wr.heap.size pb Ak Av nk ck nv cv nd lf inn fl bl (l0++es.take i) (key,val) wn _ (aa (fun _ _ _ _ h=>h)) (HMn.cell 1) (HKx.cell 0) (HKx.cell 1) Zy (aa HA.ok) HT1 HT2 (RX _ (List.mem_of_getElem? JZ)) (fun e=>by
    rcases e with e|e
    ·exact HM.mpn.2.2.2.2 e
    ·have:=wE.out;omega) (fun e=>by
    rcases e with e|e
    ·have:=CF.out _ e;omega
    ·omega) ?_
   intro v56 v57 v58 v59 v60 v61 w4 VB XJ;have mP:Hid (ag Fb w2 w4):=aa (((HA.chg.then xk)).trans XJ (fun b hb e=>e.elim id (fun e=>by omega)))
   have Zz:Hid (Bd w4 185 (fun b=>Fb b∨(w2.heap.size≤b∧b<w4.heap.size)) Nil pb nd lf inn fl bl (tY nd lf inn fl bl (l0++es.take i) (key,val))):=aa (VB.sub (fun b hb=>by
    rcases hb with(hb|hb)|hb
    ·exact .inl hb
    ·exact .inr ⟨hb.1,by have:=XJ.size;omega⟩
    ·exact .inr ⟨by omega,hb.2⟩) (fun b hb=>by
    rcases hb with hb|hb
    ·have:=CF.out b hb;have:=XJ.size;omega
    ·exact hb.2))
   clear VB XJ;obtain⟨ae,hae⟩:∃ae,ae=iG nd lf inn fl bl (l0++es.take i) (key,val):=⟨_,rfl⟩;rw [←hae];have P6:=aa hae;clear hae
   by_cases h0:ae=0
   ·subst h0;go_wp2
    go_roundg (en-(i+1))
    case measure=>have:=Zq.out;omega
    case rel=>exact⟨i+1,rfl,by omega,by go_num,aa (HA.next JZ P6.out.symm Zz mP)⟩
   ·have h0':(ae==0)=false:=by rw [beq_eq_false_iff_ne];exact h0
    have H0:=aa h0;have He:=aa AM;have hlen:0<n':=by rw [G4.out.len,GD.out.rows];omega
    obtain⟨gr,gcc,hvv,_,_⟩:=G4.out.own.form hlen;injection hvv with hvv _ ZA
    subst hvv;have ZB:Hid (gu r'.rows):=aa GD.ok.rows;have Ht:=aa (G6.out.chg mP (fun e=>(HM.fb z e).1 rfl))
    have HR4:Hid (bG w4 base _ (.slice (some ⟨gr,0,none⟩) n' pu) n' r'.rows lh):=aa (G4.out.chgD mP (fun b hb hl e=>by
     rcases hb with hb|hb
     ·exact(HM.fb b e).2.2.2.2 hb
     ·have:=CF.out b e;omega))
    have Zf:=aa (Hr _ z base _ _ _ _ _ ⟨gr,0,none⟩ n' pu r'.rows lh w4 Ht HR4 hlen (by rw [G4.out.len];exact ZB.many) (fun x hx=>(ZB.key x hx).2));have mM:=aa (HB2.chg mP HM.mpn.2.2.2.2);obtain⟨j,hj⟩:∃j,n'=j+1:=⟨n'-1,by omega⟩;obtain⟨x,hx⟩:∃x,r'.rows[j]? =some x:=⟨_,List.getElem?_eq_getElem (by have:=G4.out.len;omega)⟩;have HX:=aa hx;have VH:Hid (r'.rows.getLast?.getD ⟨[],0,0,0⟩=x):=aa (by rw [List.getLast?_eq_getElem?,←G4.out.len,show n'-1=j by omega,hx];rfl);have ZC:n'≤8388608:=by rw [G4.out.len];exact ZB.many
    have hj2:IntKind.i64.wrap ((n':Int)-1)=(j:Int):=by rw [IntWalk.i64_in _ (by omega)];omega
    have hj3:IntKind.i64.wrap (j:Int)=(j:Int):=IntWalk.i64_in _ (by omega);have hj0:(0:Int)≤(j:Int):=by omega
    have hjl:j<n':=by omega
    have GN:(j:Int)<(n':Int):=by omega
    have x0:w4.cell? ⟨mp,0,none⟩=some (.pointer (some ⟨z,0,none⟩)):=mM.out.cell 0;have ZD:Hid (w2.heap.size≤w4.heap.size):=aa mP.size;clear hj hx ZA hlen;go_upto_region 16 with(go_at_call 44;go_loud (refine Zf.mono ?_);rintro e w5 ⟨gg,gcx,hgg,rfl,hcl,hb5⟩;have ZE:=aa hgg;have jy:=aa hcl;have fO:=aa hb5;clear hcl hb5 hgg)
    have sU:=aa (mM.below fO);have cx:w5.cell? ⟨gg,j*4+1,none⟩=some (.int .i64 (x.at_:Nat)):=jy.out j x HX;have HGM:Hid (gg≠mp):=aa (fun e=>by have h1:=ZE.out;have h2:=wE.out;have h3:=ZD.out;omega);have x2:w5.cell? ⟨mp,2,none⟩=some (.bool false):=sU.out.cell 2;have Zt:=sU.out.frozen 2;clear x0;go_upto_region 17 with fail
    obtain⟨w6,kF⟩:∃W,W=w5.setCell ⟨mp,2,none⟩ (.bool true):=⟨_,rfl⟩;rw [←kF];have hcs:ag (fun b=>b=mp) w5 w6:=by rw [kF];exact(ag.refl (fun b=>b=mp) w5).setCell (p:=⟨mp,2,none⟩) (fun _=>rfl) _
    have HM6:Hid (ai w6 mp 139 #[.pointer (some ⟨z,0,none⟩),.pointer (some ⟨pb,0,none⟩),.bool true,.pointer none,.nilIface]):=aa (by rw [kF];exact sU.set_ 2 _);have cx6:w6.cell? ⟨gg,j*4+1,none⟩=some (.int .i64 (x.at_:Nat)):=hcs.cell HGM cx;have CX:=aa hcs;have OD:Hid (fU w6 F p r'.cur.src):=aa ((((G5.out.src.chg mP (fun e=>(HM.fb p e).2.2.1 rfl) (fun b hb e=>(HM.fb b e).2.2.2.1 hb)).below fO).chg hcs (fun e=>HM.mpn.2.2.1 e.symm) (fun b hb e=>HM.mpn.2.2.2.1 ((show b=mp from e)▸hb))));have iW:Hid (ag (XS mp z q p Dr Fb) w w6):=aa (((bI.out.trans mP (fun b _ e=> .inr (.inr (.inr (.inr (.inr e)))))).then fO).trans hcs (fun b _ e=> .inl e));have hs6:w.heap.size≤w6.heap.size:=iW.out.size;clear kF hcs cx x2 Zt;have x4:w6.cell? ⟨mp,4,none⟩=some .nilIface:=HM6.out.cell 4;go_wp2_with (go_at_call 19;go_loud (refine(sF ae (x.at_:Nat) w6 H0).mono ?_);rintro e w7 ⟨rfl,h1,h2⟩;have JB:=aa h1;have H72:=aa h2;have RY:=aa (HM6.below h2);have x47:w7.cell? ⟨mp,4,none⟩=some .nilIface:=RY.out.cell 4;have aj4:=RY.out.frozen 4;clear h1 h2)
    have EU:Hid (m.step nd lf inn fl bl={m with rdr:=r',ents:=l0++es.take i,done:=true,err:=ae,bad:=x.at_}):=aa (by
     rw [HST.out];unfold bg.took;have h2:eP nd lf inn fl bl (l0++es.take i) (es.drop i)=(l0++es.take i,ae):=by rw [rD JZ.out,←P6.out,if_neg H0.out]
     have h1:=HA.out.eq.trans h2;rw [←JA.out,h1,if_neg (show¬(l0++es.take i,ae).2=0 from H0.out),VH.out])
    rw [HR.out,EU.out];have hcs:=(ag.refl (fun b=>b=mp) w7).setCell (p:=⟨mp,4,none⟩) (fun _=>rfl) (.iface 41 (.pointer (some ⟨w6.heap.size,0,none⟩)));refine⟨rfl,(iW.then H72).trans hcs (fun b _ e=> .inl e),.inr ⟨⟨_,_,_,_,RY.set_ 4 _,.inr ⟨H0,_,rfl,JB.chg hcs (fun e=>by have e:w6.heap.size=mp:=e;have:=wE.out;omega),hs6⟩,.inl ⟨(HM.ok.go HM.go).2.2.2.2,rfl⟩⟩,?_,wE,rfl⟩⟩
    exact(OD.below H72).chg hcs (fun e=>HM.mpn.2.2.1 e.symm) (fun b hb e=>HM.mpn.2.2.2.1 ((show b=mp from e)▸hb))
  ·have hin:i=en:=by omega
   have EU:Hid (m.step nd lf inn fl bl={m with rdr:=r',ents:=l0++es}):=aa (by
    rw [HST.out];unfold bg.took;have h1:=HA.out.eq;rw [hin,wH.out,List.take_length,List.drop_length,JA.out] at h1;rw [h1,show eP nd lf inn fl bl (m.ents++es) []=(m.ents++es,0) from rfl,if_pos rfl,JA.out])
   have E7:Hid (Bd wr 185 (Grown Fb w2 wr) Nil pb nd lf inn fl bl (l0++es)):=aa (by
    have h1:=HA.out.bd;rw [hin,wH.out,List.take_length] at h1;exact h1)
   go_wp2;rw [HR.out]
   have hgo:(m.step nd lf inn fl bl).done=false:=by rw [EU.out];exact HM.go
   have hbase:=HM.out.bw;refine⟨by rw [hgo];rfl,bI.out.trans HA.chg (fun b _ e=> .inr (.inr (.inr (.inr (.inr e))))),.inl ⟨hgo,(fun b=>Dr b∨(w.heap.size≤b∧b<w2.heap.size)),Grown Fb w2 wr,hv',A',n',pu,lh,?_,fun b hb=>hb.imp id (fun h=>h.1),fun b hb=>hb.imp id (fun h=>by omega)⟩⟩;have hok:=AM.out;rw [EU.out] at hok hgo⊢
   exact{
    sit:=HM.out.sit
    zs:=HM.out.zs
    nFz:=HM.out.nFz
    bw:=by omega
    mblk:=HMr.out
    rblk:=by
     have h1:=G6.out.chg HA.chg (fun e=>(HM.fb z e).1 rfl);show ai wr z _ #[_,uY z r'.st,_,_,_,_];rw [GD.out.st];exact h1
    rows:=G4.out.chgD HA.chg (fun b hb hl e=>by
     rcases hb with hb|hb
     ·exact(HM.fb b e).2.2.2.2 hb
     ·have:=CF.out b e;omega)
    iny:=G5.out.chg HA.chg (fun e=>(HM.fb q e).2.1 rfl) (fun e=>(HM.fb p e).2.2.1 rfl) (fun b hb e=>(HM.fb b e).2.2.2.1 hb)
    bd:=E7.out
    mpb:=HM.out.mpb
    mpn:=⟨HM.mpn.1,HM.mpn.2.1,HM.mpn.2.2.1,HM.mpn.2.2.2.1,fun e=>by
     rcases e with e|e
     ·exact HM.mpn.2.2.2.2 e
     ·have:=wE.out;omega⟩
    fb:=fun b hb=>by
     rcases hb with hb|hb
     ·have h1:=HM.out.fb b hb;have h2:=CF.out b hb
      exact⟨h1.1,h1.2.1,h1.2.2.1,h1.2.2.2.1,fun e=>e.elim h1.2.2.2.2 (fun e=>by omega)⟩
     ·have h1:=HM.out.zs.lt;have h2:=HM.out.sit.qB;have h3:=HM.out.sit.pB;exact⟨by omega,by omega,by omega,fun e=>by have:=HM.out.sit.lt b e;omega,fun e=>e.elim (fun e=>by have:=HM.out.drl b e;omega) (fun e=>by omega)⟩
    drl:=fun b hb=>by
     rcases hb with hb|hb
     ·have:=HM.out.drl b hb;omega
     ·omega
    ok:=hok
    go:=hgo}
end
section
open Go.RowKit
section
variable {S F Dr Fb:Nat→Prop} {w w':World} {mp z q p pb base:Nat} {A:Option Addr} {n cc:Nat} {us:List Value} {nd lf inn fl bl:Int} {K s:Nat} {m:bg}
end
end
section
open Go.RowKit
end
section
open Go.RowKit
end
section
open Go.RowKit
end
section
open Go.Proofs.Tryz
open Go.RowKit
theorem Hu (F Dr Fb:Nat→Prop) (mp z q p pb base hv:Nat) (A:Option Addr) (n cc:Nat) (us:List Value) (nd lf inn fl bl:Int) (K:Nat) (m:bg) (w:World) (h:LX w F Dr Fb mp z q p pb base hv A n cc us nd lf inn fl bl K m) (hK:K≤1152921504606846976):
  Calls prog 20 #[.pointer (some ⟨mp,0,none⟩)] w (LJ F Dr Fb mp z q p pb base nd lf inn fl bl K (m.step nd lf inn fl bl) w):=by
 cases hn:m.rdr.next.1 with
 |none=>exact DY F Dr Fb mp z q p pb base hv A n cc us nd lf inn fl bl K m w h hK hn
 |some es=>exact DZ F Dr Fb mp z q p pb base hv A n cc us nd lf inn fl bl K m es w h hK hn
def eG (s:Src):bg:=⟨⟨⟨s,0,0,0,none⟩,0,[],0,0⟩,[],false,none,0,0⟩
structure rX (s:Src):Prop where
 left:s.left.length≤1048576
 gives:s.gives.length≤1048576
 calls:s.calls=0
theorem l9 {nd lf inn fl bl:Int} {s:Src} (h:rX s) (hc:aY nd lf inn fl bl):(eG s).Ok nd lf inn fl bl 17825808:=by
 have h1:=h.left;have h2:=h.gives;have h3:=h.calls;exact⟨⟨fun _=>⟨fun _=>⟨Nat.zero_le _,by unfold ax.pot;simp only [eG];omega⟩,by simp [eG];omega,by simp only [eG];omega⟩,fun _=>rfl,LP,fun _=>⟨rfl,rfl⟩,fun h=>absurd h (by simp [eG]),Nat.zero_le _,fun _=>rfl⟩,fun _=>⟨by simp [eG],rfl,rfl,rfl,rfl⟩,C8 hc,fun t h=>by simp [eG] at h⟩
def VI (F:Nat→Prop) (p:Nat) (nd lf inn fl bl:Int) (s:Src) (w:World) (e:Ending) (w':World):Prop:=
 ∃(Fb:Nat→Prop) (mp z q pb base hv:Nat),e= .returned (.tuple #[.pointer (some ⟨mp,0,none⟩),.int .i64 0])∧LX w' F Nil Fb mp z q p pb base hv none 0 0 [] nd lf inn fl bl 17825808 (eG s)∧Below w.heap.size w w'∧(∀b,XS mp z q p Nil Fb b→b=p∨w.heap.size≤b)
theorem O1 (F:Nat→Prop) (p:Nat) (nd lf inn fl bl:Int) (s:Src) (w:World) (hc:aY nd lf inn fl bl) (hs:fU w F p s) (ho:rX s) (hp:p<w.heap.size) (hF:∀b,F b→b<w.heap.size∧b≠p):
  Calls prog 18 #[.agg #[.int .i64 nd,.int .i64 lf,.int .i64 inn,.int .i64 fl,.int .i64 bl],.iface 35 (.pointer (some ⟨p,0,none⟩))] w (VI F p nd lf inn fl bl s w):=by
 refine letter fun R HR=> ?_;have HS:=aa hs;have HO:=aa (l9 ho hc);have HF:=aa hF;have HP:=aa hp;obtain⟨w0,hw0⟩:∃W,W=w.alloc (.cells #[.int .i64 nd,.int .i64 lf,.int .i64 inn,.int .i64 fl,.int .i64 bl] 23):=⟨_,rfl⟩;have hb0:Below w.heap.size w w0:=by rw [hw0];exact(Below.refl _ _).alloc (Nat.le_refl _) _
 have HB0:=aa hb0;have O3:Hid (ai w0 w.heap.size 23 #[.int .i64 nd,.int .i64 lf,.int .i64 inn,.int .i64 fl,.int .i64 bl]):=aa (by rw [hw0];exact ai.new _ _ _);have HN:=aa (Ou nd lf inn fl bl Nil w0 hc);clear hs ho hF hp hc;go_enter func18,ntmps18
 go_upto_region 1 with fail
 rw [←hw0];clear hw0 hb0;obtain⟨z0,z1,z2,z3,z4⟩:=fK O3;go_upto_region 2 with(go_at_call 40;go_loud (refine HN.mono ?_);rintro e w1 ⟨pb,rfl,h1,h2⟩;have H1:=aa h1;have H2:=aa h2;clear h1 h2)
 clear z0 z1 z2 z3 z4;go_wp2_with (go_at_call 24;go_loud (refine(nN p w1).mono ?_);rintro e w2 ⟨z,rfl,h1,h2,h3,h4⟩;have H3:=aa h1;have H4:=aa h2;have H5:=aa h3;have H6:=aa h4;clear h1 h2 h3 h4)
 rw [HR.out];have hb3:Below w2.heap.size w2 (w2.alloc (.cells #[.pointer (some ⟨z,0,none⟩),.pointer (some ⟨pb,0,none⟩),.bool false,.pointer none,.nilIface] 139)):=(Below.refl _ _).alloc (Nat.le_refl _) _;have hk3:ai (w2.alloc (.cells #[.pointer (some ⟨z,0,none⟩),.pointer (some ⟨pb,0,none⟩),.bool false,.pointer none,.nilIface] 139)) w2.heap.size 139 #[.pointer (some ⟨z,0,none⟩),.pointer (some ⟨pb,0,none⟩),.bool false,.pointer none,.nilIface]:=ai.new _ _ _;obtain⟨w3,hw3⟩:∃W,W=w2.alloc (.cells #[.pointer (some ⟨z,0,none⟩),.pointer (some ⟨pb,0,none⟩),.bool false,.pointer none,.nilIface] 139):=⟨_,rfl⟩;rw [←hw3] at hb3 hk3⊢;have s0:=HB0.out.size;have s1:=H2.out.size;have s2:=H6.out.size;have s3:w2.heap.size<w3.heap.size:=hk3.lt;have hz:z<w2.heap.size:=H5.out.lt;have hpl:=HP.out;have h3:=H3.out;have B02:Below w.heap.size w w2:=(HB0.out.trans (H2.mono s0)).trans (H6.mono (by omega));have B03:Below w.heap.size w w3:=B02.trans (hb3.mono (by omega));have NK:∀b,w0.heap.size≤b∧b<w1.heap.size→w.heap.size≤b:=fun b hb=>by omega
 refine⟨(fun b=>w0.heap.size≤b∧b<w1.heap.size),w2.heap.size,z,w1.heap.size,pb,w3.heap.size,0,rfl,?_,B03,fun b hb=> ?_⟩
 ·exact{
   sit:=⟨fun e=>(HF p e).2 rfl,fun e=>by have:=(HF.out _ e).1;omega,by omega,fun b hb=>by have:=(HF.out b hb).1;omega,by omega,by omega⟩
   zs:=⟨by omega,by omega,by omega⟩
   nFz:=fun e=>by have:=(HF.out z e).1;omega
   bw:=Nat.le_refl _
   mblk:=hk3
   rblk:=by
    have h5:=H5.out.below hb3;exact h5
   rows:=bG.nil _ _
   iny:=⟨H4.below hb3,HS.below B03,fun x hx=>by cases hx⟩
   bd:=((H1.below H6).below hb3)
   mpb:=s3
   mpn:=⟨by omega,by omega,by omega,fun e=>by have:=(HF.out _ e).1;omega,fun e=>by omega⟩
   fb:=fun b hb=>⟨by omega,by omega,by omega,fun e=>by have:=(HF.out b e).1;omega,fun e=>e.elim⟩
   drl:=fun b hb=>hb.elim
   ok:=HO.out
   go:=rfl}
 ·rcases hb with hb|hb|hb|hb|hb|hb
  ·exact .inr (by omega)
  ·exact .inr (by omega)
  ·exact .inr (by omega)
  ·exact .inl hb
  ·exact hb.elim
  ·exact .inr (by omega)
end
section
open Go.RowKit
end
end Go.Proofs.YtbjgeidjmhialaaGreatDoor
