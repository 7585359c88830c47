/- Part 24. -/
import Derived.Test.YtbjgeidjmhialaaGreatDoorLa23
import Derived.Stop.Asserts
import Derived.LaidEql
namespace Go.Proofs.YtbjgeidjmhialaaGreatDoor
set_option maxRecDepth 100000
set_option maxHeartbeats 8000000
section
open Go.Proofs.Tryz
open Go.RowKit
theorem vo (F D:Nat→Prop) (z q p base:Nat) (fk:Nat) (v0 v1 v2' v3 v4 v5:Value) (A:Option Addr) (n cc:Nat) (us:List Value) (o:Option (List aH)) (r:aU) (w:World)
  (h:ai w z 150 #[v0,.func (.func fk) #[.pointer (some ⟨z,0,none⟩)] #[],.slice none 0 0,v3,v4,v5])
  (Vm:∀args w',(callFunc fk args).run prog w'= .ok (.enter fk args) w')
  (hc:Calls prog fk #[.pointer (some ⟨z,0,none⟩)] w (l8 F z q p base D v1 v2' A n cc us o r w)):
  Calls prog 41 #[.pointer (some ⟨z,0,none⟩)] w (l8 F z q p base D v1 v2' A n cc us o r w):=by
 have HC:=aa hc;refine letter fun R HR=> ?_;have z1:w.cell? ⟨z,1,none⟩=some (.func (.func fk) #[.pointer (some ⟨z,0,none⟩)] #[]):=h.cell 1;have z2:w.cell? ⟨z,2,none⟩=some (.slice none 0 0):=h.cell 2;clear h hc
 cases o with
 |none=>
  go_enter func41,ntmps41
  go_wp2_with ((refine HC.mono ?_);intro e w4 hf;have ny:=aa hf;obtain⟨rfl,_,_⟩:=hf.no rfl;clear hf)
  rw [HR.out]
  exact ny
 |some es=>
  go_enter func41,ntmps41
  go_wp2_with ((refine HC.mono ?_);intro e w4 hf;have ny:=aa hf;obtain⟨eA,en,ec,A',n',pu,lh,hv',rfl,-,-,-,-,-,-⟩:=hf.yes es rfl;clear hf)
  rw [HR.out];exact ny
end
section
open Go.Proofs.Tryz
open Go.RowKit
def RU (w:World) (s:Src) (e:Ending) (w':World):Prop:=
 ∃p,e= .returned (.pointer (some ⟨p,0,none⟩))∧w.heap.size≤p∧p<w'.heap.size∧fU w' (fun b=>w.heap.size≤b∧b<p) p s∧Below w.heap.size w w'
theorem LG (l:List Int):∀u∈lK l,u.oneCell'=true:=by
 intro u hu;simp only [lK,List.mem_map] at hu;obtain⟨x,_,rfl⟩:=hu;rfl
noncomputable def Zo:Code:=aP (f7.body.bind (aA 1))
theorem OZ (F:Nat→Prop) (x bn bc gn gc:Nat) (bA gA:Option Addr) (bs:List UInt8) (gs:List Int) (f:Int) (ea:Bool) (w:World) {u0 u2 u3 u4 u5 u6 u7 u8 u9 u10 u11 u12 u13 bN bq:Value} (Q:Exit→Act→World→Prop) (nC:Hid (∀c t (a:Act) w,Q (.panic c) ⟨t,a.defers⟩ w→Q (.panic c) a w))
  (HX:Hid (ai w x 27 #[.slice bA bn bc,.slice gA gn gc,.int .i64 f,.bool ea])) (HB:Hid (Rd w F 1 bA bn (aK bs))) (HN:Hid (bn=bs.length)) (hn2:bn≤1152921504606) (HG:Hid (Rd w F 1 gA gn (lK gs))) (hg2:gn≤1152921504606)
  (au:∀(v3 v4 v5 v6 v7 v8 v9 v10 v11 v12 v13 v14:Value) (p:Nat) (w':World),w.heap.size≤p→p<w'.heap.size→fU w' (fun b=>w.heap.size≤b∧b<p) p ⟨bs,gs,f,ea,0⟩→Below w.heap.size w w'→Q .normal ⟨(u0:: .pointer (some ⟨x,0,none⟩):: .pointer (some ⟨p,0,none⟩)::v3::v4::v5::v6::v7::v8::v9::v10::v11::v12::v13::v14:: .pointer (some ⟨p,0,none⟩):: []).toArray,[]⟩ w'):
  Code.wp prog Zo Q ⟨(u0:: .pointer (some ⟨x,0,none⟩)::u2::u3::u4::u5::u6::u7::u8::u9::u10::u11::u12::u13::bN::bq:: []).toArray,[]⟩ w:=by
 have dF:=aa au;have HD:Hid (Below w.heap.size w w.drew):=aa (Below.refl _ _).drew;have S0:w.drew.cell? ⟨x,0,none⟩=some (.slice bA bn bc)∧w.drew.cell? ⟨x,1,none⟩=some (.slice gA gn gc)∧w.drew.cell? ⟨x,2,none⟩=some (.int .i64 f)∧w.drew.cell? ⟨x,3,none⟩=some (.bool ea):=⟨(HX.cell 0).trans rfl,(HX.cell 1).trans rfl,(HX.cell 2).trans rfl,(HX.cell 3).trans rfl⟩;clear au;conv=>arg 2;whnf
 refine aX (fun w'=>w'.cell? ⟨x,0,none⟩=some (.slice bA bn bc)∧w'.cell? ⟨x,1,none⟩=some (.slice gA gn gc)∧w'.cell? ⟨x,2,none⟩=some (.int .i64 f)∧w'.cell? ⟨x,3,none⟩=some (.bool ea)) (by kernel_rfl) ?_;refine vT 0 S0 ?_;refine vT 3 S0 ?_;refine vT 6 S0 ?_;refine vT 9 S0 ?_;refine vT 1 S0 ?_;refine vT 4 S0 ?_;refine vT 7 S0 ?_;refine vT 10 S0 ?_;refine aR (i:=2) (by kernel_rfl) rfl (fun K hK=> ?_);go_simp
 go_loud (refine(nG gA gn gc F (lK gs) w.drew (HG.below HD) (LG gs) hg2).mono ?_);rintro e w1 ⟨A1,c1,rfl,q1,q2,q3,q4⟩;have yC:Hid (Rd w1 (fun b=>w.heap.size≤b∧b<w1.heap.size) 1 A1 gn (lK gs)):=aa ((q3.lt (by omega)).weak (fun b hb=>⟨hb.1.1,hb.2⟩));have HB1:Hid (Below w.heap.size w w1):=aa (HD.out.trans q4);have S1:w1.cell? ⟨x,0,none⟩=some (.slice bA bn bc)∧w1.cell? ⟨x,1,none⟩=some (.slice gA gn gc)∧w1.cell? ⟨x,2,none⟩=some (.int .i64 f)∧w1.cell? ⟨x,3,none⟩=some (.bool ea):=⟨ak q4 S0.1,ak q4 S0.2.1,ak q4 S0.2.2.1,ak q4 S0.2.2.2⟩;clear q1 q2 q3 q4
 refine hK.out _ _ S1 ?_;clear hK K;try simp only [aL,aN,aZ,aC]
 refine vT 5 S1 ?_;refine aR (i:=8) (by kernel_rfl) rfl (fun K hK=> ?_);go_simp
 go_loud (refine(dm bA bn bc F bs w1 (HB.below HB1) HN hn2).mono ?_);rintro e w2 ⟨A2,n2,c2,rfl,q1,q2,q3,q5,q4⟩;have wF:=aa ((yC.below q4));have HS2:Hid (SB w2 (fun b=>w.heap.size≤b∧b<w2.heap.size) (.slice A2 n2 c2) bs):=aa ((SB.mk q1 q2 q3.out q5).lt.weak (fun b hb=>⟨Nat.le_trans HB1.size hb.1.1,hb.2⟩));have HB2:Hid (Below w.heap.size w w2):=aa (HB1.out.trans (q4.mono HB1.size));have Zp:=aa q4.size;have S2:w2.cell? ⟨x,0,none⟩=some (.slice bA bn bc)∧w2.cell? ⟨x,1,none⟩=some (.slice gA gn gc)∧w2.cell? ⟨x,2,none⟩=some (.int .i64 f)∧w2.cell? ⟨x,3,none⟩=some (.bool ea):=⟨ak q4 S1.1,ak q4 S1.2.1,ak q4 S1.2.2.1,ak q4 S1.2.2.2⟩;clear q1 q2 q3 q4 q5
 refine hK.out _ _ S2 ?_;clear hK K;try simp only [aL,aN,aZ,aC]
 refine vT 11 S2 ?_;refine aR (i:=12) (by kernel_rfl) rfl (fun K hK=> ?_);go_simp
 obtain⟨w3,hw3⟩:∃W,W=w2.alloc (.cells #[.slice A1 gn c1,.int .i64 f,.int .i64 0,.slice A2 n2 c2,.bool ea] 72):=⟨_,rfl⟩;rw [←hw3];have hb3:Below w2.heap.size w2 w3:=(by rw [hw3];exact(Below.refl _ _).alloc (Nat.le_refl _) _);have jw:Hid (ai w3 w2.heap.size 72 #[.slice A1 gn c1,.int .i64 f,.int .i64 0,.slice A2 n2 c2,.bool ea]):=aa (by rw [hw3];exact ai.new _ _ _);have HB3:=aa hb3;have S3:w3.cell? ⟨x,0,none⟩=some (.slice bA bn bc)∧w3.cell? ⟨x,1,none⟩=some (.slice gA gn gc)∧w3.cell? ⟨x,2,none⟩=some (.int .i64 f)∧w3.cell? ⟨x,3,none⟩=some (.bool ea):=⟨ak hb3 S2.1,ak hb3 S2.2.1,ak hb3 S2.2.2.1,ak hb3 S2.2.2.2⟩;clear hw3 hb3;refine hK.out _ _ S3 ?_;clear hK K;try simp only [aL,aN,aZ,aC]
 refine vT 13 S3 ?_;refine bP (by kernel_rfl) ?_ _;refine dF _ _ _ _ _ _ _ _ _ _ _ _ w2.heap.size w3 HB2.size jw.lt ⟨A1,A2,gn,c1,n2,c2,jw,(wF.below HB3).weak (fun b hb=>⟨hb.1,Nat.lt_of_lt_of_le hb.2 Zp⟩),HS2.below HB3⟩ (HB2.out.trans (HB3.mono HB2.size))
theorem jL (F:Nat→Prop) (bn bc gn gc:Nat) (bA gA:Option Addr) (bs:List UInt8) (gs:List Int) (f:Int) (ea:Bool) (w:World) (hb:Rd w F 1 bA bn (aK bs)) (hn:bn=bs.length) (hn2:bn≤1152921504606) (hg:Rd w F 1 gA gn (lK gs)) (hg2:gn≤1152921504606):
  Calls prog 7 #[.agg #[.slice bA bn bc,.slice gA gn gc,.int .i64 f,.bool ea]] w (RU w ⟨bs,gs,f,ea,0⟩):=by
 refine letter fun R HR=> ?_;have b1:Below w.heap.size w (w.alloc (.cells #[.slice bA bn bc,.slice gA gn gc,.int .i64 f,.bool ea] 27)):=(Below.refl _ _).alloc (Nat.le_refl _) _;have HK:Hid (ai (w.alloc (.cells #[.slice bA bn bc,.slice gA gn gc,.int .i64 f,.bool ea] 27)) w.heap.size 27 #[.slice bA bn bc,.slice gA gn gc,.int .i64 f,.bool ea]):=aa (ai.new _ _ _);have HB:=aa (hb.below b1);have HG:=aa (hg.below b1);have HB1:=aa b1;have HN:=aa hn;clear b1 hb hg hn;go_enter func7,ntmps7
 go_upto_region 1 with fail
 refine OZ F w.heap.size bn bc gn gc bA gA bs gs f ea _ _ (aa (fun _ _ _ _ h=>h)) HK HB HN hn2 HG hg2 ?_;intro v3 v4 v5 v6 v7 v8 v9 v10 v11 v12 v13 v14 p w2 h1 h2 h3 h4;have H1:=aa h1;have H2:=aa h2;have H3:=aa h3;have H4:=aa h4;clear h1 h2 h3 h4;go_wp2;rw [HR.out];have hs:w.heap.size≤(w.alloc (.cells #[.slice bA bn bc,.slice gA gn gc,.int .i64 f,.bool ea] 27)).heap.size:=HB1.out.size;obtain⟨a1,a2,a3,a4,a5,a6,y⟩:=H3.out;exact⟨p,rfl,Nat.le_trans hs H1,H2,⟨a1,a2,a3,a4,a5,a6,y.blk,y.gv.weak (fun b hb=>⟨Nat.le_trans hs hb.1,hb.2⟩),y.sb.weak (fun b hb=>⟨Nat.le_trans hs hb.1,hb.2⟩)⟩,HB1.out.trans (H4.mono hs)⟩
end
section
open Go.RowKit Go.Extern
section
variable {P:Program} (w:World)
end
end
section
open Go.Proofs.Tryz
open Go.RowKit
def uR (sl:List bB) (i:Nat):Bool:=match sl[i]? with|some s=>s.1%2==1|none=>false
def iT (sl:List bB) (k:Nat):List Int:=((List.range k).filter (uR sl)).map fun(i:Nat)=>(i:Int)+1
theorem DR {sl:List bB} {k:Nat} {s:bB} (h:sl[k]? =some s) (ho:s.1%2=1):iT sl (k+1)=iT sl k++ [(k:Int)+1]:=by
 have hk:uR sl k=true:=by simp [uR,h,ho]
 simp [iT,List.range_succ,List.filter_append,hk]
theorem GZ {sl:List bB} {k:Nat} {s:bB} (h:sl[k]? =some s) (ho:s.1%2=0):iT sl (k+1)=iT sl k:=by
 have hk:uR sl k=false:=by simp [uR,h,ho]
 simp [iT,List.range_succ,List.filter_append,hk]
def OO (w:World) (ks:List Int) (e:Ending) (w':World):Prop:=∃A n c,e= .returned (.slice A n c)∧It w' (From w.heap.size) A n c ks∧w'.ownsRow w.heap.size 3 1 (.slice A n c) n (ks.map (Value.int .i64))∧Below w.heap.size w w'
theorem pM (F:Nat→Prop) (p:Nat) (nodes root:Int) (sl:List bB) (w:World) (h:gm w F p nodes sl root) (hn:sl.length≤65536) (hw:∀s∈sl,0≤s.1∧s.1≤4611686018427387904):
  Calls prog 14 #[.pointer (some ⟨p,0,none⟩)] w (OO w (iT sl sl.length)):=by
 obtain⟨i0,hi0,jO,jP,jQ⟩:=info_parts pF;obtain⟨A,n,c,bs,hY⟩:=h;have e1:n=sl.length:=hY.len;have HL:=aa e1;have h4:n≤65536:=by omega
 obtain⟨c0,c1,c2,cf⟩:=hY.cells;have HY:=aa hY;have HW:=aa hw;clear e1 hn hY hw;go_enter func14,ntmps14
 go_wp2
 go_loopg [3,11] n (fun g vs i wr=>∃(k m:Nat) (v:Value),g=n-k∧k≤n∧i= .int .i64 k∧v=vs∧Hid (m=(iT sl k).length)∧m≤k∧wr.ownsRow w.heap.size 3 1 v m ((iT sl k).map (Value.int .i64))∧Below w.heap.size w wr)
 case atStart=>exact⟨0,0,_,by omega,by omega,rfl,rfl,rfl,by omega,World.ownsRow_nil _ _ _ _,Below.refl _ _⟩
 case round=>
  obtain⟨k,m,v,hg,hk,rfl,rfl,HM,hmk,hown,hbl⟩:=hrel;have HG:=aa hg;have HO:=aa hown;clear hg hown
  by_cases hlt:k<n
  ·have xg:=HY.out.below hbl;obtain⟨r,g,rfl,hbg,hcell⟩:=xg.at_ hlt;have hsl:k<sl.length:=by have:=HL.out;omega
   obtain⟨s,hs⟩:∃s,sl[k]? =some s:=⟨_,List.getElem?_eq_getElem hsl⟩;obtain⟨hA,hn',hc,kA,kn,kc,vA,vn,vc,dA,dn,dc,hb,_⟩:=xg.slot _ g s hbg hs;obtain⟨z0,z1,z2,z3,z4,z5,z6,z7⟩:=yg hb;obtain⟨w0,w1⟩:=HW.out s (List.mem_of_getElem? hs);have HS:=aa hs;have hand:bits BinOp.and IntKind.u64 s.1 1=s.1%2:=and_one_u64 s.1 w0 (by omega);have hsz:=hbl.size;clear hs hbg hb xg
   by_cases ho:s.1%2=1
   ·have hev:(s.1%2==1)=true:=by rw [beq_iff_eq];exact ho
    have HT:=aa (DR HS ho);clear ho;go_wp2_with (first|(go_at_call 36;refine(lW _ _ _ _ z0).mono ?_;rintro e w' ⟨rfl,rfl⟩)|(at_builtin;refine af _ rfl (.tmp 22) (.tmp 25) _ rfl w.heap.size 3 i0 _ 1 8 underlying25 hi0 jO jP jQ rfl (by omega) v m ((iT sl k).map (Value.int .i64)) rfl (HO.alloc _) (From wr.heap.size) (some ⟨wr.heap.size,0,none⟩) 1 1 [.int .i64 ((k:Int)+1)] rfl (Rd.one wr _ _) (by intro u hu;simp at hu;subst hu;rfl) (by simp only [maxLen];omega) (by omega) (by simp;omega) ?_;intro v2 w2 hown2 hg2 gP;have iV:=aa hown2;clear hown2 gP))
    go_roundg (n-(k+1))
    case measure=>have:=HG.out;omega
    case rel=>exact⟨k+1,m+1,v2,rfl,by omega,by go_num,rfl,aa (by rw [HT.out];simp [HM.out.symm]),by omega,by rw [HT.out,List.map_append];exact iV,(hbl.alloc hsz _).grown hg2 (by simp;omega) (fun j hj=>(ah HO j hj).1)⟩
   ·have ho0:s.1%2=0:=by omega
    have hev:(s.1%2==1)=false:=by rw [beq_eq_false_iff_ne];exact ho
    have HT:=aa (GZ HS ho0);clear ho ho0;go_wp2_with (first|(go_at_call 36;refine(lW _ _ _ _ z0).mono ?_;rintro e w' ⟨rfl,rfl⟩))
    go_roundg (n-(k+1))
    case measure=>have:=HG.out;omega
    case rel=>exact⟨k+1,m,v,rfl,by omega,by go_num,rfl,aa (by rw [HT.out];exact HM),by omega,by rw [HT.out];exact HO,hbl⟩
  ·have HK:Hid (k=sl.length):=aa (by have:=HL.out;omega);go_wp2;go_ret
   obtain⟨A',c',hv,h1,h2⟩:=ay HO;have Zh:=HO.out;rw [hv] at Zh;rw [←HK.out];exact⟨A',m,c',by rw [hv];rfl,⟨h1,h2,HM,Rd.of_own Zh⟩,Zh,hbl⟩
end
section
open Go.RowKit
section
variable {S F G:Nat→Prop} {w w':World} {A:Option Addr} {n:Nat} {sl:List bB} {p:Nat} {nodes top:Int}
end
end
section
open Go.RowKit
theorem jB {sl:List bB} (h:∀s∈sl,s.1%2=0) (k:Nat):iT sl k= []:=by
 have:(List.range k).filter (uR sl)= []:=by
  rw [List.filter_eq_nil_iff];intro i _;unfold uR
  cases hs:sl[i]? with
  |none=>simp
  |some s=>have:=h s (List.mem_of_getElem? hs);simp;omega
 simp [iT,this]
end
section
open Go.RowKit
end
section
open Go.RowKit
section
variable {S F G:Nat→Prop} {w w':World} {A:Option Addr} {n c g hi:Nat} {P:Value→Prop}
end
end
section
open Go.RowKit
end
section
open Go.RowKit
end
section
open Go.Proofs.Tryz
open Go.RowKit
def yD (w:World) (s:Nat) (v:Value) (e a:Int):Prop:=(e=0∧v= .nilIface)∨(e≠0∧∃g,v= .iface 41 (.pointer (some ⟨g,0,none⟩))∧ai w g 45 #[.int .i64 e,.int .i64 a]∧s≤g)
theorem yD.chg {S:Nat→Prop} {w w':World} {s:Nat} {v:Value} {e a:Int} (h:yD w s v e a) (hc:ag S w w') (hs:∀b,s≤b→¬S b):yD w' s v e a:=by
 rcases h with h|⟨h,g,h1,h2,h3⟩
 ·exact .inl h
 ·exact .inr ⟨h,g,h1,h2.chg hc (hs g h3),h3⟩
theorem Bw (a:Int) (w:World):Calls prog 19 #[.int .i64 0,.int .i64 a] w fun en w'=>en= .returned .nilIface∧w'=w:=by
 go_enter func19,ntmps19
 go_wp2;go_ret
 exact⟨rfl,rfl⟩
theorem sF (e a:Int) (w:World) (he:e≠0):Calls prog 19 #[.int .i64 e,.int .i64 a] w fun en w'=>en= .returned (.iface 41 (.pointer (some ⟨w.heap.size,0,none⟩)))∧ai w' w.heap.size 45 #[.int .i64 e,.int .i64 a]∧Below w.heap.size w w':=by
 have he':(e==0)=false:=by rw [beq_eq_false_iff_ne];exact he
 go_enter func19,ntmps19
 go_wp2;go_ret
 exact⟨rfl,ai.new _ _ _,(Below.refl _ _).alloc (Nat.le_refl _) _⟩
end
section
open Go.Proofs.Tryz
open Go.RowKit
theorem bG.one {D:Nat→Prop} {w:World} {base:Nat} {v:Value} {n:Nat} {l:List Row} {us:List Value} (h:bG w base D v n l us):∀u∈us,u.oneCell'=true:=by
 intro u hu;obtain⟨k,hk,rfl⟩:=List.mem_iff_getElem.mp hu;have h1:=h.own.1;have h2:=h.len;have h3:k/4<l.length:=by omega
 obtain⟨u0,a,b,c,d,s⟩:=h.at_ (k/4) _ (List.getElem?_eq_getElem h3);obtain⟨t,ht⟩:∃t,t=us[k]:=⟨_,rfl⟩;have h4:us[k]? =some t:=by rw [ht];exact List.getElem?_eq_getElem hk
 rw [←ht];clear ht;have h5:k=k/4*4∨k=k/4*4+1∨k=k/4*4+2∨k=k/4*4+3:=by omega
 obtain⟨A,m,q,hs,_⟩:=s
 rcases h5 with e|e|e|e
 ·rw [e] at h4;rw [a] at h4;injection h4 with h4;rw [←h4,hs];rfl
 ·rw [e] at h4;rw [b] at h4;injection h4 with h4;rw [←h4];rfl
 ·rw [e] at h4;rw [c] at h4;injection h4 with h4;rw [←h4];rfl
 ·rw [e] at h4;rw [d] at h4;injection h4 with h4;rw [←h4];rfl
theorem uX (a:Addr) (n c:Nat) (F:Nat→Prop) (us:List Value) (w:World) (h:Rd w F 4 (some a) n us) (h1:∀u∈us,u.oneCell'=true) (hn2:n≤8388608):
  Calls prog 96 #[.slice (some a) n c] w fun e w'=>∃v,e= .returned v∧w'.ownsRow w.heap.size 146 4 v n us∧Below w.heap.size w w':=by
 obtain⟨i0,hi0,hz0,hz1,hz2⟩:=info_parts rz;have hq:=fun(w:World) (a:Option Addr) (n c:Nat)=>Lib.run_eql_slice_nil (P:=prog) w 143 146 a n c 0 0 underlying143;go_enter func96,ntmps96
 go_wp2_with (at_builtin;refine af _ rfl (.tmp 5) (.tmp 6) _ rfl w.heap.size 146 i0 _ 4 48 underlying143 hi0 hz0 hz1 hz2 rfl (by omega) (.slice (some ⟨w.heap.size,0,none⟩) 0 0) 0 [] rfl (lU w _ 4) F (some a) n c us rfl (h.alloc _) h1 (by simp only [maxLen];omega) (by omega) (by simp) ?_;intro v1 w1 hown1 hg1 iX)
 go_ret
 simp only [Nat.zero_add,List.nil_append] at hown1;refine⟨_,rfl,hown1,((Below.refl _ _).alloc (Nat.le_refl _) _).grown hg1 (by simp) (fun k hk=> ?_)⟩;simp [Value.ownBlock] at hk;omega
def VE (w:World) (n:Nat) (l:List Row) (e:Ending) (w':World):Prop:=
 ∃g cc,w.heap.size≤g∧e= .returned (.slice (some ⟨g,0,none⟩) n cc)∧(∀(j:Nat) (x:Row),l[j]? =some x→w'.cell? ⟨g,j*4+1,none⟩=some (.int .i64 (x.at_:Nat)))∧Below w.heap.size w w'
structure VF (w:World) (g i:Nat) (l:List Row) (w1 wr:World):Prop where
 at_:∀(j:Nat) (x:Row),l[j]? =some x→wr.cell? ⟨g,j*4+1,none⟩=some (.int .i64 (x.at_:Nat))
 key:∀(j:Nat) (x:Row),i≤j→l[j]? =some x→∃u,wr.cell? ⟨g,j*4,none⟩=some u∧SB wr (fun b=>b<w.heap.size) u x.last
 soft:jb wr g
 gw:w.heap.size≤g
 gl:g<wr.heap.size
 chg:ag (fun b=>b=g) w1 wr
theorem DW (D:Nat→Prop) (base:Nat) (a:Addr) (n c:Nat) (l:List Row) (us:List Value) (w:World) (h:bG w base D (.slice (some a) n c) n l us) (hn:0<n) (hn2:n≤8388608) (hk:∀x∈l,x.last.length≤64):
  Calls prog 72 #[.slice (some a) n c] w (VE w n l):=by
 refine letter fun R HR=> ?_;have HH:=aa h;have HL:=aa h.len;have HK:=aa hk;clear h hk;go_enter func72,ntmps72
 go_upto_region 2 with(go_at_call 96;go_loud (refine(uX a n c _ us w (Rd.of_own HH.own) HH.one hn2).mono ?_);rintro e w1 ⟨v,rfl,ho,hb⟩;obtain⟨g,gc,rfl,hgw,_⟩:=ho.form (by omega);have HO:=aa ho;have HB:=aa hb;have HG:=aa hgw;clear ho hb hgw)
 have HST:Hid (VF w g 0 l w1 w1):=aa (by
  have hus:=HO.out.1;have h2:=HL.out
  refine⟨fun j x hj=> ?_,fun j x _ hj=> ?_,?_,?_,(ah HO g rfl).2,ag.refl _ _⟩
  ·have hj2:=(List.getElem?_eq_some_iff.mp hj).1;obtain⟨u,e1,e2,e3,e4,s⟩:=HH.out.at_ j x hj
   rw [HO.out.cellAt (j*4+1) (by omega)];exact e2
  ·have hj2:=(List.getElem?_eq_some_iff.mp hj).1;obtain⟨u,e1,e2,e3,e4,s⟩:=HH.out.at_ j x hj
   exact⟨u,by rw [HO.out.cellAt (j*4) (by omega)];exact e1,(s.lt.weak (fun b hb=>hb.2)).below HB⟩
  ·obtain⟨b,o,e,hs,_⟩:=(Rd.soft_of_own HO).2 hn
   injection e with e;injection e with e1 e2;subst e1;exact hs.2
  ·exact(ah HO g rfl).1)
 clear HO;go_wp2
 go_loopg [9] n (fun g' iv wz=>∃i:Nat,g'=n-i∧i≤n∧iv= .int .i64 i∧Hid (VF w g i l w1 wz)∧Hid (Below w.heap.size w wz))
 case atStart=>exact⟨0,by omega,by omega,rfl,HST,HB⟩
 case round=>
  obtain⟨i,hg,hi,rfl,HS,uB⟩:=hrel;have Zq:=aa hg;clear hg
  by_cases hlt:i<n
  ·have hlt':(i:Int)<(n:Int):=by omega
   obtain⟨x,hx⟩:∃x,l[i]? =some x:=⟨_,List.getElem?_eq_getElem (by have:=HL.out;omega)⟩;obtain⟨u,hu,K,kn,kc,rfl,q1,q2,q3,q4⟩:=HS.out.key i x (Nat.le_refl _) hx;have HX:=aa hx;have jy:=aa (dm K kn kc _ x.last wr q4 q3 (by have:=HK.out x (List.mem_of_getElem? hx);omega));have hsf:wr.frozen? ⟨g,i*4,none⟩=false:=HS.out.soft _;clear hx q1 q2 q3 q4;go_wp2_with (go_at_call 23;go_loud (refine jy.mono ?_);rintro e w2 ⟨J,jn,jc,rfl,r1,r2,r3,r4,r5⟩;have HB2:=aa r5;have aj2:w2.frozen? ⟨g,i*4,none⟩=false:=(jb.chg (S:=Nil) HS.soft (ag.of_below r5) HS.gl (fun h=>h)) _;have hu2:=ak r5 hu;clear r1 r2 r3 r4 r5)
   go_roundg (n-(i+1))
   case measure=>have:=Zq.out;omega
   case rel=>
    have hcs:ag (fun b=>b=g) wr (w2.setCell ⟨g,i*4,none⟩ (.slice J jn jc)):=(ag.of_below (S:=fun b=>b=g) HB2).setCell (p:=⟨g,i*4,none⟩) (fun _=>rfl) _
    refine⟨i+1,rfl,by omega,by go_num,aa ⟨fun j y hj=> ?_,fun j y hj hy=> ?_,?_,HS.gw,Nat.lt_of_lt_of_le HS.gl hcs.size,HS.chg.trans hcs (fun _ _ h=>h)⟩,aa (uB.out.trans (hcs.below_of uB.size (fun b hb e=>by have e:b=g:=e;have:=HS.out.gw;omega)))⟩
    ·rw [World.cell?_setCell_other _ _ _ _ (fun e=>by injection e with e1 e2;omega)]
     exact ak HB2 (HS.at_ j y hj)
    ·obtain⟨u,e1,e2⟩:=HS.out.key j y (by omega) hy;refine⟨u,?_,e2.chg hcs (fun b hb e=>by have e:b=g:=e;have:=HS.out.gw;omega)⟩;rw [World.cell?_setCell_other _ _ _ _ (fun e=>by injection e with e1 e2;omega)]
     exact ak HB2 e1
    ·intro o;rw [World.frozen?_setCell]
     exact(jb.chg (S:=Nil) HS.soft (ag.of_below HB2) HS.gl (fun h=>h)) o
  ·have hin:i=n:=by omega
   go_wp2;rw [HR.out]
   exact⟨g,gc,HS.gw,rfl,HS.at_,uB⟩
theorem Hr (D:Nat→Prop) (z base:Nat) (v0 v1 v2 v4 v5:Value) (a:Addr) (n c:Nat) (l:List Row) (us:List Value) (w:World) (hb:ai w z 150 #[v0,v1,v2,.slice (some a) n c,v4,v5]) (h:bG w base D (.slice (some a) n c) n l us) (hn:0<n) (hn2:n≤8388608) (hk:∀x∈l,x.last.length≤64):
  Calls prog 44 #[.pointer (some ⟨z,0,none⟩)] w (VE w n l):=by
 have HC:=aa (DW D base a n c l us w h hn hn2 hk);refine letter fun R HR=> ?_;have z3:w.cell? ⟨z,3,none⟩=some (.slice (some a) n c):=hb.cell 3;clear hb h hk;go_enter func44,ntmps44
 go_wp2_with (go_at_call 72;go_loud (refine HC.mono ?_);rintro e w1 ⟨g,cc,h0,rfl,h1,h2⟩;have H0:=aa h0;have H1:=aa h1;have H2:=aa h2;clear h0 h1 h2)
 rw [HR.out];exact⟨g,cc,H0,rfl,H1,H2⟩
end
section
open Go.Proofs.Tryz
open Go.RowKit
structure gW (w:World) (base:Nat) (mD:List Value) (j i:Nat) (kv vv:Value) (iN tq:List Value):Prop where
 k:w.ownsRow base 24 1 kv j iN
 v:w.ownsRow base 24 1 vv i tq
 dis:∀g,kv.ownBlock=some g→vv.ownBlock≠some g
 ku:∀a,a<j→iN[a]? =mD[2*a]?
 vu:∀a,a<i→tq[a]? =mD[2*a+1]?
theorem gW.nil (w:World) (base:Nat) (mD:List Value):gW w base mD 0 0 (.slice none 0 0) (.slice none 0 0) [] []:=
 ⟨World.ownsRow_nil _ _ _ _,World.ownsRow_nil _ _ _ _,fun g h=>by simp [Value.ownBlock] at h,fun a ha=>absurd ha (by omega),fun a ha=>absurd ha (by omega)⟩
theorem pE {j:Nat} {us:List Value} {ps:List Value} {u:Value} {f:Nat→Nat} (h:∀a,a<j→us[a]? =ps[f a]?) (hl:us.length=j) (hu:ps[f j]? =some u):∀a,a<j+1→(us++ [u])[a]? =ps[f a]? :=by
 intro a ha
 rcases Nat.lt_or_ge a j with h'|h'
 ·rw [List.getElem?_append_left (by omega)];exact h a h'
 ·obtain rfl:a=j:=by omega
  rw [List.getElem?_append_right (by omega),hl,hu];simp
theorem gW.below {w w':World} {base:Nat} {mD:List Value} {j i:Nat} {kv vv:Value} {iN tq:List Value} (h:gW w base mD j i kv vv iN tq) (hb:Below w.heap.size w w'):gW w' base mD j i kv vv iN tq:=
 ⟨own_below h.k hb,own_below h.v hb,h.dis,h.ku,h.vu⟩
theorem gW.far {w:World} {base:Nat} {mD:List Value} {j i:Nat} {kv vv:Value} {iN tq:List Value} (h:gW w base mD j i kv vv iN tq) {b:Nat} (o:Nat) (u:Value) (hb:b<base):gW (w.setCell ⟨b,o,none⟩ u) base mD j i kv vv iN tq:=
 ⟨aF h.k (ag.set1 w b o u) (fun g hg e=>by have:=(ah h.k g hg).1;have e:g=b:=e;omega),aF h.v (ag.set1 w b o u) (fun g hg e=>by have:=(ah h.v g hg).1;have e:g=b:=e;omega),h.dis,h.ku,h.vu⟩
theorem gW.key {w w2:World} {base:Nat} {mD:List Value} {j i:Nat} {kv vv v2 u:Value} {iN tq:List Value} (h:gW w base mD j i kv vv iN tq) (ho:w2.ownsRow base 24 1 v2 (j+1) (iN++ [u])) (hg:w.grownBy w2 kv.ownBlock) (hat:v2.ownBlock=kv.ownBlock∨v2.ownBlock=some w.heap.size)
  (hu:mD[2*j]? =some u):gW w2 base mD (j+1) i v2 vv (iN++ [u]) tq:=
 ⟨ho,aF h.v (ag.of_grown hg) (fun g hv hk=>h.dis g hk hv),fun g hk hv=>hat.elim (fun e=>h.dis g (e▸hk) hv) (fun e=>by rw [e] at hk;injection hk with hk;have:=(ah h.v g hv).2;omega),pE (f:=fun a=>2*a) h.ku (by have:=h.k.1;omega) hu,h.vu⟩
theorem gW.val {w w2:World} {base:Nat} {mD:List Value} {j i:Nat} {kv vv v2 u:Value} {iN tq:List Value} (h:gW w base mD j i kv vv iN tq) (ho:w2.ownsRow base 24 1 v2 (i+1) (tq++ [u])) (hg:w.grownBy w2 vv.ownBlock) (hat:v2.ownBlock=vv.ownBlock∨v2.ownBlock=some w.heap.size)
  (hu:mD[2*i+1]? =some u):gW w2 base mD j (i+1) kv v2 iN (tq++ [u]):=
 ⟨aF h.k (ag.of_grown hg) (fun g hk hv=>h.dis g hk hv),ho,fun g hk hv=>hat.elim (fun e=>h.dis g hk (e▸hv)) (fun e=>by rw [e] at hv;injection hv with hv;have:=(ah h.k g hk).2;omega),h.ku,pE (f:=fun a=>2*a+1) h.vu (by have:=h.v.1;omega) hu⟩
def iU (fill:Nat) (l:List aH) (i:Nat):List UInt8:=if(i+1)*fill<l.length then(nu (l.getD ((i+1)*fill-1) ([],[])).1 (l.getD ((i+1)*fill) ([],[])).1).1 else []
def j6 (fill:Nat) (l:List aH) (M i:Nat):bB:=(2,⟨0,iU fill l i,if i+1<M then(i:Int)+1+1 else 0,((l.drop (i*fill)).take fill).map Prod.fst,((l.drop (i*fill)).take fill).map Prod.snd,[]⟩)
def D4 (w:World) (D:Nat→Prop) (vs:List Value) (l:List aH):Prop:=∀(i:Nat) (e:aH),l[i]? =some e→∃u v,vs[2*i]? =some u∧vs[2*i+1]? =some v∧SB w D u e.1∧SB w D v e.2
theorem D4.chg {S D:Nat→Prop} {w w':World} {vs:List Value} {l:List aH} (h:D4 w D vs l) (hc:ag S w w') (hs:∀b,D b→¬S b):D4 w' D vs l:=fun i e he=>let⟨u,v,a,b,c,d⟩:=h i e he;⟨u,v,a,b,c.chg hc hs,d.chg hc hs⟩
theorem D4.below {D:Nat→Prop} {w w':World} {vs:List Value} {l:List aH} (h:D4 w D vs l) (hb:Below w.heap.size w w'):D4 w' D vs l:=h.chg (S:=Nil) (ag.of_below hb) (fun _ _ hf=>hf)
theorem yE {w:World} {D:Nat→Prop} {vs:List Value} {l:List aH} {B:Option Addr} {s m j:Nat} (hr:Rd w D 2 B m ((vs.drop (s*2)).take (m*2))) (ht:D4 w D vs l) (hm:s+m≤l.length) (hj:j<m):
  ∃b o Ak nk ck Av nv cv,B=some ⟨b,o,none⟩∧D b∧((vs.drop (s*2)).take (m*2))[2*j]? =some (.slice Ak nk ck)∧((vs.drop (s*2)).take (m*2))[2*j+1]? =some (.slice Av nv cv)∧w.cell? ⟨b,o+j*2,none⟩=some (.slice Ak nk ck)∧w.cell? ⟨b,o+j*2+1,none⟩=some (.slice Av nv cv)∧∃e:aH,l[s+j]? =some e∧SB w D (.slice Ak nk ck) e.1∧SB w D (.slice Av nv cv) e.2:=by
 obtain⟨b,o,u,v,e,hb,e1,e2,c1,c2⟩:=hr.at2 hj;have hl:s+j<l.length:=by omega
 obtain⟨u',v',a1,a2,s1,s2⟩:=ht (s+j) _ (List.getElem?_eq_getElem hl);have q1:=e1;have q2:=e2;rw [List.getElem?_take,if_pos (by omega),List.getElem?_drop,show s*2+2*j=2*(s+j) by omega,a1] at q1;rw [List.getElem?_take,if_pos (by omega),List.getElem?_drop,show s*2+(2*j+1)=2*(s+j)+1 by omega,a2] at q2;injection q1 with q1
 injection q2 with q2
 subst q1;subst q2;obtain⟨Ak,nk,ck,rfl,t1⟩:=s1;obtain⟨Av,nv,cv,rfl,t2⟩:=s2;rw [Nat.mul_comm 2 j] at c1 c2;rw [←Nat.add_assoc] at c2;exact⟨b,o,Ak,nk,ck,Av,nv,cv,e,hb,e1,e2,c1,c2,_,List.getElem?_eq_getElem hl,⟨_,_,_,rfl,t1⟩,⟨_,_,_,rfl,t2⟩⟩
noncomputable def Mx:Code:=aP (f90.body.bind (fC 2))
theorem Hw (D:Nat→Prop) (vs:List Value) (l:List aH) (B:Option Addr) (mi d k fill:Nat) (wq:World) (hb:mi≤1152921504606) (hd:mi≤d) {u0 u1 u2 u3 u4 u5 u6 u7 u8 u9 u10 u12 u13 bN bq u16 u17 bC bD u20 u21 u22 u23 u24 u28 u29 u30 u31 u32 u33 u34 u35 u36 u37 u38 dh u40 bX u42 bY u44 u45 u46 di u48 u49 bV u51 u52 u53 bW u55 dz dB u58 u59 u60 dH dG u63 u64 dO u66 dU u68 u69 u70 dV u72 u73 dP u75 eQ eU eX eY eZ fo fq fu fw fE iO jM jC jD:Value} (Q:Exit→Act→World→Prop)
  (hpr:Rd wq D 2 B mi ((vs.drop (k*fill*2)).take (mi*2))) (htx:D4 wq D vs l) (zi:k*fill+mi≤l.length)
  (au:∀(v13 v28 v29 v30 v31 v32 v33 v34 v35 v36 v37 v38 v39 v40 v41 v42 v43 v44 v45 v46 v47 v48 v49:Value) (kv vv:Value) (iN tq:List Value) (wz:World),ai wz wq.heap.size 104 #[.int .i64 0,.slice none 0 0,.int .i64 0,kv,vv,.slice none 0 0]→gW wz (wq.heap.size+1) ((vs.drop (k*fill*2)).take (mi*2)) mi mi kv vv iN tq→Below wq.heap.size wq wz→Q (.exit 2) ⟨(u0::u1::u2::u3::u4::u5::u6::u7::u8::u9::u10:: .pointer (some ⟨wq.heap.size,0,none⟩)::u12::v13::bN::bq::u16::u17::bC::bD::u20::u21::u22::u23::u24:: .slice B mi d:: .int .i64 mi:: .int .i64 mi::v28::v29::v30::v31::v32::v33::v34::v35::v36::v37::v38::v39::v40::v41::v42::v43::v44::v45::v46::v47::v48::v49::bV::u51::u52::u53::bW::u55::dz::dB::u58::u59::u60::dH::dG::u63::u64::dO::u66::dU::u68::u69::u70::dV::u72::u73::dP::u75::eQ::eU::eX::eY::eZ::fo::fq::fu::fw::fE::iO::jM::jC::jD:: []).toArray,[]⟩ wz):
  Code.wp prog Mx Q ⟨(u0::u1::u2::u3::u4::u5::u6::u7::u8::u9::u10:: .pointer (some ⟨wq.heap.size,0,none⟩)::u12::u13::bN::bq::u16::u17::bC::bD::u20::u21::u22::u23::u24:: .slice B mi d:: .int .i64 mi:: .int .i64 0::u28::u29::u30::u31::u32::u33::u34::u35::u36::u37::u38::dh::u40::bX::u42::bY::u44::u45::u46::di::u48::u49::bV::u51::u52::u53::bW::u55::dz::dB::u58::u59::u60::dH::dG::u63::u64::dO::u66::dU::u68::u69::u70::dV::u72::u73::dP::u75::eQ::eU::eX::eY::eZ::fo::fq::fu::fw::fE::iO::jM::jC::jD:: []).toArray,[]⟩ (wq.alloc (.cells #[.int .i64 0,.slice none 0 0,.int .i64 0,.slice none 0 0,.slice none 0 0,.slice none 0 0] 104)):=by
 obtain⟨i0,hi0,jO,jP,jQ⟩:=info_parts kC;have dF:=aa au;have CK:=aa hpr;have xV:=aa htx;have Cw:=aa zi;clear au hpr htx zi;conv=>arg 2;whnf
 go_loopg [27] mi (fun g' i wz=>∃(j:Nat) (kv vv:Value) (iN tq:List Value),g'=mi-j∧j≤mi∧i= .int .i64 j∧ai wz wq.heap.size 104 #[.int .i64 0,.slice none 0 0,.int .i64 0,kv,vv,.slice none 0 0]∧gW wz (wq.heap.size+1) ((vs.drop (k*fill*2)).take (mi*2)) j j kv vv iN tq∧Below wq.heap.size wq wz)
 case atStart=>exact⟨0,_,_,[],[],by omega,by omega,rfl,ai.new _ _ _,gW.nil _ _ _,(Below.refl _ _).alloc (Nat.le_refl _) _⟩
 case round=>
  obtain⟨j,kv,vv,iN,tq,hg2,hj,rfl,hbk,hrw,hbz⟩:=hrel;have wF:=aa hg2;have jT:=aa hbk;have HRW:=aa hrw;have hzz:=hbk.lt;have x3:=(hbk.cell 3).trans rfl;have x4:=(hbk.cell 4).trans rfl;have xf:=hbk.frozen;have kD:=aa hbz
  rename World=>wr
  clear hg2 hbk hrw
  by_cases QR:j<mi
  ·obtain⟨b,o,Ak,nk,ck,Av,nv,cv,rfl,TQ,e1,e2,c1',c2',_⟩:=yE CK.out xV Cw QR;have c1:=ak hbz c1';have c2:=ak hbz c2';have zx:=aa e1;have HE2:=aa e2;clear e1 e2 c1' c2';go_wp2_with (first|(at_builtin;go_loud (refine af _ rfl (.tmp 33) (.tmp 36) _ rfl (wq.heap.size+1) 24 i0 _ 1 24 underlying100 hi0 jO jP jQ rfl (by omega) kv j iN rfl (own_below HRW.k (((Below.refl _ _).alloc (Nat.le_refl _) _).alloc (by simp) _)) (From (wr.heap.size+1)) (some ⟨wr.heap.size+1,0,none⟩) 1 1 [.slice Ak nk ck] rfl (by have:=Rd.one (wr.alloc (.cells #[.slice Ak nk ck,.slice Av nv cv] 57)) (.slice Ak nk ck) 24;simpa using this) (by intro u hu;simp at hu;subst hu;rfl) (by simp only [maxLen];omega) (by omega) (by simp;omega) ?_;intro v2 w2 hown2 hg2 gP);obtain⟨K2,TP,hv2,_,_⟩:=ay hown2;subst hv2;have R2:=aa ((HRW.below (((Below.refl _ _).alloc (Nat.le_refl _) _).alloc (by simp) _)).key hown2 hg2 gP zx);have C2:=ag.of_grown hg2;have XQ:=aa (((jT.alloc _).alloc _).chg C2 (fun h=>by have:=(ah HRW.k _ h).1;omega));have E2b:=aa (((ai.new wr 57 #[.slice Ak nk ck,.slice Av nv cv]).alloc (.cells #[.slice Ak nk ck] 24)).chg C2 (fun h=>by have:=(ah HRW.k _ h).2;omega));have z2:=hg2.size;have y3:w2.cell? ⟨wq.heap.size,3,none⟩=some kv:=(XQ.out.cell 3).trans rfl;have y4:w2.cell? ⟨wq.heap.size,4,none⟩=some vv:=(XQ.out.cell 4).trans rfl;have yf:=XQ.out.frozen;have w1c:w2.cell? ⟨wr.heap.size,1,none⟩=some (.slice Av nv cv):=(E2b.out.cell 1).trans rfl;clear hown2 gP)|(at_builtin;go_loud (refine af _ rfl (.tmp 42) (.tmp 45) _ rfl (wq.heap.size+1) 24 i0 _ 1 24 underlying100 hi0 jO jP jQ rfl (by omega) vv j tq rfl (own_below (R2.out.far 3 (.slice K2 (j+1) TP) (by omega)).v ((Below.refl _ _).alloc (Nat.le_refl _) _)) (From w2.heap.size) (some ⟨w2.heap.size,0,none⟩) 1 1 [.slice Av nv cv] rfl (by have:=Rd.one (w2.setCell ⟨wq.heap.size,3,none⟩ (.slice K2 (j+1) TP)) (.slice Av nv cv) 24;simpa using this) (by intro u hu;simp at hu;subst hu;rfl) (by simp only [maxLen];omega) (by omega) (by simp;simp at z2;omega) ?_;intro v3 w3 hown3 hg3 wG;obtain⟨K3,PV,hv3,_,_⟩:=ay hown3;subst hv3;have R3:=aa (((R2.out.far 3 (.slice K2 (j+1) TP) (by omega)).below ((Below.refl _ _).alloc (Nat.le_refl _) (.cells #[.slice Av nv cv] 24))).val hown3 hg3 wG HE2);have C3:=ag.of_grown hg3;have Z4:=aa (((XQ.out.set_ 3 (.slice K2 (j+1) TP)).alloc (.cells #[.slice Av nv cv] 24)).chg C3 (fun h=>by have:=(ah R2.out.v _ h).1;omega));have z3:=hg3.size;have y34:w3.cell? ⟨wq.heap.size,4,none⟩=some vv:=(Z4.out.cell 4).trans rfl;have XH:=Z4.out.frozen;clear hown3 wG)))
   have HB3:=aa (((((hbz.alloc (by omega) (.cells #[.slice Ak nk ck,.slice Av nv cv] 57)).alloc (by simp;omega) (.cells #[.slice Ak nk ck] 24)).grown hg2 (by simp;omega) (fun q hq=>by have:=(ah HRW.k q hq).1;omega)).setCell (p:=⟨wq.heap.size,3,none⟩) (Nat.le_refl _) (.slice K2 (j+1) TP)).alloc (by simp at z2⊢;omega) (.cells #[.slice Av nv cv] 24)|>.grown hg3 (by simp at z2⊢;omega) (fun q hq=>by have:=(ah R2.out.v q hq).1;omega))
   go_roundg (mi-(j+1))
   case measure=>have:=wF.out;omega
   case rel=>exact⟨j+1,_,_,_,_,rfl,by omega,by go_num,Z4.out.set_ 4 _,R3.out.far 4 _ (by omega),HB3.setCell (p:=⟨wq.heap.size,4,none⟩) (Nat.le_refl _) _⟩
  ·obtain rfl:j=mi:=by omega
   clear hbz;go_wp2;exact dF _ _ _ _ _ _ _ _ _ _ _ _ _ _ _ _ _ _ _ _ _ _ _ _ _ _ _ _ jT HRW kD
end
section
open Go.Proofs.Tryz
open Go.RowKit
noncomputable def Vr:Code:=aP (f90.body.bind (aA 15))
theorem G8 (r K cp k b o j d q b3 o3 OP d2:Nat) (Ak Bk:Option Addr) (nk OQ ck Qq:Nat) (D E:Nat→Prop) (xs ys:List UInt8) (w:World) {u0 u1 u2 u3 u4 u5 u6 u7 u12 u13 bN bq u16 u17 bC bD u20 u21 u22 u23 u24 u25 u26 u27 u28 u29 u30 u31 u32 u33 u34 u35 u36 u37 u38 dh u40 bX u42 bY u44 u45 u46 di u48 u49 bV u51 u52 u53 bW u55 dz dB u58 u59 u60 dH dG u63 u64 dO u66 dU u68 u69 u70 dV u72 u73 dP u75 eQ eU eX eY eZ fo fq fu fw fE iO jM jC jD:Value} (Q:Exit→Act→World→Prop) (nC:Hid (∀c t (a:Act) w,Q (.panic c) ⟨t,a.defers⟩ w→Q (.panic c) a w))
  (hk:k<K) (hK:K≤1152921504606) (hj:1≤j) (hjm:j≤1152921504606) (hm2:0<OP)
  (c1:w.cell? ⟨b,o+(j-1)*2,none⟩=some (.slice Ak nk ck)) (c2:w.cell? ⟨r,k+1,none⟩=some (.slice (some ⟨b3,o3,none⟩) OP d2)) (c3:w.cell? ⟨b3,o3,none⟩=some (.slice Bk OQ Qq))
  (EU:Hid (Bt w D Ak nk ck xs)) (ET:Hid (Bt w E Bk OQ Qq ys)) (lx:xs.length≤1152921504606) (ly:ys.length≤1152921504606)
  (v0 v2 v3 v4 v5:Value) (jT:Hid (ai w q 104 #[v0,.slice none 0 0,v2,v3,v4,v5]))
  (au:∀(v56 v57 v58 v59 v60 v61 v62 v63 v64 v65 v66 v67 v68 v69 v70 v71 v72 v73 v74 v75 v76:Value) (K5:Option Addr) (n5 c5:Nat) (w5:World),Bt w5 (From w.heap.size) K5 n5 c5 (nu xs ys).1→Below w.heap.size w w5→Q .normal ⟨(u0::u1::u2::u3::u4::u5::u6::u7:: .slice (some ⟨r,0,none⟩) (K+1) cp:: .int .i64 k:: .slice (some ⟨b,o,none⟩) j d:: .pointer (some ⟨q,0,none⟩)::u12::u13::bN::bq::u16::u17::bC::bD::u20::u21::u22::u23::u24::u25::u26::u27::u28::u29::u30::u31::u32::u33::u34::u35::u36::u37::u38::dh::u40::bX::u42::bY::u44::u45::u46::di::u48::u49::bV::u51::u52::u53::bW::u55::v56::v57::v58::v59::v60::v61::v62::v63::v64::v65::v66::v67::v68::v69::v70::v71::v72::v73::v74::v75::v76::eU::eX::eY::eZ::fo::fq::fu::fw::fE::iO::jM::jC::jD:: []).toArray,[]⟩ (w5.setCell ⟨q,1,none⟩ (.slice K5 n5 c5))):
  Code.wp prog Vr Q ⟨(u0::u1::u2::u3::u4::u5::u6::u7:: .slice (some ⟨r,0,none⟩) (K+1) cp:: .int .i64 k:: .slice (some ⟨b,o,none⟩) j d:: .pointer (some ⟨q,0,none⟩)::u12::u13::bN::bq::u16::u17::bC::bD::u20::u21::u22::u23::u24::u25::u26::u27::u28::u29::u30::u31::u32::u33::u34::u35::u36::u37::u38::dh::u40::bX::u42::bY::u44::u45::u46::di::u48::u49::bV::u51::u52::u53::bW::u55::dz::dB::u58::u59::u60::dH::dG::u63::u64::dO::u66::dU::u68::u69::u70::dV::u72::u73::dP::u75::eQ::eU::eX::eY::eZ::fo::fq::fu::fw::fE::iO::jM::jC::jD:: []).toArray,[]⟩ w:=by
 have dF:=aa au;have w1:=IntWalk.i64_in ((j:Int)-1) (by omega);have w2:(0:Int)≤(j:Int)-1:=by omega
 have w3:((j:Int)-1)<j:=by omega
 have w4:((j:Int)-1).toNat=j-1:=by omega
 have w5:=IntWalk.i64_in ((k:Int)+1) (by omega);have w6:(0:Int)≤(k:Int)+1:=by omega
 have w7:((k:Int)+1).toNat=k+1:=by omega
 have w8:(1:Int)≤(j:Int):=by omega
 have lna:nk≤1152921504606:=by have:=EU.out.len;omega
 have lnb:OQ≤1152921504606:=by have:=ET.out.len;omega
 clear au lx ly;conv=>arg 2;whnf
 refine aM (fun w'=>w'.cell? ⟨b,o+(j-1)*2,none⟩=some (.slice Ak nk ck)∧w'.cell? ⟨r,k+1,none⟩=some (.slice (some ⟨b3,o3,none⟩) OP d2)∧w'.cell? ⟨b3,o3,none⟩=some (.slice Bk OQ Qq)) 21 (by kernel_rfl) ?_;have S0:w.drew.cell? ⟨b,o+(j-1)*2,none⟩=some (.slice Ak nk ck)∧w.drew.cell? ⟨r,k+1,none⟩=some (.slice (some ⟨b3,o3,none⟩) OP d2)∧w.drew.cell? ⟨b3,o3,none⟩=some (.slice Bk OQ Qq):=⟨c1,c2,c3⟩;refine uF 0 (fun _=>S0) ?_;refine uF 1 (fun _=>S0) ?_;refine uF 2 (fun _=>S0) ?_;refine uF 3 (fun _=>S0) ?_;refine uF 4 (fun _=>S0) ?_;refine uF 5 (fun _=>S0) ?_;refine uF 7 (fun _=>S0) ?_;refine uF 8 (fun _=>S0) ?_;refine uF 9 (fun _=>S0) ?_;refine uF 10 (fun _=>S0) ?_;refine uT 6 S0 ?_;refine uT 11 S0 ?_;refine uF 12 (fun _=>S0) ?_;refine uF 13 (fun _=>S0) ?_;refine uT 14 S0 ?_;refine az (i:=15) (by kernel_rfl) rfl (fun K hK=> ?_);go_simp
 refine(yx Ak Bk nk OQ ck Qq _ _ xs ys _ EU.2.2.2.drew EU.2.2.1 ET.2.2.2.drew ET.2.2.1 ET.1 lna lnb ET.2.1).mono ?_;rintro e w5 ⟨K5,n5,c5,rfl,p1,p2,p3,p4,hb5⟩;have Q0:=((jT.drew).below hb5);have q1:w5.cell? ⟨q,1,none⟩=some (.slice none 0 0):=(Q0.cell 1).trans rfl;have qf:=Q0.frozen;have S5:w5.cell? ⟨b,o+(j-1)*2,none⟩=some (.slice Ak nk ck)∧w5.cell? ⟨r,k+1,none⟩=some (.slice (some ⟨b3,o3,none⟩) OP d2)∧w5.cell? ⟨b3,o3,none⟩=some (.slice Bk OQ Qq):=⟨ak hb5 S0.1,ak hb5 S0.2.1,ak hb5 S0.2.2⟩;refine hK.out _ _ (fun _=>S5) ?_;clear hK K;try simp only [aL,aN,aZ,aC]
 refine uF 16 (fun _=>S5) ?_;refine uF 17 (fun _=>S5) ?_;refine uF 18 (fun _=>S5) ?_;refine uF 19 (fun _=>S5) ?_;refine uF 20 (fun _=>S5) ?_;refine az (i:=21) (by kernel_rfl) rfl (fun K hK=> ?_);go_simp
 refine hK.out _ _ (fun h=>absurd h (by decide)) ?_;clear hK K;try simp only [aL,aN,aZ,aC]
 refine bL (by kernel_rfl) ?_ _;exact dF _ _ _ _ _ _ _ _ _ _ _ _ _ _ _ _ _ _ _ _ _ K5 n5 c5 w5 ⟨p1,p2,p3,p4.weak (fun b hb=>hb.1)⟩ ((Below.refl _ _).drew.trans hb5)
end
end Go.Proofs.YtbjgeidjmhialaaGreatDoor
