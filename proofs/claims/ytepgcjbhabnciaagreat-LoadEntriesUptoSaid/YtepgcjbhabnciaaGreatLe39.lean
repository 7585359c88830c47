/- Part 39. -/
import Derived.Test.YtepgcjbhabnciaaGreatLe38
import Derived.Stop.Asserts
import Derived.LaidEql
import Derived.Test.YtepgcjbhabnciaaGreatLe35
namespace Go.Proofs.YtepgcjbhabnciaaGreat
set_option maxRecDepth 100000
set_option maxHeartbeats 8000000
open Go.Proofs.Tryz Go.RowKit
open Go.RowKit Go.Extern
open Go.Lib (compareBytes)
variable {Y J L r u9 M E I Z N U d B v u1 u4 u6 u7 u16 O f C s V P m D g T j W u u30 k x p u34 q u36 b u38 R u40 X u42 G u44 u45 u46 l u48 u49 z o eQ u55 fE fF u59 u60 H:Value}
section
section
variable {P:Program} (w:World)
theorem my (d:Nat) {g f:TypeId} {j:Array (String×TypeId)} {i:TypeInfo} {k:IntKind} (a b:Int)
  (hi:P.underlying g=some (.interface j)) (h:P.underlying f=some (.int k)) (e:P.info? f=some i) (c:i.comparable=true):
  (Op.equalIn (d+2) g (.iface f (.int k a)) (.iface f (.int k b))).run P w= .ok (a==b) w:=by
 simp [Op.equalIn,run_underlying hi,run_underlying h,typeInfo,e,c]
theorem run_eql_iface_int {f e:TypeId} {h:Array (String×TypeId)} {i:TypeInfo} {k:IntKind} (a b:Int)
  (hi:P.underlying f=some (.interface h)) (g:P.underlying e=some (.int k)) (d:P.info? e=some i) (c:i.comparable=true):
  (binOp .eql f (.iface e (.int k a)) (.iface e (.int k b))).run P w= .ok (.bool (a==b)) w:=by
 simp only [binOp];simp [Op.equal,Op.maxDepth,my w 9998 a b hi g d c]
end
theorem JB (v:Value) (w:World):(Extern.ReflectliteType.typeOf #[.iface 36 v]).run prog w= .ok (.iface 242 (.agg #[.pointer (some ⟨1,36,none⟩)])) w:=by kernel_rfl
theorem xH (w:World):((Extern.ReflectliteType.method fun t=>do Rtype.noPackHeld "Comparable" t;(fun a=>Value.bool a.comparable)<$>typeInfo t) #[.agg #[.pointer (some ⟨1,36,none⟩)]]).run prog w= .ok (.bool true) w:=by kernel_rfl
theorem oC (v:Value) (w:World):(Go.method 468 242 v "Comparable").run prog w= .ok (241,v) w:=by kernel_rfl
theorem Qi:(prog.info? 36).map (·.comparable)=some true:=by kernel_rfl
theorem Qj (v:Value) (a:TypeId) (w:World):(Instr.typeAssert (.iface 108 v) a 244 true).run prog w= .ok (.tuple #[.nilIface,.bool false]) w:=run_typeAssert_lacksB underlying244 (by kernel_rfl) (by kernel_rfl) v a w
theorem Aj (v:Value) (a:TypeId) (w:World):(Instr.typeAssert (.iface 108 v) a 247 true).run prog w= .ok (.tuple #[.iface 108 v,.bool true]) w:=run_typeAssert_hasB underlying247 (by kernel_rfl) v a w
theorem uh (v:Value) (w:World):(Go.method 468 108 v "Unwrap").run prog w= .ok (237,v) w:=by kernel_rfl
theorem M8 (g:Nat) (e:Int) (w:World) (l:w.cell? ⟨g,0,none⟩=some (.int .i64 e)):
  Calls prog 39 #[.iface 108 (.pointer (some ⟨g,0,none⟩)),.iface 36 (.int .i64 e)] w fun c w'=>c= .returned (.bool true)/\w'=w:=by
 obtain⟨i,hi,a⟩:=Option.map_eq_some_iff.1 Qi;have m:= @run_callFunc_extern prog 80 _ Extern.ReflectliteType.typeOf func80 (by kernel_rfl) (by kernel_rfl) (by kernel_rfl) (by kernel_rfl);have d:= @run_callFunc_extern prog 241 _ (Extern.ReflectliteType.method fun t=>do Rtype.noPackHeld "Comparable" t;pure (.bool (<-typeInfo t).comparable)) func241 (by kernel_rfl) (by kernel_rfl) (by kernel_rfl) (by kernel_rfl);have q:=JB;have j:=xH;have n:=oC;have p:=Qj;have r:=Aj;have o:=uh;have b:=run_eql_iface_int (P:=prog) w (k:= .i64) e e underlying43 underlying36 hi a;have f:(e==e)=true:=beq_self_eq_true e;rw [f] at b;have h:=run_eql_iface_types (P:=prog) 108 36 (.pointer (some ⟨g,0,none⟩)) (.int .i64 e) underlying43 (by decide) w;go_enter func39,ntmps39
 go_wp2;refine wp_loop_rounds 2 ?_
 rw [rounds_succ];go_wp2;rw [rounds_succ];go_wp2;go_ret
 exact⟨rfl,rfl⟩
end
noncomputable def FC:Code:=aV (f35.body.bind (aJ 11))
theorem O6 (F:Nat->Prop) (n c:Nat) (A:Option Addr) (bs:List UInt8) (w:World) {S:List Value} (Q:Exit->Act->World->Prop) (mQ:Hid (∀c t (a:Act) w,Q (.panic c) ⟨t,a.defers⟩ w->Q (.panic c) a w))
  (H:Hid (Rd w F 1 A n (aF bs))) (HN:Hid (n=bs.length))
  (ax:∀(al am an ao:Value) (rb:Bool) (w':World),rb= !(decide (bs=fq))->Below w.heap.size w w'->Q .normal ⟨(Y::u1::J::L::u4:: .slice A n c::u6::u7::r::u9::M::E::I::Z::N::U::u16::O::f::C::s::V::P::m::D::g::T::j::W::u::u30::k::x::p::u34::q::u36::b::u38::R::u40::X::u42::G::u44::u45::u46::l::u48::u49::z::d::o::B::eQ::u55::al::am::an::ao:: .bool rb::S).toArray,[]⟩ w'):
  Code.wp prog FC Q ⟨(Y::u1::J::L::u4:: .slice A n c::u6::u7::r::u9::M::E::I::Z::N::U::u16::O::f::C::s::V::P::m::D::g::T::j::W::u::u30::k::x::p::u34::q::u36::b::u38::R::u40::X::u42::G::u44::u45::u46::l::u48::u49::z::d::o::B::eQ::u55::fE::fF::v::u59::u60::S).toArray,[]⟩ w:=by
 have dP:=aa ax;have HD:Hid (Below w.heap.size w w.drew):=aa (Below.refl _ _).drew;have S0:=bf w.drew F A n c bs (H.below HD) HN;have e3:((lV bs).toList==(lV fq).toList)=decide (bs=fq):=rQ;have zY:=aa (KW w.drew);obtain⟨tl,ad⟩:∃t,t=fq:=⟨_,rfl⟩;rw [<-ad] at e3 dP zY;clear ax ad;conv=>arg 2;whnf
 refine aU (fun w'=>(convert 24 9 (.slice A n c)).run prog w'= .ok (.string (lV bs)) w') (by kernel_rfl) ?_;refine vT 0 S0 ?_;refine vT 1 S0 ?_;refine aO (i:=2) (by kernel_rfl) rfl (fun K hK=> ?_);go_simp
 go_loud (refine zY.mono ?_);rintro e w2 ⟨rfl,ab,y⟩;obtain⟨A2,ac⟩:∃A2:Option Addr,A2=some ⟨w.drew.heap.size,0,none⟩:=⟨_,rfl⟩;rw [<-ac] at ab|-;obtain⟨-,-,h8,h9⟩:=ab.parts;have ae:=aa y;have S1:=bf w2 _ A2 8 8 tl h9 h8;have S2:=bf w2 F A n c bs (H.below (HD.out.trans y)) HN;clear ab y h8 h9 ac
 refine hK.out _ _ S2 ?_;clear hK K;try simp only [aL,aN,aZ,aC]
 refine iM (S':=fun w'=>(convert 24 9 (.slice A n c)).run prog w'= .ok (.string (lV bs)) w'/\(convert 24 9 (.slice A2 8 8)).run prog w'= .ok (.string (lV tl)) w') (fun _ h=>h.1) ?_;refine vT 3 ⟨S2,S1⟩ ?_;refine vT 4 ⟨S2,S1⟩ ?_;refine bG (by kernel_rfl) ?_ _;go_simp
 refine dP _ _ _ _ _ _ ?_ (HD.out.trans ae);rw [<-e3]
theorem DV (F Dr:Nat->Prop) (z q p base K:Nat) (c:Option Addr) (t:Nat) (A:Option Addr) (n cc:Nat) (us:List Value) (r:bg) (w:World) (s:Sit F q p base) (zs:Zs z q p base) (v:¬F z) (G:base<=w.heap.size)
  (l:aj w z 103 #[.pointer (some ⟨q,0,none⟩),.bool false,.bool false,.int .i64 r.err,.int .i64 (r.bad:Nat),.slice A n cc,.slice c 0 t]) (hm:aX w base Dr (.slice A n cc) n r.rows us)
  (h:eY w F q p r.cur) (u:r.Ok K) (D:r.st=0) (hK:K<=1152921504606846976):
  Calls prog 35 #[.pointer (some ⟨z,0,none⟩)] w (oo F z q p base Dr c t A n cc us r.next.1 r.next.2 w):=by
 refine letter fun R HR=> ?_;have HS:=aa s;have C:=aa zs;have HB:=aa l;have HM:=aa hm;have d9:=aa G;have xU:=aa v;have i:=u.cur (by omega);have Q:=u.held (by omega);have al:=aa (fK F q p 8 K r.cur w (s.up G) h i hK (by omega) (by omega));obtain⟨T,H⟩:∃T,T=r.cur.bytes 8:=⟨_,rfl⟩;obtain⟨d,f⟩:∃d,d=({r with cur:=T.2.2,st:=1}:bg):=⟨_,rfl⟩
 have g:Hid (r.next=if T.2.1≠0 then(none,r.fail T.2.2 T.2.1 0) else if T.1≠fq then(none,r.fail T.2.2 81 0) else d.frame):=aa (by
  rw [f];subst H;unfold bg.next;rw [if_neg (by omega),if_neg (by omega)])
 have Oz:=aa H;have ad:Hid (d.rows=r.rows):=aa (by rw [f]);have D9:Hid (d.st=1):=aa (by rw [f]);have x:Hid (d.cur=T.2.2/\d.err=r.err/\d.bad=r.bad):=aa (by rw [f];exact⟨rfl,rfl,rfl⟩)
 have M:Hid (T.2.1=0->d.Ok K):=aa (fun E=>by
  have h1:=u.zero D;rw [f];exact⟨fun _=>by show T.2.2.Ok K;rw [H];exact ay.bytes_ok i 8,fun _=>by show T.2.2.held=none;rw [H];exact ay.bytes_held i 8 Q,u.rows,fun e=>absurd e (show¬((1:Nat)=0) by decide),fun _=>(by show T.2.2.at_=bV r.rows;rw [h1.2];rw [H] at E|-;rw [ay.bytes_step i 8 E,h1.1];rfl),(by show(1:Nat)<=2;omega),fun _=>u.err (by rw [D];decide)⟩)
 have TR:Hid (∀(cu:ay) (e:Int) (a:Nat) (wk:World) (en:Ending) (w':World) (v1:Value),dO wk F p cu.src->r.next=(none,r.fail cu e a)->ag (Cz z q p w.heap.size) w wk->AB z (.pointer (some ⟨q,0,none⟩)) v1 (.slice A n cc) (.slice c 0 t) e a wk en w'->oo F z q p base Dr c t A n cc us r.next.1 r.next.2 w en w'):=aa (fun cu e a wk en w' v1 ao hx hc V=>by
  rw [hx];refine⟨(D8 hc).trans V.2.2 (fun b _ e=> .inl e),fun _=>⟨V.1,?_,⟨_,V.2.1⟩,ao.own V.2.2 C.zp xU⟩,fun es h=>by cases h⟩;exact(HM.cz HS C.lt (Nat.le_refl _) hc).chg V.2.2 (fun b l _ e=>by have e:b=z:=e;have:=C.out.lt;omega))
 have z6:w.cell? ⟨z,6,none⟩=some (.slice c 0 t):=l.cell 6;have z2:w.cell? ⟨z,2,none⟩=some (.bool false):=l.cell 2;have z1:w.cell? ⟨z,1,none⟩=some (.bool false):=l.cell 1;have z0:w.cell? ⟨z,0,none⟩=some (.pointer (some ⟨q,0,none⟩)):=l.cell 0;clear s zs l hm h u G v D f H i Q;go_enter func35,ntmps35
 go_upto_region 9 with(go_at_call 59;go_loud (refine al.mono ?_);rintro e wa ⟨vT,rfl,hO,hI,hC⟩;rw [<-Oz.out] at hO hI|-;have Yc:=aa hO;have J:=aa hI;have am:=aa hC;have y:Hid (ag (Cz z q p w.heap.size) w wa):=aa (Dn hC);clear hO hI hC)
 have LG:=aa (HB.chg am (C.up d9).no);obtain⟨e0,U⟩:∃e,e=T.2.1:=⟨_,rfl⟩;rw [<-U] at g Yc M|-;clear U z6 z2 z1 z0
 by_cases E:e0=0
 ·subst E;obtain⟨tA,tn,tc,rfl,_,_,Y,Z⟩:=(Yc.out rfl).sb;have Io:=aa Y;have ae:=aa Z;have an:w.heap.size<=wa.heap.size:=y.out.size;clear Y Z;go_upto_region 11 with fail
  refine O6 _ tn tc tA T.1 wa _ (aa (fun _ _ _ _ h=>h)) ae Io ?_;intro ar aw ax aA rb o X j;have Yd:=aa j;have p9:=aa X;have L:Hid (eY o F q p T.2.2):=aa (J.chg (S:=Nil) (ag.of_below j) (fun h=>h) (fun h=>h) (fun _ _ h=>h));have k:=aa (LG.below j);have B:=aa (nN y j);have aq:w.heap.size<=o.heap.size:=B.out.size;clear X j an
  cases rb with
  |true=>
   have WY:Hid (T.1≠fq):=aa (fun e=>by have P:=p9.out;rw [e] at P;simp at P);go_wp2_with (go_at_call 60;go_loud (refine(aY z _ _ _ _ _ _ _ 81 (0:Nat) o k).mono ?_);rintro e9 w9 ⟨rfl,N,O⟩;have dY:=aa N;have dZ:=aa O;clear N O)
   rw [HR.out]
   exact TR T.2.2 81 0 o _ w9 _ L.src (by rw [g.out,if_neg (by simp),if_pos WY.out]) B ⟨rfl,dY,dZ⟩
  |false=>
   have WY:Hid (¬T.1≠fq):=aa (fun h=>by have P:=p9.out;simp at P;exact h P);have HX:Hid (r.next=d.frame):=aa (by rw [g.out,if_neg (by simp),if_neg WY.out]);have z1:o.cell? ⟨z,1,none⟩=some (.bool false):=k.out.cell 1;have sW:=k.out.frozen 1;go_upto_region 14 with fail
   clear z1 sW;obtain⟨wq,m⟩:∃W,W=o.setCell ⟨z,1,none⟩ (.bool true):=⟨_,rfl⟩;rw [<-m];have I:Hid (ag (fun b=>b=z) o wq):=aa (by rw [m];exact(ag.refl (fun b=>b=z) o).setCell (p:=⟨z,1,none⟩) (fun _=>rfl) _);have ab:Hid (aj wq z 103 #[.pointer (some ⟨q,0,none⟩),.bool true,.bool false,.int .i64 d.err,.int .i64 (d.bad:Nat),.slice A n cc,.slice c 0 t]):=aa (by rw [m,x.out.2.1,x.out.2.2];exact k.set_ 1 _);have iZ:Hid (ag (Cz z q p w.heap.size) w wq):=aa (B.out.trans I (fun b _ e=> .inl e));have ac:Hid (eY wq F q p d.cur):=aa (by rw [x.out.1];exact L.chg I (fun e=>C.zq e.symm) (fun e=>C.zp e.symm) (fun b l e=>xU ((show b=z from e)▸l)));have wV:Hid (d.Ok K):=aa (M rfl);clear m g;rename_i KK Td
   exact tO F Dr z q p base K c t A n cc us r d w wq R KK HR HS C HM d9 xU HX ad wV D9 iZ ab ac hK Td
 ·have ap:(e0==0)=false:=by rw [beq_eq_false_iff_ne];exact E
  have H0:=aa E;go_wp2_with (go_at_call 60;go_loud (refine(aY z _ _ _ _ _ _ _ e0 (0:Nat) wa LG).mono ?_);rintro e9 w9 ⟨rfl,N,O⟩;have dY:=aa N;have dZ:=aa O;clear N O)
  rw [HR.out];exact TR T.2.2 e0 0 wa _ w9 _ J.src (by rw [g.out,if_pos H0.out]) y ⟨rfl,dY,dZ⟩
def UN (w:World) (s:Src) (e:Ending) (w':World):Prop:=
 ∃p,e= .returned (.pointer (some ⟨p,0,none⟩))/\w.heap.size<=p/\p<w'.heap.size/\fo w' (fun b=>w.heap.size<=b/\b<p) p s/\Below w.heap.size w w'
theorem NC (l:List Int):∀u∈jw l,u.oneCell'=true:=by
 intro u a;simp only [jw,List.mem_map] at a;obtain⟨x,_,rfl⟩:=a;rfl
noncomputable def sJ:Code:=aV (f6.body.bind (aJ 1))
theorem QI (F:Nat->Prop) (x bn bc gn gc:Nat) (bA gA:Option Addr) (bs:List UInt8) (k:List Int) (f:Int) (ea:Bool) (w:World) (Q:Exit->Act->World->Prop) (mQ:Hid (∀c t (a:Act) w,Q (.panic c) ⟨t,a.defers⟩ w->Q (.panic c) a w))
  (G:Hid (aj w x 27 #[.slice bA bn bc,.slice gA gn gc,.int .i64 f,.bool ea])) (HB:Hid (Rd w F 1 bA bn (aF bs))) (HN:Hid (bn=bs.length)) (hn2:bn<=1152921504606) (HG:Hid (Rd w F 1 gA gn (jw k))) (X:gn<=1152921504606)
  (ax:∀(v3 v4 v5 v6 v7 v8 v9 ab ac ad ae al:Value) (p:Nat) (w':World),w.heap.size<=p->p<w'.heap.size->fo w' (fun b=>w.heap.size<=b/\b<p) p ⟨bs,k,f,ea,0⟩->Below w.heap.size w w'->Q .normal ⟨(Y:: .pointer (some ⟨x,0,none⟩):: .pointer (some ⟨p,0,none⟩)::v3::v4::v5::v6::v7::v8::v9::ab::ac::ad::ae::al:: .pointer (some ⟨p,0,none⟩):: []).toArray,[]⟩ w'):
  Code.wp prog sJ Q ⟨(Y:: .pointer (some ⟨x,0,none⟩)::J::L::H::v::d::B::r::u9::M::E::I::Z::N::U:: []).toArray,[]⟩ w:=by
 have dP:=aa ax;have HD:Hid (Below w.heap.size w w.drew):=aa (Below.refl _ _).drew;have j:w.drew.cell? ⟨x,0,none⟩=some (.slice bA bn bc)/\w.drew.cell? ⟨x,1,none⟩=some (.slice gA gn gc)/\w.drew.cell? ⟨x,2,none⟩=some (.int .i64 f)/\w.drew.cell? ⟨x,3,none⟩=some (.bool ea):=⟨(G.cell 0).trans rfl,(G.cell 1).trans rfl,(G.cell 2).trans rfl,(G.cell 3).trans rfl⟩;clear ax;conv=>arg 2;whnf
 refine aU (fun w'=>w'.cell? ⟨x,0,none⟩=some (.slice bA bn bc)/\w'.cell? ⟨x,1,none⟩=some (.slice gA gn gc)/\w'.cell? ⟨x,2,none⟩=some (.int .i64 f)/\w'.cell? ⟨x,3,none⟩=some (.bool ea)) (by kernel_rfl) ?_;refine vT 0 j ?_;refine vT 3 j ?_;refine vT 6 j ?_;refine vT 9 j ?_;refine vT 1 j ?_;refine vT 4 j ?_;refine vT 7 j ?_;refine vT 10 j ?_;refine aO (i:=2) (by kernel_rfl) rfl (fun K n=> ?_);go_simp
 go_loud (refine(oK gA gn gc F (jw k) w.drew (HG.below HD) (NC k) X).mono ?_);rintro e w1 ⟨C,c1,rfl,R,S,A,g⟩;have xC:Hid (Rd w1 (fun b=>w.heap.size<=b/\b<w1.heap.size) 1 C gn (jw k)):=aa ((A.lt (by omega)).weak (fun b o=>⟨o.1.1,o.2⟩));have l:Hid (Below w.heap.size w w1):=aa (HD.out.trans g);have y:w1.cell? ⟨x,0,none⟩=some (.slice bA bn bc)/\w1.cell? ⟨x,1,none⟩=some (.slice gA gn gc)/\w1.cell? ⟨x,2,none⟩=some (.int .i64 f)/\w1.cell? ⟨x,3,none⟩=some (.bool ea):=⟨ak g j.1,ak g j.2.1,ak g j.2.2.1,ak g j.2.2.2⟩;clear R S A g
 refine n.out _ _ y ?_;clear n K;try simp only [aL,aN,aZ,aC]
 refine vT 5 y ?_;refine aO (i:=8) (by kernel_rfl) rfl (fun K n=> ?_);go_simp
 go_loud (refine(dH bA bn bc F bs w1 (HB.below l) HN hn2).mono ?_);rintro e w2 ⟨D,P,O,rfl,R,S,A,q5,g⟩;have xD:=aa ((xC.below g));have T:Hid (SB w2 (fun b=>w.heap.size<=b/\b<w2.heap.size) (.slice D P O) bs):=aa ((SB.mk R S A.out q5).lt.weak (fun b o=>⟨Nat.le_trans l.size o.1.1,o.2⟩));have q:Hid (Below w.heap.size w w2):=aa (l.out.trans (g.mono l.size));have V:=aa g.size;have z:w2.cell? ⟨x,0,none⟩=some (.slice bA bn bc)/\w2.cell? ⟨x,1,none⟩=some (.slice gA gn gc)/\w2.cell? ⟨x,2,none⟩=some (.int .i64 f)/\w2.cell? ⟨x,3,none⟩=some (.bool ea):=⟨ak g y.1,ak g y.2.1,ak g y.2.2.1,ak g y.2.2.2⟩;clear R S A g q5
 refine n.out _ _ z ?_;clear n K;try simp only [aL,aN,aZ,aC]
 refine vT 11 z ?_;refine aO (i:=12) (by kernel_rfl) rfl (fun K n=> ?_);go_simp
 obtain⟨u,m⟩:∃W,W=w2.alloc (.cells #[.slice C gn c1,.int .i64 f,.int .i64 0,.slice D P O,.bool ea] 76):=⟨_,rfl⟩;rw [<-m];have h:Below w2.heap.size w2 u:=(by rw [m];exact(Below.refl _ _).alloc (Nat.le_refl _) _);have ma:Hid (aj u w2.heap.size 76 #[.slice C gn c1,.int .i64 f,.int .i64 0,.slice D P O,.bool ea]):=aa (by rw [m];exact aj.new _ _ _);have s:=aa h;have S3:u.cell? ⟨x,0,none⟩=some (.slice bA bn bc)/\u.cell? ⟨x,1,none⟩=some (.slice gA gn gc)/\u.cell? ⟨x,2,none⟩=some (.int .i64 f)/\u.cell? ⟨x,3,none⟩=some (.bool ea):=⟨ak h z.1,ak h z.2.1,ak h z.2.2.1,ak h z.2.2.2⟩;clear m h;refine n.out _ _ S3 ?_;clear n K;try simp only [aL,aN,aZ,aC]
 refine vT 13 S3 ?_;refine bG (by kernel_rfl) ?_ _;refine dP _ _ _ _ _ _ _ _ _ _ _ _ w2.heap.size u q.size ma.lt ⟨C,D,gn,c1,P,O,ma,(xD.below s).weak (fun b o=>⟨o.1,Nat.lt_of_lt_of_le o.2 V⟩),T.below s⟩ (q.out.trans (s.mono q.size))
theorem oO (F:Nat->Prop) (bn bc gn gc:Nat) (bA gA:Option Addr) (bs:List UInt8) (k:List Int) (f:Int) (a:Bool) (w:World) (c:Rd w F 1 bA bn (aF bs)) (q:bn=bs.length) (Q:bn<=1152921504606) (o:Rd w F 1 gA gn (jw k)) (i:gn<=1152921504606):
  Calls prog 6 #[.agg #[.slice bA bn bc,.slice gA gn gc,.int .i64 f,.bool a]] w (UN w ⟨bs,k,f,a,0⟩):=by
 refine letter fun R B=> ?_;have e:Below w.heap.size w (w.alloc (.cells #[.slice bA bn bc,.slice gA gn gc,.int .i64 f,.bool a] 27)):=(Below.refl _ _).alloc (Nat.le_refl _) _;have z:Hid (aj (w.alloc (.cells #[.slice bA bn bc,.slice gA gn gc,.int .i64 f,.bool a] 27)) w.heap.size 27 #[.slice bA bn bc,.slice gA gn gc,.int .i64 f,.bool a]):=aa (aj.new _ _ _);have v:=aa (c.below e);have x:=aa (o.below e);have d:=aa e;have A:=aa q;clear e c o q;go_enter func6,ntmps6
 go_upto_region 1 with fail
 refine QI F w.heap.size bn bc gn gc bA gA bs k f a _ _ (aa (fun _ _ _ _ h=>h)) z v A Q x i ?_;intro O P S T U V W J K L M N p w2 j l m n;have r:=aa j;have s:=aa l;have t:=aa m;have u:=aa n;clear j l m n;go_wp2;rw [B.out];have g:w.heap.size<=(w.alloc (.cells #[.slice bA bn bc,.slice gA gn gc,.int .i64 f,.bool a] 27)).heap.size:=d.out.size;obtain⟨C,D,E,G,H,I,y⟩:=t.out;exact⟨p,rfl,Nat.le_trans g r,s,⟨C,D,E,G,H,I,y.blk,y.gv.weak (fun b c=>⟨Nat.le_trans g c.1,c.2⟩),y.sb.weak (fun b c=>⟨Nat.le_trans g c.1,c.2⟩)⟩,d.out.trans (u.mono g)⟩
def mr (w:World) (s:Nat) (v:Value) (e a:Int):Prop:=(e=0/\v= .nilIface)\/(e≠0/\∃g,v= .iface 108 (.pointer (some ⟨g,0,none⟩))/\aj w g 111 #[.int .i64 e,.int .i64 a]/\s<=g)
theorem mr.chg {S:Nat->Prop} {w w':World} {s:Nat} {v:Value} {e a:Int} (h:mr w s v e a) (y:ag S w w') (i:∀b,s<=b->¬S b):mr w' s v e a:=by
 rcases h with h|⟨h,g,d,f,c⟩
 ·exact .inl h
 ·exact .inr ⟨h,g,d,f.chg y (i g c),c⟩
theorem tq (a:Int) (w:World):Calls prog 30 #[.int .i64 0,.int .i64 a] w fun b w'=>b= .returned .nilIface/\w'=w:=by
 go_enter func30,ntmps30
 go_wp2;go_ret
 exact⟨rfl,rfl⟩
theorem iN (e a:Int) (w:World) (c:e≠0):Calls prog 30 #[.int .i64 e,.int .i64 a] w fun b w'=>b= .returned (.iface 108 (.pointer (some ⟨w.heap.size,0,none⟩)))/\aj w' w.heap.size 111 #[.int .i64 e,.int .i64 a]/\Below w.heap.size w w':=by
 have d:(e==0)=false:=by rw [beq_eq_false_iff_ne];exact c
 go_enter func30,ntmps30
 go_wp2;go_ret
 exact⟨rfl,aj.new _ _ _,(Below.refl _ _).alloc (Nat.le_refl _) _⟩
theorem Al (v:Value) (a:TypeId) (w:World):(Instr.typeAssert (.iface 108 v) a 108 true).run prog w= .ok (.tuple #[v,.bool true]) w:=by kernel_rfl
theorem Dq (a:Int) (w:World):Calls prog 13 #[.nilIface,.int .i64 0,.int .i64 a] w fun b w'=>b= .returned (.bool true)/\Below w.heap.size w w':=by
 go_enter func13,ntmps13
 go_wp2;go_ret
 exact⟨rfl,Below.refl _ _⟩
theorem Dt (g:Nat) (e a:Int) (w:World) (f:e≠0) (h:aj w g 111 #[.int .i64 e,.int .i64 a]):Calls prog 13 #[.iface 108 (.pointer (some ⟨g,0,none⟩)),.int .i64 e,.int .i64 a] w fun b w'=>b= .returned (.bool true)/\Below w.heap.size w w':=by
 have i:(e==0)=false:=by rw [beq_eq_false_iff_ne];exact f
 have j:(e==e)=true:=beq_self_eq_true e;have d:(a==a)=true:=beq_self_eq_true a;have c:w.cell? ⟨g,0,none⟩=some (.int .i64 e):=h.cell 0;have k:w.cell? ⟨g,1,none⟩=some (.int .i64 a):=h.cell 1;have l:=Al;go_enter func13,ntmps13
 go_wp2_with (go_at_call 39;go_loud (refine(M8 g e _ c).mono ?_);rintro b w2 ⟨rfl,rfl⟩)
 go_ret
 exact⟨rfl,Below.refl _ _⟩
theorem pu (s:Nat) (v:Value) (e a:Int) (w:World) (h:mr w s v e a):Calls prog 13 #[v,.int .i64 e,.int .i64 a] w fun b w'=>b= .returned (.bool true)/\Below w.heap.size w w':=by
 rcases h with⟨rfl,rfl⟩|⟨h,g,rfl,c,d⟩
 ·exact Dq a w
 ·exact Dt g e a w h c
theorem FF (F:Nat->Prop) (p:Nat) (s:Src) (w:World) (h:fo w F p s):Calls prog 40 #[.pointer (some ⟨p,0,none⟩)] w fun a w'=>a= .returned (.int .i64 (s.calls:Nat))/\w=w':=by
 obtain⟨b,d,e,f,g,i,y⟩:=h;have c:w.cell? ⟨p,2,none⟩=some (.int .i64 (s.calls:Nat)):=y.blk.cell 2;clear y;go_enter func40,ntmps40
 go_wp2;go_ret
 exact⟨rfl,rfl⟩
theorem J2 (F:Nat->Prop) (p:Nat) (s:Src) (w:World) (h:fo w F p s):Calls prog 41 #[.pointer (some ⟨p,0,none⟩)] w fun e w'=>e= .returned (.int .i64 (s.left.length:Nat))/\w=w':=by
 obtain⟨f,b,g,i,a,d,y⟩:=h;have c:w.cell? ⟨p,3,none⟩=some (.slice b a d):=y.blk.cell 3;have hl:a=s.left.length:=y.sb.parts.2.2.1;rw [<-hl];clear y hl;go_enter func41,ntmps41
 go_wp2;go_ret
 exact⟨rfl,rfl⟩
theorem JA (F G:Nat->Prop) (p t:Nat) (s:Src) (w:World) (h:fo w F p s) (k:dO w G t s):Calls prog 14 #[.pointer (some ⟨p,0,none⟩),.pointer (some ⟨t,0,none⟩)] w fun f w'=>f= .returned (.bool true)/\Below w.heap.size w w':=by
 have n:=aa (FF F p s w h);have m:=aa (J2 F p s w h);obtain⟨bA,gA,bn,bc,gn,gc,l,B,n7,n8,n9,n10,n11,y⟩:=k;obtain⟨d,b⟩:∃d,d=s.calls:=⟨_,rfl⟩;obtain⟨a,c⟩:∃a,a=s.left.length:=⟨_,rfl⟩;have c0:w.cell? ⟨t,0,none⟩=some (.slice bA bn bc):=y.blk.cell 0;have v:w.cell? ⟨t,4,none⟩=some (.int .i64 (d:Nat)):=(y.blk.cell 4).trans (by rw [b];rfl);have x:w.cell? ⟨t,5,none⟩=some (.int .i64 (l:Nat)):=y.blk.cell 5;have i:bn=B.length:=y.sb.parts.2.2.1;have g:=y.bd;have j:=y.le;have e:(bn:Int)-(l:Int)=(a:Int):=by rw [c,y.left,List.length_drop];omega
 have u:IntKind.i64.wrap ((bn:Int)-(l:Int))=(a:Int):=by rw [e];exact IntWalk.i64_in _ (by omega)
 have o:IntKind.i64.wrap (a:Int)=(a:Int):=IntWalk.i64_in _ (by omega);have q:((d:Int)==(d:Int))=true:=beq_self_eq_true _;have r:((a:Int)==(a:Int))=true:=beq_self_eq_true _;rw [<-b] at n;rw [<-c] at m;clear y b c i j h g;go_enter func14,ntmps14
 go_upto_region 3 with(first|(go_at_call 40;go_loud (refine n.mono ?_);rintro f w2 ⟨rfl,rfl⟩)|(go_at_call 41;go_loud (refine m.mono ?_);rintro f w2 ⟨rfl,rfl⟩))
 go_quiet (fail);go_wp2;go_ret
 exact⟨rfl,below_drewN (Below.refl _ _) _⟩
theorem vN (t:Nat) (w:World):Calls prog 28 #[.pointer (some ⟨t,0,none⟩)] w fun b w'=>b= .returned (.pointer (some ⟨w.heap.size+1,0,none⟩))/\
  aj w' w.heap.size 142 #[.pointer (some ⟨t,0,none⟩),.int .i64 4611686018427387904,.int .i64 0,.int .i64 0,.slice none 0 0,.int .i64 0]/\
  aj w' (w.heap.size+1) 103 #[.pointer (some ⟨w.heap.size,0,none⟩),.bool false,.bool false,.int .i64 0,.int .i64 0,.slice none 0 0,.slice none 0 0]/\Below w.heap.size w w':=by
 go_enter func28,ntmps28
 go_wp2;go_ret
 have a:=aj.new (w.alloc (.cells #[.pointer (some ⟨t,0,none⟩),.int .i64 4611686018427387904,.int .i64 0,.int .i64 0,.slice none 0 0,.int .i64 0] 142)) 103 #[.pointer (some ⟨w.heap.size,0,none⟩),.bool false,.bool false,.int .i64 0,.int .i64 0,.slice none 0 0,.slice none 0 0];rw [World.size_alloc] at a;exact⟨rfl,(aj.new _ _ _).below ((Below.refl _ _).alloc (Nat.le_refl _) _),a,((Below.refl _ _).alloc (Nat.le_refl _) _).alloc (by simp) _⟩
end Go.Proofs.YtepgcjbhabnciaaGreat
