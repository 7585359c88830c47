/- Part 39. -/
import Derived.Test.YtepgcjbhabnciaaGreatLp38
namespace Go.Proofs.YtepgcjbhabnciaaGreat
set_option maxRecDepth 100000
set_option maxHeartbeats 8000000
open Go.Proofs.Tryz Go.RowKit
variable {v u1 B J s u6 u7 u8 r L E O W Z U G f C I M P V d l u25 dn y kv u2 u9 m T j g u32 u33 i u36 u37 N u40 R u42 X u44 u45 u46 u48 u49 H u51 A u53 u55 S q:Value} {z lc kc base n size D x o:Nat} {Y xs:List Value} {w:World} {F:Nat->Prop} {kA:Option Addr} {Q:Exit->Act->World->Prop}
theorem GQ {e:TypeId} (h:w.ownsRow base e size v n xs) (hn:0<n):∃g c,v= .slice (some ⟨g,0,none⟩) n c/\(base<=g/\g<w)/\∀(k:Nat) (u:Value),xs[k]? =some u->w.cell? ⟨g,k,none⟩=some u:=by
 obtain⟨j,⟨_,b⟩|⟨g,cap,cur,rfl,b,f,l,m,o,i⟩⟩:=h
 ·omega
 ·have d:ak w g e cur:=f;refine⟨g,cap,rfl,⟨b,d.lt⟩,fun k u a=> ?_⟩;rw [d.cell];rw [<-i,List.getElem?_take] at a
  split at a
  ·simpa using a
  ·simp at a
def R8:List UInt8:=66::7::(fI++four (bg fI))
def R9:List UInt8:=70::7::(dS++four (bg dS))++dV 21
theorem Sa:gD++R8++R9=lY:=by simp [lY,R8,R9]
theorem Sb:R8.length=13:=rfl
theorem Sc:R9.length=25:=rfl
theorem JZ {tb lb:Nat} {lv:Value} (m:ak w z 122 #[.int .i64 1,.slice (some ⟨tb,0,none⟩) 1 D,(),lv,true,.int .i64 0])
  (h:E1 w F lb kA kc) (J:w.cell? tb=some (.slice (some ⟨lb,0,none⟩) 1 lc)) (x:tb<w):
  Calls prog 47 #[z] w fun e w'=>∃A c,e= .returned (.slice A 46 c)/\Ow w' w (.slice A 46 c) lY/\ag (fun b=>b=z) w w':=by
 have l:=aa Sb;have u:=aa Sc;have y:=aa Sa;have t:=aa (GN D h J x);have o:=aa R6;rw [show 66::7::(fI++four (bg fI))=R8 from rfl] at t;rw [show 70::7::(dS++four (bg dS))++dV 21=R9 from rfl] at o;obtain⟨bl,j⟩:=gF R8;obtain⟨W,k⟩:=gF R9;rw [<-j] at l y t;rw [<-k] at u y o;have G:=aa m;have y1:w.cell? ⟨z,1,none⟩=some (.slice (some ⟨tb,0,none⟩) 1 D):=m.cell 1;have Z:=m.lt;refine letter fun R Q=> ?_;clear m h J j k;go_enter func47,ntmps47;go_upto_region 2 with(go_at_call 84;go_loud (refine t.mono ?_;rintro e w1 ⟨L,c1,sA,sc,rfl,a,I⟩;have d:=aa a;have r:=aa I;clear a I))
 go_upto_region 3 with(first|(go_at_call 61;go_loud (refine(Ob w1).mono ?_;rintro e w2 ⟨M,n2,S,hn,rfl,a⟩;rw [show gD.length=8 from rfl] at hn;subst hn;have iG:=aa a;have v:=aa (d.after a.bel);clear a))|(at_builtin;go_loud (refine dH rfl (.tmp 14) (.tmp 15) rfl w1 (.slice M 8 S) gD rfl iG _ L 13 c1 bl rfl v.sb (by rw [l.out];decide) ?_;intro N n3 T E hn a hc;rw [l.out,show gD.length+13=21 from rfl] at hn;subst hn;have C:=aa a;clear a hc)))
 have s:=aa (r.below C.bel);have q:Hid (Below w w E):=aa (d.bel.trans (C.bel.mono d.bel.size));have ab:E.cell? ⟨z,4,none⟩=some (.bool true):=(G.out.below q).cell 4;have f:=aa d.bel.size;go_upto_region 5 with(first|(go_at_call 85;go_loud (refine(o sA sc E s).mono ?_;rintro e w4 ⟨O,U,rfl,a⟩;have K:=aa a;clear a))|(at_builtin;go_loud (refine dH rfl (.tmp 21) (.tmp 23) rfl w1 (.slice N 21 T) (gD++bl) rfl (C.after K.bel) _ O 25 U W rfl K.sb (by rw [mq,l.out,u.out];decide) ?_;intro P n5 V n hn a hc;rw [mq,l.out,u.out,show gD.length+13+25=46 from rfl] at hn;subst hn;have B:=aa a;clear a hc)))
 have H:Hid (Below w w n):=aa (d.bel.trans (B.bel.mono d.bel.size));have i:=aa (G.below H);have ac:n.cell? ⟨z,5,none⟩=some (.int .i64 0):=i.out.cell 5;have X:n.frozen? ⟨z,5,none⟩=false:=i.out.frozen 5;go_wp2;rw [Q.out];have hc:=(ag.refl (fun b=>b=z) n).setCell (p:=⟨z,5,none⟩) (fun _=>rfl) (.int .i64 46);refine⟨P,V,rfl,?_,(ag.of_below H).trans hc (fun _ _ h=>h)⟩;rw [<-y.out];exact Ow.chg (kX B.own f) hc (fun g Y e=>by have h1:=(ah B.own g Y).1;have h2:=f.out;have e:g=z:=e;omega)
theorem Sd:(prog.info? 58).map (fun i=>(i.zero,i.size,i.bytes))=some (some (.slice none 0 0),1,24):=by kernel_rfl
theorem Se:(prog.info? 69).map (fun i=>(i.zero,i.size,i.bytes))=some (some (.agg #[(),()]),2,48):=by kernel_rfl
noncomputable def Lx:Code:=aQ (f83.body.bind (aF 4))
theorem ZC {lb:Nat} {lv:Value} (kF:Hid (∀c t (a:Act) w,Q (.panic c) ⟨t,a.defers⟩ w->Q (.panic c) a w))
  (D:Hid (ak w z 122 #[.int .i64 1,(),.slice (some ⟨lb,0,none⟩) 1 lc,lv,false,.int .i64 0]))
  (au:∀(ad ae al am an ao ap aq ar aw aA aE a0:Value) (tb F:Nat) (w':World),w<=tb->tb<w'->w'.cell? tb=some (.slice (some ⟨lb,0,none⟩) 1 lc)->ak w' z 122 #[.int .i64 1,.slice (some ⟨tb,0,none⟩) 1 F,.slice (some ⟨lb,0,none⟩) 1 lc,lv,false,.int .i64 0]->ag (fun b=>b=z) w w'->Q .normal ⟨(.pointer (some ⟨z,0,none⟩)::u1::y::B::J::s::u6::u7::u8::r::L::E::O::ad::ae::al::am::an::ao::ap::aq::ar::aw::aA::aE::a0::Y).toArray,[]⟩ w'):
  Code.wp prog Lx Q ⟨(.pointer (some ⟨z,0,none⟩)::u1::y::B::J::s::u6::u7::u8::r::L::E::O::W::Z::U::G::f::C::I::M::P::V::d::l::u25::Y).toArray,[]⟩ w:=by
 obtain⟨i0,T,iC,iD,iE⟩:=info_parts Sd;have dz:=aa au;have a1:=D.out.lt;have g:w.drew.cell? ⟨z,1,none⟩=some (.slice none 0 0)/\w.drew.cell? ⟨z,2,none⟩=some (.slice (some ⟨lb,0,none⟩) 1 lc):=⟨D.cell 1,D.cell 2⟩;clear au;conv=>arg 2;whnf
 refine aM (fun w'=>w'.cell? ⟨z,1,none⟩=some (.slice none 0 0)/\w'.cell? ⟨z,2,none⟩=some (.slice (some ⟨lb,0,none⟩) 1 lc)) 13 (by kernel_rfl) ?_;refine uF 0 (fun _=>g) ?_;refine uF 1 (fun _=>g) ?_;refine uF 2 (fun _=>g) ?_;refine uF 3 (fun _=>g) ?_;refine uF 5 (fun _=>g) ?_;refine uF 6 (fun _=>g) ?_;refine uF 7 (fun _=>g) ?_;refine uT 4 g ?_;refine uT 8 g ?_;refine mR 9 fun K j=> ?_;go_simp;obtain⟨H,i⟩:=gF ((w.alloc (.cells #[.slice (some ⟨lb,0,none⟩) 1 lc] 58)).drew);rw [<-i];have ea:Hid (Below w w H):=aa (by rw [i];exact gV.drew);have tL:Hid (Rd H (From w) 1 (some ⟨w,0,none⟩) 1 [.slice (some ⟨lb,0,none⟩) 1 lc]):=aa (by rw [i];exact⟨rfl,fun _=>⟨_,0,rfl,jO,fun k u X=>by show(w.alloc _).cell? _=_;rw [(ak.new w _ _).cell];simpa using X⟩⟩);have S3:H.cell? ⟨z,1,none⟩=some (.slice none 0 0)/\H.cell? ⟨z,2,none⟩=some (.slice (some ⟨lb,0,none⟩) 1 lc):=⟨aj ea g.1,aj ea g.2⟩;clear i;refine j.out _ _ (fun _=>S3) ?_;clear j K;try simp only [aL,aN,aZ,aC]
 refine mR 10 fun K j=> ?_;refine aG _ rfl (.tmp 17) (.tmp 22) _ rfl w 58 i0 _ 1 24 underlying120 T iC iD iE rfl (by omega) () 0 [] rfl (World.ownsRow_nil _ _ _ _) (From w) (some ⟨w,0,none⟩) 1 1 _ rfl tL (by intro u hu;simp at hu;subst hu;rfl) (by simp only [maxLen];omega) (by omega) ea.size ?_;intro x m di q gp;obtain⟨tb,F,ac,v,A⟩:=GQ di (by omega);subst ac;have N:=aa v;have dE:Hid (Below w w m):=aa (ea.grown q ea.size (fun k X=>by simp [Value.ownBlock] at X));have n:=aa (D.below dE);have xO:m.cell? ⟨z,1,none⟩=some (.slice none 0 0):=n.out.cell 1;have YK:∀o,m.frozen? ⟨z,o,none⟩=false:=n.out.frozen;have S:m.cell? ⟨z,1,none⟩=some (.slice none 0 0)/\m.cell? ⟨z,2,none⟩=some (.slice (some ⟨lb,0,none⟩) 1 lc):=⟨n.cell 1,n.cell 2⟩;have R:=aa A;clear di q gp v A;refine rR j (fun _=>S) ?_;clear j K;refine uF 11 (fun _=>S) ?_;refine uF 12 (fun _=>S) ?_;refine mR 13 fun K j=> ?_;go_simp;refine j.out _ _ (fun h=>absurd h (by decide)) ?_;clear j K;try simp only [aL,aN,aZ,aC]
 refine bH (by kernel_rfl) ?_ _;have hc:=(ag.refl (fun b=>b=z) m).setCell (p:=⟨z,1,none⟩) (fun _=>rfl) (.slice (some ⟨tb,0,none⟩) 1 F);have ab:¬tb=z:=by have:=N.out;omega
 exact dz _ _ _ _ _ _ _ _ _ _ _ _ _ tb F _ N.1 (mU N.2 hc.size) (hc.cell ab (R 0 _ rfl)) (n.set_ 1 _) ((ag.of_below dE).trans hc (fun _ _ h=>h))
def PT (dn a lv:Value) (cl:Bool):Array Value:= #[.int .i64 1,dn,a,lv,cl,.int .i64 0]
theorem VK {lb:Nat} {lv:Value} (h:ak w z 122 (PT () (.slice (some ⟨lb,0,none⟩) 1 lc) lv false)):
  Calls prog 83 #[z] w fun e w'=>∃tb d,e= .returned (.int .i64 0)/\w.heap.size<=tb/\tb<w'.heap.size/\w'.cell? tb=some (.slice (some ⟨lb,0,none⟩) 1 lc)/\ak w' z 122 (PT (.slice (some ⟨tb,0,none⟩) 1 d) (.slice none 0 0) lv false)/\ag (fun b=>b=z) w w':=by
 have o:=aa h;have J:w.cell? ⟨z,4,none⟩=some (.bool false):=h.cell 4;have I:w.cell? ⟨z,2,none⟩=some (.slice (some ⟨lb,0,none⟩) 1 lc):=h.cell 2;have q:=h.lt;refine letter fun R n=> ?_;clear h;go_enter func83,ntmps83;go_upto_region 4 with fail
 refine ZC (aa (fun _ _ _ _ h=>h)) o ?_;intro r s t u v x y A B C D E F tb d w1 f g i a j;have c:=aa (And.intro f g);have k:=aa i;have l:=aa a;have m:=aa j;have G:w1.cell? ⟨z,2,none⟩=some (.slice (some ⟨lb,0,none⟩) 1 lc):=a.cell 2;have H:w1.frozen? ⟨z,2,none⟩=false:=a.frozen 2;clear f g i a j;go_wp2;rw [n.out];have hc:=(ag.refl (fun b=>b=z) w1).setCell (p:=⟨z,2,none⟩) (fun _=>rfl) ();exact⟨tb,d,rfl,c.1,mU c.2 hc.size,hc.cell (fun e=>by have e:tb=z:=e;have:=c.out.1;omega) k,l.set_ 2 _,m.out.trans hc (fun _ _ h=>h)⟩
theorem Sf {lv:Value} (h:ak w z 122 (PT dn () lv false)):
  Calls prog 83 #[z] w fun e w'=>e= .returned (.int .i64 0)/\w=w':=by
 have c:w.cell? ⟨z,4,none⟩=some (.bool false):=h.cell 4;have b:w.cell? ⟨z,2,none⟩=some (.slice none 0 0):=h.cell 2;refine letter fun R a=> ?_;clear h;go_enter func83,ntmps83;go_wp2;rw [a.out]
 exact⟨rfl,rfl⟩
theorem J2 {lv:Value} (h:ak w z 122 (PT dn () lv false)):
  Calls prog 46 #[z] w fun e w'=>e= .returned (.int .i64 0)/\ak w' z 122 (PT dn () lv true)/\ag (fun b=>b=z) w w':=by
 have a:=aa h;have f:w.cell? ⟨z,4,none⟩=some (.bool false):=h.cell 4;have d:w.frozen? ⟨z,4,none⟩=false:=h.frozen 4;refine letter fun R c=> ?_;clear h;go_enter func46,ntmps46;go_wp2_with (go_at_call 83;go_loud (refine(Sf a).mono ?_;rintro e w' ⟨rfl,rfl⟩))
 rw [c.out];exact⟨rfl,a.set_ 4 _,(ag.refl (fun b=>b=z) _).setCell (p:=⟨z,4,none⟩) (fun _=>rfl) _⟩
noncomputable def Md:Code:=aQ (f45.body.bind (aF 10))
theorem VL {lv:Value} {D n ea F:Value} (kF:Hid (∀c t (a:Act) w,Q (.panic c) ⟨t,a.defers⟩ w->Q (.panic c) a w))
  (HZ:Hid (ak w z 122 (PT dn () lv false))) (HX:Hid (ak w x 69 #[kv,()])) (al:kv.oneCell'=true)
  (au:∀(ar aw aA aE a0 a1 a2 a3 a4 a5:Value) (lb lc:Nat) (w':World),w<=lb->lb<w'->w'.cell? lb=some kv->w'.cell? ⟨lb,1,none⟩=some (.slice none 0 0)->ak w' z 122 (PT dn (.slice (some ⟨lb,0,none⟩) 1 lc) lv false)->ag (fun b=>b=z) w w'->Q .normal ⟨(.pointer (some ⟨z,0,none⟩)::u1::u2:: .pointer (some ⟨x,0,none⟩)::J::s::u6::u7::u8::u9::L::E::O::W::Z::U::G::f::C::I::M::P::V::d::l::u25::D::m::r::T::j::g::u32::u33::n::i::u36::u37::ea::N::u40::R::u42::X::u44::u45::u46::v::u48::ar::aw::aA::aE::a0::a1::a2::a3::a4::a5::Y).toArray,[]⟩ w'):
  Code.wp prog Md Q ⟨(.pointer (some ⟨z,0,none⟩)::u1::u2:: .pointer (some ⟨x,0,none⟩)::J::s::u6::u7::u8::u9::L::E::O::W::Z::U::G::f::C::I::M::P::V::d::l::u25::D::m::r::T::j::g::u32::u33::n::i::u36::u37::ea::N::u40::R::u42::X::u44::u45::u46::v::u48::u49::H::u51::A::u53::F::u55::S::q::B::Y).toArray,[]⟩ w:=by
 obtain⟨i0,ap,iC,iD,iE⟩:=info_parts Se;have dz:=aa au;have sO:=aa al;have a6:=HZ.out.lt;have S0:w.drew.cell? ⟨z,2,none⟩=some (.slice none 0 0)/\w.drew.cell? x=some kv/\w.drew.cell? ⟨x,1,none⟩=some (.slice none 0 0):=⟨HZ.cell 2,HX.cell 0,HX.cell 1⟩;clear au al;conv=>arg 2;whnf
 refine aM (fun w'=>w'.cell? ⟨z,2,none⟩=some (.slice none 0 0)/\w'.cell? x=some kv/\w'.cell? ⟨x,1,none⟩=some (.slice none 0 0)) 10 (by kernel_rfl) ?_;refine uF 0 (fun _=>S0) ?_;refine uF 1 (fun _=>S0) ?_;refine uF 2 (fun _=>S0) ?_;refine uF 3 (fun _=>S0) ?_;refine uT 4 S0 ?_;refine uT 5 S0 ?_;refine mR 6 fun K hK=> ?_;go_simp;obtain⟨w3,ac⟩:=gF ((w.alloc (.cells #[kv,.slice none 0 0] 69)).drew);rw [<-ac];have ab:Hid (Below w w w3):=aa (by rw [ac];exact gV.drew);have tL:Hid (Rd w3 (From w) 2 (some ⟨w,0,none⟩) 1 [kv,()]):=aa (by rw [ac];exact⟨rfl,fun _=>⟨_,0,rfl,jO,fun k u hk=>by show(w.alloc _).cell? _=_;rw [(ak.new w _ _).cell];simpa using hk⟩⟩);have S3:w3.cell? ⟨z,2,none⟩=some (.slice none 0 0)/\w3.cell? x=some kv/\w3.cell? ⟨x,1,none⟩=some (.slice none 0 0):=⟨aj ab S0.1,aj ab S0.2.1,aj ab S0.2.2⟩;clear ac;refine hK.out _ _ (fun _=>S3) ?_;clear hK K;try simp only [aL,aN,aZ,aC]
 refine mR 7 fun K hK=> ?_;refine aG _ rfl (.tmp 53) (.tmp 55) _ rfl w 69 i0 _ 2 48 underlying58 ap iC iD iE rfl (by omega) () 0 [] rfl (World.ownsRow_nil _ _ _ _) (From w) (some ⟨w,0,none⟩) 1 1 _ rfl tL (by intro u hu;simp at hu;rcases hu with rfl|rfl;exact sO;rfl) (by simp only [maxLen];omega) (by omega) ab.size ?_;intro y w4 di ae gp;obtain⟨lb,lc,aq,am,an⟩:=GQ di (by omega);subst aq;have Fg:=aa am;have dE:Hid (Below w w w4):=aa (ab.grown ae ab.size (fun k hk=>by simp [Value.ownBlock] at hk));have Gt:=aa (HZ.below dE);have xO:w4.cell? ⟨z,2,none⟩=some (.slice none 0 0):=Gt.out.cell 2;have YK:∀o,w4.frozen? ⟨z,o,none⟩=false:=Gt.out.frozen;have S4:w4.cell? ⟨z,2,none⟩=some (.slice none 0 0)/\w4.cell? x=some kv/\w4.cell? ⟨x,1,none⟩=some (.slice none 0 0):=⟨xO,aj dE S0.2.1,aj dE S0.2.2⟩;have ad:=aa an;clear di ae gp am an;refine rR hK (fun _=>S4) ?_;clear hK K;refine uF 8 (fun _=>S4) ?_;refine uF 9 (fun _=>S4) ?_;refine mR 10 fun K hK=> ?_;go_simp;refine hK.out _ _ (fun h=>absurd h (by decide)) ?_;clear hK K;try simp only [aL,aN,aZ,aC]
 refine bH (by kernel_rfl) ?_ _;have hc:=(ag.refl (fun b=>b=z) w4).setCell (p:=⟨z,2,none⟩) (fun _=>rfl) (.slice (some ⟨lb,0,none⟩) 1 lc);have ao:¬lb=z:=by have:=Fg.out;omega
 exact dz _ _ _ _ _ _ _ _ _ _ lb lc _ Fg.1 (mU Fg.2 hc.size) (hc.cell ao (ad 0 _ rfl)) (hc.cell ao (ad 1 _ rfl)) (Gt.set_ 2 _) ((ag.of_below dE).trans hc (fun _ _ h=>h))
def Mt (F:Nat->Prop) (z kc:Nat) (kA:Option Addr) (w:World) (e:Ending) (w':World):Prop:=
 ∃tb a lb lc,e= .returned (.int .i64 0)/\(w.heap.size<=tb/\tb<w'.heap.size)/\w.heap.size<=lb/\w'.cell? tb=some (.slice (some ⟨lb,0,none⟩) 1 lc)/\E1 w' F lb kA kc/\ak w' z 122 (PT (.slice (some ⟨tb,0,none⟩) 1 a) () (.slice kA 1 kc) false)/\ag (fun b=>b=z) w w'
theorem Sg (h:ak w z 122 (PT () () () false)) (hk:SB w F (.slice kA 1 kc) [107]) (hF:∀b,F b->b<w/\b≠z):
  Calls prog 45 #[z,.agg #[.slice kA 1 kc,()]] w (Mt F z kc kA w):=by
 have HZ:=aa h;have HK:=aa hk;have Z:=aa hF;have ab:=h.lt;refine letter fun R HR=> ?_;clear h hk hF;go_enter func45,ntmps45;go_upto_region 4 with(go_at_call 70;go_loud (obtain⟨w1,d⟩:=gF (w.alloc (.cells #[.slice kA 1 kc,.slice none 0 0] 69));rw [<-d];have A:ak w1 w 69 #[.slice kA 1 kc,()]:=(by rw [d];exact ak.new _ _ _);have n:Below w w w1:=(by rw [d];exact gV);clear d;refine(fZ kA none 1 0 kc 0 ([107],[]) rfl rfl w1).mono ?_;rintro e w2 ⟨rfl,o⟩;rw [show jf ([107],[])=0 by decide];have u:Hid (Below w w w2):=aa (n.trans (o.mono n.size));have qh:=aa (A.below o);have c:=aa (HZ.below u);have Q:w2.cell? ⟨z,4,none⟩=some (.bool false):=c.out.cell 4;have N:w2.cell? ⟨z,1,none⟩=some (.slice none 0 0):=c.out.cell 1;have O:w2.cell? ⟨z,2,none⟩=some (.slice none 0 0):=c.out.cell 2;have P:w2.cell? ⟨z,3,none⟩=some (.slice none 0 0):=c.out.cell 3;clear A n o))
 go_wp2;go_quiet (fail)
 obtain⟨G,f⟩:=gF (w2.drewN nq);have g:Hid (Below w w G):=aa (by rw [f];exact vV u nq);have Zr:Hid (ak G w 69 #[.slice kA 1 kc,()]):=aa (by rw [f];exact qh.drewN nq);have j:=aa (HZ.below g);have S:G.cell? ⟨z,1,none⟩=some (.slice none 0 0):=j.out.cell 1;have T:G.cell? ⟨z,2,none⟩=some (.slice none 0 0):=j.out.cell 2;rw [<-f];clear f Q N O P;go_upto_region 10 with fail;refine VL (aa (fun _ _ _ _ h=>h)) j Zr rfl ?_;intro ac ad ae al am an ao ap aq ar lb lc q r s v x l L;have i:=aa (And.intro r s);have jo:=aa v;have kV:=aa x;have Gt:=aa l;have gK:=aa L;have PQ:=aa g.size;have U:q.cell? w=some (.slice kA 1 kc):=(Zr.out.chg L (fun e=>by have e:w.heap.size=z:=e;omega)).cell 0;have V:q.cell? ⟨z,3,none⟩=some (.slice none 0 0):=l.cell 3;have hf:q.frozen? ⟨z,3,none⟩=false:=l.frozen 3;clear r s v x l L S T;go_upto_region 12 with fail
 obtain⟨t,C⟩:=gF (q.setCell ⟨z,3,none⟩ (.slice kA 1 kc));have k:Hid (ak t z 122 (PT () (.slice (some ⟨lb,0,none⟩) 1 lc) (.slice kA 1 kc) false)):=aa (by rw [C];exact Gt.set_ 3 _);have ed:Hid (ag (fun b=>b=z) w t):=aa (by rw [C];exact((ag.of_below g).trans gK (fun _ _ h=>h)).setCell (p:=⟨z,3,none⟩) (fun _=>rfl) _);have J:Hid (ag (fun b=>b=z) q t):=aa (by rw [C];exact(ag.refl (fun b=>b=z) q).setCell (p:=⟨z,3,none⟩) (fun _=>rfl) _);have X:t.cell? ⟨z,2,none⟩=some (.slice (some ⟨lb,0,none⟩) 1 lc):=k.out.cell 2;have W:t.cell? z=some (.int .i64 1):=k.out.cell 0;rw [<-C];clear C U V hf;go_quiet (fail);obtain⟨M,B⟩:=gF (t.drewN nq);have H:Hid (ak M z 122 (PT () (.slice (some ⟨lb,0,none⟩) 1 lc) (.slice kA 1 kc) false)):=aa (by rw [B];exact k.drewN nq);have K:Hid (ag (fun b=>b=z) q M):=aa (by rw [B];exact J.drewN nq);have D:Hid (ag (fun b=>b=z) w M):=aa (by rw [B];exact ed.drewN nq);rw [<-B];clear B X W;go_wp2_with (go_at_call 83;go_loud (refine(VK H).mono ?_;rintro e w7 ⟨tb,tc,rfl,r,s,v,x,l⟩;have Y:=aa (And.intro r s);have H3:=aa v;have I:=aa x;have E:=aa l;clear r s v x l));rw [HR.out];have a:=K.out.trans E (fun _ _ h=>h);have y:¬lb=z:=fun e=>by have r:=i.out.1;have s:=PQ.out;omega
 refine⟨tb,tc,lb,lc,rfl,⟨ma D.size Y.1,Y.2⟩,ma PQ i.1,H3,⟨a.cell y jo,a.cell y kV,?_,fun b m=> ?_⟩,I,D.out.trans E (fun _ _ h=>h)⟩
 ·exact HK.chg (D.out.trans E (fun _ _ h=>h)) (fun b m e=>(Z b m).2 e)
 ·rcases m with m|m
  ·rw [m];exact mU i.2 a.size
  ·exact mU (Z b m).1 (ma D.size E.size)
theorem J3 (c0 kc:Nat) (h:E1 w F o kA kc):
  Calls prog 21 #[.slice (some ⟨o,0,none⟩) 1 c0,.int .i64 1] w fun e w'=>∃A c,e= .returned (.tuple #[.slice A 46 c,.int .i64 0,.int .i64 0])/\OB w w' (.slice A 46 c) lY:=by
 have l:=aa h;refine letter fun R N=> ?_;clear h;go_enter func21,ntmps21;go_wp2;obtain⟨w1,i⟩:=gF (w.alloc (.cells #[.int .i64 1,.slice none 0 0,.slice none 0 0,.slice none 0 0,.bool false,.int .i64 0] 122))
 rw [<-i];have k:ak w1 w 122 (PT () () () false):=by rw [i];exact ak.new _ _ _
 have f:Below w w w1:=by rw [i];exact gV
 have s:=aa k;have a:=aa f;have v:=aa k.lt;have U:w1.cell? o=some (.slice kA 1 kc):=aj f l.c0;have V:w1.cell? ⟨o,1,none⟩=some (.slice none 0 0):=aj f l.c1;clear i k f;refine wp_loop_rounds 2 ?_;rw [rounds_succ];go_wp2_with (go_at_call 45;go_loud (refine(Sg s (l.key.below a) (fun b d=>by have p:=l.out.own b (.inr d);have z:=a.out.size;exact⟨by omega,by omega⟩)).mono ?_;rintro e w2 ⟨tb,T,lb,lc,rfl,p,z,G,H,I,J⟩;have D:=aa p;have M:=aa z;have r:=aa G;have q:=aa H;have t:=aa I;have E:=aa J;clear p z G H I J));rw [rounds_succ];go_wp2_with (first|(go_at_call 46;go_loud (refine(J2 t).mono ?_;rintro e L ⟨rfl,n,g⟩;have u:=aa n;have y:=aa g;have j:∀b,b=tb\/b=lb\/F b->¬b=w.heap.size:=(fun b d=>by have p:=v.out;rcases d with d|d|d;(have:=D.out.1;omega);(have:=M.out;omega);have:=l.out.own b (.inr d);omega);have O:=aa (q.chg g (fun b d=>j b (.inr d)));have x:Hid (L.cell? tb=some (.slice (some ⟨lb,0,none⟩) 1 lc)):=aa (g.cell (j tb (.inl rfl)) r);clear n g j))|(go_at_call 47;go_loud (refine(JZ u O x (mU D.2 y.size)).mono ?_;rintro e S ⟨A,c,rfl,K,m⟩;have Q:=aa K;have P:=aa m;clear K m)))
 go_ret3
 rw [N.out];have B:ag (fun b=>b=w.heap.size) w1 S:=E.out.trans (y.out.trans P (fun _ _ h=>h)) (fun _ _ h=>h);have C:w.heap.size<=L:=ma a.size (ma E.size y.size);exact⟨A,c,rfl,kX Q C,a.out.trans (B.below_of a.size (fun b d e=>by have e:b=w.heap.size:=e;omega))⟩
section
section
variable (fill inn:Nat) (l:List aR)
def nL:Nat->Nat
 |0=>pn l.length fill
 |k+1=>pn (nL k) inn
def dL:Nat->Nat
 |0=>0
 |k+1=>dL k+nL fill inn l k
def hL:Nat->Nat->List UInt8
 |0=>iX fill l
 |k+1=>ID inn (xG (dL fill inn l k) (nL fill inn l k) (hL k))
def sL:Nat->Nat->aX
 |0=>nu fill l (nL fill inn l 0)
 |k+1=>kr inn ((k:Int)+1) (xG (dL fill inn l k) (nL fill inn l k) (hL fill inn l k)) (dL fill inn l (k+1)) (nL fill inn l (k+1))
def flat:Nat->List aX
 |0=> []
 |k+1=>flat k++(List.range (nL fill inn l k)).map (sL fill inn l k)
end
section
variable {fill inn:Nat} {l:List aR}
theorem pW (k:Nat):(flat fill inn l k).length=dL fill inn l k:=by
 induction k with
 |zero=>rfl
 |succ k a=>rw [flat,mq,a,List.length_map,List.length_range,dL]
theorem lq (w:1<=fill) (hi:1<=inn) (k:Nat):1<=nL fill inn l k:=by
 cases k with
 |zero=>exact oF _ _ w
 |succ k=>exact oF _ _ hi
theorem Mq {j k:Nat} (h:j<=k):dL fill inn l j<=dL fill inn l k:=by
 induction k with
 |zero=>
  have:j=0:=by omega
  subst this;exact jO
 |succ k b=>
  rcases Nat.lt_or_ge k j with a|a
  ·have:j=k+1:=by omega
   subst this;exact jO
  ·exact ma (b a) (by rw [dL];omega)
theorem VC (k:Nat):∀j i,j<k->i<nL fill inn l j->(flat fill inn l k)[dL fill inn l j+i]? =some (sL fill inn l j i):=by
 induction k with
 |zero=>intro j i h;omega
 |succ k b=>
  intro j i c hi;rw [flat]
  rcases Nat.lt_or_ge j k with h|h
  ·have a:dL fill inn l (j+1)<=dL fill inn l k:=Mq h;rw [dL] at a;rw [qK (by rw [pW];omega)]
   exact b j i h hi
  ·have:j=k:=by omega
   subst this;rw [q9 (by rw [pW];omega),pW,show dL fill inn l j+i-dL fill inn l j=i by omega,List.getElem?_map,List.getElem?_range hi];rfl
theorem RY {nd:Int} (w:1<=fill) (hi:1<=inn):∀(f k:Nat),(lv nd inn f (nL fill inn l k) (dL fill inn l k)).2=0->
  ∃L,k<=L/\L<k+f/\nL fill inn l L=1/\(∀j,k<=j->j<L->1<nL fill inn l j)/\IL inn f ((k:Int)+1) (flat fill inn l (k+1)) (xG (dL fill inn l k) (nL fill inn l k) (hL fill inn l k))=(flat fill inn l (L+1),xG (dL fill inn l L) (nL fill inn l L) (hL fill inn l L))/\
   (lv nd inn f (nL fill inn l k) (dL fill inn l k)).1=(dL fill inn l (L+1):Int)/\(dL fill inn l (L+1):Int)<=nd:=by
 intro f
 induction f with
 |zero=>intro k h;simp [lv] at h
 |succ f r=>
  intro k h
  have g:¬nd-(dL fill inn l k:Int)<(nL fill inn l k:Int):=by
   intro q;rw [ja q] at h;simp at h
  have s:=lq (l:=l) w hi k
  by_cases o:nL fill inn l k=1
  ·refine⟨k,jO,by omega,o,fun j p m=>by omega,tY (by rw [tZ];omega),?_,?_⟩
   ·rw [Dk g (by omega),dL]
    simp only [Int.natCast_add]
   ·rw [dL];omega
  ·have i:1<nL fill inn l k:=by omega
   rw [oG g (by omega),<-ik _ inn hi] at h|-;have e:(dL fill inn l k:Int)+(nL fill inn l k:Int)=(dL fill inn l (k+1):Int):=by rw [dL];simp only [Int.natCast_add]
   rw [e] at h|-;obtain⟨L,a,b,c,d,u,v,x⟩:=r (k+1) h
   refine⟨L,by omega,by omega,c,fun j p m=> ?_,?_,v,x⟩
   ·rcases Nat.lt_or_ge k j with n|n
    ·exact d j n m
    ·have:j=k:=by omega
     subst this;exact i
   ·rw [<-u,IL,if_pos (by rw [tZ];exact i)];simp only [tZ,pW];rfl
theorem wX {n m i:Nat} (b:1<=m) (hn:1<=n):i<pn n m↔i*m<n:=by
 obtain⟨c,d⟩:=iU n m b hn
 constructor
 ·intro h;have:(i+1)*m<=pn n m*m:=Nat.mul_le_mul_right m h;rw [Nat.add_mul] at this
  omega
 ·intro h
  rcases Nat.lt_or_ge i (pn n m) with a|a
  ·exact a
  ·have:pn n m*m<=i*m:=Nat.mul_le_mul_right m a;omega
theorem Mr (m:Nat):pn 0 m=1:=by simp [pn,parts]
theorem yX (d M n s:Nat) (h:Nat->List UInt8):((xG d M h).drop s).take n=(List.range (min n (M-s))).map fun(j:Nat)=>((d:Int)+((s+j:Nat):Int)+1,h (s+j)):=by
 apply List.ext_getElem?;intro j;rw [List.getElem?_take,List.getElem?_map]
 by_cases a:j<n
 ·rw [if_pos a,List.getElem?_drop,xG,List.getElem?_map]
  by_cases b:s+j<M
  ·rw [List.getElem?_range b,List.getElem?_range (by omega)];rfl
  ·rw [List.getElem?_eq_none (by simpa using b),List.getElem?_eq_none (by simp;omega)];rfl
 ·rw [if_neg a,List.getElem?_eq_none (by simp;omega)];rfl
theorem JU {α:Type} (f:Nat->α) (m:Nat) (d:α) (a:1<=m):((List.range m).map f).getLastD d=f (m-1):=by
 obtain⟨m,rfl⟩:∃k,m=k+1:=⟨m-1,by omega⟩;rw [List.range_succ,List.map_append,List.map_singleton];simp
theorem JV {α:Type} (f:Nat->α) (m:Nat):((List.range m).map f).dropLast=(List.range (m-1)).map f:=by
 cases m with
 |zero=>rfl
 |succ m=>rw [List.range_succ,List.map_append,List.map_singleton,List.dropLast_concat];rfl
def mK (inn M i:Nat):Nat:=min inn (M-i*inn)
theorem JW {M i:Nat} (hi:1<=inn) (a:1<=M) (h:i<pn M inn):1<=mK inn M i:=by
 have:=(wX hi a).1 h;unfold mK;omega
theorem qA {k i:Nat} (w:1<=fill) (hi:1<=inn) (h:i<nL fill inn l (k+1)):hL fill inn l (k+1) i=hL fill inn l k (i*inn+(mK inn (nL fill inn l k) i-1)):=by
 have a:=JW hi (lq (l:=l) w hi k) h;show ID inn (xG _ _ _) i=_;unfold ID jk;rw [yX];exact congrArg Prod.snd (JU _ _ _ a)
theorem ny (k i:Nat):(sL fill inn l (k+1) i).2.keys=(List.range (mK inn (nL fill inn l k) i-1)).map fun j=>hL fill inn l k (i*inn+j):=by
 show(jk inn (xG _ _ _) i).dropLast.map Prod.snd=_;unfold jk;rw [yX,JV,List.map_map];rfl
theorem qC (k i:Nat):(sL fill inn l (k+1) i).2.kids=(List.range (mK inn (nL fill inn l k) i)).map fun(j:Nat)=>(dL fill inn l k:Int)+((i*inn+j:Nat):Int)+1:=by
 show(jk inn (xG _ _ _) i).map Prod.fst=_;unfold jk;rw [yX,List.map_map];rfl
theorem uf (k i:Nat):(sL fill inn l k i).2.high=hL fill inn l k i:=by cases k<;>rfl
theorem yY (k i:Nat):(sL fill inn l k i).2.lev=(k:Int):=by cases k<;>rfl
theorem right_eq (k i:Nat):(sL fill inn l k i).2.right=if i+1<nL fill inn l k then(dL fill inn l k:Int)+(i:Int)+1+1 else 0:=by
 cases k with
 |zero=>show(if i+1<nL fill inn l 0 then(i:Int)+1+1 else 0)=_;simp only [dL];split<;>omega
 |succ k=>rfl
structure VD (fill inn:Nat) (l:List aR) (k:Nat):Prop where
 some_:∀i,i+1<nL fill inn l k->1<=(hL fill inn l k i).length/\(hL fill inn l k i).length<=64
 none_:∀i,i+1=nL fill inn l k->hL fill inn l k i= []
 up:∀i j,i<j->j+1<nL fill inn l k->sj (hL fill inn l k i) (hL fill inn l k j)
theorem vS {M i:Nat} (hi:1<=inn) (a:1<=M) (h:i<pn M inn):i*inn+(mK inn M i-1)+1=min ((i+1)*inn) M:=by
 have:=(wX hi a).1 h;rw [Nat.add_mul];unfold mK;omega
theorem VD.step {k:Nat} (w:1<=fill) (hi:1<=inn) (h:VD fill inn l k):VD fill inn l (k+1):=by
 have a:=lq (l:=l) w hi k;have e:nL fill inn l (k+1)=pn (nL fill inn l k) inn:=rfl;have q:∀i,i+1<nL fill inn l (k+1)->(i+1)*inn<nL fill inn l k:=fun i h=>(wX hi a).1 (by rw [<-e];exact h)
 refine⟨fun i b=> ?_,fun i b=> ?_,fun i j f g=> ?_⟩
 ·rw [qA w hi (by omega)];have c:=vS (inn:=inn) hi a (i:=i) (by rw [<-e];omega);have d:=q i b
  exact h.some_ _ (by omega)
 ·rw [qA w hi (by omega)];have c:=vS (inn:=inn) hi a (i:=i) (by rw [<-e];omega);have d:¬(i+1)*inn<nL fill inn l k:=fun m=>by have:=(wX hi a).2 m;rw [<-e] at this;omega
  exact h.none_ _ (by omega)
 ·rw [qA w hi (by omega),qA w hi (by omega)];have c:=vS (inn:=inn) hi a (i:=i) (by rw [<-e];omega);have d:=vS (inn:=inn) hi a (i:=j) (by rw [<-e];omega);have n:=q i (by omega);have o:=q j g;have p:(i+2)*inn<=(j+1)*inn:=Nat.mul_le_mul_right inn (by omega);have r:(i+2)*inn=(i+1)*inn+inn:=by rw [show i+2=(i+1)+1 by omega,Nat.add_mul (i+1),Nat.one_mul]
  refine h.up _ _ (by omega) (by omega)
theorem qD (h:bY l):∀(d i:Nat),i+d+1<l.length->sj (l.getD i ([],[])).1 (l.getD (i+d+1) ([],[])).1:=by
 have one:∀i,i+1<l.length->sj (l.getD i ([],[])).1 (l.getD (i+1) ([],[])).1:=by
  intro i hi;have:=h (i+1) hi;unfold fO at this
  split at this
  ·contradiction
  ·split at this
   ·simp at this
   ·rename_i a;simp only [Nat.succ_pos,true_and,Nat.add_sub_cancel,Int.not_le] at a;exact a
 intro d
 induction d with
 |zero=>intro i hi;exact one i hi
 |succ d b=>intro i hi;exact(b i (by omega)).trans (one (i+d+1) (by omega))
theorem sw (h:bY l) {i:Nat} (hi:i<l.length):1<=(l.getD i ([],[])).1.length/\(l.getD i ([],[])).1.length<=64/\(l.getD i ([],[])).2.length<=256:=by
 have:=h i hi;unfold fO at this
 split at this
 ·contradiction
 ·rename_i a;have a:jf (l.getD i ([],[]))=0:=by simpa using a
  unfold jf at a
  split at a
  ·assumption
  ·cases a
theorem yZ (h:bY l) (w:1<=fill) {i:Nat} (hi:(i+1)*fill<l.length):
  sj (l.getD ((i+1)*fill-1) ([],[])).1 (iX fill l i)/\sW (iX fill l i) (l.getD ((i+1)*fill) ([],[])).1/\1<=(iX fill l i).length/\(iX fill l i).length<=64:=by
 have b:1<=(i+1)*fill:=Nat.mul_pos (by omega) w;have:=qD h 0 ((i+1)*fill-1) (by omega);rw [show(i+1)*fill-1+0+1=(i+1)*fill by omega] at this;have a:=VE this (sw h hi).2.1;have e:iX fill l i=(l8 (l.getD ((i+1)*fill-1) ([],[])).1 (l.getD ((i+1)*fill) ([],[])).1).1:=by unfold iX;rw [if_pos hi]
 rw [e];exact a
theorem oH (w:1<=fill) {i:Nat} (h:i+1<pn l.length fill):(i+1)*fill<l.length:=by
 rcases Nat.eq_zero_or_pos l.length with a|a
 ·rw [a,Mr] at h;omega
 ·exact(wX w a).1 h
theorem VF (w:1<=fill) {i:Nat} (h:¬i+1<pn l.length fill):¬(i+1)*fill<l.length:=by
 intro b
 rcases Nat.eq_zero_or_pos l.length with a|a
 ·omega
 ·exact h ((wX w a).2 b)
theorem VD.zero (h:bY l) (w:1<=fill):VD fill inn l 0:=by
 refine⟨fun i hi=> ?_,fun i hi=> ?_,fun i j e a=> ?_⟩
 ·exact(yZ h w (oH w hi)).2.2
 ·show iX fill l i= [];unfold iX
  rw [if_neg (VF w (by show¬i+1<nL fill inn l 0;omega))]
 ·have b:=yZ h w (oH w (i:=i) (by show i+1<nL fill inn l 0;omega));have c:=yZ h w (oH w a);have f:(i+2)*fill<=(j+1)*fill:=Nat.mul_le_mul_right fill (by omega);have g:(i+2)*fill=(i+1)*fill+fill:=by rw [show i+2=(i+1)+1 by omega,Nat.add_mul (i+1),Nat.one_mul]
  have k:=oH w a;show sj (iX fill l i) (iX fill l j);refine sW.trans_lt b.2.1 ?_;refine sW.trans_lt ?_ c.1
  rcases Nat.lt_or_ge ((i+1)*fill) ((j+1)*fill-1) with d|d
  ·have:=qD h ((j+1)*fill-1-(i+1)*fill-1) ((i+1)*fill) (by omega);rw [show(i+1)*fill+((j+1)*fill-1-(i+1)*fill-1)+1=(j+1)*fill-1 by omega] at this
   exact this.le
  ·rw [show(j+1)*fill-1=(i+1)*fill by omega];exact sW.refl _
theorem hok (h:bY l) (w:1<=fill) (hi:1<=inn) (k:Nat):VD fill inn l k:=by
 induction k with
 |zero=>exact VD.zero h w
 |succ k a=>exact a.step w hi
end
end
section
structure Fine (nd lf:Int) (inn:Nat) (x:Nd):Prop where
 oL:0<=x.lev
 aM9:x.lev<=32
 aH5:0<=x.right
 aH6:x.right<=nd
 last:x.high= []↔x.right=0
 high:x.high.length<=64
 up:∀j a b,x.keys[j]? =some a->x.keys[j+1]? =some b->sj a b
 key:∀a∈x.keys,1<=a.length/\a.length<=64/\(x.high= []\/sj a x.high)
 leaf:x.lev=0->x.vals.length=x.keys.length/\(x.keys.length:Int)<=lf/\x.kids= []/\∀v∈x.vals,v.length<=256
 inner:x.lev≠0->x.vals= []/\x.kids.length=x.keys.length+1/\x.kids.length<=inn/\x.kids.Nodup/\∀k∈x.kids,1<=k/\k<=nd
def jb (h:Nat->List UInt8) (i:Nat):List UInt8:=if i=0 then [] else h (i-1)
def Yv (low:List UInt8) (x:Nd):Prop:=low≠ []->(∀a,x.keys[0]? =some a->sW low a)/\(x.high= []\/sj low x.high)
def lu (fill:Nat) (l:List aR) (i:Nat):List aR:=(l.drop (i*fill)).take fill
section
variable {fill inn:Nat} {l:List aR}
theorem kS (i:Nat):(sL fill inn l 0 i).2.keys=(lu fill l i).map Prod.fst:=rfl
theorem vX (i:Nat):(sL fill inn l 0 i).2.vals=(lu fill l i).map Prod.snd:=rfl
theorem Pm (i:Nat):(lu fill l i).length=min fill (l.length-i*fill):=by simp [lu]
theorem uX (i j:Nat):(lu fill l i)[j]? =if j<fill then l[i*fill+j]? else none:=by
 unfold lu;rw [List.getElem?_take];split
 ·rw [List.getElem?_drop]
 ·rfl
theorem getD_some {i:Nat} {e:aR} (h:l[i]? =some e):l.getD i ([],[])=e/\i<l.length:=⟨by simp [List.getD,h],(nE.1 h).1⟩
theorem Sn (m:Nat):(List.range m).flatMap (lu fill l)=l.take (m*fill):=by
 induction m with
 |zero=>simp
 |succ m a=>
  rw [List.range_succ,List.flatMap_append,a,List.flatMap_singleton,lu,Nat.add_mul,Nat.one_mul,List.take_add]
theorem Vl (w:1<=fill):l.length<=nL fill inn l 0*fill:=by
 rcases Nat.eq_zero_or_pos l.length with h|h
 ·omega
 ·exact(iU l.length fill w h).1
theorem DN (w:1<=fill):(List.range (nL fill inn l 0)).flatMap (lu fill l)=l:=by
 rw [Sn,List.take_of_length_le (Vl w)]
theorem uY {k:Nat} (h:VD fill inn l k) {i:Nat} (hi:i<nL fill inn l k):hL fill inn l k i= []↔¬i+1<nL fill inn l k:=by
 constructor
 ·intro e a;have:=h.some_ i a;rw [e] at this
  simp at this
 ·intro a;exact h.none_ i (by omega)
theorem Wm {k:Nat} (h:VD fill inn l k) {i:Nat} (hi:i<nL fill inn l k):(hL fill inn l k i).length<=64:=by
 by_cases a:i+1<nL fill inn l k
 ·exact(h.some_ i a).2
 ·rw [(uY h hi).2 a];simp
theorem zW (w:1<=fill) (hi:1<=inn) {k i:Nat} (h:i<nL fill inn l (k+1)):jb (hL fill inn l (k+1)) i=jb (hL fill inn l k) (i*inn):=by
 unfold jb
 rcases Nat.eq_zero_or_pos i with a|a
 ·subst a;simp
 ·have e:1<=i*inn:=Nat.mul_pos a hi;rw [if_neg (by omega),if_neg (by omega),qA w hi (by omega)];have b:=lq (l:=l) w hi k;have c:=vS (inn:=inn) hi b (i:=i-1) (by show i-1<nL fill inn l (k+1);omega);have d:=(wX hi b).1 (show i<pn (nL fill inn l k) inn from h);rw [show i-1+1=i by omega] at c;congr 1;omega
theorem Sm (w:1<=fill) (hi:1<=inn) {k i j:Nat} (h:i<nL fill inn l (k+1)) (b:j<mK inn (nL fill inn l k) i):
  (sL fill inn l (k+1) i).2.kids[j]? =some ((dL fill inn l k:Int)+((i*inn+j:Nat):Int)+1)/\i*inn+j<nL fill inn l k/\(j≠0->(sL fill inn l (k+1) i).2.keys[j-1]? =some (jb (hL fill inn l k) (i*inn+j)))/\(j=0->jb (hL fill inn l (k+1)) i=jb (hL fill inn l k) (i*inn+j)):=by
 refine⟨?_,by unfold mK at b;omega,fun a=> ?_,fun a=> ?_⟩
 ·rw [qC,List.getElem?_map,List.getElem?_range b];rfl
 ·rw [ny,List.getElem?_map,List.getElem?_range (by omega)];unfold jb;rw [if_neg (by omega),show i*inn+j-1=i*inn+(j-1) by omega]
  rfl
 ·subst a;exact zW w hi h
theorem uh (k i:Nat):(sL fill inn l (k+1) i).2.kids.length=mK inn (nL fill inn l k) i:=by rw [qC];simp
theorem ZD (u:bY l) (w:1<=fill) (hi:1<=inn) {k i:Nat} (h:i<nL fill inn l k):Yv (jb (hL fill inn l k) i) (sL fill inn l k i).2:=by
 intro g;have H:=hok (inn:=inn) u w hi k;have o:i≠0:=fun e=>g (by simp [jb,e]);have m:jb (hL fill inn l k) i=hL fill inn l k (i-1):=by simp [jb,o]
 refine⟨fun a d=> ?_,?_⟩
 ·cases k with
  |zero=>
   rw [m];have n:=(yZ u w (oH w (i:=i-1) (by show i-1+1<nL fill inn l 0;omega))).2.1;rw [show i-1+1=i by omega] at n;rw [kS,List.getElem?_map,uX,if_pos (by omega),Nat.add_zero] at d;obtain⟨e,p,rfl⟩:=Option.map_eq_some_iff.1 d;rw [<-(getD_some p).1]
   exact n
  |succ k=>
   rw [zW w hi h];have q:=(ny (fill:=fill) (inn:=inn) (l:=l) k i);rw [q,List.getElem?_map] at d;obtain⟨j,c,rfl⟩:=Option.map_eq_some_iff.1 d
   have f:j=0/\0<mK inn (nL fill inn l k) i-1:=by
    have b:=(nE.1 c).1;rw [List.length_range] at b;rw [List.getElem?_range b] at c;injection c with c
    exact⟨c.symm,b⟩
   obtain⟨rfl,r⟩:=f;have s:1<=i*inn:=Nat.mul_pos (by omega) hi;unfold jb;rw [if_neg (by omega)];refine((hok (inn:=inn) u w hi k).up _ _ (by omega) ?_).le;unfold mK at r
   omega
 ·rw [uf,m]
  by_cases hl:i+1<nL fill inn l k
  ·exact .inr (H.up _ _ (by omega) hl)
  ·exact .inl ((uY H h).2 hl)
theorem EF (k:Nat):dL fill inn l (k+1)=dL fill inn l k+nL fill inn l k:=rfl
theorem VN (u:bY l) (w:1<=fill) (hi:1<=inn) {nd lf:Int} (L:(fill:Int)<=lf) {k i:Nat} (U:k<=32) (T:(dL fill inn l (k+1):Int)<=nd) (h:i<nL fill inn l k):Fine nd lf inn (sL fill inn l k i).2:=by
 have H:=hok (inn:=inn) u w hi k;have J:=EF (fill:=fill) (inn:=inn) (l:=l) k
 refine⟨by rw [yY];omega,by rw [yY];omega,by rw [right_eq];split<;>omega,by rw [right_eq];split<;>omega,?_,by rw [uf];exact Wm H h,?_,?_,?_,?_⟩
 ·rw [uf,uY H h,right_eq]
  split
  ·rename_i r;simp only [r,not_true,false_iff];omega
  ·rename_i r;simp [r]
 ·intro j a b n y
  cases k with
  |zero=>
   rw [kS,List.getElem?_map,uX] at n y;obtain⟨e,o,rfl⟩:=Option.map_eq_some_iff.1 n;obtain⟨O,p,rfl⟩:=Option.map_eq_some_iff.1 y
   split at o
   ·split at p
    ·have N:=getD_some o;have F:=getD_some p;rw [<-N.1,<-F.1]
     exact qD u 0 _ F.2
    ·cases p
   ·cases o
  |succ k=>
   rw [ny,List.getElem?_map] at n y;obtain⟨c,hc,rfl⟩:=Option.map_eq_some_iff.1 n;obtain⟨d,g,rfl⟩:=Option.map_eq_some_iff.1 y;have E:=(nE.1 hc).1;have C:=(nE.1 g).1;rw [List.length_range] at E C;rw [List.getElem?_range E] at hc;rw [List.getElem?_range C] at g;injection hc with hc
   injection g with g
   subst hc g;refine(hok (inn:=inn) u w hi k).up _ _ (by omega) ?_;unfold mK at C
   omega
 ·intro a n;rw [uf]
  cases k with
  |zero=>
   rw [kS] at n;obtain⟨e,o,rfl⟩:=List.mem_map.1 n;obtain⟨j,m,rfl⟩:=List.mem_iff_getElem.1 o;have f:(lu fill l i)[j]? =some ((lu fill l i)[j]):=mP m;rw [uX] at f
   split at f
   ·have q:=getD_some f;have s:=sw u q.2;rw [q.1] at s;refine⟨s.1,s.2.1,?_⟩
    by_cases hl:i+1<nL fill inn l 0
    ·refine .inr ?_;have t:=(yZ u w (oH w hl)).1;have M:=oH w hl;rw [<-q.1];have P:(i+1)*fill=i*fill+fill:=by rw [Nat.add_mul,Nat.one_mul]
     rcases Nat.lt_or_ge (i*fill+j) ((i+1)*fill-1) with G|G
     ·have:=qD u ((i+1)*fill-1-(i*fill+j)-1) (i*fill+j) (by omega);rw [show i*fill+j+((i+1)*fill-1-(i*fill+j)-1)+1=(i+1)*fill-1 by omega] at this
      exact this.trans t
     ·rw [show i*fill+j=(i+1)*fill-1 by omega]
      exact t
    ·exact .inl ((uY H h).2 hl)
   ·cases f
  |succ k=>
   have D:=hok (inn:=inn) u w hi k;rw [ny] at n;obtain⟨j,m,rfl⟩:=List.mem_map.1 n;have m:j<mK inn (nL fill inn l k) i-1:=by simpa using m
   have B:i*inn+j+1<nL fill inn l k:=by unfold mK at m;omega
   have t:=D.some_ _ B;refine⟨t.1,t.2,?_⟩
   by_cases hl:i+1<nL fill inn l (k+1)
   ·refine .inr ?_;rw [qA w hi h];have Q:=vS (inn:=inn) hi (lq (l:=l) w hi k) h;have S:=(wX hi (lq (l:=l) w hi k)).1 (show i+1<pn (nL fill inn l k) inn from hl)
    exact D.up _ _ (by omega) (by omega)
   ·exact .inl ((uY H h).2 hl)
 ·intro z;have A:k=0:=by rw [yY] at z;omega
  subst A
  refine⟨by rw [kS,vX,List.length_map,List.length_map],?_,rfl,fun v hv=> ?_⟩
  ·rw [kS,List.length_map,Pm];omega
  ·rw [vX] at hv;obtain⟨e,o,rfl⟩:=List.mem_map.1 hv;obtain⟨j,m,rfl⟩:=List.mem_iff_getElem.1 o;have f:(lu fill l i)[j]? =some ((lu fill l i)[j]):=mP m;rw [uX] at f
   split at f
   ·have q:=getD_some f;have s:=sw u q.2;rw [q.1] at s
    exact s.2.2
   ·cases f
 ·intro z
  cases k with
  |zero=>exact absurd (yY 0 i) z
  |succ k=>
   have V:=JW (inn:=inn) hi (lq (l:=l) w hi k) h
   refine⟨rfl,by rw [uh,ny,List.length_map,List.length_range];omega,by rw [uh];unfold mK;omega,?_,?_⟩
   ·rw [qC]
    refine List.Pairwise.map _ (R:=(·≠·)) (fun a b I=>by omega) List.nodup_range
   ·intro x r;rw [qC] at r;obtain⟨j,m,rfl⟩:=List.mem_map.1 r;have m:j<mK inn (nL fill inn l k) i:=by simpa using m
    have K:=EF (fill:=fill) (inn:=inn) (l:=l) k;unfold mK at m;omega
theorem J8 {nd lf bl:Int} (hc:bq nd lf inn fill bl) (f:(aT nd lf inn fill bl l.length).2=0):
  ∃L,L<=31/\nL fill inn l L=1/\(∀j,j<L->1<nL fill inn l j)/\(aY fill inn l).2=(dL fill inn l L:Int)+1/\(aY fill inn l).1.length=dL fill inn l (L+1)/\(aT nd lf inn fill bl l.length).1=(dL fill inn l (L+1):Int)/\(dL fill inn l (L+1):Int)<=nd/\
   ∀k i,k<=L->i<nL fill inn l k->∃s,(aY fill inn l).1[dL fill inn l k+i]? =some s/\s.2=(sL fill inn l k i).2:=by
 rw [fU hc (by omega)] at f|-;obtain⟨c1,A,B,C,D,E,F,G,H,p⟩:=hc;have o:1<=fill:=by omega
 have w:1<=inn:=by omega
 rw [<-ik _ _ o] at f|-;have q:((pn l.length fill:Nat):Int)=(nL fill inn l 0:Int):=rfl;have r:(0:Int)=(dL fill inn l 0:Int):=rfl;rw [q,r] at f|-;obtain⟨L,a,b,c,d,u,v,x⟩:=RY (nd:=nd) o w 32 0 f;refine⟨L,by omega,c,fun j y=>d j (by omega) y,?_⟩
 by_cases hl:l= []
 ·subst hl;have e:nL fill inn ([]:List aR) 0=1:=Mr fill
  have g:L=0:=by
   rcases Nat.eq_zero_or_pos L with h|h
   ·exact h
   ·have:=d 0 (by omega) h;omega
  subst g;rw [yx]
  refine⟨rfl,?_,v,x,fun k i z hi=> ?_⟩
  ·rw [EF,e];rfl
  ·have n:k=0:=by omega
   subst n;rw [e] at hi;have m:i=0:=by omega
   subst m;refine⟨_,rfl,?_⟩;show Nd.zero=(nu fill [] (nL fill inn [] 0) 0).2;rw [e]
   simp [nu,iX,Nd.zero]
 ·have t:IL inn 32 1 (lz fill l) (nP fill l)=(flat fill inn l (L+1),xG (dL fill inn l L) (nL fill inn l L) (hL fill inn l L)):=u;rw [p8 hl,t];refine⟨?_,pW _,v,x,fun k i z hi=>⟨_,VC (L+1) k i (by omega) hi,rfl⟩⟩;show((xG (dL fill inn l L) (nL fill inn l L) (hL fill inn l L)).headD (0,[])).1=_;rw [c,xG];simp
end
end
end Go.Proofs.YtepgcjbhabnciaaGreat
