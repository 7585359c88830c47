/- Part 45. -/
import Derived.Test.YtepgcjbhabnciaaGreatLe44
import Derived.RangeFuncBox
namespace Go.Proofs.YtepgcjbhabnciaaGreat
set_option maxRecDepth 100000
set_option maxHeartbeats 8000000
open Go.Proofs.Tryz Go.RowKit
variable {r a c b:bg} {l F m:List aK}
def bg.alls:Nat->bg->List aK×bg×Bool
 |0,r=>([],r,false)
 |k+1,r=>match r.next.1 with
  |none=>([],r.next.2,true)
  |some a=>(a++(bg.alls k r.next.2).1,(bg.alls k r.next.2).2)
def kP (r:bg) (l:List aK) (a:bg):Prop:=∃k,r.alls k=(l,a,true)
theorem kP.stop (h:r.next.1=none):kP r [] r.next.2:=⟨1,by simp [bg.alls,h]⟩
theorem kP.more (h:r.next.1=some F) (k:kP r.next.2 l a):kP r (F++l) a:=by
 obtain⟨n,b⟩:=k;exact⟨n+1,by simp [bg.alls,h,b]⟩
theorem yU:∀{k:Nat} (_:r.alls k=(l,c,true)) (j:Nat),r.alls (k+j)=(l,c,true):=by
 intro k
 induction k generalizing r l with
 |zero=>intro h;simp [bg.alls] at h
 |succ k e=>
  intro h j;rw [show k+1+j=(k+j)+1 by omega];unfold bg.alls at h|-
  cases hn:r.next.1 with
  |none=>rw [hn] at h;exact h
  |some f=>
   rw [hn] at h;simp only [] at h|-;obtain⟨a,b⟩:=Prod.mk.inj h;have d:=e (r:=r.next.2) (l:=(bg.alls k r.next.2).1) (Prod.ext rfl b) j;rw [d,a]
theorem kP.unique (c:kP r l a) (d:kP r m b):l=m/\a=b:=by
 obtain⟨k,c⟩:=c;obtain⟨j,d⟩:=d;have f:=yU c j;have e:=yU d k;rw [Nat.add_comm j k,f] at e;injection e with x y
 injection y with y _
 exact⟨x,y⟩
def Came (b:bg) (out:List aK) (r:bg):Prop:=∀x a,kP r x a->kP b (out++x) a
theorem Came.nil (r:bg):Came r [] r:=fun _ _ h=>h
theorem Came.more {a r:bg} {out F:List aK} (h:Came a out r) (b:r.next.1=some F):Came a (out++F) r.next.2:=fun x d c=>by
 rw [List.append_assoc];exact h _ _ (kP.more b c)
theorem Came.stop {a r:bg} {out:List aK} (h:Came a out r) (b:r.next.1=none):kP a out r.next.2:=by
 have:=h _ _ (kP.stop b);rwa [List.append_nil] at this
section
theorem SB.next2 {S D D':Nat->Prop} {w w':World} {v:Value} {bs:List UInt8} (h:SB w D v bs) (y:ag S w w') (d:∀b,b<w.heap.size->D b->¬S b) (c:∀b,b<w.heap.size->D b->D' b):SB w' D' v bs:=
 (h.lt.chg y (fun b a=>d b a.2 a.1)).weak (fun b a=>c b a.2 a.1)
structure Er (w:World) (base:Nat) (out:Value) (us:List Value) (l:List aK):Prop where
 own:w.ownsRow base 69 2 out l.length us
 at_:∀(i:Nat) (e:aK),l[i]? =some e->∃u v,us[2*i]? =some u/\us[2*i+1]? =some v/\SB w (fun b=>base<=b/\out.ownBlock≠some b) u e.1/\SB w (fun b=>base<=b/\out.ownBlock≠some b) v e.2
section
variable {S:Nat->Prop} {w w':World} {base:Nat} {out:Value} {us:List Value} {l:List aK}
theorem Er.nil (w:World) (base:Nat):Er w base (.slice none 0 0) [] []:=⟨World.ownsRow_nil _ _ _ _,fun i e h=>by simp at h⟩
theorem Er.chg (h:Er w base out us l) (y:ag S w w') (f:∀b,base<=b->¬S b):Er w' base out us l:=
 ⟨aD h.own y (fun b j=>f b (ah h.own b j).1),fun i e k=>let⟨u,v,a,b,c,d⟩:=h.at_ i e k;⟨u,v,a,b,c.chg y (fun x g=>f x g.1),d.chg y (fun x g=>f x g.1)⟩⟩
theorem Er.below (h:Er w base out us l) (f:Below w.heap.size w w'):Er w' base out us l:=
 ⟨own_below h.own f,fun i e g=>let⟨u,v,a,b,c,d⟩:=h.at_ i e g;⟨u,v,a,b,c.below f,d.below f⟩⟩
theorem Er.push {v2 u v:Value} {e:aK} (h:Er w base out us l) (o:w'.ownsRow base 69 2 v2 (l.length+1) (us++ [u,v])) (n:w.grownBy w' out.ownBlock) (g:v2.ownBlock=out.ownBlock\/v2.ownBlock=some w.heap.size)
  (p:SB w (fun b=>base<=b/\out.ownBlock≠some b) u e.1) (hv:SB w (fun b=>base<=b/\out.ownBlock≠some b) v e.2):Er w' base v2 (us++ [u,v]) (l++ [e]):=by
 have hl:us.length=l.length*2:=h.own.1
 have key:∀b,b<w.heap.size->(base<=b/\out.ownBlock≠some b)->(base<=b/\v2.ownBlock≠some b):=fun b k c=>⟨c.1,fun e=>by
  rcases g with h|h
  ·exact c.2 (h▸e)
  ·rw [h] at e;injection e with e;omega⟩
 have d:∀{x:Value} {bs:List UInt8},SB w (fun b=>base<=b/\out.ownBlock≠some b) x bs->SB w' (fun b=>base<=b/\v2.ownBlock≠some b) x bs:=fun c=>c.next2 (ag.of_grown n) (fun b _ k e=>k.2 e) key;refine⟨by rw [List.length_append];exact o,fun i m hi=> ?_⟩
 rcases Nat.lt_or_ge i l.length with f|f
 ·rw [List.getElem?_append_left f] at hi;obtain⟨x,y,a,b,q,r⟩:=h.at_ i m hi
  exact⟨x,y,by rw [List.getElem?_append_left (by omega)];exact a,by rw [List.getElem?_append_left (by omega)];exact b,d q,d r⟩
 ·rw [List.getElem?_append_right f] at hi;have j:i=l.length:=by have:=(List.getElem?_eq_some_iff.1 hi).1;simp at this;omega
  subst j;simp at hi;subst hi
  refine⟨u,v,?_,?_,d p,d hv⟩
  ·rw [List.getElem?_append_right (by omega),show 2*l.length-us.length=0 by omega];rfl
  ·rw [List.getElem?_append_right (by omega),show 2*l.length+1-us.length=1 by omega];rfl
theorem Er.ents {A:Option Addr} {n c:Nat} (h:Er w base (.slice A n c) us l) (j:n=l.length):bz w (From base) A n l:=by
 subst j;exact⟨aa rfl,us,Rd.of_own h.own,fun i e f=>let⟨u,v,a,b,g,k⟩:=h.at_ i e f;⟨u,v,a,b,g.weak (fun _ d=>d.1),k.weak (fun _ d=>d.1)⟩⟩
end
theorem N8 (F:Nat->Prop) (p:Nat) (nodes root:Int) (sl:List bR) (id:Int) (w:World) (h:gM w F p nodes sl root) (K:id<1\/(sl.length:Int)<id):
  Calls prog 49 #[.pointer (some ⟨p,0,none⟩),.int .i64 id] w fun e w'=>(∃d g c1 i q l j r m k s n,e= .returned (.tuple #[.agg #[.int .i64 0,.slice d g c1,.int .i64 0,.slice i q l,.slice j r m,.slice k s n],.bool false]))/\Below w.heap.size w w':=by
 have G:=aa h;have J:Below w.heap.size w (w.alloc (.cells #[.int .i64 0,.slice none 0 0,.int .i64 0,.slice none 0 0,.slice none 0 0,.slice none 0 0] 132)):=(Below.refl _ _).alloc (Nat.le_refl _) _;have E:=aa J;clear h J;go_enter func49,ntmps49
 go_wp2_with (first|(go_at_call 87;go_loud (refine(Mc F p nodes root sl id _ (G.below E.out) K).mono ?_);rintro e w1 ⟨d,g,c1,rfl,N,f⟩;have t:=aa (E.out.trans (f.mono (by simp)));have H:=aa ((aj.new w 132 #[.int .i64 0,.slice none 0 0,.int .i64 0,.slice none 0 0,.slice none 0 0,.slice none 0 0]).below f);have I:Hid (Below w.heap.size w (w1.alloc (.cells #[.int .i64 0,.slice d g c1,.int .i64 0] 127))):=aa (t.alloc t.size _);clear f N)|(go_at_call 88;go_loud (refine(Me F p nodes root sl id _ (G.below I.out) K).mono ?_);rintro e w2 ⟨i,q,l,j,r,m,k,s,n,rfl,_,O,P,Q,c⟩;have u:=aa c;have a:Below w2.heap.size w2 (w2.alloc (.cells #[.slice i q l,.slice j r m,.slice k s n] 130)):=(Below.refl _ _).alloc (Nat.le_refl _) _;have z:=aa a;have A:=aa (((H.out.alloc (.cells #[.int .i64 0,.slice d g c1,.int .i64 0] 127)).below c).below a);obtain⟨X,Y,Z,z3,z4,z5⟩:=Ap A.out;have zf:=A.out.frozen;have U:=ak a (ak (b:=w1.heap.size) (o:=0) (v:= .int .i64 0) c (by simp));have V:=ak a (ak (b:=w1.heap.size) (o:=1) (v:= .slice d g c1) c (by simp));have W:=ak a (ak (b:=w1.heap.size) (o:=2) (v:= .int .i64 0) c (by simp));have C:=H.out.lt;have M:=A.out.lt;clear c a O P Q))
 refine bodyPost_ret (v:= .tuple #[.agg #[.int .i64 0,.slice d g c1,.int .i64 0,.slice i q l,.slice j r m,.slice k s n],.bool false]) (by simp [results,results49,go_sem, *]) rfl ?_;obtain⟨D,y⟩:∃x,x=w2.alloc (.cells #[.slice i q l,.slice j r m,.slice k s n] 130):=⟨_,rfl⟩;rw [<-y];have a:Below w2.heap.size w2 D:=by rw [y];exact z
 have B:=Zz (b:=w.heap.size) (w:=D) (.int .i64 0) (.slice d g c1) (.int .i64 0) (.slice i q l) (.slice j r m) (.slice k s n);have T:w1.heap.size+1<=w2.heap.size:=by have:=u.out.size;simpa using this
 have S:w.heap.size+1<=w1.heap.size:=C;have L:Below w.heap.size w D:=(I.out.trans (u.mono (by simp;omega))).trans (a.mono (by omega));exact⟨⟨_,_,_,_,_,_,_,_,_,_,_,_,rfl⟩,L.trans (B.below_of L.size (fun b R e=>by simp only [mZ] at e;omega))⟩
noncomputable def UU:Code:=aV (f22.body.bind (fB 3))
theorem N9 (base q:Nat) (l0:List aK) (x:Nd) (out:Value) (us:List Value) (hA kA vA dA:Option Addr) (hn hc n j c a t:Nat) (w:World) {u0 u1 u2 u4 u5 u6 u8 u9 M E I Z N U u16 O f C u20 u21 u22 u23 u24 u25 u26 u27 u28 u29 u30 u31 u32 u33 u34 u35 u36 u37 u38 R u40 X u42 G u44 u45 u46 l u48 u49 z u51 eO u53 eQ u55 fE fF u58 u59 u60 gJ gY u63 u64 J u69 u70 H u72 u73 jJ u75 A mF mG mH mI mJ mV mW mX l8 nT rM T s wu y wB u93:Value} (Q:Exit->Act->World->Prop)
  (HK:Hid (aj w q 132 #[.int .i64 x.lev,.slice hA hn hc,.int .i64 x.right,.slice kA n j,.slice vA n c,.slice dA a t])) (HV:Hid (zk w (fun b=>base<=b/\b<w.heap.size/\out.ownBlock≠some b) x hA kA vA dA hn hc n j n c a t)) (HE:Hid (Er w base out us l0)) (hq:base<=q) (a6:out.ownBlock≠some q) (hbase:base<=w.heap.size) (b9:l0.length<=1000000000) (ca:n<=100000)
  (ax:∀(M7:Value) (v9 a8 a9 ba bb be bh bj bk bm bo bp bx bB bE bK bL b0 b1 b2 b3 b4 b5 Ps b6 Pt b7 Pv:Value) (kF:List Value) (w':World),Er w' base M7 kF (l0++x.keys.zip x.vals)->Below base w w'->Q (.exit 3) ⟨(u0::u1::u2::M7::u4::u5::u6:: .pointer (some ⟨q,0,none⟩)::u8::v9::a8::a9::I::Z::N::U::u16::O::f::C::u20::u21::u22::u23::u24::u25::u26::u27::u28::u29::u30::u31::u32::u33::u34::u35::u36::u37::u38::R::u40::X::u42::G::u44::u45::u46::l::u48::u49::z::u51::eO::u53::eQ::u55::fE::fF::u58::u59::u60::gJ::gY::u63::u64::J:: .slice kA n j:: .int .i64 n::ba::bb::be::bh::bj::bk::bm::bo::bp::bx::bB::bE::bK::bL::b0::b1::b2::b3::b4::b5::Ps::b6::Pt::b7::Pv::u93:: []).toArray,[]⟩ w'):
  Code.wp prog UU Q ⟨(u0::u1::u2::out::u4::u5::u6:: .pointer (some ⟨q,0,none⟩)::u8::u9::M::E::I::Z::N::U::u16::O::f::C::u20::u21::u22::u23::u24::u25::u26::u27::u28::u29::u30::u31::u32::u33::u34::u35::u36::u37::u38::R::u40::X::u42::G::u44::u45::u46::l::u48::u49::z::u51::eO::u53::eQ::u55::fE::fF::u58::u59::u60::gJ::gY::u63::u64::J:: .slice kA n j:: .int .i64 n:: .int .i64 0::u69::u70::H::u72::u73::jJ::u75::A::mF::mG::mH::mI::mJ::mV::mW::mX::l8::nT::rM::T::s::wu::y::wB::u93:: []).toArray,[]⟩ w:=by
 have dP:=aa ax;obtain⟨i0,a4,kH,kI,kJ⟩:=info_parts lK;clear ax;conv=>arg 2;whnf
 go_loopg [3,68] n (fun g' ov iv wr=>∃(i:Nat) (kF:List Value),g'=n-i/\i<=n/\iv= .int .i64 i/\Er wr base ov kF (l0++(x.keys.zip x.vals).take i)/\aj wr q 132 #[.int .i64 x.lev,.slice hA hn hc,.int .i64 x.right,.slice kA n j,.slice vA n c,.slice dA a t]/\zk wr (fun b=>base<=b/\b<w.heap.size/\ov.ownBlock≠some b) x hA kA vA dA hn hc n j n c a t/\ov.ownBlock≠some q/\Below base w wr)
 case atStart=>exact⟨0,us,by omega,by omega,rfl,by simpa using HE.out,HK,HV,a6,Below.refl _ _⟩
 case round=>
  obtain⟨i,kF,hg,hi,rfl,he,hk,hv,ap,d⟩:=hrel;have HG:=aa hg;have fO:=aa he;have UG:=aa hk;have Kh:=aa hv;have ac:=aa ap;have HB:=aa d
  rename World=>wr
  clear hg he hk hv ap d HE HK HV
  by_cases an:i<n
  ·have ao:(i:Int)<(n:Int):=by omega
   obtain⟨b,o,P,nk,V,key,rfl,a1,ae,c1,p1,p2,p3,p4⟩:=Kh.out.k.at_ (k:=i) an;obtain⟨b',o',Av,nv,cv,val,rfl,a2,al,c2,r1,r2,r3,r4⟩:=Kh.out.v.at_ (k:=i) an;have am:SB wr (fun b=>base<=b/\u3.ownBlock≠some b) (.slice P nk V) key:=⟨P,nk,V,rfl,p1,p2,p3,p4.weak (fun b d=>⟨d.1,d.2.2⟩)⟩;have ar:SB wr (fun b=>base<=b/\u3.ownBlock≠some b) (.slice Av nv cv) val:=⟨Av,nv,cv,rfl,r1,r2,r3,r4.weak (fun b d=>⟨d.1,d.2.2⟩)⟩;have YG:=aa am;have Y5:=aa ar;have hz:(x.keys.zip x.vals)[i]? =some (key,val):=List.getElem?_zip_eq_some.2 ⟨ae,al⟩;have HZ:Hid ((x.keys.zip x.vals).take (i+1)=(x.keys.zip x.vals).take i++ [(key,val)]):=aa (by rw [List.take_add_one,hz];rfl)
   have a7:(l0++(x.keys.zip x.vals).take i).length<=1000100000:=by
    rw [List.length_append,List.length_take];omega
   obtain⟨li,X9⟩:∃Y,Y=l0++(x.keys.zip x.vals).take i:=⟨_,rfl⟩;rw [<-X9] at a7;have UV:Hid (Er wr base u3 kF li):=aa (by rw [X9];exact fO);have aE:=aa X9;have a5:=UG.out.lt;have a3:=HB.out.size;have aw:base<=wr.heap.size:=Nat.le_trans hbase a3;clear ae al p1 p2 p3 p4 r1 r2 r3 r4 am ar hz X9 fO a1 a2;obtain⟨wx,K⟩:∃W,W=wr.alloc (.cells #[.slice P nk V,.slice none 0 0] 69):=⟨_,rfl⟩;have nU:Hid (Below wr.heap.size wr wx):=aa (by rw [K];exact(Below.refl _ _).alloc (Nat.le_refl _) _);have D:Hid (aj wx wr.heap.size 69 #[.slice P nk V,.slice none 0 0]):=aa (by rw [K];exact aj.new _ _ _);go_upto_region 19 with fail
   rw [<-K];clear K c1;have Qw:=aa (UG.below nU);have x4:wx.cell? ⟨q,4,none⟩=some (.slice (some ⟨b',o',none⟩) n c):=Qw.out.cell 4;have y1:wx.cell? ⟨wr.heap.size,1,none⟩=some (.slice none 0 0):=D.out.cell 1;have yf:=D.out.frozen;have a0:=ak nU c2;go_upto_region 21 with fail
   obtain⟨wy,L⟩:∃W,W=wx.setCell ⟨wr.heap.size,1,none⟩ (.slice Av nv cv):=⟨_,rfl⟩;rw [<-L];have F:Below wr.heap.size wr wy:=by rw [L];exact nU.setCell (p:=⟨wr.heap.size,1,none⟩) (Nat.le_refl _) _
   have pE:=aa F;have ad:Hid (aj wy wr.heap.size 69 #[.slice P nk V,.slice Av nv cv]):=aa (by rw [L];exact D.set_ 1 _);have aA:=aa (UV.below F);have b8:=F.size;clear L F x4 y1 yf c2 a0 D nU Qw;have x0:wy.cell? ⟨wr.heap.size,0,none⟩=some (.slice P nk V):=ad.out.cell 0;have x1:wy.cell? ⟨wr.heap.size,1,none⟩=some (.slice Av nv cv):=ad.out.cell 1;go_wp2_with (at_builtin;go_loud (refine af _ rfl (.tmp 88) (.tmp 90) _ rfl base 69 i0 _ 2 48 underlying58 a4 kH kI kJ rfl (by omega) u3 li.length kF rfl (own_below aA.own ((Below.refl _ _).alloc (Nat.le_refl _) _)) (From wy.heap.size) (some ⟨wy.heap.size,0,none⟩) 1 1 [.slice P nk V,.slice Av nv cv] rfl (Rd.two wy _ _ _) (by simp [Value.oneCell']) (by simp only [maxLen];omega) (by omega) (by simp;omega) ?_);intro v6 w6 u fu dD;have lU:=aa u;have kE:=aa fu;have xJ:=aa dD;clear u fu dD)
   go_roundg (n-(i+1))
   case measure=>have:=HG.out;omega
   case rel=>
    obtain⟨wa,mh⟩:∃W,W=wy.alloc (.cells #[.slice P nk V,.slice Av nv cv] 69):=⟨_,rfl⟩;have fu:=kE.out;have ab:=xJ.out;rw [<-mh] at fu ab;have S:Below wr.heap.size wr wa:=pE.out.trans (by rw [mh];exact(Below.refl _ _).alloc (by omega) _);have r:ag (fun b=>u3.ownBlock=some b) wa w6:=ag.of_grown fu;have Ub:∀g,u3.ownBlock=some g->base<=g:=fun g hg=>(ah UV.own g hg).1;have B:=(UV.out.below S).push (e:=(key,val)) lU fu ab (YG.below S) (Y5.below S)
    have aq:∀b,b<wr.heap.size->u3.ownBlock≠some b->v6.ownBlock≠some b:=fun b d hn e=>by
     rcases ab with h|h
     ·exact hn (h▸e)
     ·rw [h] at e;injection e with e;have:=S.size;omega
    rw [aE.out,List.append_assoc,<-HZ.out] at B
    refine⟨i+1,_,rfl,by omega,by go_num,B,(UG.below S).chg r (fun e=>ac e),((Kh.below S).chg r (fun b d e=>d.2.2 e)).weak (fun b d=>⟨d.1,d.2.1,aq b (by have:=d.2.1;omega) d.2.2⟩),aq q a5 ac,HB.out.trans ((S.mono aw).trans (r.below_of (Nat.le_trans aw S.size) (fun b d e=>by have:=Ub b e;omega)))⟩
  ·have ao:¬(i:Int)<(n:Int):=by omega
   obtain rfl:i=n:=by omega
   have HZ:Hid ((x.keys.zip x.vals).take i=x.keys.zip x.vals):=aa (List.take_of_length_le (by rw [List.length_zip];have:=Kh.out.k.len;omega));have m:=fO.out;rw [HZ.out] at m;have QD:=aa m;clear m;go_wp2;exact dP _ _ _ _ _ _ _ _ _ _ _ _ _ _ _ _ _ _ _ _ _ _ _ _ _ _ _ _ _ _ _ QD HB
end
section
structure uy (w:World) (base:Nat) (D B:Nat->Prop) (out:Value) (us:List Value) (l:List aK):Prop where
 own:w.ownsRow base 69 2 out l.length us
 ne:∀g,out.ownBlock=some g->¬B g
 sub:∀b,D b->B b/\b<w.heap.size
 at_:∀(i:Nat) (e:aK),l[i]? =some e->∃u v,us[2*i]? =some u/\us[2*i+1]? =some v/\SB w D u e.1/\SB w D v e.2
section
variable {S D D' B B':Nat->Prop} {w w':World} {base:Nat} {out:Value} {us:List Value} {l:List aK}
theorem uy.nil (w:World) (base:Nat) (D B:Nat->Prop) (h:∀b,D b->B b/\b<w.heap.size):uy w base D B (.slice none 0 0) [] []:=⟨World.ownsRow_nil _ _ _ _,fun g a=>by simp [Value.ownBlock] at a,h,fun i e h=>by simp at h⟩
theorem uy.chg (h:uy w base D B out us l) (y:ag S w w') (j:∀g,out.ownBlock=some g->¬S g) (d:∀b,D b->¬S b):uy w' base D B out us l:=
 ⟨aD h.own y j,h.ne,fun b c=>⟨(h.sub b c).1,Nat.lt_of_lt_of_le (h.sub b c).2 y.size⟩,fun i e f=>let⟨u,v,a,b,k,m⟩:=h.at_ i e f;⟨u,v,a,b,k.chg y d,m.chg y d⟩⟩
theorem uy.step (h:uy w base D B out us l) (y:ag S w w') (n:∀g,out.ownBlock=some g->¬S g) (f:∀b,D b->¬S b) (d:∀b,b<w.heap.size->D b->D' b) (m:∀g,g<w.heap.size->¬B g->¬B' g) (o:∀b,D' b->B' b/\b<w'.heap.size):uy w' base D' B' out us l:=
 ⟨aD h.own y n,fun g j=>m g (ah h.own g j).2 (h.ne g j),o,fun i e k=>let⟨u,v,a,b,p,q⟩:=h.at_ i e k;⟨u,v,a,b,(p.chg y f).weak (fun b c=>d b (h.sub b c).2 c),(q.chg y f).weak (fun b c=>d b (h.sub b c).2 c)⟩⟩
theorem uy.push {v2 u v:Value} {e:aK} (h:uy w base D B out us l) (r:w'.ownsRow base 69 2 v2 (l.length+1) (us++ [u,v])) (p:w.grownBy w' out.ownBlock) (n:v2.ownBlock=out.ownBlock\/∃k,v2.ownBlock=some k/\¬B k)
  (s:SB w D u e.1) (hv:SB w D v e.2):uy w' base D B v2 (us++ [u,v]) (l++ [e]):=by
 have hl:us.length=l.length*2:=h.own.1;have f:∀{x:Value} {bs:List UInt8},SB w D x bs->SB w' D x bs:=fun t=>t.chg (ag.of_grown p) (fun b d e=>h.ne b e (h.sub b d).1)
 refine⟨by rw [List.length_append];exact r,fun g c=> ?_,fun b d=>⟨(h.sub b d).1,Nat.lt_of_lt_of_le (h.sub b d).2 (ag.of_grown p).size⟩,fun i c hi=> ?_⟩
 ·rcases n with j|⟨k,j,q⟩
  ·exact h.ne g (j▸c)
  ·rw [j] at c;injection c with c;exact c▸q
 ·rcases Nat.lt_or_ge i l.length with m|m
  ·rw [List.getElem?_append_left m] at hi;obtain⟨x,y,a,b,z,A⟩:=h.at_ i c hi
   exact⟨x,y,by rw [List.getElem?_append_left (by omega)];exact a,by rw [List.getElem?_append_left (by omega)];exact b,f z,f A⟩
  ·rw [List.getElem?_append_right m] at hi;have o:i=l.length:=by have:=(List.getElem?_eq_some_iff.1 hi).1;simp at this;omega
   subst o;simp at hi;subst hi
   refine⟨u,v,?_,?_,f s,f hv⟩
   ·rw [List.getElem?_append_right (by omega),show 2*l.length-us.length=0 by omega];rfl
   ·rw [List.getElem?_append_right (by omega),show 2*l.length+1-us.length=1 by omega];rfl
theorem uy.cat {v2:Value} {vs:List Value} {m:Nat} {F:List aK} (h:uy w base D B out us l) (A:w'.ownsRow base 69 2 v2 (l.length+m) (us++vs)) (r:w.grownBy w' out.ownBlock) (o:v2.ownBlock=out.ownBlock\/∃k,v2.ownBlock=some k/\¬B k)
  (z:m=F.length) (t:∀(i:Nat) (e:aK),F[i]? =some e->∃u v,vs[2*i]? =some u/\vs[2*i+1]? =some v/\SB w D u e.1/\SB w D v e.2):uy w' base D B v2 (us++vs) (l++F):=by
 have hl:us.length=l.length*2:=h.own.1;have f:∀{x:Value} {bs:List UInt8},SB w D x bs->SB w' D x bs:=fun C=>C.chg (ag.of_grown r) (fun b d e=>h.ne b e (h.sub b d).1)
 refine⟨by rw [List.length_append,<-z];exact A,fun g c=> ?_,fun b d=>⟨(h.sub b d).1,Nat.lt_of_lt_of_le (h.sub b d).2 (ag.of_grown r).size⟩,fun i c hi=> ?_⟩
 ·rcases o with j|⟨k,j,s⟩
  ·exact h.ne g (j▸c)
  ·rw [j] at c;injection c with c;exact c▸s
 ·rcases Nat.lt_or_ge i l.length with n|n
  ·rw [List.getElem?_append_left n] at hi;obtain⟨x,y,a,b,p,q⟩:=h.at_ i c hi
   exact⟨x,y,by rw [List.getElem?_append_left (by omega)];exact a,by rw [List.getElem?_append_left (by omega)];exact b,f p,f q⟩
  ·rw [List.getElem?_append_right n] at hi;obtain⟨x,y,a,b,p,q⟩:=t _ c hi;exact⟨x,y,by rw [List.getElem?_append_right (by omega),show 2*i-us.length=2*(i-l.length) by omega];exact a,by rw [List.getElem?_append_right (by omega),show 2*i+1-us.length=2*(i-l.length)+1 by omega];exact b,f p,f q⟩
theorem uy.ents {A:Option Addr} {n c lo:Nat} (h:uy w base D B (.slice A n c) us l) (j:n=l.length) (g:lo<=base) (d:∀b,D b->lo<=b):bz w (From lo) A n l:=by
 subst j;exact⟨aa rfl,us,(Rd.of_own h.own).weak (fun b f=>Nat.le_trans g f),fun i e k=>let⟨u,v,a,b,m,o⟩:=h.at_ i e k;⟨u,v,a,b,m.weak d,o.weak d⟩⟩
end
theorem MX {w:World} {F:Nat->Prop} {A:Option Addr} {n:Nat} {l:List aK} (h:bz w F A n l):bz w (fun b=>F b/\b<w.heap.size) A n l:=by
 obtain⟨f,vs,g,j⟩:=h;refine⟨f,vs,g.lt (by omega),fun i e k=> ?_⟩;obtain⟨u,v,a,b,c,d⟩:=j i e k;exact⟨u,v,a,b,c.lt,d.lt⟩
def uZ (Dr:Nat->Prop) (rv:Value):Nat->Prop:=fun b=>Dr b/\rv.ownBlock≠some b
structure Jr (w:World) (lo L Dd bl base:Nat) (rc:Loop) (D B:Nat->Prop) (out:List aK):Prop where
 loop:w.heap[L]? =some (.loop rc)
 dfd:w.heap[Dd]? =some (.deferred (some []))
 col:∃v us,Boxed w bl 58 v/\uy w base D B v us out
 ord:lo<=bl/\bl<Dd/\Dd<L/\L<base/\base<=w.heap.size
theorem Jr.chg {S D B:Nat->Prop} {w w':World} {lo L c bl base:Nat} {V:Loop} {out:List aK} (h:Jr w lo L c bl base V D B out) (y:ag S w w') (d:∀b,lo<=b->b<base->¬S b) (f:∀b,base<=b->b<w.heap.size->¬B b->¬S b) (i:∀b,D b->¬S b):Jr w' lo L c bl base V D B out:=by
 obtain⟨k,l,m,n,o⟩:=h.ord;obtain⟨v,us,j,a⟩:=h.col
 exact⟨(y.block L (by omega) (d L (by omega) (by omega))).trans h.loop,(y.block c (by omega) (d c (by omega) (by omega))).trans h.dfd,
  ⟨v,us,(y.block bl (by omega) (d bl (by omega) (by omega))).trans j,a.chg y (fun g e=>f g (ah a.own g e).1 (ah a.own g e).2 (a.ne g e)) i⟩,k,l,m,n,Nat.le_trans o y.size⟩
theorem Jr.step {S D B D' B':Nat->Prop} {w w':World} {lo L c bl base:Nat} {V:Loop} {out:List aK} (h:Jr w lo L c bl base V D B out) (y:ag S w w') (d:∀b,lo<=b->b<base->¬S b) (f:∀b,base<=b->b<w.heap.size->¬B b->¬S b) (i:∀b,D b->¬S b)
  (j:∀b,b<w.heap.size->D b->D' b) (l:∀g,g<w.heap.size->¬B g->¬B' g) (m:∀b,D' b->B' b/\b<w'.heap.size):Jr w' lo L c bl base V D' B' out:=by
 obtain⟨n,o,p,q,r⟩:=h.ord;obtain⟨v,us,k,a⟩:=h.col
 exact⟨(y.block L (by omega) (d L (by omega) (by omega))).trans h.loop,(y.block c (by omega) (d c (by omega) (by omega))).trans h.dfd,
  ⟨v,us,(y.block bl (by omega) (d bl (by omega) (by omega))).trans k,a.step y (fun g e=>f g (ah a.own g e).1 (ah a.own g e).2 (a.ne g e)) i j l m⟩,n,o,p,q,Nat.le_trans r y.size⟩
def CS (z st:Nat):Value:= .func (.func (if st=0 then 52 else 92)) #[.pointer (some ⟨z,0,none⟩)] #[]
structure EX (w:World) (F Dr:Nat->Prop) (z q p base hv:Nat) (A:Option Addr) (n cc:Nat) (us:List Value) (K:Nat) (r:bg) (left:Value):Prop where
 sit:Sit F q p base
 zs:Zs z q p base
 nFz:¬F z
 bw:base<=w.heap.size
 rblk:aj w z 140 #[.pointer (some ⟨q,0,none⟩),CS z r.st,left,.slice A n cc,.int .i64 r.err,.int .i64 (r.bad:Nat)]
 rows:aX w base Dr (.slice A n cc) n r.rows us
 iny:lW w F q p r.cur hv
 drl:∀b,Dr b->base<=b/\b<w.heap.size
 ok:r.Ok K
 go:r.st≠2
section
variable {S F Dr:Nat->Prop} {w w':World} {z q p base hv:Nat} {A:Option Addr} {n cc:Nat} {us:List Value} {K:Nat} {r:bg} {left:Value}
theorem EX.chg (h:EX w F Dr z q p base hv A n cc us K r left) (y:ag S w w') (c:¬S z) (d:¬S q) (e:¬S p) (f:∀b,F b->¬S b) (g:∀b,Dr b->¬S b):EX w' F Dr z q p base hv A n cc us K r left:=
 ⟨h.sit,h.zs,h.nFz,Nat.le_trans h.bw y.size,h.rblk.chg y c,h.rows.chgD y (fun b a _=>g b a),h.iny.chg y d e f,fun b a=>⟨(h.drl b a).1,Nat.lt_of_lt_of_le (h.drl b a).2 y.size⟩,h.ok,h.go⟩
theorem EX.set2 (h:EX w F Dr z q p base hv A n cc us K r left) (v:Value):EX (w.setCell ⟨z,2,none⟩ v) F Dr z q p base hv A n cc us K r v:=by
 have c:ag (fun b=>b=z) w (w.setCell ⟨z,2,none⟩ v):=(ag.refl (fun b=>b=z) w).setCell (p:=⟨z,2,none⟩) (fun _=>rfl) _;exact⟨h.sit,h.zs,h.nFz,Nat.le_trans h.bw c.size,h.rblk.set_ 2 v,h.rows.chgD c (fun b a _ e=>by have:=(h.drl b a).1;have:=h.zs.lt;omega),h.iny.chg c (fun e=>h.zs.zq e.symm) (fun e=>h.zs.zp e.symm) (fun b a e=>h.nFz (e▸a)),fun b a=>⟨(h.drl b a).1,Nat.lt_of_lt_of_le (h.drl b a).2 c.size⟩,h.ok,h.go⟩
end
end
end Go.Proofs.YtepgcjbhabnciaaGreat
