/- Part 38. -/
import Derived.Test.YtepgcjbhabnciaaGreatLp37
namespace Go.Proofs.YtepgcjbhabnciaaGreat
set_option maxRecDepth 100000
set_option maxHeartbeats 8000000
open Go.Proofs.Tryz Go.RowKit
open Go.Lib (compareBytes)
variable {tr u1 y B J s k E O W f C I M P V d z D m r j g x n i h u38 N u40 R u42 X u44 u45 u46 v u48 u49 H u51 A u53 u55 dY u58 u59 u60 l G T L Z U u u37 dR tv ev u0 u9 u16 u24 u29 u33 b fw fJ u63 u64 gm u66 u68 u70 u72 u73 iN u75 iV jZ kg kG kP kQ kR kU ng mJ pF pu rX u93 vw vz vE sQ sS u36 dZ u7 u8 u28 u32 u35:Value} {p kc lc t mr mp pb base hv cc K bc oc:Nat} {nd lf inn fl bl e:Int} {w q w' w1:World} {F Dr Fb:Nat->Prop} {kA bA oA:Option Addr} {Y us:List Value} {a:Act} {o:Oper} {Q:Exit->Act->World->Prop} {c:ay} {bs:List UInt8} {ops:Array Oper}
noncomputable def Ka:Code:=aQ (f3.body.bind (aF 13))
theorem yU {a:Int} {F q o:Value} (kF:Hid (∀c t (a:Act) w,Q (.panic c) ⟨t,a.defers⟩ w->Q (.panic c) a w))
  (h3:w.cell? ⟨mr,3,none⟩=some tr) (h4:w.cell? ⟨mr,4,none⟩=some (.int .i64 e)) (h5:w.cell? ⟨mr,5,none⟩=some (.int .i64 a))
  (yT:Hid (∀w',Below w w w'->Calls prog 12 #[tv,tr] w' fun e w2=>e= .returned true/\Below w' w' w2))
  (Me:Hid (∀w',Below w w w'->Calls prog 13 #[ev,e,a] w' fun e w2=>e= .returned true/\Below w' w' w2))
  (RD:Hid (∀w',Below w w w'->Calls prog 14 #[p,t] w' fun e w2=>e= .returned true/\Below w' w' w2))
  (au:∀(ad ae al am an ao ap aq ar aw aA sU aE sV a0 xF a1 Mg Mh Mi Mj Zn Zo:Value) (w':World),Below w w w'->Q .normal ⟨(u0::u1::y::B::J::s:: .pointer (some ⟨p,0,none⟩):: .pointer (some ⟨t,0,none⟩)::k::u9:: .pointer (some ⟨mr,0,none⟩)::E::O::W::tv::ev:: .bool true::f::C::I::M::P::V::d::u24::z::D::m::r::u29::j::g::x::u33::n::i::h::b::u38::N::u40::R::u42::X::u44::u45::u46::v::u48::u49::H::u51::A::u53::F::u55::dY::q::u58::u59::u60::fw::fJ::u63::u64::gm::u66::l::u68::G::u70::T::u72::u73::iN::u75::iV::ad::ae::al::am::an::ao::ap::aq::ar::aw::aA::sU::aE::sV::a0::xF::a1::Mg::Mh::Mi::Mj::Zn::Zo::Y).toArray,[]⟩ w'):
  Code.wp prog Ka Q ⟨(u0::u1::y::B::J::s:: .pointer (some ⟨p,0,none⟩):: .pointer (some ⟨t,0,none⟩)::k::u9:: .pointer (some ⟨mr,0,none⟩)::E::O::W::tv::ev::u16::f::C::I::M::P::V::d::u24::z::D::m::r::u29::j::g::x::u33::n::i::h::b::u38::N::u40::R::u42::X::u44::u45::u46::v::u48::u49::H::u51::A::u53::F::u55::dY::q::u58::u59::u60::fw::fJ::u63::u64::gm::u66::l::u68::G::u70::T::u72::u73::iN::u75::iV::L::jZ::Z::kg::kG::kP::kQ::kR::U::kU::ng::u::mJ::pF::pu::rX::u93::vw::vz::o::vE::sQ::sS::Y).toArray,[]⟩ w:=by
 have dz:=aa au;have HD:Hid (Below w w w.drew):=aa mh.drew;have S0:w.drew.cell? ⟨mr,3,none⟩=some tr/\w.drew.cell? ⟨mr,4,none⟩=some (.int .i64 e)/\w.drew.cell? ⟨mr,5,none⟩=some (.int .i64 a):=⟨h3,h4,h5⟩;clear au h3 h4 h5;conv=>arg 2;whnf
 refine aO (S:=(fun w'=>w'.cell? ⟨mr,3,none⟩=some tr/\w'.cell? ⟨mr,4,none⟩=some (.int .i64 e)/\w'.cell? ⟨mr,5,none⟩=some (.int .i64 a))) (by kernel_rfl) ?_;refine vT 0 S0 ?_;refine vT 1 S0 ?_;refine vT 2 S0 ?_;refine vT 3 S0 ?_;refine vT 4 S0 ?_;refine nZ 5 fun K hK=> ?_;go_simp;go_loud (refine(yT _ HD).mono ?_);rintro e' w2 ⟨rfl,hb⟩;have ab:Hid (Below w w w2):=aa (HD.out.trans hb);have S1:w2.cell? ⟨mr,3,none⟩=some tr/\w2.cell? ⟨mr,4,none⟩=some (.int .i64 e)/\w2.cell? ⟨mr,5,none⟩=some (.int .i64 a):=⟨aj hb S0.1,aj hb S0.2.1,aj hb S0.2.2⟩;clear hb
 refine hK.out _ _ S1 ?_;clear hK K;try simp only [aL,aN,aZ,aC]
 refine vT 6 S1 ?_;refine vT 7 S1 ?_;refine vT 8 S1 ?_;refine vT 9 S1 ?_;refine vT 10 S1 ?_;refine vT 12 S1 ?_;refine vT 13 S1 ?_;refine vT 14 S1 ?_;refine vT 11 S1 ?_;refine vT 15 S1 ?_;refine nZ 16 fun K hK=> ?_;go_simp;go_loud (refine(Me _ ab).mono ?_);rintro e' w3 ⟨rfl,hb⟩;have ac:Hid (Below w w w3):=aa (ab.out.trans (hb.mono ab.size));have S2:w3.cell? ⟨mr,3,none⟩=some tr/\w3.cell? ⟨mr,4,none⟩=some (.int .i64 e)/\w3.cell? ⟨mr,5,none⟩=some (.int .i64 a):=⟨aj hb S1.1,aj hb S1.2.1,aj hb S1.2.2⟩;clear hb
 refine hK.out _ _ S2 ?_;clear hK K;try simp only [aL,aN,aZ,aC]
 refine vT 17 S2 ?_;refine vT 18 S2 ?_;refine vT 19 S2 ?_;refine vT 20 S2 ?_;refine nZ 21 fun K hK=> ?_;go_simp;go_loud (refine(RD _ ac).mono ?_);rintro e' w4 ⟨rfl,hb⟩;have dE:Hid (Below w.heap.size w w4):=aa (ac.out.trans (hb.mono ac.size));have S3:w4.cell? ⟨mr,3,none⟩=some tr/\w4.cell? ⟨mr,4,none⟩=some (.int .i64 e)/\w4.cell? ⟨mr,5,none⟩=some (.int .i64 a):=⟨aj hb S2.1,aj hb S2.2.1,aj hb S2.2.2⟩;clear hb
 refine hK.out _ _ S3 ?_;clear hK K;try simp only [aL,aN,aZ,aC]
 refine vT 22 S3 ?_;refine vT 23 S3 ?_;refine bf (by kernel_rfl) ?_ _;exact dz _ _ _ _ _ _ _ _ _ _ _ _ _ _ _ _ _ _ _ _ _ _ _ w4 dE
theorem Gz {z q:Nat} {A:Option Addr} {n:Nat} (K s:Nat) {m:bM} (h:LX w F Dr Fb mp z q p pb base hv A n cc us nd lf inn fl bl K m):
  Calls prog 11 #[mp] w fun e w'=>∃c b k,e= .returned (.tuple #[c,b])/\w'=w.drewN k/\pU w s c nd m.tree/\xC w s b m.err (m.bad:Nat):=by
 have a:=aa (h.ok.go h.go);have d:w.cell? ⟨mp,3,none⟩=some (.pointer none):=h.mblk.cell 3;have f:w.cell? ⟨mp,4,none⟩=some .nilIface:=h.mblk.cell 4;clear h;go_enter func11,ntmps11;go_upto_region 1 with fail
 go_quiet (fail);go_wp2;go_ret2;exact⟨_,_,nq,rfl,rfl,.inl ⟨a.2.2.2.2,rfl⟩,.inl ⟨a.2.2.1,rfl⟩⟩
theorem oC {s v:Nat} {m:bM} (hc:bq nd lf inn fl bl) (t:m.Ok nd lf inn fl bl K) (u:pU w s j nd m.tree) (i:q8 w v tr nd m.tree):
  Calls prog 12 #[j,tr] w fun e w2=>e= .returned true/\Below w w w2:=by
 rcases u with⟨f,rfl⟩|⟨x,a,f,rfl,p⟩
 ·rcases i with⟨_,rfl⟩|⟨y,b,c,_,_⟩
  ·exact Cc w
  ·rw [f] at c;cases c
 ·rcases i with⟨c,_⟩|⟨y,b,c,rfl,q⟩
  ·rw [f] at c;cases c
  ·rw [f] at c;injection c with c
   subst c;obtain⟨l,rfl,h⟩:=t.tr _ f;have g:=lh h;have o:=hc;unfold bq at o;have k:inn=(inn.toNat:Int):=by omega
   have n:fl=(fl.toNat:Int):=by omega
   have d:=BX h;rw [k,n] at d;obtain⟨z,A,B⟩:=DI d.1 (fun e r=>by have:=g e r;omega) d.2;exact Gr p q z (by omega) (by omega) A B
structure jT (c:ay) (l:List UInt8):Prop where
 err:c.err=0
 held:c.held=none
 left:c.src.left=l
 gives:c.src.gives= []
 fail:c.src.fail=0
 eager:c.src.eager=false
theorem jT.read {s:Src} {a l:List UInt8} (b:s.left=a++l) (c:s.gives= []) (d:s.fail=0) (f:s.eager=false) (g:0<a.length):s.read a.length=(a,0,⟨l,[],0,false,s.calls+1⟩):=by
 have h:s.most a.length=a.length:=by unfold Src.most;rw [c];rfl
 unfold Src.read;rw [if_neg (by rw [d];omega),if_neg (by rw [b];intro e;rw [List.append_eq_nil_iff] at e;rw [e.1] at g;exact absurd g (by decide)),h,b,f];simp [Src.asked,c,d,f]
theorem jT.bytes {c:ay} {a l:List UInt8} (h:jT c (a++l)) (d:0<a.length) (n:a.length<=4096):∃b,c.bytes a.length=(a,0,b)/\jT b l/\b.at_=c.at_+a.length:=by
 obtain⟨⟨left,gives,fail,eager,calls⟩,at_,err,idle,held⟩:=c;obtain⟨f,g,i,j,k,m⟩:=h;simp only at f g i j k m;subst f g i j k m;have p:=jT.read (s:=⟨a++l,[],0,false,calls⟩) rfl rfl rfl rfl d
 have o:(⟨⟨a++l,[],0,false,calls⟩,at_,0,idle,none⟩:ay).ask a.length=(a,0,⟨⟨l,[],0,false,calls+1⟩,at_,0,0,none⟩):=by
  unfold ay.ask;rw [Nat.min_eq_left n];simp only [];rw [p];simp only [];rw [if_pos (.inl (fun e=>by rw [e] at d;exact absurd d (by decide)))]
 have hl:(⟨⟨a++l,[],0,false,calls⟩,at_,0,idle,none⟩:ay).loop [] a.length=(a,0,⟨⟨l,[],0,false,calls+1⟩,at_,0,0,none⟩):=by
  rw [ay.loop,if_neg (by rw [List.length_nil];omega)];rw [List.length_nil,Nat.sub_zero,o];rw [if_pos (by rw [List.nil_append];exact jO)];rfl
 refine⟨⟨⟨l,[],0,false,calls+1⟩,at_+a.length,0,0,none⟩,?_,⟨rfl,rfl,rfl,rfl,rfl,rfl⟩,rfl⟩;unfold ay.bytes;rw [if_neg (by simp),if_neg (by omega)];show(if((⟨⟨a++l,[],0,false,calls⟩,at_,0,idle,none⟩:ay).loop [] a.length).2.1=0 then(((⟨⟨a++l,[],0,false,calls⟩,at_,0,idle,none⟩:ay).loop [] a.length).1,(0:Int),{((⟨⟨a++l,[],0,false,calls⟩,at_,0,idle,none⟩:ay).loop [] a.length).2.2 with at_:=at_+a.length}) else _)=_;rw [hl,if_pos rfl]
theorem jT.number {c:ay} {v:UInt8} {l:List UInt8} (h:jT c (v::l)) (hv:v.toNat<128):∃b,c.number=(v.toNat,0,b)/\jT b l/\b.at_=c.at_+1:=by
 obtain⟨b,d,e,f⟩:=jT.bytes (a:= [v]) (l:=l) h (by simp) (by simp);refine⟨b,?_,e,f⟩;have d:c.bytes 1=([v],0,b):=d
 have hn:c.numL 0 0=(v.toNat,0,b):=by
  rw [ay.numL,if_neg (by omega),d];rw [if_neg (by simp),if_neg (by simp),if_neg (by simp),if_pos (by simpa using hv)];simp;omega
 unfold ay.number;rw [hn];simp
theorem jT.end_ {c:ay} (h:jT c []):∃a,c.end_=(true,0,a):=by
 have d:c.src.read 1=([],31,c.src.asked):=by
  unfold Src.read;rw [if_neg (by rw [h.fail];omega),if_pos h.left]
 have b:c.ask (1-([]:List UInt8).length)=([],31,{c with src:=c.src.asked,idle:=0}):=by
  unfold ay.ask;show((c.src.read 1).1,(c.src.read 1).2.1,({c with src:=(c.src.read 1).2.2,idle:=if(c.src.read 1).1≠ []\/(c.src.read 1).2.1≠0 then 0 else c.idle+1}:ay))=_;rw [d];simp
 have hl:c.loop [] 1=([],41,{c with src:=c.src.asked,idle:=0}):=by
  rw [ay.loop,if_neg (by simp),b];rw [if_neg (by simp),if_pos (by simp)]
 refine⟨{c with src:=c.src.asked,idle:=0},?_⟩;unfold ay.end_;rw [if_neg (by rw [h.held,h.err];simp),hl];simp
def fI:List UInt8:= [1,0,1,0,107,1,0]
def dS:List UInt8:= [1,1,107,8,13,1,1]
def oI:Row:=⟨[107],8,13,1⟩
def lY:List UInt8:=gD++([66]++([7]++(fI++(four (bg fI)++([70]++([7]++(dS++(four (bg dS)++(dV 21++ [])))))))))
theorem J5:aH fI=([([107],[])],0,0):=by
 have a:ai fI 0=(1,1,0):=by decide
 have b:bO fI 1 [] [] 1=⟨[([107],[])],[1],5,0,0⟩:=by rfl
 unfold aH;rw [a];simp only [];rw [b];simp [eighth,two,stand,fI]
theorem wY:aJ [oI]=dS:=by
 unfold aJ bK;simp [Row.bytes,oI,qE,dS]
theorem Od (h:jT c lY) (q:c.at_=0):∃e,(⟨c,0,[],0,0⟩:dM).next=(some [([107],[])],⟨e,1,[oI],0,0⟩)/\jT e ([70]++([7]++(dS++(four (bg dS)++(dV 21++ [])))))/\e.at_=21:=by
 obtain⟨c1,g,w,n⟩:=jT.bytes (a:=gD) h (by decide) (by decide);obtain⟨o,i,x,r⟩:=jT.bytes (a:= [66]) w (by decide) (by decide);obtain⟨f,j,y,s⟩:=jT.number (v:=7) x (by decide);obtain⟨p,k,z,t⟩:=jT.bytes (a:=fI) y (by decide) (by decide);obtain⟨d,l,A,u⟩:=jT.bytes (a:=four (bg fI)) z (by show 0<4;decide) (by show 4<=4096;decide);have g:c.bytes 8=(gD,0,c1):=g;have i:c1.bytes 1=([66],0,o):=i;have j:o.number=(7,0,f):=j;have k:f.bytes 7=(fI,0,p):=k;have l:p.bytes 4=(four (bg fI),0,d):=l
 have B:f.body 7=⟨fI,0,0,d⟩:=by
  unfold ay.body;rw [k,if_neg (by simp),l,if_neg (by simp),if_neg (by simp)]
 have b:d.at_=21:=by rw [u,t,s,r,n,q];rfl
 have m:c1.at_=8:=by rw [n,q];rfl
 refine⟨d,?_,A,b⟩;unfold dM.next;rw [if_neg (show¬((0:Nat)=2) by decide),if_neg (show¬((0:Nat)=1) by decide)];simp only [];rw [g,if_neg (by simp),if_neg (by simp)];unfold dM.frame;simp only [];rw [i,if_neg (by simp),if_neg (by simp),if_neg (by simp)];unfold dM.block;simp only [];rw [j];rw [if_neg (by simp),if_neg (by simp),if_neg (by simp)];simp only [];rw [B];rw [if_neg (by simp),J5];rw [if_neg (by simp),if_neg (by simp)];simp only [];rw [b,m];rfl
theorem J7 (h:jT c ([70]++([7]++(dS++(four (bg dS)++(dV 21++ [])))))) (q:c.at_=21):∃m,(⟨c,1,[oI],0,0⟩:dM).next=(none,⟨m,2,[oI],0,0⟩):=by
 obtain⟨k,e,r,y⟩:=jT.bytes (a:= [70]) h (by decide) (by decide);obtain⟨b,f,s,z⟩:=jT.number (v:=7) r (by decide);obtain⟨l,g,t,A⟩:=jT.bytes (a:=dS) s (by decide) (by decide);obtain⟨d,i,u,B⟩:=jT.bytes (a:=four (bg dS)) t (by show 0<4;decide) (by show 4<=4096;decide);obtain⟨n,j,w,C⟩:=jT.bytes (a:=dV 21) u (by decide) (by decide);obtain⟨o,p⟩:=jT.end_ w;have e:c.bytes 1=([70],0,k):=e;have f:k.number=(7,0,b):=f;have g:b.bytes 7=(dS,0,l):=g;have i:l.bytes 4=(four (bg dS),0,d):=i;have j:d.bytes 12=(dV 21,0,n):=j
 have x:b.body 7=⟨dS,0,0,d⟩:=by
  unfold ay.body;rw [g,if_neg (by simp),i,if_neg (by simp),if_neg (by simp)]
 refine⟨o,?_⟩;unfold dM.next;rw [if_neg (show¬((1:Nat)=2) by decide),if_pos (show(1:Nat)=1 from rfl)];unfold dM.frame;simp only [];rw [e,if_neg (by simp),if_pos (by simp)];unfold dM.footR;simp only [];rw [f,wY];rw [if_neg (by simp),if_neg (by simp [dS])];rw [show dS.length=7 from rfl];simp only [];rw [x];rw [if_neg (by simp),if_neg (show¬comm dS dS<7 by decide)];simp only [];rw [j,if_neg (by simp),q,if_neg (by simp)];simp only [];rw [p,if_neg (by simp),if_neg (by simp)]
theorem Sj:∃a,JN 9 4 3 2 1 (eZ ⟨lY,[],0,false,0⟩) a/\a.err=0/\a.tree=some (aY 2 3 [([107],[])]):=by
 have h:jT (⟨⟨lY,[],0,false,0⟩,0,0,0,none⟩:ay) lY:=⟨rfl,rfl,rfl,rfl,rfl,rfl⟩;obtain⟨c1,c,f,e⟩:=Od h rfl;obtain⟨b,d⟩:=J7 f e;have g:iH 9 4 3 2 1 [] ([107],[])=0:=by decide
 have j:(eZ ⟨lY,[],0,false,0⟩).step 9 4 3 2 1=⟨⟨c1,1,[oI],0,0⟩,[([107],[])],false,none,0,0⟩:=by
  rw [rV (l:= [([107],[])]) rfl (by show((⟨⟨⟨lY,[],0,false,0⟩,0,0,0,none⟩,0,[],0,0⟩:dM).next).1=_;rw [c])];show(eZ _).took 9 4 3 2 1 _ ((⟨⟨⟨lY,[],0,false,0⟩,0,0,0,none⟩,0,[],0,0⟩:dM).next).2=_;rw [c];unfold bM.took
  have i:gU 9 4 3 2 1 (eZ ⟨lY,[],0,false,0⟩).ents [([107],[])]=([([107],[])],0):=by
   show(if iH 9 4 3 2 1 [] ([107],[])=0 then gU 9 4 3 2 1 ([]++ [([107],[])]) [] else _)=_;rw [if_pos g];rfl
  rw [i,if_pos rfl];rfl
 have k:(⟨⟨c1,1,[oI],0,0⟩,[([107],[])],false,none,0,0⟩:bM).step 9 4 3 2 1=⟨⟨b,2,[oI],0,0⟩,[([107],[])],true,some (aY 2 3 [([107],[])]),0,0⟩:=by
  rw [rU rfl (by show((⟨c1,1,[oI],0,0⟩:dM).next).1=_;rw [d])];show(⟨⟨c1,1,[oI],0,0⟩,[([107],[])],false,none,0,0⟩:bM).ends 3 2 ((⟨c1,1,[oI],0,0⟩:dM).next).2=_;rw [d];rfl
 refine⟨⟨⟨b,2,[oI],0,0⟩,[([107],[])],true,some (aY 2 3 [([107],[])]),0,0⟩,⟨2,?_,rfl⟩,rfl,rfl⟩
 ·show _=((eZ _).step 9 4 3 2 1).step 9 4 3 2 1;rw [j,k]
structure OB (w0 w:World) (v:Value) (bs:List UInt8):Prop where
 own:Ow w w0 v bs
 bel:Below w0 w0 w
def RZ (w:World) (bs:List UInt8) (e:Ending) (w':World):Prop:=∃A n c,n=bs.length/\e= .returned (.slice A n c)/\OB w w' (.slice A n c) bs
theorem OB.after (h:OB q w v bs) (o:Below w w w'):OB q w' v bs:=⟨h.own.below o,h.bel.trans (o.mono h.bel.size)⟩
theorem OB.sb {q w:World} {v:Value} {bs:List UInt8} (h:OB q w v bs):SB w (From q) v bs:=h.own.sb
theorem OB.ahead (h:OB w1 w v bs) (a:Below q q w1):OB q w v bs:=⟨kX h.own a.size,a.trans (h.bel.mono a.size)⟩
theorem R5:SB w Nil () []:=SB.mk jO (Nat.zero_le _) rfl ⟨rfl,fun h=>absurd h (by omega)⟩
theorem dH {rest:List Oper} (T:o.guard=none) (s x:Operand)
  (z:o.op= .call {callee:= .builtin .append,args:= #[s,x],argTypes:= #[24,24]})
  (q:World) (v:Value) (xs:List UInt8) (p:a.eval s=v) (H:OB q w v xs) (F:Nat->Prop) (A:Option Addr) (m c:Nat) (bs:List UInt8) (C:a.eval x= .slice A m c) (B:SB w F (.slice A m c) bs) (hl:xs.length+bs.length<=1048576)
  (h:∀d n e w',n=xs.length+bs.length->OB q w' (.slice d n e) (xs++bs)->ag (fun b=>v.ownBlock=some b) w w'->wpList prog ops Q rest (a.put o.dst (.slice d n e)) w'):wpList prog ops Q (o::rest) a w:=by
 obtain⟨D,f,i,j,l⟩:=info_parts bD;obtain⟨-,-,u,g⟩:=B.parts;refine af _ T s x _ z q 5 D _ 1 1 underlying24 f i j l rfl (by omega) v xs.length (aI xs) p H.own F A m c (aI bs) C g (bJ _) (by simp only [maxLen];omega) (by omega) H.bel.size ?_;intro G w' r t E;obtain⟨d,e,rfl,-,-⟩:=ax r;refine h d (xs.length+m) e w' (by rw [u]) ⟨?_,H.bel.grown t H.bel.size (fun k y=>(ah H.own k y).1)⟩ (ag.of_grown t);unfold Ow;rw [mq,<-u];simpa [aI] using r
theorem vV {b:Nat} (h:Below b w w') (n:Nat):Below b w (w'.drewN n):=⟨h.os,h.tape,h.output,h.size,h.block⟩
theorem ug (m:Nat) (w:World) (g:m<128):Calls prog 105 #[.int .u64 m] w (RZ w [UInt8.ofNat m]):=by
 refine(gW w m w (by omega) jO).mono ?_;intro e w' f;obtain⟨A,n,c,rfl,-,-,a,b,d⟩:=f.below;rw [qE g] at a b;exact⟨A,n,c,a,rfl,⟨b,d⟩⟩
theorem N9 (O:SB w F (.slice kA 1 kc) [107]):Calls prog 159 #[(),.agg #[.slice kA 1 kc,()]] w (RZ w [0,1,0,107]):=by
 refine letter fun R X=> ?_;have M:=aa O;clear O;go_enter func159,ntmps159;go_upto_region 2 with(go_at_call 112;go_loud (refine(gX (A:=none) (B:=kA) (n:=0) (m:=1) 0 kc (F:=Nil) (G:=F) (xs:=[]) (ys:=[107]) (w:=w.alloc (.cells #[.slice kA 1 kc,()] 69)) ⟨rfl,fun h=>absurd h (by omega)⟩ rfl (M.parts.2.2.2.alloc _) rfl (by omega)).mono ?_;rintro e w1 ⟨rfl,q,K⟩;have c:Hid (ak w1 w 69 #[.slice kA 1 kc,()]):=aa (by rw [K];exact(ak.new _ _ _).drewN q);have b:Hid (Below w w w1):=aa (by rw [K];exact vV gV q);have y1:w1.cell? w=some (.slice kA 1 kc):=c.out.cell 0;clear K))
 rw [show comm [] [107]=0 from rfl];have xu:=aa b.size
 go_upto_region 3 with
  (go_at_call 105;go_loud (refine(ug 0 w1 (by decide)).mono ?_;rintro e w2 ⟨j,ab,C,hn,rfl,a⟩;simp only [List.length_cons,List.length_nil] at hn;subst hn;have s:=aa a;have x:Hid (Below w1 w1 w2):=aa a.bel;clear a))
 have L:=c.out.below x.out;have ao:w2.cell? w=some (.slice kA 1 kc):=L.cell 0
 go_upto_region 4 with(first
  |(go_at_call 105;go_loud (refine(ug 1 w2 (by decide)).mono ?_;rintro e w3 ⟨k,ac,D,hn,rfl,a⟩;simp only [List.length_cons,List.length_nil] at hn;subst hn;have t:=aa a;have y:Hid (Below w2 w2 w3):=aa a.bel;clear a))
  |(at_builtin;go_loud (refine dH rfl (.tmp 14) (.tmp 21) rfl w1 (.slice j 1 C) [0] rfl (s.after y.out) _ k 1 D [1] rfl t.sb (by decide) ?_;intro l ad E i hn a hc;simp only [List.length_cons,List.length_nil,Nat.zero_add,Nat.reduceAdd] at hn;subst hn;simp only [List.cons_append,List.nil_append] at a;have d:=aa a;have T:=aa hc;clear a hc))
  )
 have gK:Hid (Below w1 w1 i):=aa d.bel;have ap:i.cell? ⟨w,1,none⟩=some (.slice none 0 0):=(c.out.below gK).cell 1
 go_upto_region 5 with(first
  |(go_at_call 105;go_loud (refine(ug 0 i (by decide)).mono ?_;rintro e w5 ⟨o,ae,H,hn,rfl,a⟩;simp only [List.length_cons,List.length_nil] at hn;subst hn;have u:=aa a;have z:Hid (Below i i w5):=aa a.bel;clear a))
  |(at_builtin;go_loud (refine dH rfl (.tmp 23) (.tmp 28) rfl w1 (.slice l 2 E) [0,1] rfl (d.after z.out) _ o 1 H [0] rfl u.sb (by decide) ?_;intro p al I P hn a hc;simp only [List.length_cons,List.length_nil,Nat.zero_add,Nat.reduceAdd] at hn;subst hn;simp only [List.cons_append,List.nil_append] at a;have f:=aa a;have U:=aa hc;clear a hc))
  )
 have N:Hid (Below w1 w1 P):=aa f.bel;have aq:P.cell? w=some (.slice kA 1 kc):=(c.out.below N).cell 0;have Y:=aa (M.below (b.out.trans (N.mono b.size)))
 go_upto_region 6 with(first
  |(at_builtin;go_loud (refine dH rfl (.tmp 30) (.tmp 34) rfl w1 (.slice p 3 I) [0,1,0] rfl f _ kA 1 kc [107] rfl Y (by decide) ?_;intro r am J Q hn a hc;simp only [List.length_cons,List.length_nil,Nat.zero_add,Nat.reduceAdd] at hn;subst hn;simp only [List.cons_append,List.nil_append] at a;have g:=aa a;have V:=aa hc;clear a hc))
  )
 have fK:Hid (Below w1 w1 Q):=aa g.bel;have ar:Q.cell? ⟨w,1,none⟩=some (.slice none 0 0):=(c.out.below fK).cell 1
 go_wp2_with (first
  |(at_builtin;go_loud (refine dH rfl (.tmp 36) (.tmp 38) rfl w1 (.slice r 4 J) [0,1,0,107] rfl g _ none 0 0 [] rfl R5 (by decide) ?_;intro S an Z w8 hn a hc;simp only [List.length_cons,List.length_nil,Nat.zero_add,Nat.reduceAdd] at hn;subst hn;simp only [List.cons_append,List.nil_append] at a;have v:=aa a;have W:=aa hc;clear a hc))
  )
 rw [X.out];exact⟨_,_,_,rfl,rfl,v.ahead b⟩
theorem Oa {K:Act->World->Prop} {E:Prop} (T:o.guard=none) (s x:Operand)
  (z:o.op= .call {callee:= .builtin .append,args:= #[s,x],argTypes:= #[24,24]})
  (q:World) (v:Value) (xs:List UInt8) (p:a.eval s=v) (H:OB q w v xs) (F:Nat->Prop) (A:Option Addr) (m c:Nat) (bs:List UInt8) (C:a.eval x= .slice A m c) (B:SB w F (.slice A m c) bs) (hl:xs.length+bs.length<=1048576)
  (h:∀d n e w',n=xs.length+bs.length->OB q w' (.slice d n e) (xs++bs)->ag (fun b=>v.ownBlock=some b) w w'->K (a.put o.dst (.slice d n e)) w'):if Region.wanted o (yielded ops a.tmps)=true then Oper.wp prog o a w K Q else E:=by
 obtain⟨D,f,i,j,l⟩:=info_parts bD;obtain⟨-,-,u,g⟩:=B.parts;refine aG _ T s x _ z q 5 D _ 1 1 underlying24 f i j l rfl (by omega) v xs.length (aI xs) p H.own F A m c (aI bs) C g (bJ _) (by simp only [maxLen];omega) (by omega) H.bel.size ?_;intro I w' r t G;obtain⟨d,e,rfl,-,-⟩:=ax r;refine h d (xs.length+m) e w' (by rw [u]) ⟨?_,H.bel.grown t H.bel.size (fun k y=>(ah H.own k y).1)⟩ (ag.of_grown t);unfold Ow;rw [mq,<-u];simpa [aI] using r
theorem VH (w:World) (e:TypeId) (n size:Nat) (cs:Array Value) (a:cs.size=n*size) (hn:n<=maxLen):(w.alloc (.cells cs e)).ownsRow w e size (.slice (some ⟨w,0,none⟩) n n) n cs.toList:=
 ⟨by rw [Array.length_toList];exact a,.inr ⟨_,_,cs,rfl,jO,ak.new w e cs,jO,hn,a,by rw [<-a,<-Array.length_toList,List.take_length]⟩⟩
theorem OB.lit (w:World) (bs:List UInt8) (cs:Array Value) (hc:cs.toList=aI bs) (hn:bs.length<=64):OB w (w.alloc (.cells cs 5)) (.slice (some ⟨w,0,none⟩) bs.length bs.length) bs:=by
 refine⟨?_,gV⟩;unfold Ow;rw [<-hc];have h:cs.size=bs.length:=by rw [<-Array.length_toList,hc];simp [aI]
 exact VH w _ bs.length 1 cs (by omega) (by simp only [maxLen];omega)
theorem Ob (w:World):Calls prog 61 #[] w (RZ w gD):=by
 refine letter fun R a=> ?_;go_enter func61,ntmps61;go_wp2;rw [a.out]
 exact⟨_,_,_,rfl,rfl,OB.lit w gD _ rfl (by decide)⟩
theorem Oc (A:Option Addr) (n c:Nat) (w:World):Calls prog 152 #[.slice A n c,.int .i64 0] w fun e w'=>e= .returned ()/\w=w':=by
 refine letter fun R a=> ?_;go_enter func152,ntmps152;go_wp2;rw [a.out]
 exact⟨rfl,rfl⟩
theorem za (k:UInt8) {body:List UInt8} (u:body.length=7) (h:SB w F (.slice bA 7 bc) body):
  Calls prog 129 #[.int .u8 k.toNat,.slice bA 7 bc] w (RZ w (k::7::(body++four (bg body)))):=by
 obtain⟨fr,b⟩:=gF (four (bg body));have O:=aa b;have H:Hid (fr.length=4):=aa (by rw [b];rfl);have t:=aa u;obtain⟨R,s⟩:=gF (RZ w (k::7::(body++fr)));have z:=aa s;rw [<-b,<-s];have A:=aa h;clear s h b u;go_enter func129,ntmps129;go_upto_region 2 with(first|(go_at_call 105;go_loud (obtain⟨w1,c⟩:=gF (w.alloc (.cells #[.int .u8 k.toNat] 5));rw [<-c];have J:Hid (OB w w1 (.slice (some ⟨w,0,none⟩) 1 1) [k]):=aa (by rw [c];exact OB.lit w [k] _ rfl (by simp));clear c;refine(ug 7 w1 (by decide)).mono ?_;rintro e w2 ⟨j,L,q,hn,rfl,a⟩;simp only [List.length_cons,List.length_nil] at hn;subst hn;have o:=aa a;have G:=aa (J.after a.bel);clear a))|(at_builtin;go_loud (refine dH rfl (.tmp 7) (.tmp 11) rfl w (.slice (some ⟨w,0,none⟩) 1 1) [k] rfl G _ j 1 q [7] rfl o.sb (by simp) ?_;intro l M r Q hn a hc;simp only [List.length_cons,List.length_nil,Nat.zero_add,Nat.reduceAdd] at hn;subst hn;simp only [List.cons_append,List.nil_append] at a;have d:=aa a;clear a hc)))
 have B:=aa (A.below d.bel);go_wp2_with (first|(go_at_call 65;go_loud (refine(Cr (n:=7) bc B.parts.2.2.2 t.out.symm (by omega)).mono ?_;rintro e S ⟨P,rfl,i,g⟩;rw [<-O.out] at i;obtain⟨v,K,C,rfl,-,-,f,-⟩:=i.sb;have I:=aa i;have y:=aa f;have E:=aa g;clear i g f))|(at_builtin;go_loud (refine dH rfl (.tmp 13) (.tmp 15) rfl w (.slice l 2 r) [k,7] rfl (d.after E) _ v K C (body++fr) rfl I.sb (by rw [mq,H.out,t.out];simp) ?_;intro x N D T hn a hc;have m:=aa hn;have p:=aa a;clear hn a hc)));rw [z.out];exact⟨_,_,_,by rw [m.out];simp;omega,rfl,p⟩
structure E1 (w:World) (F:Nat->Prop) (lb:Nat) (kA:Option Addr) (kc:Nat):Prop where
 c0:w.cell? lb=some (.slice kA 1 kc)
 c1:w.cell? ⟨lb,1,none⟩=some (.slice none 0 0)
 key:SB w F (.slice kA 1 kc) [107]
 own:∀b,b=lb\/F b->b<w
theorem E1.chg {S:Nat->Prop} {w w':World} {F:Nat->Prop} {lb kc:Nat} {kA:Option Addr} (h:E1 w F lb kA kc) (hc:ag S w w') (c:∀b,b=lb\/F b->¬S b):E1 w' F lb kA kc:=
 ⟨hc.cell (c _ (.inl rfl)) h.c0,hc.cell (c _ (.inl rfl)) h.c1,h.key.chg hc (fun b a=>c b (.inr a)),fun b a=>mU (h.own b a) hc.size⟩
theorem E1.below {lb:Nat} (h:E1 w F lb kA kc) (o:Below w w w'):E1 w' F lb kA kc:=h.chg (S:=Nil) (ag.of_below o) (fun _ _ a=>a)
theorem E1.ents {lb:Nat} (h:E1 w F lb kA kc):dh w (fun b=>b=lb\/F b) (some ⟨lb,0,none⟩) 1 [([107],[])]:=by
 refine⟨rfl,[.slice kA 1 kc,()],⟨rfl,fun _=>⟨_,0,rfl,.inl rfl,fun k u a=> ?_⟩⟩,fun i e c=> ?_⟩
 ·match k with
  |0=>simp at a;subst a;exact h.c0
  |1=>simp at a;subst a;exact h.c1
  |k+2=>simp at a
 ·match i with
  |0=>simp at c;subst c;exact⟨_,_,rfl,rfl,h.key.weak (fun b d=> .inr d),R5.weak (fun _ f=>absurd f id)⟩
  |i+1=>simp at c
noncomputable def Kv:Code:=aQ (f128.body.bind (aF 13))
theorem VI {lb:Nat} (lc:Nat) {p:Value} (kF:Hid (∀c t (a:Act) w,Q (.panic c) ⟨t,a.defers⟩ w->Q (.panic c) a w))
  (HE:Hid (E1 w F lb kA kc)) (HO:Hid (OB q w (.slice oA 1 oc) [1])) (HN:Hid (∀b,b=lb\/F b->¬(Value.slice oA 1 oc).ownBlock=some b))
  (au:∀(al am an ao ap aq ar aw aA aE:Value) (A':Option Addr) (c':Nat) (w':World),OB q w' (.slice A' 5 c') [1,0,1,0,107]->ag (fun b=>(Value.slice oA 1 oc).ownBlock=some b) w w'->Q .normal ⟨(.slice (some ⟨lb,0,none⟩) 1 lc::u1::y::B::J::s::u:: .slice A' 5 c'::k:: .int .i64 0::L::E::O::W::Z::U::G::f::C::I::M::P::V::d::l::z::D::m::r::T::j::g::x::p::n::i::u36::u37::u38::N::u40::R::u42::X::u44::u45::u46::v::u48::u49::H::al::am::an::ao::ap::aq::ar::aw::aA::aE::Y).toArray,[]⟩ w'):
  Code.wp prog Kv Q ⟨(.slice (some ⟨lb,0,none⟩) 1 lc::u1::y::B::J::s::u:: .slice oA 1 oc::k:: .int .i64 0::L::E::O::W::Z::U::G::f::C::I::M::P::V::d::l::z::D::m::r::T::j::g::x::p::n::i::u36::u37::u38::N::u40::R::u42::X::u44::u45::u46::v::u48::u49::H::u51::A::u53::dR::u55::dY::dZ::u58::u59::u60::Y).toArray,[]⟩ w:=by
 have dz:=aa au;have HD:Hid (Below w w w.drew):=aa mh.drew;have S0:w.drew.cell? lb=some (.slice kA 1 kc)/\w.drew.cell? ⟨lb,1,none⟩=some (.slice none 0 0):=⟨HE.c0,HE.c1⟩;clear au;conv=>arg 2;whnf
 refine aO (S:=(fun w'=>w'.cell? lb=some (.slice kA 1 kc)/\w'.cell? ⟨lb,1,none⟩=some (.slice none 0 0))) (by kernel_rfl) ?_;refine vT 0 S0 ?_;refine vT 1 S0 ?_;refine vT 2 S0 ?_;refine vT 4 S0 ?_;refine vT 5 S0 ?_;refine vT 6 S0 ?_;refine vT 7 S0 ?_;refine nZ 3 fun K o=> ?_;go_simp;go_loud (refine(Oc (some ⟨lb,0,none⟩) 1 lc w.drew).mono ?_);rintro e w1 ⟨rfl,ae⟩;have ab:Hid (Below w w w1):=aa (by rw [<-ae];exact HD);have wO:=aa (HE.below ab);have S1:w1.cell? lb=some (.slice kA 1 kc)/\w1.cell? ⟨lb,1,none⟩=some (.slice none 0 0):=⟨wO.c0,wO.c1⟩;clear ae
 refine o.out _ _ S1 ?_;clear o K;try simp only [aL,aN,aZ,aC]
 refine nZ 8 fun K o=> ?_;go_simp;go_loud (refine(N9 wO.key).mono ?_);rintro e w2 ⟨A2,n2,c2,hn,rfl,ho⟩;simp only [List.length_cons,List.length_nil] at hn;subst hn;have iG:=aa ho;have ac:Hid (Below w w w2):=aa (ab.out.trans (ho.bel.mono ab.size));have ad:=aa (HE.below ac);have S2:w2.cell? lb=some (.slice kA 1 kc)/\w2.cell? ⟨lb,1,none⟩=some (.slice none 0 0):=⟨ad.c0,ad.c1⟩;clear ho
 refine o.out _ _ S2 ?_;clear o K;try simp only [aL,aN,aZ,aC]
 refine nZ 9 fun K o=> ?_;refine Oa rfl (.tmp 51) (.tmp 59) rfl q (.slice oA 1 oc) [1] rfl (HO.after ac) _ A2 4 c2 [0,1,0,107] rfl iG.sb (by decide) ?_;intro A3 n3 c3 w3 hn ho hc;simp only [List.length_cons,List.length_nil,Nat.zero_add,Nat.reduceAdd] at hn;subst hn;simp only [List.cons_append,List.nil_append] at ho;have qN:=aa ho;have fu:=aa hc;have S3:w3.cell? lb=some (.slice kA 1 kc)/\w3.cell? ⟨lb,1,none⟩=some (.slice none 0 0):=⟨fu.cell (HN lb (.inl rfl)) S2.1,fu.cell (HN lb (.inl rfl)) S2.2⟩;clear ho hc;refine rT o S3 ?_;clear o K;refine vT 10 S3 ?_;refine bf (by kernel_rfl) ?_ _;go_simp;refine dz _ _ _ _ _ _ _ _ _ _ A3 c3 w3 qN ?_;exact(ag.of_below ac).trans fu (fun b _ h=>h)
theorem GM {lb:Nat} (lc:Nat) (h:E1 w F lb kA kc):
  Calls prog 128 #[.slice (some ⟨lb,0,none⟩) 1 lc] w fun e w'=>∃A c,e= .returned (.tuple #[.slice A 7 c,.int .i64 0,.int .i64 0])/\OB w w' (.slice A 7 c) fI:=by
 have o:=aa h;refine letter fun R E=> ?_;clear h;go_enter func128,ntmps128;go_upto_region 4 with(go_at_call 113;go_loud (refine(jS (A:=some ⟨lb,0,none⟩) (n:=1) lc (l:=[([107],[])]) o.ents (by omega) (fun i e t=>by match i with|0=>simp at t;subst t;decide|i+1=>simp at t)).mono ?_;rintro e w1 ⟨rfl,j⟩;rw [show bB [([107],[])]=(0,0) by decide];have m:=aa j;clear j))
 go_upto_region 7 with
  (go_at_call 105;go_loud (refine(ug 1 w1 (by decide)).mono ?_;rintro e w2 ⟨k,P,s,hn,rfl,a⟩;simp only [List.length_cons,List.length_nil] at hn;subst hn;have q:=aa a;have G:Hid (Below w1 w1 w2):=aa a.bel;clear a))
 have u:Hid (OB w w2 (.slice k 1 s) [1]):=aa (q.ahead m);have p:=aa (o.below u.bel);go_wp2;refine wp_loop_rounds 2 ?_;rw [rounds_succ];go_upto_region 13 with(at_builtin;go_loud (obtain⟨w3,d⟩:=gF (w2.alloc (.cells #[.int .u8 1,.int .u8 0] 5));rw [<-d];have z:Hid (OB w2 w3 (.slice (some ⟨w2,0,none⟩) 2 2) [1,0]):=aa (by rw [d];exact OB.lit w2 [1,0] _ rfl (by decide));clear d;refine dH rfl (.tmp 40) (.tmp 49) rfl w2 () [] rfl ⟨Ow.nil _ _,z.bel⟩ _ (some ⟨w2,0,none⟩) 2 2 [1,0] rfl z.sb (by decide) ?_;intro x n4 y w4 hn a hc;simp only [List.length_cons,List.length_nil,Nat.zero_add,Nat.reduceAdd] at hn;subst hn;simp only [List.nil_append] at a;have v:=aa a;clear a hc))
 have I:=aa (p.below v.bel);have f:=aa (u.after v.bel);refine VI lc (aa (fun _ _ _ _ h=>h)) I f (aa (fun b N e=>by have L:=o.out.own b N;have M:=(ah f.own b e).1;omega)) ?_;intro T U V W X Y Z ab ac ad B J w5 a hc;have S:=aa a;have ed:=aa hc;have H:Hid (SB w5 (fun b=>w2<=b/\b<w4) (.slice x 2 y) [1,0]):=aa (v.sb.lt.chg hc (fun g O e=>by have L:=(ah u.own g e).2;have M:w2<=g:=O.1;omega));clear a hc;go_wp2;rw [rounds_succ]
 go_wp2_with
  (at_builtin;go_loud (refine dH rfl (.tmp 61) (.tmp 62) rfl w (.slice B 5 J) [1,0,1,0,107] rfl S _ x 2 y [1,0] rfl H (by decide) ?_;intro C Q K w6 hn a hc;simp only [List.length_cons,List.length_nil,Nat.zero_add,Nat.reduceAdd] at hn;subst hn;simp only [List.cons_append,List.nil_append] at a;have r:=aa a;have D:=aa hc;clear a hc))
 go_ret3
 rw [E.out];exact⟨_,_,rfl,r⟩
def Row1 (w:World) (A:Option Addr):Prop:=mF w (fun b=>b<w) A 1 [oI]
theorem Row1.below {w w':World} {A:Option Addr} (h:Row1 w A) (o:Below w w w'):Row1 w' A:=(mF.below h o).weak (fun _b a=>mU a o.size)
noncomputable def Lh:Code:=aQ (f84.body.bind (aF 8))
theorem ZB {tb:Nat} (tc:Nat) {lb:Nat} (fc:Nat) (fA:Option Addr) {p e:Value} (kF:Hid (∀c t (a:Act) w,Q (.panic c) ⟨t,a.defers⟩ w->Q (.panic c) a w))
  (HE:Hid (E1 w F lb kA kc)) (HT:Hid (w.cell? tb=some (.slice (some ⟨lb,0,none⟩) 1 lc))) (_bx:tb<w)
  (au:∀(al am an ao ap aq ar aw aA aE a0 a1 a2 a3 a4 a5 a6 a7 a8 a9 ba be bh bj bk bm bo:Value) (A':Option Addr) (c':Nat) (w':World),Row1 w' A'->Below w w w'->Q .normal ⟨(.slice (some ⟨tb,0,none⟩) 1 tc::u1::y::B:: .slice none 0 0:: .slice A' 1 c':: .int .i64 0::u7::u8::r:: .slice fA 13 fc::E::O::W::Z::U::G::f::C::I::M::P::V::d::l::z::D::m::al::am::an::ao::ap::aq::ar::aw::aA::aE::a0::a1::a2::a3::a4::a5::a6::a7::a8::a9::ba::be::bh::bj::bk::bm::bo::Y).toArray,[]⟩ w'):
  Code.wp prog Lh Q ⟨(.slice (some ⟨tb,0,none⟩) 1 tc::u1::y::B:: .slice none 0 0:: .slice none 0 0:: .int .i64 0::u7::u8::r:: .slice fA 13 fc::E::O::W::Z::U::G::f::C::I::M::P::V::d::l::z::D::m::u28::T::j::g::u32::p::n::u35::h::u37::e::N::u40::R::u42::X::u44::u45::u46::v::u48::u49::H::u51::A::J::dR::Y).toArray,[]⟩ w:=by
 obtain⟨i0,ad,iC,iD,iE⟩:=info_parts qw;have dz:=aa au;have HD:Hid (Below w w w.drew):=aa mh.drew;have o:w.drew.cell? tb=some (.slice (some ⟨lb,0,none⟩) 1 lc)/\w.drew.cell? lb=some (.slice kA 1 kc):=⟨HT,HE.c0⟩;have e0:IntKind.i64.wrap 0=0:=by decide
 have e1:IntKind.i64.wrap 1=1:=by decide
 have e8:IntKind.i64.wrap 8=8:=by decide
 have bp:IntKind.i64.wrap 13=13:=by decide
 clear au;conv=>arg 2;whnf
 refine aO (S:=(fun w'=>w'.cell? tb=some (.slice (some ⟨lb,0,none⟩) 1 lc)/\w'.cell? lb=some (.slice kA 1 kc))) (by kernel_rfl) ?_;refine vT 0 o ?_;refine vT 1 o ?_;refine vT 2 o ?_;refine vT 3 o ?_;refine vT 5 o ?_;refine vT 6 o ?_;refine vT 7 o ?_;refine vT 14 o ?_;refine vT 15 o ?_;refine vT 16 o ?_;refine vT 17 o ?_;refine vT 18 o ?_;refine vT 19 o ?_;refine vT 20 o ?_;refine vT 21 o ?_;refine vT 4 o ?_;refine vT 8 o ?_;refine vT 9 o ?_;refine vT 10 o ?_;refine vT 11 o ?_;refine vT 12 o ?_;refine vT 13 o ?_;refine vT 22 o ?_;refine vT 23 o ?_;refine vT 24 o ?_;refine nZ 25 fun K L=> ?_;go_simp;obtain⟨w3,s⟩:=gF ((w.alloc (.cells #[.slice kA 1 kc,.int .i64 8,.int .i64 13,.int .i64 1] 100)).drew);rw [<-s];have q:Hid (Below w w w3):=aa (by rw [s];exact gV.drew);have tL:Hid (Rd w3 (From w) 4 (some ⟨w,0,none⟩) 1 [.slice kA 1 kc,.int .i64 8,.int .i64 13,.int .i64 1]):=aa (by rw [s];exact⟨rfl,fun _=>⟨_,0,rfl,jO,fun k u hk=>by show(w.alloc _).cell? _=_;rw [(ak.new w _ _).cell];simpa using hk⟩⟩);have S3:w3.cell? tb=some (.slice (some ⟨lb,0,none⟩) 1 lc)/\w3.cell? lb=some (.slice kA 1 kc):=⟨aj q o.1,aj q o.2⟩;clear s;refine L.out _ _ S3 ?_;clear L K;try simp only [aL,aN,aZ,aC]
 refine nZ 26 fun K L=> ?_;refine aG _ rfl (.tmp 28) (.tmp 53) _ rfl w 100 i0 _ 4 48 underlying97 ad iC iD iE rfl (by omega) () 0 [] rfl (World.ownsRow_nil _ _ _ _) (From w) (some ⟨w,0,none⟩) 1 1 _ rfl tL (by intro u hu;simp at hu;rcases hu with rfl|rfl|rfl|rfl<;>rfl) (by simp only [maxLen];omega) (by omega) q.size ?_;intro x w4 di ab gp;obtain⟨K4,IE,ae,_,_⟩:=ax di;subst ae;have jM:=aa di;have dE:Hid (Below w w w4):=aa (q.grown ab q.size (fun k hk=>by simp [Value.ownBlock] at hk));have S4:w4.cell? tb=some (.slice (some ⟨lb,0,none⟩) 1 lc)/\w4.cell? lb=some (.slice kA 1 kc):=⟨aj dE HT,aj dE HE.c0⟩;clear di ab gp;refine rT L S4 ?_;clear L K;refine vT 27 S4 ?_;refine bf (by kernel_rfl) ?_ _;go_simp
 have ac:Row1 w4 K4:=by
  refine⟨rfl,[.slice kA 1 kc,.int .i64 8,.int .i64 13,.int .i64 1],((Rd.of_own jM).lt (by omega)).weak (fun b hb=>hb.2),fun i x hx=> ?_⟩
  match i with
  |0=>
   simp at hx;subst hx
   exact⟨_,rfl,rfl,rfl,rfl,(HE.key.below dE).lt.weak (fun b hb=>hb.2)⟩
  |i+1=>simp at hx
 exact dz _ _ _ _ _ _ _ _ _ _ _ _ _ _ _ _ _ _ _ _ _ _ _ _ _ _ _ K4 IE w4 ac dE
theorem GN {tb:Nat} (y:Nat) {lb:Nat} (h:E1 w F lb kA kc) (u:w.cell? tb=some (.slice (some ⟨lb,0,none⟩) 1 lc)) (B:tb<w):
  Calls prog 84 #[.slice (some ⟨tb,0,none⟩) 1 y] w fun e w'=>∃A c g sc,e= .returned (.tuple #[.slice A 13 c,.slice g 1 sc])/\OB w w' (.slice A 13 c) (66::7::(fI++four (bg fI)))/\Row1 w' g:=by
 obtain⟨fr,d⟩:=gF (four (bg fI));have D:=aa d;have q:Hid (fr.length=4):=aa (by rw [d];rfl);rw [<-d];obtain⟨R,p⟩:∃R:Ending->World->Prop,R=fun e w'=>∃A c g sc,e= .returned (.tuple #[.slice A 13 c,.slice g 1 sc])/\OB w w' (.slice A 13 c) (66::7::(fI++fr))/\Row1 w' g:=⟨_,rfl⟩;have z:=aa p;have s:=aa h;have HT:=aa u;rw [<-p];clear p h d;go_enter func84,ntmps84;go_wp2;refine wp_loop_rounds 2 ?_
 rw [rounds_succ];go_upto_region 8 with(first|(go_at_call 128;go_loud (refine(GM lc s).mono ?_;rintro e w1 ⟨A1,c1,rfl,a⟩;have v:=aa a;clear a))|(go_at_call 129;go_loud (refine(za 66 rfl v.sb).mono ?_;rintro e w2 ⟨r,n2,t,hn,rfl,a⟩;rw [<-D.out] at hn a;rw [show(66::7::(fI++fr)).length=13 by simp [fI,q.out]] at hn;subst hn;have j:=aa (a.ahead v.bel);clear a)))
 have k:=aa (s.below j.bel);have o:Hid (w2.cell? tb=some (.slice (some ⟨lb,0,none⟩) 1 lc)):=aa (aj j.bel u);have n:=aa j.bel.size;refine ZB y t r (aa (fun _ _ _ _ h=>h)) k o (by have:=n.out;omega) ?_;intro E G H I J K L M N O P Q S T U V W X Y Z ab ac ad ae al am an g sc w3 f i;have m:=aa f;have x:=aa (j.after i);clear f i;go_wp2_with (at_builtin;go_loud (refine dH rfl (.tmp 55) (.tmp 56) rfl w () [] rfl ⟨Ow.nil _ _,x.bel⟩ _ r 13 t (66::7::(fI++fr)) rfl x.sb (by simp [fI,q.out]) ?_;intro A4 n4 c4 w4 hn a hc;rw [show([]:List UInt8).length+(66::7::(fI++fr)).length=13 by simp [fI,q.out]] at hn;subst hn;rw [List.nil_append] at a;have C:=aa a;have l:Hid (Row1 w4 g):=aa (m.below (hc.below_of jO (fun b _ e=>by simp [Value.ownBlock] at e)));clear a hc));rw [rounds_succ];go_wp2
 trace_state
 rw [z.out];exact⟨_,_,_,_,rfl,C,l⟩
theorem VJ:iy [oI]:=by
 refine⟨by simp,fun x a=> ?_,fun i x y a b=> ?_,fun i x a=> ?_,fun x a=> ?_,fun x a=> ?_⟩
 ·simp at a;subst a;simp [oI]
 ·match i with
  |0=>simp at b
  |i+1=>simp at b
 ·match i with
  |0=>simp at a;subst a;rfl
  |i+1=>simp at a
 ·simp at a;subst a;simp [oI]
 ·simp at a;subst a;simp [oI]
theorem R6 (I:Option Addr) (sc:Nat) (w:World) (h:Row1 w I):
  Calls prog 85 #[.slice I 1 sc] w fun e w'=>∃A c,e= .returned (.slice A 25 c)/\OB w w' (.slice A 25 c) (70::7::(dS++four (bg dS))++dV 21):=by
 obtain⟨fr,a⟩:=gF (four (bg dS));have Q:=aa a;have B:Hid (fr.length=4):=aa (by rw [a];rfl);rw [<-a];obtain⟨R,z⟩:∃R:Ending->World->Prop,R=fun e w'=>∃A c,e= .returned (.slice A 25 c)/\OB w w' (.slice A 25 c) (70::7::(dS++fr)++dV 21):=⟨_,rfl⟩;have M:=aa z;have K:=aa h;obtain⟨b,o,L,ln,lc,x,hA,N,t,c0,c1,j,u,s⟩:=mF.at_ h (k:=0) (by omega);subst hA;simp at t;subst t;have T:w.cell? ⟨b,o+1,none⟩=some (.int .i64 8):=by rw [Nat.zero_mul,Nat.add_zero] at c1;exact c1
 have U:w.cell? ⟨b,o+2,none⟩=some (.int .i64 13):=by rw [Nat.zero_mul,Nat.add_zero] at j;exact j
 rw [<-z];clear z h a c0 c1 j u s N;go_enter func85,ntmps85;go_wp2;go_quiet (fail)
 obtain⟨w1,f⟩:=gF (w.drewN nq);have i:Hid (Below w w w1):=aa (by rw [f];exact vV mh nq);have y:=aa (K.below i);rw [<-f];clear f T U;go_wp2_with (first|(go_at_call 64;go_loud (refine(yH (A:=some ⟨b,o,none⟩) (n:=1) sc (l:=[oI]) y VJ (fun x t=>by simp at t;subst t;simp [oI]) (fun b h=>h)).mono ?_;rintro e w2 ⟨v2,rfl,d,q⟩;rw [wY] at d;obtain⟨J,X,j,rfl,-,-,m,-⟩:=d.sb;rw [show dS.length=7 from rfl] at m;subst m;have G:Hid (OB w1 w2 (.slice J 7 j) dS):=aa ⟨d,q⟩;clear d q))|(go_at_call 129;go_loud (refine(za 70 rfl G.sb).mono ?_;rintro e C ⟨D,Y,u,hn,rfl,g⟩;rw [<-Q.out] at hn g;rw [show(70::7::(dS++fr)).length=13 by simp [dS,B.out]] at hn;subst hn;have P:Hid (OB w C (.slice D 13 u) (70::7::(dS++fr))):=aa (g.ahead (G.ahead i).bel);clear g))|(go_at_call 109;go_loud (refine(Ct 21 C (by omega)).mono ?_;rintro e S ⟨v4,rfl,v,r⟩;obtain⟨E,Z,F,rfl,-,-,p,-⟩:=v.sb;rw [show(dV 21).length=12 from rfl] at p;subst p;have H:Hid (OB C S (.slice E 12 F) (dV 21)):=aa ⟨v,r⟩;clear v r))|(at_builtin;go_loud (refine dH rfl (.tmp 32) (.tmp 34) rfl w (.slice D 13 u) (70::7::(dS++fr)) rfl (P.after H.bel) _ E 12 F (dV 21) rfl H.sb (by simp [dS,B.out,dV]) ?_;intro V n5 W w5 hn g hc;rw [show(70::7::(dS++fr)).length+(dV 21).length=25 by simp [dS,B.out,dV]] at hn;subst hn;have O:=aa g;clear g hc)));rw [M.out];exact⟨_,_,rfl,O⟩
end Go.Proofs.YtepgcjbhabnciaaGreat
