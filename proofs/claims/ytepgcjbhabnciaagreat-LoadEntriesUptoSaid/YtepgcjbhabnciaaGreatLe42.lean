/- Part 42. -/
import Derived.Test.YtepgcjbhabnciaaGreatLe41
namespace Go.Proofs.YtepgcjbhabnciaaGreat
set_option maxRecDepth 100000
set_option maxHeartbeats 8000000
open Go.RowKit Go.Proofs.Tryz
open Go.Lib (compareBytes)
variable {nd lf inn fl bl e:Int} {w q w' w1:World} {s t j:Nat} {a:Act} {v:Value} {c:ay} {bs:List UInt8} {ops:Array Oper} {o:Oper} {Q:Exit->Act->World->Prop} {F:Nat->Prop}
section
section
variable {S F Dr Fb:Nat->Prop} {w w':World} {mp z q p pb base:Nat} {A:Option Addr} {n cc:Nat} {us:List Value} {nd lf inn fl bl:Int} {K s:Nat} {m:cB}
end
end
theorem J5 (F Dr Fb:Nat->Prop) (mp z q p pb base hv:Nat) (A:Option Addr) (n cc:Nat) (us:List Value) (nd lf inn fl bl:Int) (K:Nat) (m:cB) (w:World) (h:LX w F Dr Fb mp z q p pb base hv A n cc us nd lf inn fl bl K m) (a:K<=1152921504606846976):
  Calls prog 9 #[.pointer (some ⟨mp,0,none⟩)] w (NF F Dr Fb mp z q p pb base nd lf inn fl bl K (m.step nd lf inn fl bl) w):=by
 cases hn:m.rdr.next.1 with
 |none=>exact FI F Dr Fb mp z q p pb base hv A n cc us nd lf inn fl bl K m w h a hn
 |some b=>exact FJ F Dr Fb mp z q p pb base hv A n cc us nd lf inn fl bl K m b w h a hn
def gu (s:Src):cB:=⟨⟨⟨s,0,0,0,none⟩,0,[],0,0⟩,[],false,none,0,0⟩
structure CZ (s:Src):Prop where
 left:s.left.length<=1048576
 gives:s.gives.length<=1048576
 calls:s.calls=0
theorem vk {s:Src} (h:CZ s) (g:dx nd lf inn fl bl):(gu s).Ok nd lf inn fl bl 17825808:=by
 have a:=h.left;have b:=h.gives;have c:=h.calls;exact⟨⟨fun _=>⟨fun _=>⟨Nat.zero_le _,by unfold ay.pot;simp only [gu];omega⟩,by simp [gu];omega,by simp only [gu];omega⟩,fun _=>rfl,NG,fun _=>⟨rfl,rfl⟩,fun h=>absurd h (by simp [gu]),Nat.zero_le _,fun _=>rfl⟩,fun _=>⟨by simp [gu],rfl,rfl,rfl,rfl⟩,EP g,fun t h=>by simp [gu] at h⟩
def Zp (F:Nat->Prop) (p:Nat) (nd lf inn fl bl:Int) (s:Src) (w:World) (e:Ending) (w':World):Prop:=
 ∃(Fb:Nat->Prop) (mp z q pb base hv:Nat),e= .returned (.tuple #[.pointer (some ⟨mp,0,none⟩),.int .i64 0])/\LX w' F Nil Fb mp z q p pb base hv none 0 0 [] nd lf inn fl bl 17825808 (gu s)/\Below w.heap.size w w'/\(∀b,XS mp z q p Nil Fb b->b=p\/w.heap.size<=b)
theorem QK (F:Nat->Prop) (p:Nat) (nd lf inn fl bl:Int) (s:Src) (w:World) (g:dx nd lf inn fl bl) (G:fo w F p s) (E:CZ s) (o:p<w.heap.size) (D:∀b,F b->b<w.heap.size/\b≠p):
  Calls prog 7 #[.agg #[.int .i64 nd,.int .i64 lf,.int .i64 inn,.int .i64 fl,.int .i64 bl],.iface 29 (.pointer (some ⟨p,0,none⟩))] w (Zp F p nd lf inn fl bl s w):=by
 refine letter fun R N=> ?_;have O:=aa G;have L:=aa (vk E g);have h:=aa D;have M:=aa o;obtain⟨n,d⟩:∃W,W=w.alloc (.cells #[.int .i64 nd,.int .i64 lf,.int .i64 inn,.int .i64 fl,.int .i64 bl] 23):=⟨_,rfl⟩;have m:Below w.heap.size w n:=by rw [d];exact(Below.refl _ _).alloc (Nat.le_refl _) _
 have j:=aa m;have t:Hid (aj n w.heap.size 23 #[.int .i64 nd,.int .i64 lf,.int .i64 inn,.int .i64 fl,.int .i64 bl]):=aa (by rw [d];exact aj.new _ _ _);have K:=aa (Ip nd lf inn fl bl Nil n g);clear G E D o g;go_enter func7,ntmps7
 go_upto_region 1 with fail
 rw [<-d];clear d m;obtain⟨V,X,Y,Z,z4⟩:=CR t;go_upto_region 2 with(go_at_call 25;go_loud (refine K.mono ?_);rintro e w1 ⟨pb,rfl,k,l⟩;have H:=aa k;have A:=aa l;clear k l)
 clear V X Y Z z4;go_wp2_with (go_at_call 26;go_loud (refine(oN p w1).mono ?_);rintro e w2 ⟨z,rfl,k,l,u,C⟩;have I:=aa k;have J:=aa l;have B:=aa u;have r:=aa C;clear k l u C)
 rw [N.out];have c:Below w2.heap.size w2 (w2.alloc (.cells #[.pointer (some ⟨z,0,none⟩),.pointer (some ⟨pb,0,none⟩),.bool false,.pointer none,.nilIface] 85)):=(Below.refl _ _).alloc (Nat.le_refl _) _;have f:aj (w2.alloc (.cells #[.pointer (some ⟨z,0,none⟩),.pointer (some ⟨pb,0,none⟩),.bool false,.pointer none,.nilIface] 85)) w2.heap.size 85 #[.pointer (some ⟨z,0,none⟩),.pointer (some ⟨pb,0,none⟩),.bool false,.pointer none,.nilIface]:=aj.new _ _ _;obtain⟨y,v⟩:∃W,W=w2.alloc (.cells #[.pointer (some ⟨z,0,none⟩),.pointer (some ⟨pb,0,none⟩),.bool false,.pointer none,.nilIface] 85):=⟨_,rfl⟩;rw [<-v] at c f|-;have T:=j.out.size;have s1:=A.out.size;have s2:=r.out.size;have U:w2.heap.size<y.heap.size:=f.lt;have hz:z<w2.heap.size:=B.out.lt;have Q:=M.out;have u:=I.out;have q:Below w.heap.size w w2:=(j.out.trans (A.mono T)).trans (r.mono (by omega));have i:Below w.heap.size w y:=q.trans (c.mono (by omega));have Pp:∀b,n.heap.size<=b/\b<w1.heap.size->w.heap.size<=b:=fun b a=>by omega
 refine⟨(fun b=>n.heap.size<=b/\b<w1.heap.size),w2.heap.size,z,w1.heap.size,pb,y.heap.size,0,rfl,?_,i,fun b a=> ?_⟩
 ·exact{
   sit:=⟨fun e=>(h p e).2 rfl,fun e=>by have:=(h.out _ e).1;omega,by omega,fun b a=>by have:=(h.out b a).1;omega,by omega,by omega⟩
   zs:=⟨by omega,by omega,by omega⟩
   nFz:=fun e=>by have:=(h.out z e).1;omega
   bw:=Nat.le_refl _
   mblk:=f
   rblk:=by
    have P:=B.out.below c;exact P
   rows:=aX.nil _ _
   iny:=⟨J.below c,O.below i,fun x S=>by cases S⟩
   bd:=((H.below r).below c)
   mpb:=U
   mpn:=⟨by omega,by omega,by omega,fun e=>by have:=(h.out _ e).1;omega,fun e=>by omega⟩
   fb:=fun b a=>⟨by omega,by omega,by omega,fun e=>by have:=(h.out b e).1;omega,fun e=>e.elim⟩
   drl:=fun b a=>a.elim
   ok:=L.out
   go:=rfl}
 ·rcases a with a|a|a|a|a|a
  ·exact .inr (by omega)
  ·exact .inr (by omega)
  ·exact .inr (by omega)
  ·exact .inl a
  ·exact a.elim
  ·exact .inr (by omega)
def kg (nd lf inn fl bl:Int):Nat->cB->cB
 |0,m=>m
 |k+1,m=>(kg nd lf inn fl bl k m).step nd lf inn fl bl
theorem rX {nd lf inn fl bl:Int} {m:cB} {k:Nat} (h:(kg nd lf inn fl bl k m).done=true):∀j,kg nd lf inn fl bl (k+j) m=kg nd lf inn fl bl k m
 |0=>rfl
 |j+1=>by
  show(kg nd lf inn fl bl (k+j) m).step nd lf inn fl bl=_;rw [rX h j,cB.step_done h]
def NH (nd lf inn fl bl:Int) (m a:cB):Prop:=∃k,a=kg nd lf inn fl bl k m/\a.done=true
theorem NH.unique {m a b:cB} (e:NH nd lf inn fl bl m a) (f:NH nd lf inn fl bl m b):a=b:=by
 obtain⟨k,rfl,c⟩:=e;obtain⟨j,rfl,d⟩:=f
 rcases Nat.le_total k j with h|h
 ·obtain⟨i,rfl⟩:=Nat.exists_eq_add_of_le h
  exact(rX c i).symm
 ·obtain⟨i,rfl⟩:=Nat.exists_eq_add_of_le h;exact rX d i
theorem IB {nd lf inn fl bl:Int} {K:Nat} {m:cB} (h:m.Ok nd lf inn fl bl K):∀k,(kg nd lf inn fl bl k m).Ok nd lf inn fl bl K
 |0=>h
 |k+1=>cB.step_ok (IB h k)
theorem qm.low {x:Option (List bR×Int)} (h:qm w t v nd x) (g:s<=t):qm w s v nd x:=by
 rcases h with h|⟨x,a,c,d,e⟩
 ·exact .inl h
 ·exact .inr ⟨x,a,c,d,e.weak (fun b f=>Nat.le_trans g f)⟩
theorem mr.low {a:Int} (h:mr w t v e a) (f:s<=t):mr w s v e a:=by
 rcases h with h|⟨h,g,b,c,d⟩
 ·exact .inl h
 ·exact .inr ⟨h,g,b,c,Nat.le_trans f d⟩
def Zq (F:Nat->Prop) (p:Nat) (nd lf inn fl bl:Int) (s:Src) (w:World) (e:Ending) (w':World):Prop:=
 ∃a d c,NH nd lf inn fl bl (gu s) a/\e= .returned (.tuple #[d,c])/\qm w' w.heap.size d nd a.tree/\mr w' w.heap.size c a.err (a.bad:Nat)/\fo w' F p a.rdr.cur.src/\ag (fun b=>b=p) w w'
theorem FK (F:Nat->Prop) (mp p s:Nat) (nd:Int) (m:cB) (w:World) (h:DX w F mp p s nd m):
  Calls prog 11 #[.pointer (some ⟨mp,0,none⟩)] w fun e w'=>∃b a k,e= .returned (.tuple #[b,a])/\w'=w.drewN k/\qm w s b nd m.tree/\mr w s a m.err (m.bad:Nat):=by
 obtain⟨j,l,b,a,c,d,f⟩:=h.mblk;have g:=aa d;have i:=aa f;have n:w.cell? ⟨mp,3,none⟩=some b:=c.cell 3;have o:w.cell? ⟨mp,4,none⟩=some a:=c.cell 4;clear h c d f;go_enter func11,ntmps11
 go_upto_region 1 with fail
 go_quiet (fail);go_wp2;go_ret2
 exact⟨b,a,nq,rfl,rfl,i,g⟩
theorem QL (F:Nat->Prop) (p:Nat) (nd lf inn fl bl:Int) (s:Src) (w:World) (g:dx nd lf inn fl bl) (y:fo w F p s) (T:CZ s) (o:p<w.heap.size) (H:∀b,F b->b<w.heap.size/\b≠p):
  Calls prog 15 #[.agg #[.int .i64 nd,.int .i64 lf,.int .i64 inn,.int .i64 fl,.int .i64 bl],.iface 29 (.pointer (some ⟨p,0,none⟩))] w (Zq F p nd lf inn fl bl s w):=by
 refine letter fun R HR=> ?_;obtain⟨Y,j⟩:∃W,W=w.alloc (.cells #[.int .i64 nd,.int .i64 lf,.int .i64 inn,.int .i64 fl,.int .i64 bl] 23):=⟨_,rfl⟩;have f:Below w.heap.size w Y:=by rw [j];exact(Below.refl _ _).alloc (Nat.le_refl _) _
 have L:=aa f;have O:Hid (aj Y w.heap.size 23 #[.int .i64 nd,.int .i64 lf,.int .i64 inn,.int .i64 fl,.int .i64 bl]):=aa (by rw [j];exact aj.new _ _ _);have s0:=f.size;have HN:=aa (QK F p nd lf inn fl bl s Y g (y.below f) T (by omega) (fun b a=>⟨by have:=(H b a).1;omega,(H b a).2⟩));have rJ:=aa (vk T g);have EA:=aa H;have ab:=aa o;clear y T H o g;go_enter func15,ntmps15
 go_upto_region 1 with fail
 rw [<-j];clear j f;obtain⟨z0,z1,z2,z3,z4⟩:=CR O;go_upto_region 2 with(go_at_call 7;go_loud (refine HN.mono ?_);rintro e w1 ⟨B,mp,z,q,pb,base,V,rfl,u,x,G⟩;have H1:=aa u;have H2:=aa x;have H3:Hid (∀b,XS mp z q p Nil B b->b=p\/w.heap.size<=b):=aa (fun b a=>(G b a).imp id (fun h=>by omega));clear u x G)
 clear z0 z1 z2 z3 z4;have M:Hid (Below w.heap.size w w1):=aa (L.out.trans (H2.mono s0));go_wp2
 go_loopg [] 1152921504607 (fun g' wz=>∃(k:Nat) (Dr Fb:Nat->Prop) (hv:Nat) (A:Option Addr) (n cc:Nat) (us:List Value),g'=1152921504607-(kg nd lf inn fl bl k (gu s)).rdr.cur.at_/\Hid (LX wz F Dr Fb mp z q p pb base hv A n cc us nd lf inn fl bl 17825808 (kg nd lf inn fl bl k (gu s)))/\Hid (ag (fun b=>b=p) w wz)/\Hid (∀b,XS mp z q p Dr Fb b->b=p\/w.heap.size<=b))
 case atStart=>exact⟨0,Nil,B,V,none,0,0,[],by simp [kg,gu],H1,aa (ag.of_below M),H3⟩
 case round=>
  obtain⟨k,Dr,Fb,hv,A,n,cc,us,hg,HX,N,m⟩:=hrel;have HG:=aa hg;have t:=aa (J5 F Dr Fb mp z q p pb base hv A n cc us nd lf inn fl bl 17825808 _ wr HX (by omega));obtain⟨l,v⟩:∃l,l=kg nd lf inn fl bl (k+1) (gu s):=⟨_,rfl⟩;have D:=aa v;rw [show(kg nd lf inn fl bl k (gu s)).step nd lf inn fl bl=l by rw [v];rfl] at t;have Z:w.heap.size<=wr.heap.size:=N.out.size;clear hg v
  cases hd:l.done with
  |false=>
   have r:=aa hd;clear hd;go_wp2_with (go_at_call 9;go_loud (refine t.mono ?_);intro e w2 y;obtain⟨E,c,d⟩:=y;rw [r.out] at E;subst E;have P:=aa c;have iR:=aa d;clear c d)
   rcases iR.out with⟨_,I,J,U,A',n',iW,kF,X,Q,S⟩|X
   ·go_roundg (1152921504607-l.rdr.cur.at_)
    case measure=>
     have u:=cB.step_at (IB rJ k) HX.go (by show(kg nd lf inn fl bl (k+1) (gu s)).done=false;rw [<-D.out];exact r);have x:=HG.out;have G:(kg nd lf inn fl bl k (gu s)).step nd lf inn fl bl=l:=by rw [D.out];rfl
     rw [G] at u
     omega
    case rel=>
     refine⟨k+1,I,J,U,A',n',iW,kF,by rw [D.out],aa (by rw [<-D.out];exact X),aa (N.out.trans P (fun b a e=>(m b e).elim id (fun h=>by omega))),aa (fun b a=> ?_)⟩
     rcases a with a|a|a|a|a|a
     ·exact m b (.inl a)
     ·exact m b (.inr (.inl a))
     ·exact m b (.inr (.inr (.inl a)))
     ·exact m b (.inr (.inr (.inr (.inl a))))
     ·exact(Q b a).elim (fun h=>m b (.inr (.inr (.inr (.inr (.inl h)))))) (fun h=> .inr (by omega))
     ·exact(S b a).elim (fun h=>m b (.inr (.inr (.inr (.inr (.inr h)))))) (fun h=> .inr (by omega))
   ·exact absurd X.done (by rw [r.out];decide)
  |true=>
   have r:=aa hd;clear hd;go_upto_region 5 with(go_at_call 9;go_loud (refine t.mono ?_);intro e w2 y;obtain⟨E,c,d⟩:=y;rw [r.out] at E;subst E;have P:=aa c;have C:Hid (DX w2 F mp p wr.heap.size nd l):=aa (d.resolve_left (fun h=>by rw [r.out] at h;exact absurd h.1 (by decide)));clear c d)
   have K:=aa (FK F mp p wr.heap.size nd l w2 C);go_wp2_with (go_at_call 11;go_loud (refine K.mono ?_);rintro e w3 ⟨tv,ev,kk,rfl,rfl,u,x⟩;have HT:=aa u;have HE:=aa x;clear u x)
   rw [HR.out];have i:ag Nil w2 (w2.drewN kk):=(ag.refl Nil w2).drewN kk;exact⟨l,tv,ev,⟨k+1,D,r⟩,rfl,(HT.low Z).chg i (fun _ _ h=>h),(HE.low Z).chg i (fun _ _ h=>h),C.src.nil i,(N.out.trans P (fun b a e=>(m b e).elim id (fun h=>by omega))).trans i (fun _ _ h=>h.elim)⟩
structure iO (c:ay) (l:List UInt8):Prop where
 err:c.err=0
 held:c.held=none
 left:c.src.left=l
 gives:c.src.gives= []
 fail:c.src.fail=0
 eager:c.src.eager=false
theorem iO.read {s:Src} {a l:List UInt8} (b:s.left=a++l) (c:s.gives= []) (d:s.fail=0) (f:s.eager=false) (g:0<a.length):s.read a.length=(a,0,⟨l,[],0,false,s.calls+1⟩):=by
 have h:s.most a.length=a.length:=by unfold Src.most;rw [c];rfl
 unfold Src.read;rw [if_neg (by rw [d];omega),if_neg (by rw [b];intro e;rw [List.append_eq_nil_iff] at e;rw [e.1] at g;exact absurd g (by decide)),h,b,f];simp [Src.asked,c,d,f]
theorem iO.bytes {c:ay} {a l:List UInt8} (h:iO c (a++l)) (d:0<a.length) (n:a.length<=4096):∃b,c.bytes a.length=(a,0,b)/\iO b l/\b.at_=c.at_+a.length:=by
 obtain⟨⟨left,gives,fail,eager,calls⟩,at_,err,idle,held⟩:=c;obtain⟨f,g,i,j,k,m⟩:=h;simp only at f g i j k m;subst f g i j k m;have p:=iO.read (s:=⟨a++l,[],0,false,calls⟩) rfl rfl rfl rfl d
 have o:(⟨⟨a++l,[],0,false,calls⟩,at_,0,idle,none⟩:ay).ask a.length=(a,0,⟨⟨l,[],0,false,calls+1⟩,at_,0,0,none⟩):=by
  unfold ay.ask;rw [Nat.min_eq_left n];simp only [];rw [p];simp only [];rw [if_pos (.inl (fun e=>by rw [e] at d;exact absurd d (by decide)))]
 have hl:(⟨⟨a++l,[],0,false,calls⟩,at_,0,idle,none⟩:ay).loop [] a.length=(a,0,⟨⟨l,[],0,false,calls+1⟩,at_,0,0,none⟩):=by
  rw [ay.loop,if_neg (by rw [List.length_nil];omega)];rw [List.length_nil,Nat.sub_zero,o];rw [if_pos (by rw [List.nil_append];exact Nat.le_refl _)];rfl
 refine⟨⟨⟨l,[],0,false,calls+1⟩,at_+a.length,0,0,none⟩,?_,⟨rfl,rfl,rfl,rfl,rfl,rfl⟩,rfl⟩;unfold ay.bytes;rw [if_neg (by simp),if_neg (by omega)];show(if((⟨⟨a++l,[],0,false,calls⟩,at_,0,idle,none⟩:ay).loop [] a.length).2.1=0 then(((⟨⟨a++l,[],0,false,calls⟩,at_,0,idle,none⟩:ay).loop [] a.length).1,(0:Int),{((⟨⟨a++l,[],0,false,calls⟩,at_,0,idle,none⟩:ay).loop [] a.length).2.2 with at_:=at_+a.length}) else _)=_;rw [hl,if_pos rfl]
theorem iO.number {c:ay} {v:UInt8} {l:List UInt8} (h:iO c (v::l)) (hv:v.toNat<128):∃b,c.number=(v.toNat,0,b)/\iO b l/\b.at_=c.at_+1:=by
 obtain⟨b,d,e,f⟩:=iO.bytes (a:= [v]) (l:=l) h (by simp) (by simp);refine⟨b,?_,e,f⟩;have d:c.bytes 1=([v],0,b):=d
 have g:c.numL 0 0=(v.toNat,0,b):=by
  rw [ay.numL,if_neg (by omega),d];rw [if_neg (by simp),if_neg (by simp),if_neg (by simp),if_pos (by simpa using hv)];simp;omega
 unfold ay.number;rw [g];simp
theorem iO.end_ {c:ay} (h:iO c []):∃a,c.end_=(true,0,a):=by
 have d:c.src.read 1=([],31,c.src.asked):=by
  unfold Src.read;rw [if_neg (by rw [h.fail];omega),if_pos h.left]
 have b:c.ask (1-([]:List UInt8).length)=([],31,{c with src:=c.src.asked,idle:=0}):=by
  unfold ay.ask;show((c.src.read 1).1,(c.src.read 1).2.1,({c with src:=(c.src.read 1).2.2,idle:=if(c.src.read 1).1≠ []\/(c.src.read 1).2.1≠0 then 0 else c.idle+1}:ay))=_;rw [d];simp
 have hl:c.loop [] 1=([],41,{c with src:=c.src.asked,idle:=0}):=by
  rw [ay.loop,if_neg (by simp),b];rw [if_neg (by simp),if_pos (by simp)]
 refine⟨{c with src:=c.src.asked,idle:=0},?_⟩;unfold ay.end_;rw [if_neg (by rw [h.held,h.err];simp),hl];simp
def eF:List UInt8:= [1,0,1,0,107,1,0]
def cZ:List UInt8:= [1,1,107,8,13,1,1]
def lZ:Row:=⟨[107],8,13,1⟩
def kr:List UInt8:=fq++([66]++([7]++(eF++(four (aW eF)++([70]++([7]++(cZ++(four (aW cZ)++(dw 21++ [])))))))))
theorem FY:aB eF=([([107],[])],0,0):=by
 have a:ai eF 0=(1,1,0):=by decide
 have b:bq eF 1 [] [] 1=⟨[([107],[])],[1],5,0,0⟩:=by rfl
 unfold aB;rw [a];simp only [];rw [b];simp [eighth,two,stand,eF]
theorem tF:aG [lZ]=cZ:=by
 unfold aG bi;simp [Row.bytes,lZ,om,cZ]
theorem Kc (h:iO c kr) (q:c.at_=0):∃e,(⟨c,0,[],0,0⟩:bg).next=(some [([107],[])],⟨e,1,[lZ],0,0⟩)/\iO e ([70]++([7]++(cZ++(four (aW cZ)++(dw 21++ [])))))/\e.at_=21:=by
 obtain⟨c1,g,w,n⟩:=iO.bytes (a:=fq) h (by decide) (by decide);obtain⟨o,i,x,r⟩:=iO.bytes (a:= [66]) w (by decide) (by decide);obtain⟨f,j,y,s⟩:=iO.number (v:=7) x (by decide);obtain⟨p,k,z,t⟩:=iO.bytes (a:=eF) y (by decide) (by decide);obtain⟨d,l,A,u⟩:=iO.bytes (a:=four (aW eF)) z (by show 0<4;decide) (by show 4<=4096;decide);have g:c.bytes 8=(fq,0,c1):=g;have i:c1.bytes 1=([66],0,o):=i;have j:o.number=(7,0,f):=j;have k:f.bytes 7=(eF,0,p):=k;have l:p.bytes 4=(four (aW eF),0,d):=l
 have B:f.body 7=⟨eF,0,0,d⟩:=by
  unfold ay.body;rw [k,if_neg (by simp),l,if_neg (by simp),if_neg (by simp)]
 have b:d.at_=21:=by rw [u,t,s,r,n,q];rfl
 have m:c1.at_=8:=by rw [n,q];rfl
 refine⟨d,?_,A,b⟩;unfold bg.next;rw [if_neg (show¬((0:Nat)=2) by decide),if_neg (show¬((0:Nat)=1) by decide)];simp only [];rw [g,if_neg (by simp),if_neg (by simp)];unfold bg.frame;simp only [];rw [i,if_neg (by simp),if_neg (by simp),if_neg (by simp)];unfold bg.block;simp only [];rw [j];rw [if_neg (by simp),if_neg (by simp),if_neg (by simp)];simp only [];rw [B];rw [if_neg (by simp),FY];rw [if_neg (by simp),if_neg (by simp)];simp only [];rw [b,m];rfl
theorem FZ (h:iO c ([70]++([7]++(cZ++(four (aW cZ)++(dw 21++ [])))))) (q:c.at_=21):∃m,(⟨c,1,[lZ],0,0⟩:bg).next=(none,⟨m,2,[lZ],0,0⟩):=by
 obtain⟨k,e,r,y⟩:=iO.bytes (a:= [70]) h (by decide) (by decide);obtain⟨b,f,s,z⟩:=iO.number (v:=7) r (by decide);obtain⟨l,g,t,A⟩:=iO.bytes (a:=cZ) s (by decide) (by decide);obtain⟨d,i,u,B⟩:=iO.bytes (a:=four (aW cZ)) t (by show 0<4;decide) (by show 4<=4096;decide);obtain⟨n,j,w,C⟩:=iO.bytes (a:=dw 21) u (by decide) (by decide);obtain⟨o,p⟩:=iO.end_ w;have e:c.bytes 1=([70],0,k):=e;have f:k.number=(7,0,b):=f;have g:b.bytes 7=(cZ,0,l):=g;have i:l.bytes 4=(four (aW cZ),0,d):=i;have j:d.bytes 12=(dw 21,0,n):=j
 have x:b.body 7=⟨cZ,0,0,d⟩:=by
  unfold ay.body;rw [g,if_neg (by simp),i,if_neg (by simp),if_neg (by simp)]
 refine⟨o,?_⟩;unfold bg.next;rw [if_neg (show¬((1:Nat)=2) by decide),if_pos (show(1:Nat)=1 from rfl)];unfold bg.frame;simp only [];rw [e,if_neg (by simp),if_pos (by simp)];unfold bg.footR;simp only [];rw [f,tF];rw [if_neg (by simp),if_neg (by simp [cZ])];rw [show cZ.length=7 from rfl];simp only [];rw [x];rw [if_neg (by simp),if_neg (show¬comm cZ cZ<7 by decide)];simp only [];rw [j,if_neg (by simp),q,if_neg (by simp)];simp only [];rw [p,if_neg (by simp),if_neg (by simp)]
theorem NV:∃a,NH 9 4 3 2 1 (gu ⟨kr,[],0,false,0⟩) a/\a.err=0/\a.tree=some (bD 2 3 [([107],[])]):=by
 have h:iO (⟨⟨kr,[],0,false,0⟩,0,0,0,none⟩:ay) kr:=⟨rfl,rfl,rfl,rfl,rfl,rfl⟩;obtain⟨c1,c,f,e⟩:=Kc h rfl;obtain⟨b,d⟩:=FZ f e;have g:jd 9 4 3 2 1 [] ([107],[])=0:=by decide
 have j:(gu ⟨kr,[],0,false,0⟩).step 9 4 3 2 1=⟨⟨c1,1,[lZ],0,0⟩,[([107],[])],false,none,0,0⟩:=by
  rw [vS (l:= [([107],[])]) rfl (by show((⟨⟨⟨kr,[],0,false,0⟩,0,0,0,none⟩,0,[],0,0⟩:bg).next).1=_;rw [c])];show(gu _).took 9 4 3 2 1 _ ((⟨⟨⟨kr,[],0,false,0⟩,0,0,0,none⟩,0,[],0,0⟩:bg).next).2=_;rw [c];unfold cB.took
  have i:gG 9 4 3 2 1 (gu ⟨kr,[],0,false,0⟩).ents [([107],[])]=([([107],[])],0):=by
   show(if jd 9 4 3 2 1 [] ([107],[])=0 then gG 9 4 3 2 1 ([]++ [([107],[])]) [] else _)=_;rw [if_pos g];rfl
  rw [i,if_pos rfl];rfl
 have k:(⟨⟨c1,1,[lZ],0,0⟩,[([107],[])],false,none,0,0⟩:cB).step 9 4 3 2 1=⟨⟨b,2,[lZ],0,0⟩,[([107],[])],true,some (bD 2 3 [([107],[])]),0,0⟩:=by
  rw [vR rfl (by show((⟨c1,1,[lZ],0,0⟩:bg).next).1=_;rw [d])];show(⟨⟨c1,1,[lZ],0,0⟩,[([107],[])],false,none,0,0⟩:cB).ends 3 2 ((⟨c1,1,[lZ],0,0⟩:bg).next).2=_;rw [d];rfl
 refine⟨⟨⟨b,2,[lZ],0,0⟩,[([107],[])],true,some (bD 2 3 [([107],[])]),0,0⟩,⟨2,?_,rfl⟩,rfl,rfl⟩
 ·show _=((gu _).step 9 4 3 2 1).step 9 4 3 2 1;rw [j,k]
structure OB (w0 w:World) (v:Value) (bs:List UInt8):Prop where
 own:Ow w w0.heap.size v bs
 bel:Below w0.heap.size w0 w
def NJ (w:World) (bs:List UInt8) (e:Ending) (w':World):Prop:=∃A n c,n=bs.length/\e= .returned (.slice A n c)/\OB w w' (.slice A n c) bs
theorem OB.after (h:OB q w v bs) (a:Below w.heap.size w w'):OB q w' v bs:=⟨h.own.below a,h.bel.trans (a.mono h.bel.size)⟩
theorem OB.sb {q w:World} {v:Value} {bs:List UInt8} (h:OB q w v bs):SB w (From q.heap.size) v bs:=h.own.sb
theorem OB.ahead (h:OB w1 w v bs) (a:Below q.heap.size q w1):OB q w v bs:=⟨nu h.own a.size,a.trans (h.bel.mono a.size)⟩
theorem NK:SB w Nil (.slice none 0 0) []:=SB.mk (Nat.le_refl _) (Nat.zero_le _) rfl ⟨rfl,fun h=>absurd h (by omega)⟩
theorem bW {rest:List Oper} (j:o.guard=none) (s x:Operand)
  (z:o.op= .call {callee:= .builtin .append,args:= #[s,x],argTypes:= #[24,24]})
  (q:World) (v:Value) (xs:List UInt8) (T:a.eval s=v) (H:OB q w v xs) (F:Nat->Prop) (A:Option Addr) (m c:Nat) (bs:List UInt8) (C:a.eval x= .slice A m c) (B:SB w F (.slice A m c) bs) (hl:xs.length+bs.length<=1048576)
  (h:∀d p e w',p=xs.length+bs.length->OB q w' (.slice d p e) (xs++bs)->ag (fun b=>v.ownBlock=some b) w w'->wpList prog ops Q rest (a.put o.dst (.slice d p e)) w'):wpList prog ops Q (o::rest) a w:=by
 obtain⟨D,f,i,l,n⟩:=info_parts bu;obtain⟨-,-,u,g⟩:=B.parts;refine af _ j s x _ z q.heap.size 5 D _ 1 1 underlying24 f i l n rfl (by omega) v xs.length (aF xs) T H.own F A m c (aF bs) C g (bC _) (by simp only [maxLen];omega) (by omega) H.bel.size ?_;intro G w' r t E;obtain⟨d,e,rfl,-,-⟩:=au r;refine h d (xs.length+m) e w' (by rw [u]) ⟨?_,H.bel.grown t H.bel.size (fun k y=>(ah H.own k y).1)⟩ (ag.of_grown t);unfold Ow;rw [List.length_append,<-u];simpa [aF] using r
theorem rZ {b:Nat} (h:Below b w w') (n:Nat):Below b w (w'.drewN n):=⟨h.os,h.tape,h.output,h.size,h.block⟩
theorem qA (m:Nat) (w:World) (g:m<128):Calls prog 105 #[.int .u64 m] w (NJ w [UInt8.ofNat m]):=by
 refine(fI w.heap.size m w (by omega) (Nat.le_refl _)).mono ?_;intro e w' f;obtain⟨A,n,c,rfl,-,-,a,b,d⟩:=f.below;rw [om g] at a b;exact⟨A,n,c,a,rfl,⟨b,d⟩⟩
theorem J8 (F:Nat->Prop) (Q:Option Addr) (j:Nat) (w:World) (J:SB w F (.slice Q 1 j) [107]):Calls prog 159 #[.slice none 0 0,.agg #[.slice Q 1 j,.slice none 0 0]] w (NJ w [0,1,0,107]):=by
 refine letter fun R T=> ?_;have H:=aa J;clear J;go_enter func159,ntmps159
 go_upto_region 2 with(go_at_call 112;go_loud (refine(fJ none Q 0 1 0 j Nil F [] [107] (w.alloc (.cells #[.slice Q 1 j,.slice none 0 0] 69)) ⟨rfl,fun h=>absurd h (by omega)⟩ rfl (H.parts.2.2.2.alloc _) rfl (by omega)).mono ?_;rintro e w1 ⟨rfl,q,E⟩;have f:Hid (aj w1 w.heap.size 69 #[.slice Q 1 j,.slice none 0 0]):=aa (by rw [E];exact(aj.new _ _ _).drewN q);have d:Hid (Below w.heap.size w w1):=aa (by rw [E];exact rZ ((Below.refl _ _).alloc (Nat.le_refl _) _) q);have y1:w1.cell? ⟨w.heap.size,0,none⟩=some (.slice Q 1 j):=f.out.cell 0;clear E))
 rw [show comm [] [107]=0 from rfl];have sN:=aa d.size
 go_upto_region 3 with
  (go_at_call 105;go_loud (refine(qA 0 w1 (by decide)).mono ?_;rintro e w2 ⟨V,ab,W,b,rfl,a⟩;simp only [List.length_cons,List.length_nil] at b;subst b;have X:=aa a;have v:Hid (Below w1.heap.size w1 w2):=aa a.bel;clear a))
 have G:=f.out.below v.out;have ao:w2.cell? ⟨w.heap.size,0,none⟩=some (.slice Q 1 j):=G.cell 0
 go_upto_region 4 with(first
  |(go_at_call 105;go_loud (refine(qA 1 w2 (by decide)).mono ?_;rintro e w3 ⟨m,ac,z,b,rfl,a⟩;simp only [List.length_cons,List.length_nil] at b;subst b;have s:=aa a;have x:Hid (Below w2.heap.size w2 w3):=aa a.bel;clear a))
  |(at_builtin;go_loud (refine bW rfl (.tmp 14) (.tmp 21) rfl w1 (.slice V 1 W) [0] rfl (X.after x.out) _ m 1 z [1] rfl s.sb (by decide) ?_;intro n ad A l b a c;simp only [List.length_cons,List.length_nil,Nat.zero_add,Nat.reduceAdd] at b;subst b;simp only [List.cons_append,List.nil_append] at a;have g:=aa a;have N:=aa c;clear a c))
  )
 have fV:Hid (Below w1.heap.size w1 l):=aa g.bel;have ap:l.cell? ⟨w.heap.size,1,none⟩=some (.slice none 0 0):=(f.out.below fV).cell 1
 go_upto_region 5 with(first
  |(go_at_call 105;go_loud (refine(qA 0 l (by decide)).mono ?_;rintro e w5 ⟨o,ae,B,b,rfl,a⟩;simp only [List.length_cons,List.length_nil] at b;subst b;have t:=aa a;have y:Hid (Below l.heap.size l w5):=aa a.bel;clear a))
  |(at_builtin;go_loud (refine bW rfl (.tmp 23) (.tmp 28) rfl w1 (.slice n 2 A) [0,1] rfl (g.after y.out) _ o 1 B [0] rfl t.sb (by decide) ?_;intro p al C K b a c;simp only [List.length_cons,List.length_nil,Nat.zero_add,Nat.reduceAdd] at b;subst b;simp only [List.cons_append,List.nil_append] at a;have i:=aa a;have O:=aa c;clear a c))
  )
 have I:Hid (Below w1.heap.size w1 K):=aa i.bel;have aq:K.cell? ⟨w.heap.size,0,none⟩=some (.slice Q 1 j):=(f.out.below I).cell 0;have U:=aa (H.below (d.out.trans (I.mono d.size)))
 go_upto_region 6 with(first
  |(at_builtin;go_loud (refine bW rfl (.tmp 30) (.tmp 34) rfl w1 (.slice p 3 C) [0,1,0] rfl i _ Q 1 j [107] rfl U (by decide) ?_;intro r am D L b a c;simp only [List.length_cons,List.length_nil,Nat.zero_add,Nat.reduceAdd] at b;subst b;simp only [List.cons_append,List.nil_append] at a;have k:=aa a;have P:=aa c;clear a c))
  )
 have Z:Hid (Below w1.heap.size w1 L):=aa k.bel;have ar:L.cell? ⟨w.heap.size,1,none⟩=some (.slice none 0 0):=(f.out.below Z).cell 1
 go_wp2_with (first
  |(at_builtin;go_loud (refine bW rfl (.tmp 36) (.tmp 38) rfl w1 (.slice r 4 D) [0,1,0,107] rfl k _ none 0 0 [] rfl NK (by decide) ?_;intro M an Y w8 b a c;simp only [List.length_cons,List.length_nil,Nat.zero_add,Nat.reduceAdd] at b;subst b;simp only [List.cons_append,List.nil_append] at a;have u:=aa a;have S:=aa c;clear a c))
  )
 rw [T.out];exact⟨_,_,_,rfl,rfl,u.ahead d⟩
theorem J9 {K:Act->World->Prop} {E:Prop} (j:o.guard=none) (s x:Operand)
  (z:o.op= .call {callee:= .builtin .append,args:= #[s,x],argTypes:= #[24,24]})
  (q:World) (v:Value) (xs:List UInt8) (T:a.eval s=v) (H:OB q w v xs) (F:Nat->Prop) (A:Option Addr) (m c:Nat) (bs:List UInt8) (C:a.eval x= .slice A m c) (B:SB w F (.slice A m c) bs) (hl:xs.length+bs.length<=1048576)
  (h:∀d p e w',p=xs.length+bs.length->OB q w' (.slice d p e) (xs++bs)->ag (fun b=>v.ownBlock=some b) w w'->K (a.put o.dst (.slice d p e)) w'):if Region.wanted o (yielded ops a.tmps)=true then Oper.wp prog o a w K Q else E:=by
 obtain⟨D,f,i,l,n⟩:=info_parts bu;obtain⟨-,-,u,g⟩:=B.parts;refine aI _ j s x _ z q.heap.size 5 D _ 1 1 underlying24 f i l n rfl (by omega) v xs.length (aF xs) T H.own F A m c (aF bs) C g (bC _) (by simp only [maxLen];omega) (by omega) H.bel.size ?_;intro I w' r t G;obtain⟨d,e,rfl,-,-⟩:=au r;refine h d (xs.length+m) e w' (by rw [u]) ⟨?_,H.bel.grown t H.bel.size (fun k y=>(ah H.own k y).1)⟩ (ag.of_grown t);unfold Ow;rw [List.length_append,<-u];simpa [aF] using r
theorem QQ (w:World) (e:TypeId) (n size:Nat) (cs:Array Value) (a:cs.size=n*size) (b:n<=maxLen):(w.alloc (.cells cs e)).ownsRow w.heap.size e size (.slice (some ⟨w.heap.size,0,none⟩) n n) n cs.toList:=
 ⟨by rw [Array.length_toList];exact a,.inr ⟨_,_,cs,rfl,Nat.le_refl _,aj.new w e cs,Nat.le_refl _,b,a,by rw [<-a,<-Array.length_toList,List.take_length]⟩⟩
theorem OB.lit (w:World) (bs:List UInt8) (cs:Array Value) (a:cs.toList=aF bs) (b:bs.length<=64):OB w (w.alloc (.cells cs 5)) (.slice (some ⟨w.heap.size,0,none⟩) bs.length bs.length) bs:=by
 refine⟨?_,(Below.refl _ _).alloc (Nat.le_refl _) _⟩;unfold Ow;rw [<-a];have h:cs.size=bs.length:=by rw [<-Array.length_toList,a];simp [aF]
 exact QQ w _ bs.length 1 cs (by omega) (by simp only [maxLen];omega)
theorem Ka (w:World):Calls prog 61 #[] w (NJ w fq):=by
 refine letter fun R a=> ?_;go_enter func61,ntmps61
 go_wp2;rw [a.out]
 exact⟨_,_,_,rfl,rfl,OB.lit w fq _ rfl (by decide)⟩
theorem Kb (A:Option Addr) (n c:Nat) (w:World):Calls prog 152 #[.slice A n c,.int .i64 0] w fun e w'=>e= .returned (.slice none 0 0)/\w=w':=by
 refine letter fun R a=> ?_;go_enter func152,ntmps152
 go_wp2;rw [a.out]
 exact⟨rfl,rfl⟩
theorem wm (k:UInt8) (body:List UInt8) (r:body.length=7) (F:Nat->Prop) (bA:Option Addr) (bc:Nat) (w:World) (i:SB w F (.slice bA 7 bc) body):
  Calls prog 129 #[.int .u8 k.toNat,.slice bA 7 bc] w (NJ w (k::7::(body++four (aW body)))):=by
 obtain⟨g,b⟩:∃g,g=four (aW body):=⟨_,rfl⟩;have S:=aa b;have I:Hid (g.length=4):=aa (by rw [b];rfl);have t:=aa r;obtain⟨R,p⟩:∃R,R=NJ w (k::7::(body++g)):=⟨_,rfl⟩;have z:=aa p;rw [<-b,<-p];have A:=aa i;clear p i b r;go_enter func129,ntmps129
 go_upto_region 2 with(first|(go_at_call 105;go_loud (obtain⟨w1,d⟩:∃W,W=w.alloc (.cells #[.int .u8 k.toNat] 5):=⟨_,rfl⟩;rw [<-d];have L:Hid (OB w w1 (.slice (some ⟨w.heap.size,0,none⟩) 1 1) [k]):=aa (by rw [d];exact OB.lit w [k] _ rfl (by simp));clear d;refine(qA 7 w1 (by decide)).mono ?_;rintro e w2 ⟨B,N,C,c,rfl,a⟩;simp only [List.length_cons,List.length_nil] at c;subst c;have D:=aa a;have J:=aa (L.after a.bel);clear a))|(at_builtin;go_loud (refine bW rfl (.tmp 7) (.tmp 11) rfl w (.slice (some ⟨w.heap.size,0,none⟩) 1 1) [k] rfl J _ B 1 C [7] rfl D.sb (by simp) ?_;intro l O o Q c a q;simp only [List.length_cons,List.length_nil,Nat.zero_add,Nat.reduceAdd] at c;subst c;simp only [List.cons_append,List.nil_append] at a;have f:=aa a;clear a q)))
 have x:=aa (A.below f.bel);go_wp2_with (first|(go_at_call 65;go_loud (refine(zg F bA 7 bc body Q x.parts.2.2.2 t.out.symm (by omega)).mono ?_;rintro e U ⟨T,rfl,j,h⟩;rw [<-S.out] at j;obtain⟨u,M,E,rfl,-,-,s,-⟩:=j.sb;have K:=aa j;have y:=aa s;have H:=aa h;clear j h s))|(at_builtin;go_loud (refine bW rfl (.tmp 13) (.tmp 15) rfl w (.slice l 2 o) [k,7] rfl (f.after H) _ u M E (body++g) rfl K.sb (by rw [List.length_append,I.out,t.out];simp) ?_;intro v P G V c a q;have m:=aa c;have n:=aa a;clear c a q)))
 rw [z.out];exact⟨_,_,_,by rw [m.out];simp;omega,rfl,n⟩
structure E1 (w:World) (F:Nat->Prop) (lb:Nat) (kA:Option Addr) (kc:Nat):Prop where
 c0:w.cell? ⟨lb,0,none⟩=some (.slice kA 1 kc)
 c1:w.cell? ⟨lb,1,none⟩=some (.slice none 0 0)
 key:SB w F (.slice kA 1 kc) [107]
 own:∀b,b=lb\/F b->b<w.heap.size
theorem E1.chg {S:Nat->Prop} {w w':World} {F:Nat->Prop} {lb j:Nat} {Q:Option Addr} (h:E1 w F lb Q j) (y:ag S w w') (c:∀b,b=lb\/F b->¬S b):E1 w' F lb Q j:=
 ⟨y.cell (c _ (.inl rfl)) h.c0,y.cell (c _ (.inl rfl)) h.c1,h.key.chg y (fun b a=>c b (.inr a)),fun b a=>Nat.lt_of_lt_of_le (h.own b a) y.size⟩
theorem E1.below {lb:Nat} {Q:Option Addr} (h:E1 w F lb Q j) (a:Below w.heap.size w w'):E1 w' F lb Q j:=h.chg (S:=Nil) (ag.of_below a) (fun _ _ b=>b)
theorem E1.ents {lb:Nat} {Q:Option Addr} (h:E1 w F lb Q j):bz w (fun b=>b=lb\/F b) (some ⟨lb,0,none⟩) 1 [([107],[])]:=by
 refine⟨rfl,[.slice Q 1 j,.slice none 0 0],⟨rfl,fun _=>⟨_,0,rfl,.inl rfl,fun k u a=> ?_⟩⟩,fun i e c=> ?_⟩
 ·match k with
  |0=>simp at a;subst a;exact h.c0
  |1=>simp at a;subst a;exact h.c1
  |k+2=>simp at a
 ·match i with
  |0=>simp at c;subst c;exact⟨_,_,rfl,rfl,h.key.weak (fun b d=> .inr d),NK.weak (fun _ f=>absurd f id)⟩
  |i+1=>simp at c
end Go.Proofs.YtepgcjbhabnciaaGreat
