/- Part 24. -/
import Derived.Test.YtepgcjbhabnciaaGreatLp23
namespace Go.Proofs.YtepgcjbhabnciaaGreat
set_option maxRecDepth 100000
set_option maxHeartbeats 8000000
open Go.Proofs.Tryz Go.RowKit
open Go.Lib (compareBytes)
variable {bn g o i a:Nat} {F:Nat->Prop} {bA:Option Addr} {b:List UInt8} {w:World}
section
theorem zC:∀(k:Nat) (l:List Nat) (j:Nat),l.length<=k->(eighth l)[j]? =l[8*j]? :=by
 intro k
 induction k with
 |zero=>intro l j h;have:l= []:=List.eq_nil_of_length_eq_zero (by omega);subst this;simp [eighth]
 |succ k a=>
  intro l j h
  cases l with
  |nil=>simp [eighth]
  |cons x r=>
   unfold eighth
   cases j with
   |zero=>simp
   |succ j=>
    rw [List.length_cons] at h;rw [List.getElem?_cons_succ,a _ _ (by rw [List.length_drop];omega),List.getElem?_drop,show 8*(j+1)=7+8*j+1 by omega,List.getElem?_cons_succ]
structure Km (w:World) (base:Nat) (Z:Nat->Prop) (out:Value) (us:List Value) (l:List aR):Prop where
 own:w.ownsRow base 69 2 out l.length us
 ne:∀g,out.ownBlock=some g->¬Z g
 at_:∀(i:Nat) (e:aR),l[i]? =some e->∃u v,us[2*i]? =some u/\us[2*i+1]? =some v/\SB w (fun g=>base<=g/\¬Z g/\out.ownBlock≠some g) u e.1/\SB w (fun g=>base<=g/\¬Z g/\out.ownBlock≠some g) v e.2
section
variable {S Z Z':Nat->Prop} {w w':World} {base:Nat} {out:Value} {us:List Value} {l:List aR}
theorem Km.nil (w:World) (base:Nat) (Z:Nat->Prop):Km w base Z () [] []:=⟨World.ownsRow_nil _ _ _ _,fun g a=>by simp [Value.ownBlock] at a,fun i e h=>by simp at h⟩
theorem Km.step (h:Km w base Z out us l) (hc:ag S w w') (d:∀g,g<w.heap.size->base<=g->S g->Z g) (f:∀g,g<w.heap.size->Z' g->Z g):Km w' base Z' out us l:=by
 refine⟨aB h.own hc (fun g c e=>h.ne g c (d g (ah h.own g c).2 (ah h.own g c).1 e)),fun g c e=>h.ne g c (f g (ah h.own g c).2 e),fun i e j=> ?_⟩;obtain⟨u,v,a,b,k,m⟩:=h.at_ i e j;exact⟨u,v,a,b,k.next3 hc (fun g hl c e=>c.2.1 (d g hl c.1 e)) (fun g hl c=>⟨c.1,fun e=>c.2.1 (f g hl e),c.2.2⟩),m.next3 hc (fun g hl c e=>c.2.1 (d g hl c.1 e)) (fun g hl c=>⟨c.1,fun e=>c.2.1 (f g hl e),c.2.2⟩)⟩
theorem Km.below (h:Km w base Z out us l) (a:Below w.heap.size w w'):Km w' base Z out us l:=h.step (ag.of_below (S:=Nil) a) (fun _ _ _ h=>h.elim) (fun _ _ h=>h)
theorem Km.push {v2 u v:Value} {e:aR} (h:Km w base Z out us l) (q:∀g,Z g->g<w) (s:w'.ownsRow base 69 2 v2 (l.length+1) (us++ [u,v])) (r:w.grownBy w' out.ownBlock) (d:v2.ownBlock=out.ownBlock\/v2.ownBlock=some w)
  (t:SB w (fun g=>base<=g/\¬Z g/\out.ownBlock≠some g) u e.1) (hv:SB w (fun g=>base<=g/\¬Z g/\out.ownBlock≠some g) v e.2):Km w' base Z v2 (us++ [u,v]) (l++ [e]):=by
 have hl:us.length=l.length*2:=h.own.1
 have key:∀g,g<w.heap.size->(base<=g/\¬Z g/\out.ownBlock≠some g)->(base<=g/\¬Z g/\v2.ownBlock≠some g):=fun g o f=>⟨f.1,f.2.1,fun e=>by
  rcases d with h|h
  ·exact f.2.2 (h▸e)
  ·rw [h] at e;injection e with e;omega⟩
 have j:∀{x:Value} {bs:List UInt8},SB w (fun g=>base<=g/\¬Z g/\out.ownBlock≠some g) x bs->SB w' (fun g=>base<=g/\¬Z g/\v2.ownBlock≠some g) x bs:=fun f=>f.next3 (ag.of_grown r) (fun b _ o e=>o.2.2 e) key
 refine⟨by rw [mq];exact s,fun g c p=> ?_,fun i c hi=> ?_⟩
 ·rcases d with k|k
  ·exact h.ne g (k▸c) p
  ·rw [k] at c;injection c with c;have:=q g p;omega
 ·rcases Nat.lt_or_ge i l.length with m|m
  ·rw [qK m] at hi;obtain⟨x,y,a,b,z,A⟩:=h.at_ i c hi
   exact⟨x,y,by rw [qK (by omega)];exact a,by rw [qK (by omega)];exact b,j z,j A⟩
  ·rw [q9 m] at hi;have n:i=l.length:=by have:=(nE.1 hi).1;simp at this;omega
   subst n;simp at hi;subst hi
   refine⟨u,v,?_,?_,j t,j hv⟩
   ·rw [q9 (by omega),show 2*l.length-us.length=0 by omega];rfl
   ·rw [q9 (by omega),show 2*l.length+1-us.length=1 by omega];rfl
theorem Km.ents {A:Option Addr} {n c:Nat} (h:Km w base Z (.slice A n c) us l) (hn:n=l.length):dh w (From base) A n l:=by
 subst hn;exact⟨aa rfl,us,Rd.of_own h.own,fun i e f=>let⟨u,v,a,b,g,j⟩:=h.at_ i e f;⟨u,v,a,b,g.weak (fun _ d=>d.1),j.weak (fun _ d=>d.1)⟩⟩
end
theorem SL (A:Option Addr) (n c i:Nat) (w:World) (hi:i%8=0) (d:i<=1000):Calls prog 152 #[.slice A n c,(i:Int)] w fun e w'=>e= .returned ()/\w=w':=by
 have b:((i:Int)%8==0)=true:=by rw [beq_iff_eq];omega
 have a:(i:Int)%8=0:=by omega
 go_enter func152,ntmps152
 go_wp2;go_ret
 exact⟨rfl,rfl⟩
theorem SN {A:Option Addr} {n:Nat} (c i:Nat) {F:Nat->Prop} {l:List aR} {w:World} (h:dh w F A n l) (d:i=n) (hi:¬i%8=0) (D:i<=1000):Calls prog 152 #[.slice A n c,(i:Int)] w fun e w'=>∃K kn kc,e= .returned (.slice K kn kc)/\kn<=kc/\kc<=maxLen/\Hid (kn=(aD l).length)/\Rd w F 1 K kn (aI (aD l))/\w=w':=by
 have p:((i:Int)%8==0)=false:=by rw [mi];omega
 have k:¬(i:Int)%8=0:=by omega
 have hn:=h.len;have t:i-1<n:=by omega
 obtain⟨b,o,K,kn,kc,V,vn,vc,key,val,rfl,_,hl,c1,B,k1,k2,u,v,v1,v2,H,I⟩:=h.at_ t;have a:aD l=key:=by rw [iP (l:=l) (e:=(key,val)) (by rw [<-hn,<-d];exact hl)]
 have g:Hid (kn<=kc/\kc<=maxLen/\Hid (kn=(aD l).length)/\Rd w F 1 K kn (aI (aD l))):=aa ⟨k1,k2,by rw [a];exact u,by rw [a];exact v⟩;obtain⟨j,s⟩:=gF (i-1);have f:i=j+1:=by omega
 have G:j<n:=by omega
 have z:(j:Int)<(n:Int):=by omega
 have C:((i:Int)-1)=(j:Int):=by omega
 rw [<-s] at c1;obtain⟨R,m⟩:∃R:Ending->World->Prop,R=fun e w'=>∃K kn kc,e= .returned (.slice K kn kc)/\kn<=kc/\kc<=maxLen/\Hid (kn=(aD l).length)/\Rd w F 1 K kn (aI (aD l))/\w=w':=⟨_,rfl⟩;have y:=aa m;rw [<-m];have x:=aa f;clear m h hn t hl B k1 k2 u v v1 v2 H I a d hi p s;subst f;have r:((j+1:Nat):Int)%8=((j:Int)+1)%8:=by omega
 have q:¬((j:Int)+1)%8=0:=by omega
 have E:(((j:Int)+1)%8==0)=false:=by rw [mi];exact q
 clear k r C x;go_enter func152,ntmps152;go_wp2;rw [y.out]
 exact⟨K,kn,kc,rfl,g.1,g.2.1,g.2.2.1,g.2.2.2,rfl⟩
theorem Ox {A:Option Addr} {n:Nat} (c i:Nat) {F:Nat->Prop} {l:List aR} {w:World} (h:dh w F A n l) (a:i=n) (b:i<=1000):Calls prog 152 #[.slice A n c,(i:Int)] w fun e w'=>∃K kn kc,e= .returned (.slice K kn kc)/\kn<=kc/\kc<=maxLen/\Hid (kn=(aS l).length)/\Rd w F 1 K kn (aI (aS l))/\w=w':=by
 have hn:=h.len
 by_cases hi:i%8=0
 ·refine(SL A n c i w hi b).mono ?_;rintro e w' ⟨rfl,rfl⟩;rw [BP (by rw [<-hn,<-a];exact hi)]
  exact⟨none,0,0,rfl,jO,by simp [maxLen],rfl,Rd.none_ _ _ _ _,rfl⟩
 ·refine(SN c i h a hi b).mono ?_;rintro e w' ⟨K,kn,kc,rfl,d,f,g,j,rfl⟩;rw [BQ (by rw [<-hn,<-a];exact hi)];exact⟨K,kn,kc,rfl,d,f,g,j,rfl⟩
end
def cB (b:List UInt8):M6:=
 if(ai b 0).2.2≠0 then⟨[],[],0,(ai b 0).2.2,(ai b 0).2.1⟩
 else if(ai b 0).1=0\/64<(ai b 0).1 then⟨[],[],0,61,0⟩
 else bO b (ai b 0).1 [] [] (ai b 0).2.1
def rq (b:List UInt8) (w:World) (e:Ending) (w':World):Prop:=
 ∃A c B d,e= .returned (.tuple #[.slice A (cB b).ents.length c,.slice B (cB b).ats.length d,.int .i64 (cB b).at_,.int .i64 (cB b).err,.int .i64 (cB b).place])/\(cB b).ents.length<=c/\c<=maxLen/\dh w' (From w) A (cB b).ents.length (cB b).ents/\Rd w' (From w) 1 B (cB b).ats.length (o7 (cB b).ats)/\Below w w w'
structure M5 (n p0 bn:Nat) (b:List UInt8) (w0:World) (l:List aR) (ats:List Nat) (p:Nat) (out av:Value) (us:List Value) (w:World):Prop where
 er:Km w w0 (fun g=>av.ownBlock=some g) out us l
 av:w.ownsRow w0 3 1 av ats.length (o7 ats)
 bel:Below w0 w0 w
 rise:bY l
 alen:ats.length=l.length
 ple:p<=bn
 lln:l.length<=n
 eq:bO b n [] [] p0=bO b (n-l.length) l ats p
theorem Ov (bc:Nat) (h:Rd w F 1 bA bn (aI b)) (hn:bn=b.length) (n:bn<=1152921504606) (k:¬((ai b 0).2.2=0/\1<=(ai b 0).1/\(ai b 0).1<=64)):
  Calls prog 111 #[.slice bA bn bc] w (rq b w):=by
 have c:=aa (jB bc 0 h hn (Nat.zero_le _) n);have f:=aa (show cB b=if(ai b 0).2.2≠0 then⟨[],[],0,(ai b 0).2.2,(ai b 0).2.1⟩ else if(ai b 0).1=0\/64<(ai b 0).1 then⟨[],[],0,61,0⟩ else bO b (ai b 0).1 [] [] (ai b 0).2.1 from rfl);obtain⟨x,l⟩:=gF ((ai b 0).1);obtain⟨p,m⟩:=gF ((ai b 0).2.1);obtain⟨er,g⟩:=gF ((ai b 0).2.2);rw [<-l,<-m,<-g] at c f;rw [<-l,<-g] at k;obtain⟨R,j⟩:=gF (rq b w);have r:=aa j;rw [<-j];clear j l m g h hn
 have a:Hid (∀(e:Int) (q:Nat),cB b=⟨[],[],0,e,q⟩->R (.returned (.tuple #[(),(),.int .i64 0,(e:Int),(q:Int)])) w):=aa (fun e q h=>by
  rw [r.out];unfold rq;rw [h];exact⟨none,0,none,0,rfl,jO,by simp [maxLen],dh.nil _ _ _,Rd.none_ _ _ _ _,mh⟩)
 by_cases i:er=0
 ·subst i;have d:Hid (cB b=⟨[],[],0,61,0⟩):=aa (by rw [f.out,if_neg (fun h=>h rfl),if_pos (by omega)])
  by_cases o:x=0
  ·subst o;go_enter func111,ntmps111;go_wp2_with (go_at_call 149;go_loud (refine c.mono ?_);rintro e w2 ⟨rfl,rfl⟩)
   refine bodyPost_ret (v:= .tuple #[(),(),.int .i64 0,.int .i64 61,.int .i64 0]) (by simp [results,results111,go_sem]) rfl ?_
   exact a.out 61 0 d
  ·have t:¬((x:Int)<1):=by omega
   have u:(64:Int)<(x:Int):=by omega
   clear k o;go_enter func111,ntmps111;go_wp2_with (go_at_call 149;go_loud (refine c.mono ?_);rintro e w2 ⟨rfl,rfl⟩)
   refine bodyPost_ret (v:= .tuple #[(),(),.int .i64 0,.int .i64 61,.int .i64 0]) (by simp [results,results111,go_sem]) rfl ?_
   exact a.out 61 0 d
 ·have d:Hid (cB b=⟨[],[],0,er,p⟩):=aa (by rw [f.out,if_pos i]);have s:(er==0)=false:=by rw [mi];exact i
  clear k;go_enter func111,ntmps111;go_wp2_with (go_at_call 149;go_loud (refine c.mono ?_);rintro e w2 ⟨rfl,rfl⟩)
  refine bodyPost_ret (v:= .tuple #[(),(),.int .i64 0,(er:Int),(p:Int)]) (by simp [results,results111,go_sem]) rfl ?_;exact a.out er p d
theorem Kn {l:List aR} (h:bY l):(aS l).length<=64:=by
 unfold aS
 split
 ·simp
 ·rcases Nat.eq_zero_or_pos l.length with a|a
  ·have:l= []:=List.eq_nil_of_length_eq_zero a
   subst this;simp [aD]
  ·obtain⟨e,b,c⟩:=pN a;rw [c];exact(dB h b).2.1
theorem Ko (bc:Nat) (h:Rd w F 1 bA bn (aI b)) (hn:bn=b.length) (m:bn<=bc) (n:bn<=1152921504606) (D:∀g,F g->g<w) (h0:(ai b 0).2.2=0) (y:1<=(ai b 0).1) (G:(ai b 0).1<=64):
  Calls prog 111 #[.slice bA bn bc] w (rq b w):=by
 obtain⟨i0,a0,iC,iD,iE⟩:=info_parts kW;obtain⟨j0,Z,a2,a3,a4⟩:=info_parts jL;have HV:=aa (jB bc 0 h hn (Nat.zero_le _) n);have HX:Hid (cB b=bO b (ai b 0).1 [] [] (ai b 0).2.1):=aa (by unfold cB;rw [if_neg (fun h=>h h0),if_neg (by omega)]);have aw:=aa (gz b 0 (Nat.zero_le _)).2;obtain⟨x,hx⟩:=gF ((ai b 0).1);obtain⟨p0,ad⟩:=gF ((ai b 0).2.1);rw [<-hx,<-ad,h0] at HV;rw [<-hx,<-ad] at HX;rw [<-ad] at aw;rw [<-hx] at y G;obtain⟨R,hR⟩:=gF (rq b w);have HR:=aa hR;rw [<-hR];have HH:=aa h;have HN:=aa hn;have HF:=aa D;have bL:¬((x:Int)<1):=by omega
 have bN:¬((64:Int)<(x:Int)):=by omega
 clear hR h hn D h0 hx ad;go_enter func111,ntmps111;go_wp2_with (go_at_call 149;go_loud (refine HV.mono ?_);rintro e w2 ⟨rfl,rfl⟩)
 go_loopg [8,10,11,12] x (fun g' pv ov ba iv wz=>∃(l:List aR) (ats:List Nat) (p:Nat) (us:List Value),g'=x-l.length/\pv= (p:Int)/\iv= (l.length:Int)/\M5 x p0 bn b w l ats p ov ba us wz)
 case atStart=>exact⟨[],[],p0,[],rfl,rfl,rfl,Km.nil _ _ _,World.ownsRow_nil _ _ _ _,mh,gQ,rfl,by have y:=aw.out;have G:=HN.out;omega,Nat.zero_le _,rfl⟩
 case round=>
  obtain⟨l,ats,p,us,i,rfl,rfl,hm⟩:=hrel;have HG:=aa i;have a:=aa hm;have a9:=hm.lln;obtain⟨ln,ab⟩:=gF l.length;have d:=aa ab;obtain⟨oA,oc,bF,bx,bz⟩:=ax hm.er.own;subst bF;obtain⟨I,J,bk,bh,bj⟩:=ax hm.av;subst bk;have c:ats.length=ln:=by rw [ab];exact hm.alen
  rw [c] at a;rw [<-ab] at a9 a|-;rw [c];clear i hm ab c bx bz bh bj
  by_cases bP:ln<x
  ·have bp:(ln:Int)<(x:Int):=by omega
   have qX:Hid (dh wr (From w) oA ln l):=aa (a.er.ents d);have a8:=aa (Ox oc ln qX rfl (by omega));have dW:Hid (Rd wr (fun g=>g<wr) 1 bA bn (aI b)):=aa ((HH.below a.bel).weak (fun g i=>mU (HF g i) a.bel.size));obtain⟨r,hr⟩:=gF (pread (aS l) b p);have am:=aa hr
   have rF:Hid (cB b=if r.err≠0 then⟨l,ats,p,r.err,r.next⟩ else if 0<l.length/\0<=compareBytes (aD l) r.key then⟨l,ats,p,51,p⟩ else bO b (x-(l.length+1)) (l++ [(r.key,r.val)]) (ats++ [p]) r.next):=aa (by
    rw [HX.out,a.out.eq,show x-l.length=(x-(l.length+1))+1 by have:=d.out;omega,yn,hr])
   clear hr;obtain⟨er,dN⟩:=gF r.err;obtain⟨nx,a1⟩:=gF r.next;have gJ:=aa dN;have xw:=aa a1;clear dN a1;go_upto_region 12 with(first|(go_at_call 152;go_loud (refine a8.mono ?_);rintro e w2 ⟨K0,bQ,bI,rfl,q1,q2,q3,q4,rfl⟩;have HQ:=aa (And.intro q1 (And.intro q2 (And.intro q3 (q4.lt Nat.zero_lt_one))));clear q1 q2 q3 q4)|(go_at_call 151;go_loud (refine(Kq (fun g=>g<wr) bI bc p (HQ.2.2.2.weak (fun g i=>i.2)) HQ.2.2.1.out HQ.1 dW HN m a.ple (by have y:=HQ.out.2.2.1.out;have G:=Kn a.rise;omega) n (fun g i=>i)).mono ?_);rintro e w2 ⟨K,kn,kc,V,vn,vc,rfl,hk,aE⟩;rw [<-am.out] at hk|-;rw [<-gJ.out,<-xw.out];have HK:=aa hk;have au:=aa aE;clear hk aE))
   obtain⟨x5,al⟩:=gF w2.heap.size;obtain⟨H,ae⟩:=gF (w2.alloc (.cells #[.slice K kn kc,.slice V vn vc] 69));rw [<-ae,<-al];have qQ:=aa al;have z:Hid (Below w2 w2 H):=aa (by rw [ae];exact gV);have jN:Hid (ak H x5 69 #[.slice K kn kc,.slice V vn vc]):=aa (by rw [ae,al];exact ak.new _ _ _);have Q:Hid (Below wr wr H):=aa (au.out.trans (z.mono au.size));clear ae al
   by_cases e0:er=0
   ·have mM:Hid (r.err=0):=aa (by rw [<-gJ.out];exact e0);subst e0
    have FE:Hid (xQ (aS l) b r):=aa (by
     have y:=kY (prev:=aS l) (b:=b) (p:=p) (by have y:=a.out.ple;have G:=HN.out;omega) (by rw [<-am.out];exact mM);rwa [<-am.out] at y)
    by_cases l0:ln=0
    ·have hd:decide (0<ln)=false:=decide_eq_false (by omega);have ap:decide ((0:Int)<(ln:Int))=false:=decide_eq_false (by omega);have oQ:Hid (¬(0<l.length/\0<=compareBytes (aD l) r.key)):=aa (fun h=>by have:=d.out;omega);clear l0;go_upto_region 14 with fail
     go_quiet (fail);clear hd ap;obtain⟨f,C⟩:=gF (H.drewN nq);rw [<-C];have X:Hid (ag Nil H f):=aa (by rw [C];exact(ag.refl Nil H).drewN _);have S:Hid (Below wr wr f):=aa (Q.out.trans (X.below_of Q.size (fun _ _ h=>h)));have U:Hid (Below w w f):=aa (a.bel.trans (S.mono a.bel.size));have rH:Hid (ak f x5 69 #[.slice K kn kc,.slice V vn vc]):=aa (jN.chg X (fun h=>h));have W:Hid (bO b x [] [] p0=bO b (x-(l.length+1)) (l++ [(r.key,r.val)]) (ats++ [p]) r.next):=aa (by rw [<-HX.out,rF.out,if_neg (fun h=>h mM.out),if_neg oQ.out]);have SK:=aa (a.er.below S);have ZY:=aa (own_below a.av S);have c:ats.length=ln:=by rw [d.out];exact a.alen
     have RD:=aa c;have y0:f.cell? x5=some (.slice K kn kc):=rH.out.cell 0;have y1:f.cell? ⟨x5,1,none⟩=some (.slice V vn vc):=rH.out.cell 1;have ZZ:Hid (f.ownsRow w 69 2 (Value.slice oA ln oc) ln us):=aa (by have u:=SK.out.own;rw [<-d.out] at u;exact u);clear C c;go_upto_region 17 with(at_builtin;go_loud (refine af _ rfl (.tmp 73) (.tmp 75) _ rfl w 69 i0 _ 2 48 underlying58 a0 iC iD iE rfl (by omega) (Value.slice oA ln oc) _ us rfl (own_below ZZ gV) (From f) (some ⟨f,0,none⟩) 1 1 [.slice K kn kc,.slice V vn vc] rfl (Rd.two f _ _ _) (by simp [Value.oneCell']) (by simp only [maxLen];omega) (by omega) (by have u:=U.out.size;rw [World.size_alloc];omega) ?_);intro v5 A o O oz;have pq:=aa o;have T:=aa O;have UV:=aa oz;clear o O oz;obtain⟨nA,nc,aq,_,_⟩:=ax pq;subst aq)
     obtain⟨wa,fM⟩:=gF (f.alloc (.cells #[.slice K kn kc,.slice V vn vc] 69));rw [<-fM] at T UV;have E:Hid (Below f f wa):=aa (by rw [fM];exact gV);have vo:=aa (E.size);have eA:=SK.out.below E;have BS:=HK.out mM;have t:∀g,wr.heap.size<=g->(w.heap.size<=g/\¬(Value.slice I ln J).ownBlock=some g/\(Value.slice oA ln oc).ownBlock≠some g):=fun g i=>⟨by have:=a.out.bel.size;omega,fun e=>by have:=(ah a.av g e).2;omega,fun e=>by have:=(ah a.er.own g e).2;omega⟩;have B:Below w2.heap.size w2 wa:=(z.out.trans (X.below_of z.size (fun _ _ h=>h))).trans (E.mono (by have y:=z.out.size;have G:=X.out.size;omega));have e5:=eA.push (e:=(r.key,r.val)) (fun g i=>by have y:=(ah a.av g i).2;have G:=S.out.size;have P:=E.out.size;omega) (by rw [show l.length+1=ln+1 by rw [d.out]];exact pq) T UV ((BS.1.below B).weak t) ((BS.2.below B).weak t);have Z0:=aa e5
     have Z4:Hid (A.ownsRow w 3 1 (.slice I ln J) ln (o7 ats)):=aa (by
      have u:=aB (own_below ZY E) (ag.of_grown T) (fun g i e=>a.er.ne g e i);rw [RD.out] at u;exact u)
     have sG:Hid (Below w w A):=aa ((U.out.trans (E.mono U.size)).grown T (by have y:=U.out.size;have G:=E.out.size;omega) (fun g i=>(ah a.er.own g i).1));clear y0 y1 fM eA BS t B e5;go_wp2_with (at_builtin;go_loud (refine af _ rfl (.tmp 77) (.tmp 79) _ rfl w 3 j0 _ 1 8 underlying25 Z a2 a3 a4 rfl (by omega) (.slice I ln J) _ (o7 ats) rfl (own_below Z4 gV) (From A) (some ⟨A,0,none⟩) 1 1 [(p:Int)] rfl (Rd.one A _ _) (by simp [Value.oneCell']) (by simp only [maxLen];omega) (by omega) (by have u:=sG.out.size;rw [World.size_alloc];omega) ?_);intro v6 w6 s eX dF;have lX:=aa s;have mE:=aa eX;have AA:=aa dF;clear s eX dF)
     go_roundg (x-(ln+1))
     case measure=>have y:=HG.out;have G:=d.out;omega
     case rel=>
      have N:Below A A (A.alloc (.cells #[(p:Int)] 3)):=gV;have e6:=Z0.out.below N
      have e7:=e6.step (Z':=fun g=>v6.ownBlock=some g) (ag.of_grown mE) (fun g _ _ e=>e) (fun g hl e=>by
       rcases AA.out with h|h
       ·rw [h] at e;exact e
       ·rw [h] at e;injection e with e;rw [World.size_alloc] at e hl;omega)
      refine⟨l++ [(r.key,r.val)],ats++ [p],nx,us++ [.slice K kn kc,.slice V vn vc],by rw [mq,List.length_singleton,<-d.out],rfl,by rw [mq,List.length_singleton,<-d.out];go_num,e7,?_,?_,?_,?_,?_,?_,?_⟩
      ·have u:=lX.out;rw [mq,List.length_singleton,RD.out]
       simpa [o7] using u
      ·exact(sG.out.trans (N.mono sG.size)).grown mE (by have y:=sG.out.size;rw [World.size_alloc];omega) (fun g i=>(ah a.av g i).1)
      ·refine om a.rise (qm FE.k1 FE.k2 FE.v) (fun h0=> ?_)
       rcases Int.lt_or_le (compareBytes (aD l) r.key) 0 with h|h
       ·exact h
       ·exact absurd ⟨h0,h⟩ oQ
      ·simp [a.out.alen]
      ·rw [xw.out];have y:=FE.out.next;have G:=HN.out;omega
      ·rw [mq,List.length_singleton,<-d.out];omega
      ·rw [W.out,xw.out];simp
    ·obtain⟨j,hj⟩:∃j,ln=j+1:=⟨ln-1,by omega⟩;have hd:decide (0<ln)=true:=decide_eq_true (by omega);have ap:decide ((0:Int)<(ln:Int))=true:=decide_eq_true (by omega);obtain⟨b2,o2,Lk,a5,ar,Lv,bU,bT,key,val,bE,_,hl,c1,c2,k1,k2,k3,k4,v1,v2,v3,v4⟩:=qX.out.at_ (k:=j) (by omega);have a6:Hid (aD l=key):=aa (by rw [iP (l:=l) (e:=(key,val)) (by have u:=d.out;rw [show l.length-1=j by omega];exact hl)]);subst bE;have be:H.cell? ⟨b2,o2+j*2,none⟩=some (.slice Lk a5 ar):=aj Q c1;have y0:H.cell? x5=some (.slice K kn kc):=jN.out.cell 0;have bG:IntKind.i64.wrap ((ln:Int)-1)=(j:Int):=by rw [IntWalk.i64_in _ (by omega)];omega
     have bm:j<ln:=by omega
     have yD:(j:Int)<(ln:Int):=by omega
     have Z:(0:Int)<=(j:Int):=by omega
     have Dq:Hid (∀k,Calls prog 68 #[.slice Lk a5 ar,.slice K kn kc] (H.drewN k) fun e w'=>e= .returned (.int .i64 (compareBytes (aD l) r.key))/\∃q,w'=(H.drewN k).drewN q):=aa (fun k=>by
      rw [a6.out];have M:=((HK mM).1.below z).parts;exact dC ar kc ((k4.below Q).drewN k) k3.out (M.2.2.2.drewN k) M.2.2.1 (by have Y:=k3.out;have h7:=a.out.rise;have h8:=(dB h7 (nT hl)).2.1;simp only [] at h8;omega))
     obtain⟨ce,ao⟩:=gF (compareBytes (aD l) r.key);rw [<-ao] at Dq;have sN:=aa ao;have a7:Hid (0<l.length):=aa (by have:=d.out;omega);clear l0 hj hl c1 c2 k1 k2 k3 k4 v1 v2 v3 v4 ao;go_upto_region 14 with fail;go_quiet ((go_at_call 68;exact Calls.quiet_of (Dq _)));clear hd ap be y0 bG bm yD Z
     by_cases hc:0<=ce
     ·have W:Hid (cB b=⟨l,ats,p,51,p⟩):=aa (by rw [rF.out,if_neg (fun h=>h mM.out),if_pos ⟨a7.out,by rw [<-sN.out];exact hc⟩]);go_wp2;refine bodyPost_ret (v:= .tuple #[.slice (some ⟨b2,o2,none⟩) ln oc,.slice I ln J,(p:Int),.int .i64 51,(p:Int)]) (by simp [results,results111,go_sem]) rfl ?_;rw [HR.out];unfold rq;rw [W.out];have c:ats.length=ln:=by rw [d.out];exact a.alen
      have P:=ax a.er.own;have an:=below_drewN Q nq
      refine⟨some ⟨b2,o2,none⟩,oc,I,J,by rw [c,d.out],?_,?_,by rw [<-d.out];exact qX.below an,by rw [c];exact(Rd.of_own (by have h4:=a.out.av;rw [c] at h4;exact h4)).below an,a.bel.trans (an.mono a.bel.size)⟩
      ·obtain⟨A',c',e,M,Y⟩:=P;injection e with e1 e2 L;rw [L];exact M
      ·obtain⟨A',c',e,M,Y⟩:=P;injection e with e1 e2 L;rw [L];exact Y
     ·have oQ:Hid (¬(0<l.length/\0<=compareBytes (aD l) r.key)):=aa (fun h=>by rw [<-sN.out] at h;exact hc h.2);obtain⟨f,C⟩:=gF (H.drewN nq);rw [<-C];have X:Hid (ag Nil H f):=aa (by rw [C];exact(ag.refl Nil H).drewN _);have S:Hid (Below wr wr f):=aa (Q.out.trans (X.below_of Q.size (fun _ _ h=>h)));have U:Hid (Below w w f):=aa (a.bel.trans (S.mono a.bel.size));have rH:Hid (ak f x5 69 #[.slice K kn kc,.slice V vn vc]):=aa (jN.chg X (fun h=>h));have W:Hid (bO b x [] [] p0=bO b (x-(l.length+1)) (l++ [(r.key,r.val)]) (ats++ [p]) r.next):=aa (by rw [<-HX.out,rF.out,if_neg (fun h=>h mM.out),if_neg oQ.out]);have SK:=aa (a.er.below S);have ZY:=aa (own_below a.av S);have c:ats.length=ln:=by rw [d.out];exact a.alen
      have RD:=aa c;have y0:f.cell? x5=some (.slice K kn kc):=rH.out.cell 0;have y1:f.cell? ⟨x5,1,none⟩=some (.slice V vn vc):=rH.out.cell 1;have ZZ:Hid (f.ownsRow w 69 2 (Value.slice (some ⟨b2,o2,none⟩) ln oc) ln us):=aa (by have u:=SK.out.own;rw [<-d.out] at u;exact u);clear C c;go_upto_region 17 with(at_builtin;go_loud (refine af _ rfl (.tmp 73) (.tmp 75) _ rfl w 69 i0 _ 2 48 underlying58 a0 iC iD iE rfl (by omega) (Value.slice (some ⟨b2,o2,none⟩) ln oc) _ us rfl (own_below ZZ gV) (From f) (some ⟨f,0,none⟩) 1 1 [.slice K kn kc,.slice V vn vc] rfl (Rd.two f _ _ _) (by simp [Value.oneCell']) (by simp only [maxLen];omega) (by omega) (by have u:=U.out.size;rw [World.size_alloc];omega) ?_);intro v5 A o O oz;have pq:=aa o;have T:=aa O;have UV:=aa oz;clear o O oz;obtain⟨nA,nc,aq,_,_⟩:=ax pq;subst aq)
      obtain⟨wa,fM⟩:=gF (f.alloc (.cells #[.slice K kn kc,.slice V vn vc] 69));rw [<-fM] at T UV;have E:Hid (Below f f wa):=aa (by rw [fM];exact gV);have vo:=aa (E.size);have eA:=SK.out.below E;have BS:=HK.out mM;have t:∀g,wr.heap.size<=g->(w.heap.size<=g/\¬(Value.slice I ln J).ownBlock=some g/\(Value.slice (some ⟨b2,o2,none⟩) ln oc).ownBlock≠some g):=fun g i=>⟨by have:=a.out.bel.size;omega,fun e=>by have:=(ah a.av g e).2;omega,fun e=>by have:=(ah a.er.own g e).2;omega⟩;have B:Below w2.heap.size w2 wa:=(z.out.trans (X.below_of z.size (fun _ _ h=>h))).trans (E.mono (by have y:=z.out.size;have G:=X.out.size;omega));have e5:=eA.push (e:=(r.key,r.val)) (fun g i=>by have y:=(ah a.av g i).2;have G:=S.out.size;have P:=E.out.size;omega) (by rw [show l.length+1=ln+1 by rw [d.out]];exact pq) T UV ((BS.1.below B).weak t) ((BS.2.below B).weak t);have Z0:=aa e5
      have Z4:Hid (A.ownsRow w 3 1 (.slice I ln J) ln (o7 ats)):=aa (by
       have u:=aB (own_below ZY E) (ag.of_grown T) (fun g i e=>a.er.ne g e i);rw [RD.out] at u;exact u)
      have sG:Hid (Below w w A):=aa ((U.out.trans (E.mono U.size)).grown T (by have y:=U.out.size;have G:=E.out.size;omega) (fun g i=>(ah a.er.own g i).1));clear y0 y1 fM eA BS t B e5;go_wp2_with (at_builtin;go_loud (refine af _ rfl (.tmp 77) (.tmp 79) _ rfl w 3 j0 _ 1 8 underlying25 Z a2 a3 a4 rfl (by omega) (.slice I ln J) _ (o7 ats) rfl (own_below Z4 gV) (From A) (some ⟨A,0,none⟩) 1 1 [(p:Int)] rfl (Rd.one A _ _) (by simp [Value.oneCell']) (by simp only [maxLen];omega) (by omega) (by have u:=sG.out.size;rw [World.size_alloc];omega) ?_);intro v6 w6 s eX dF;have lX:=aa s;have mE:=aa eX;have AA:=aa dF;clear s eX dF)
      go_roundg (x-(ln+1))
      case measure=>have y:=HG.out;have G:=d.out;omega
      case rel=>
       have N:Below A A (A.alloc (.cells #[(p:Int)] 3)):=gV;have e6:=Z0.out.below N
       have e7:=e6.step (Z':=fun g=>v6.ownBlock=some g) (ag.of_grown mE) (fun g _ _ e=>e) (fun g hl e=>by
        rcases AA.out with h|h
        ·rw [h] at e;exact e
        ·rw [h] at e;injection e with e;rw [World.size_alloc] at e hl;omega)
       refine⟨l++ [(r.key,r.val)],ats++ [p],nx,us++ [.slice K kn kc,.slice V vn vc],by rw [mq,List.length_singleton,<-d.out],rfl,by rw [mq,List.length_singleton,<-d.out];go_num,e7,?_,?_,?_,?_,?_,?_,?_⟩
       ·have u:=lX.out;rw [mq,List.length_singleton,RD.out]
        simpa [o7] using u
       ·exact(sG.out.trans (N.mono sG.size)).grown mE (by have y:=sG.out.size;rw [World.size_alloc];omega) (fun g i=>(ah a.av g i).1)
       ·refine om a.rise (qm FE.k1 FE.k2 FE.v) (fun h0=> ?_)
        rcases Int.lt_or_le (compareBytes (aD l) r.key) 0 with h|h
        ·exact h
        ·exact absurd ⟨h0,h⟩ oQ
       ·simp [a.out.alen]
       ·rw [xw.out];have y:=FE.out.next;have G:=HN.out;omega
       ·rw [mq,List.length_singleton,<-d.out];omega
       ·rw [W.out,xw.out];simp
   ·have mM:Hid (r.err≠0):=aa (by rw [<-gJ.out];exact e0);have YX:(er==0)=false:=by rw [mi];exact e0
    have W:Hid (cB b=⟨l,ats,p,er,nx⟩):=aa (by rw [rF.out,if_pos mM.out,gJ.out,xw.out]);clear e0;go_wp2;refine bodyPost_ret (v:= .tuple #[.slice oA ln oc,.slice I ln J,(p:Int),(er:Int),(nx:Int)]) (by simp [results,results111,go_sem]) rfl ?_;rw [HR.out];unfold rq;rw [W.out];have c:ats.length=ln:=by rw [d.out];exact a.alen
    have P:=ax a.er.own
    refine⟨oA,oc,I,J,by rw [c,d.out],?_,?_,by rw [<-d.out];exact qX.below Q,by rw [c];exact(Rd.of_own (by have h4:=a.out.av;rw [c] at h4;exact h4)).below Q,a.bel.trans (Q.mono a.bel.size)⟩
    ·obtain⟨A',c',e,M,Y⟩:=P;injection e with e1 e2 L;rw [L];exact M
    ·obtain⟨A',c',e,M,Y⟩:=P;injection e with e1 e2 L;rw [L];exact Y
  ·have bo:ln=x:=by omega
   have bp:¬((ln:Int)<(x:Int)):=by omega
   have W:Hid (cB b=⟨l,ats,p,0,0⟩):=aa (by rw [HX.out,a.out.eq,show x-l.length=0 by have:=d.out;omega];rfl);clear bo;go_wp2;refine bodyPost_ret (v:= .tuple #[.slice oA ln oc,.slice I ln J,(p:Int),.int .i64 0,.int .i64 0]) (by simp [results,results111,go_sem]) rfl ?_;rw [HR.out];unfold rq;rw [W.out];have c:ats.length=ln:=by rw [d.out];exact a.alen
   have P:=ax a.er.own
   refine⟨oA,oc,I,J,by rw [c,d.out];rfl,?_,?_,by rw [<-d.out];exact a.er.ents d,by rw [c];exact Rd.of_own (by have h4:=a.out.av;rw [c] at h4;exact h4),a.bel⟩
   ·obtain⟨A',c',e,M,Y⟩:=P;injection e with e1 e2 L;rw [L];exact M
   ·obtain⟨A',c',e,M,Y⟩:=P;injection e with e1 e2 L;rw [L];exact Y
theorem Oy (bc:Nat) (h:Rd w F 1 bA bn (aI b)) (hn:bn=b.length) (m:bn<=bc) (n:bn<=1152921504606) (D:∀g,F g->g<w):
  Calls prog 111 #[.slice bA bn bc] w (rq b w):=by
 by_cases a:(ai b 0).2.2=0/\1<=(ai b 0).1/\(ai b 0).1<=64
 ·exact Ko bc h hn m n D a.1 a.2.1 a.2.2
 ·exact Ov bc h hn n a
theorem Oz (l:List Nat) (j:Nat):j<(eighth l).length↔8*j<l.length:=by
 have h:=zC _ l j jO
 constructor
 ·intro a;rw [mP a] at h
  exact(nE.1 h.symm).1
 ·intro a;rw [mP a] at h;exact(nE.1 h).1
theorem Hm (b:List UInt8):aH b=if(cB b).err≠0 then([],(cB b).err,(cB b).place) else if stand b ((eighth (cB b).ats).flatMap two) (cB b).at_<((eighth (cB b).ats).flatMap two).length then([],62,(cB b).at_+stand b ((eighth (cB b).ats).flatMap two) (cB b).at_) else if(cB b).at_+((eighth (cB b).ats).flatMap two).length<b.length then([],63,(cB b).at_+((eighth (cB b).ats).flatMap two).length) else((cB b).ents,0,0):=by
 by_cases a:(ai b 0).2.2=0
 ·by_cases d:(ai b 0).1=0\/64<(ai b 0).1
  ·have c:cB b=⟨[],[],0,61,0⟩:=by unfold cB;rw [if_neg (fun h=>h a),if_pos d]
   rw [c,if_pos (by simp)];unfold aH
   rw [if_neg (fun h=>h a),if_pos d]
  ·have c:cB b=bO b (ai b 0).1 [] [] (ai b 0).2.1:=by unfold cB;rw [if_neg (fun h=>h a),if_neg d]
   rw [FD a (by omega) (by omega) c.symm]
 ·have c:cB b=⟨[],[],0,(ai b 0).2.2,(ai b 0).2.1⟩:=by unfold cB;rw [if_pos a]
  rw [c,if_pos a];unfold aH;rw [if_pos a]
structure VW (b:List UInt8) (r:M6):Prop where
 rise:bY r.ents
 alen:r.ats.length=r.ents.length
 le:r.at_<=b.length
 most:r.ents.length<=64
 aple:∀a∈r.ats,a<=b.length
theorem CL (b:List UInt8):∀(m:Nat) (l:List aR) (ats:List Nat) (p:Nat),p<=b.length->(∀a∈ats,a<=b.length)->∀a∈(bO b m l ats p).ats,a<=b.length
 |0,l,ats,p,d,h=>h
 |m+1,l,ats,p,d,h=>by
  rw [yn]
  split
  ·exact h
  ·rename_i e
   split
   ·exact h
   ·refine CL b m _ _ _ (kY d (Decidable.byContradiction e)).next (fun a c=> ?_)
    rcases List.mem_append.1 c with c|c
    ·exact h a c
    ·rw [List.mem_singleton] at c;rw [c];exact d
theorem SQ (b:List UInt8):VW b (cB b):=by
 unfold cB
 split
 ·exact⟨gQ,rfl,Nat.zero_le _,by simp,fun a c=>by simp at c⟩
 ·split
  ·exact⟨gQ,rfl,Nat.zero_le _,by simp,fun a c=>by simp at c⟩
  ·rename_i d;have hv:=(gz b 0 (Nat.zero_le _)).2;have h:=uP b (ai b 0).1 [] [] (ai b 0).2.1 hv gQ rfl;exact⟨h.rise,h.ats,h.le,by have:=h.most;simp at this;omega,CL b _ _ _ _ hv (fun a c=>by simp at c)⟩
noncomputable def NH:Code:=aQ (f67.body.bind (aF 7))
theorem VX (m d:Nat) {p u1 y B J s u7 k u9 E O W Z U G f C I M P V u23 l z D u27 r T j u31 u32 u33 n u35 h b e N u40 R u42 X:Value} {Y:List Value} {Q:Exit->Act->World->Prop} (kF:Hid (∀c t (a:Act) w,Q (.panic c) ⟨t,a.defers⟩ w->Q (.panic c) a w))
  (hc:w.cell? ⟨g,o+i,none⟩=some (.int .i64 a)) (ar:i<m) (_hm:m<=64) (ha:a<=1152921504606)
  (au:∀(A F H L ab ac ad ae al am an ao ap:Value) (x:Nat) (w':World),w<=x->ak w' x 5 #[bv (UInt8.ofNat a),bv (UInt8.ofNat (a/256))]->Below w w w'->Q .normal ⟨(p::u1::y::B::J::s:: .slice (some ⟨g,o,none⟩) m d::u7::k::u9:: .int .i64 i:: .slice (some ⟨x,0,none⟩) 2 2::O::W::Z::U::G::f::C::I::M::P::V::u23::l::z::D::u27::r::T::j::A::F::H::L::ab::ac::ad::ae::al::am::an::ao::ap::Y).toArray,[]⟩ w'):
  Code.wp prog NH Q ⟨(p::u1::y::B::J::s:: .slice (some ⟨g,o,none⟩) m d::u7::k::u9:: .int .i64 i::E::O::W::Z::U::G::f::C::I::M::P::V::u23::l::z::D::u27::r::T::j::u31::u32::u33::n::u35::h::b::e::N::u40::R::u42::X::Y).toArray,[]⟩ w:=by
 have dz:=aa au
 have e0:Value.int IntKind.u8 (IntKind.u8.wrap ((a:Int).tmod 256))=bv (UInt8.ofNat a):=by
  unfold bv;rw [UInt8.toNat_ofNat',Int.tmod_eq_emod_of_nonneg (by omega),IntKind.wrap_u8];congr 1;omega
 have e1:Value.int IntKind.u8 (IntKind.u8.wrap (IntKind.i64.wrap ((a:Int)/256)))=bv (UInt8.ofNat (a/256)):=by
  unfold bv;rw [UInt8.toNat_ofNat',IntKind.wrap_u8,IntWalk.i64_in _ (by omega)];congr 1
 have E0:=aa e0;have E1:=aa e1;have aq:(i:Int)<(m:Int):=by omega
 have q:w.drew.cell? ⟨g,o+i,none⟩=some (.int .i64 a):=hc;clear au e0 e1;conv=>arg 2;whnf
 refine aO (S:=(fun w'=>w'.cell? ⟨g,o+i,none⟩=some (.int .i64 a))) (by kernel_rfl) ?_;refine vT 0 q ?_;refine vT 1 q ?_;refine vT 2 q ?_;refine vT 6 q ?_;refine vT 7 q ?_;refine vT 8 q ?_;refine vT 3 q ?_;refine vT 4 q ?_;refine vT 5 q ?_;refine vT 9 q ?_;refine vT 10 q ?_;refine vT 11 q ?_;refine nZ 12 fun K hK=> ?_;go_simp;rw [E0.out,E1.out];have u:Below w w ((w.alloc (.cells #[bv (UInt8.ofNat a),bv (UInt8.ofNat (a/256))] 5)).drew):=gV.drew;have v:=aa u;have S3:((w.alloc (.cells #[bv (UInt8.ofNat a),bv (UInt8.ofNat (a/256))] 5)).drew).cell? ⟨g,o+i,none⟩=some (.int .i64 a):=aj u hc;refine hK.out _ _ S3 ?_;clear hK K;try simp only [aL,aN,aZ,aC]
 refine vT 13 S3 ?_;refine bf (by kernel_rfl) ?_ _;exact dz _ _ _ _ _ _ _ _ _ _ _ _ _ w _ jO (ak.new w _ _).drew v
theorem Kr (F:Nat->Prop) (bc:Nat) (h:Rd w F 1 bA bn (aI b)) (hn:bn=b.length) (m:bn<=bc) (n:bn<=1152921504606) (D:∀g,F g->g<w):
  Calls prog 67 #[.slice bA bn bc] w (yw b w):=by
 refine letter fun R HR=> ?_;have HE:=aa (Oy bc h hn m n D);have lC:=aa (Hm b);have o9:=aa (SQ b);obtain⟨r,hr⟩:=gF (cB b);have ba:=aa hr;rw [<-hr] at lC o9;obtain⟨ln,Q⟩:=gF r.ents.length;obtain⟨t,H⟩:=gF r.ats.length;have W:t=ln:=by rw [H,Q];exact o9.alen
 subst W;obtain⟨er,dN⟩:=gF r.err;obtain⟨pl,ae⟩:=gF r.place;obtain⟨l,L⟩:=gF r.at_;have fq:=aa Q;have Rz:=aa H;have gJ:=aa dN;have qo:=aa ae;have a9:=aa L;have a1:t<=64:=by have:=o9.out.most;omega
 have aw:l<=bn:=by rw [L,hn];exact o9.le
 have HH:=aa h;have HN:=aa hn;obtain⟨s,S⟩:=gF ((eighth r.ats).flatMap two);obtain⟨U,ab⟩:=gF ((eighth r.ats).length);have au:=aa S;have FI:Hid (s.length=2*U):=aa (by rw [S,FH,ab]);have Ny:Hid (∀j,j<U↔8*j<t):=aa (fun j=>by rw [ab,H];exact Oz _ j);rw [<-S,<-L] at lC
 have aA:Hid (∀e w',rq b w e w'->∃A c B d,e= .returned (.tuple #[.slice A t c,.slice B t d,(l:Int),(er:Int),(pl:Int)])/\t<=c/\c<=maxLen/\dh w' (From w) A t r.ents/\Rd w' (From w) 1 B t (o7 r.ats)/\Below w w w'):=aa (fun e w' h=>by
  obtain⟨A,c,B,d,f,G,h3,h4,h5,h6⟩:=h;rw [<-hr] at f G h4 h5;rw [<-Q] at f G h4;rw [<-H,<-dN,<-ae,<-L] at f;rw [<-H] at h5;exact⟨A,c,B,d,f,G,h3,h4,h5,h6⟩)
 clear h hn hr Q H dN ae L S ab D;go_enter func67,ntmps67;go_upto_region 2 with(go_at_call 111;go_loud (refine HE.mono ?_);intro e w1 hE;obtain⟨A,c,B,d,rfl,f,G,h3,h4,h5⟩:=aA.out e w1 hE;have HA:=aa (And.intro f (And.intro G h3));have HB:=aa h4;have qP:=aa h5;clear hE f G h3 h4 h5)
 by_cases e0:er=0
 ·have mM:Hid (r.err=0):=aa (by rw [<-gJ.out];exact e0);have tF:Hid (aH b=if stand b s l<s.length then([],62,l+stand b s l) else if l+s.length<b.length then([],63,l+s.length) else(r.ents,0,0)):=aa (by rw [lC.out,if_neg (fun h=>h mM.out)]);have PH:=aa (tC b s l);subst e0
  have CE:Hid (∀(ec:Int) (q:Nat) (w':World),aH b=([],ec,q)->Below w w w'->R (.returned (.tuple #[(),(ec:Int),(q:Int)])) w'):=aa (fun ec q w' h hb=>by
   rw [HR.out];unfold yw;rw [h];exact⟨none,0,0,rfl,jO,by simp [maxLen],dh.nil _ _ _,hb⟩)
  go_upto_region 5 with fail
  go_loopw [7,10] (fun pv iv wz=>∃j:Nat,j<=U/\iv= .int .i64 (8*j:Nat)/\pv= .int .i64 (l+2*j:Nat)/\Hid (Below w1 w1 wz)/\Hid (∀k,k<2*j->b[l+k]? =s[k]?)/\Hid (l+2*j<=bn)) (fun _ iv _=>8*U-(intOf iv).toNat)
  case atStart=>exact⟨0,Nat.zero_le _,rfl,rfl,aa mh,aa (fun k hk=>absurd hk (by omega)),aa aw⟩
  case round=>
   obtain⟨j,hj,rfl,rfl,I,ao,am⟩:=hrel;obtain⟨i,hi⟩:=gF (8*j);obtain⟨M,N⟩:=gF (l+2*j);rw [<-hi,<-N];have HI:=aa hi;have HP:=aa N;rw [<-N] at am
   have be:U<=64:=by
    rcases Nat.eq_zero_or_pos U with h|h
    ·omega
    ·have:=(Ny.out (U-1)).1 (by omega);omega
   clear hi N
   by_cases Z:j<U
   ·have Y:i<t:=by have:=(Ny.out j).1 Z;have:=HI.out;omega
    have aE:(i:Int)<(t:Int):=by omega
    obtain⟨g,o,u,a2,_,hu,C⟩:=HB.out.at_ Y
    obtain⟨a,ha,a5⟩:∃a,r.ats[i]? =some a/\u= (a:Int):=by
     simp only [o7,List.getElem?_map,Option.map_eq_some_iff] at hu;obtain⟨a,f,G⟩:=hu;exact⟨a,f,G.symm⟩
    subst a5;subst a2;have p:wr.cell? ⟨g,o+i,none⟩=some (.int .i64 a):=aj I C;have W:a<=1152921504606:=by have f:=o9.out.aple a (nT ha);have G:=HN.out;omega
    have De:Hid ((eighth r.ats)[j]? =some a):=aa (by rw [zC _ _ j jO,<-HI.out];exact ha);clear hu C ha;go_upto_region 7 with fail
    refine VX t d (aa (fun _ _ _ _ h=>h)) p Y a1 W ?_;intro bm bo bp bx bz bE bF bG bI bL bN bP bQ x w2 hx O X;have HX:=aa hx;have l7:=aa O;have a8:=aa X
    have a0:Hid (∀k,k<2->∃y:UInt8,s[2*j+k]? =some y/\(#[bv (UInt8.ofNat a),bv (UInt8.ofNat (a/256))]:Array Value)[k]? =some (bv y)):=aa (fun k hk=>by
     have f:=Dn (eighth r.ats) j k a De hk;rw [au.out,f]
     match k,hk with
     |0,_=>exact⟨_,rfl,rfl⟩
     |1,_=>exact⟨_,rfl,rfl⟩)
    have J:Hid (Below w1 w1 w2):=aa (I.out.trans (X.mono I.size));have jm:Hid (Rd w2 F 1 bA bn (aI b)):=aa ((HH.below qP).below J);clear hx O X p;go_wp2
    go_loopw [7,12] (fun pv kv wz=>∃k:Nat,k<=2/\kv= (k:Int)/\pv= .int .i64 (M+k:Nat)/\Hid (Below w2 w2 wz)/\Hid (∀z,z<2*j+k->b[l+z]? =s[z]?)/\Hid (M+k<=bn)) (fun _ kv _=>2-(intOf kv).toNat)
    case atStart=>exact⟨0,by omega,rfl,rfl,aa mh,ao,am⟩
    case round=>
     obtain⟨k,hk,rfl,rfl,iW,YS,PI⟩:=hrel;obtain⟨P,hP⟩:=gF (M+k);rw [<-hP] at PI|-;have NJ:Hid (P=l+(2*j+k)):=aa (by have:=HP.out;omega);have V:=aa hP;have bj:=PI.out;clear hP
     by_cases O:k<2
     ·obtain⟨y,aq,ar⟩:=a0.out k O;have oO:=aa aq;have zt:wr.cell? ⟨x,k,none⟩=some (.int .u8 y.toNat):=((l7.below iW).cell k).trans ar;have al:Hid (2*j+k<s.length):=aa (by have:=FI.out;omega);have vk:Hid (Rd wr F 1 bA bn (aI b)):=aa (jm.below iW)
      have K:Hid (Below w w wr):=aa (by
       have f:=J.out.trans (iW.mono J.size);exact qP.out.trans (f.mono qP.size))
      have Qr:Hid (b[l+(2*j+k)]?≠s[2*j+k]? ->stand b s l=2*j+k):=aa (fun ac=>yt b s l _ YS al.out ac);clear aq ar
      by_cases ad:P=bn
      ·have E:Hid (aH b=([],62,bn)):=aa (by
        have f:=Qr.out (by rw [oO.out,<-NJ.out,List.getElem?_eq_none (by have:=HN.out;omega)];simp);rw [tF.out,if_pos (by rw [f];exact al.out),f,<-NJ.out,ad])
       have bk:(bn:Int)<=(P:Int):=by omega
       clear ad;go_wp2;go_ret3
       exact CE.out 62 bn wr E K
      ·have a3:P<bn:=by omega
       have bh:(P:Int)<(bn:Int):=by omega
       obtain⟨b2,o2,u,rfl,_,hu,p⟩:=vk.out.at_ a3;obtain⟨v,hv,rfl⟩:=eO hu;unfold bv at p;have HV:=aa hv;clear hu hv ad;have YT:(k:Int)<2:=by omega
       by_cases T:v=y
       ·subst T;go_upto_region 13 with fail
        go_quiet (fail);go_wp2
        go_roundw
        case rel=>
         refine⟨k+1,by omega,by go_num,by have:=V.out;rw [this];go_num,aa (below_drewN iW _),aa (fun z hz=> ?_),aa (by have:=V.out;omega)⟩
         rcases Nat.lt_or_ge z (2*j+k) with h|h
         ·exact YS z h
         ·have a6:z=2*j+k:=by omega
          subst a6
          rw [oO.out,<-NJ.out,HV.out]
        case measure=>simp [intOf];omega
       ·have ac:((v.toNat:Int)==(y.toNat:Int))=false:=by
         rw [mi];intro e;exact T (UInt8.toNat_inj.1 (by omega))
        have a7:((v.toNat:Int) !=(y.toNat:Int))=true:=by rw [bne,ac];rfl
        have E:Hid (aH b=([],62,P)):=aa (by
         have f:=Qr.out (by rw [oO.out,<-NJ.out,HV.out];intro e;exact T (Option.some.inj e));rw [tF.out,if_pos (by rw [f];exact al.out),f,<-NJ.out])
        clear T;go_upto_region 13 with fail
        go_quiet (fail);go_wp2;go_ret3
        exact CE.out 62 P _ E (below_drewN K _)
     ·have YT:¬((k:Int)<2):=by omega
      have YU:k=2:=by omega
      subst YU;go_wp2
      go_roundw
      case rel=>
       refine⟨j+1,by omega,by have:=HI.out;rw [this];go_num,by have f:=V.out;have G:=HP.out;rw [f,G];go_num,aa (J.out.trans (iW.mono J.size)),aa (fun z hz=>YS z (by omega)),aa (by have f:=V.out;have G:=HP.out;omega)⟩
      case measure=>have f:=HI.out;simp [intOf];omega
   ·have Y:¬i<t:=fun h=>Z ((Ny j).2 (by have:=HI.out;omega));have aE:¬((i:Int)<(t:Int)):=by omega
    have a4:j=U:=by omega
    have E:Hid (stand b s l=s.length):=aa (vH b s l (fun k hk=>ao k (by have:=FI.out;omega)));have V:Hid (l+s.length=M):=aa (by have f:=FI.out;have G:=HP.out;omega);have K:Hid (Below w w wr):=aa (qP.out.trans (I.mono qP.size));clear a4 Z
    by_cases ap:M<bn
    ·have YV:(M:Int)<(bn:Int):=by omega
     have jm:Hid (aH b=([],63,M)):=aa (by rw [tF.out,if_neg (by rw [E.out];omega),if_pos (by rw [V.out,<-HN.out];exact ap),V]);go_wp2;go_ret3
     exact CE.out 63 M wr jm K
    ·have YV:¬((M:Int)<(bn:Int)):=by omega
     have jm:Hid (aH b=(r.ents,0,0)):=aa (by rw [tF.out,if_neg (by rw [E.out];omega),if_neg (by rw [V.out,<-HN.out];exact ap)]);go_wp2;go_ret3;rw [HR.out];unfold yw;rw [jm.out]
     exact⟨A,t,c,rfl,HA.1,HA.2.1,HA.2.2.below I,K⟩
 ·have mM:Hid (r.err≠0):=aa (by rw [<-gJ.out];exact e0);have YX:(er==0)=false:=by rw [mi];exact e0
  have tF:Hid (aH b=([],er,pl)):=aa (by rw [lC.out,if_pos mM.out,gJ.out,qo.out]);clear e0;go_wp2;go_ret3;rw [HR.out];unfold yw;rw [tF.out];exact⟨none,0,0,rfl,jO,by simp [maxLen],dh.nil _ _ _,qP⟩
end Go.Proofs.YtepgcjbhabnciaaGreat
