/- Part 7. -/
import Derived.Test.YtepgcjbhabnciaaGreatLp06
import Derived.Lib.AppendZerosOnto
import Derived.Deep.CutBlock
namespace Go.Proofs.YtepgcjbhabnciaaGreat
set_option maxRecDepth 100000
set_option maxHeartbeats 8000000
open Go.Proofs.Tryz Go.RowKit
open Go.Lib (compareBytes)
variable {p K q hv i a s m:Nat} {prev b t:List UInt8} {c:ay} {w:World} {ts:List (List UInt8)} {l:List aR} {e:aR}
def Gl (F:Nat->Prop) (q p:Nat) (c:ay) (w:World) (e:Ending) (w':World):Prop:=
 e= .returned (.tuple #[c.end_.1,(c.end_.2.1:Int)])/\ig w' F p c.end_.2.2.src/\ag (Cs q p w) w w'
theorem Vm {F:Nat->Prop} (s:Sit F q p w) (h:oU w F q p c hv) (Q:c.Ok K) (t:c.held=none) (hK:K<=1152921504606846976):
  Calls prog 165 #[.pointer (some ⟨q,0,none⟩)] w (Gl F q p c w):=by
 refine letter fun R z=> ?_;obtain⟨er,C⟩:=gF c.err;have N:=aa C;have z1:w.cell? ⟨q,1,none⟩=some (.int .i64 er):=(h.blk.cell 1).trans (by rw [C];rfl);have z6:w.cell? ⟨q,6,none⟩=some (.bool false):=(h.blk.cell 6).trans (by rw [t];rfl);have HH:=aa h;have HO:=aa Q;have B:=aa s;have X:=aa t
 by_cases y:er=0
 ·have i:Hid (c.err=0):=aa (by rw [<-N.out];exact y);obtain⟨L,hL⟩:=gF (c.loop [] 1);have HL:=aa hL;have r:({c with held:=none}:ay)=c:=by cases c;simp only at t;subst t;rfl
  have HT:Hid (∀k,Calls prog 134 #[q,.int .i64 (1:Nat)] (w.drewN k) (qY F q p hv 1 c (w.drewN k))):=aa (fun k=>yL 1 (h.chg ((ag.refl Nil w).drewN k) (fun h=>h) (fun h=>h) (fun _ _ h=>h)) (Q.fine i) s.nFp s.pB s.ne s.nFq s.lt hK (by omega) (by omega) Q.gives (by have:=Q.sum;omega))
  have J:Hid (∀k e w',qY F q p hv 1 c (w.drewN k) e w'->∃v,e= .returned (.tuple #[v,(L.2.1:Int)])/\(L.2.1=0->Ow w' w v L.1)/\oU w' F q p L.2.2 hv/\ag (Cs q p w) w w'):=aa (by
   intro k e w' h;obtain⟨v,O,P,E,G⟩:=h;rw [r,X.out,show(none:Option UInt8).toList= [] from rfl,<-HL.out] at O P E;exact⟨v,O,P,E,((ag.refl (Cs q p w) w).drewN k).trans G (fun _ _ h=>h)⟩)
  have Y:Hid (L.2.1=0->L.1.length=1):=aa (fun j=>by
   rw [hL] at j|-;exact((ay.loop_out (K:=K) 1 _ c [] jO (HO.fine i) (by simp)).1 j).1)
  have H:Hid (c.end_=if L.2.1=0 then(false,0,{L.2.2 with held:=L.1.head?}) else if L.2.1=41 then(true,0,L.2.2) else(false,L.2.1,{L.2.2 with err:=L.2.1})):=aa (by
   unfold ay.end_;rw [if_neg (fun h=>by rcases h with h|h;exact h i.out;rw [X.out] at h;cases h),hL])
  clear h Q s t C hL r;subst y;go_enter func165,ntmps165;go_upto_region 4 with(go_at_call 134;go_loud (refine(HT 0).mono ?_);rintro e w2 Z;obtain⟨v,rfl,n,m,l⟩:=J.out 0 _ _ Z;clear Z;have iG:=aa n;have a:=aa m;have M:=aa l;clear n m l)
  obtain⟨D,g⟩:=gF L.2.1;rw [<-g] at iG Y H|-;have ab:=aa g;clear g z1 z6
  by_cases j:D=0
  ·subst j;obtain⟨A,nn,cc,rfl,O,P,E,G⟩:=(iG.out rfl).sb;have T:=Y.out rfl;obtain⟨b,o,u,rfl,_,hu,d⟩:=G.at_ (k:=0) (by omega);obtain⟨x,hx,rfl⟩:=eO hu;have al:0<nn:=by omega
   have ac:(0:Int)<(nn:Int):=by omega
   unfold bv at d;rw [Nat.add_zero] at d;have z5:w2.cell? ⟨q,5,none⟩=some (.int .u8 hv):=a.out.blk.cell 5;have z6:w2.cell? ⟨q,6,none⟩=some (.bool L.2.2.held.isSome):=a.out.blk.cell 6;have am:=a.out.blk.frozen 5;have an:=a.out.blk.frozen 6;clear hu hx G T E;go_wp2;rw [z.out];unfold Gl;rw [H.out,if_pos trivial];have f:ag (fun b=>b=q) w2 ((w2.setCell ⟨q,5,none⟩ (.int .u8 x.toNat)).setCell ⟨q,6,none⟩ true):=((ag.refl (fun b=>b=q) w2).setCell (p:=⟨q,5,none⟩) (fun _=>rfl) _).setCell (p:=⟨q,6,none⟩) (fun _=>rfl) _
   exact⟨rfl,a.src.chg f (fun e=>B.ne e.symm) (fun b S e=>B.nFq (e▸S)),M.out.trans (f.mono (fun b _ e=> .inl e)) (fun _ _ h=>h)⟩
  ·have V:=aa j
   by_cases W:D=41
   ·subst W;go_wp2;rw [z.out];unfold Gl;rw [H.out,if_neg V.out,if_pos trivial]
    exact⟨rfl,a.src,M⟩
   ·have I:=aa W;have U:1<(#[Value.int .i64 L.2.2.at_,(L.2.2.err:Int),(L.2.2.idle:Int),.iface 29 p,.int .i64 9223372036854775807,.int .u8 hv,L.2.2.held.isSome]).size:=by simp
    go_wp2_with (go_at_call 133;go_loud (refine(yK D a.blk U).mono ?_);rintro e w3 ⟨rfl,rfl⟩)
    rw [z.out];unfold Gl;rw [H.out,if_neg V.out,if_neg I.out];have f:=(ag.refl (fun b=>b=q) w2).setCell (p:=⟨q,1,none⟩) (fun _=>rfl) (D:Int)
    exact⟨rfl,a.src.chg f (fun e=>B.ne e.symm) (fun b S e=>B.nFq (e▸S)),M.out.trans (f.mono (fun b _ e=> .inl e)) (fun _ _ h=>h)⟩
 ·have i:Hid (c.err≠0):=aa (by rw [<-N.out];exact y);have ae:(er !=0)=true:=by rw [bne_iff_ne];exact y
  have ad:(er==0)=false:=by rw [mi];exact y
  clear h Q s t C;go_enter func165,ntmps165;go_wp2;go_quiet (fail)
  go_wp2;rw [z.out]
  unfold Gl;have hn:c.end_=(false,er,c):=by unfold ay.end_;rw [if_pos (.inl i.out),N.out]
  rw [hn];have hc:ag Nil w (w.drewN nq):=(ag.refl Nil w).drewN _;exact⟨rfl,HH.src.chg hc (fun h=>h) (fun _ _ h=>h),hc.mono (fun _ _ h=>h.elim)⟩
theorem NP (p:Nat) (w:World):Calls prog 51 #[.iface 29 p,.int .i64 9223372036854775807] w fun e w'=>e= .returned w/\ak w' w 188 #[.int .i64 0,.int .i64 0,.int .i64 0,.iface 29 p,.int .i64 9223372036854775807,.int .u8 0,false]/\Below w w w':=by
 go_enter func51,ntmps51
 go_wp2;go_ret
 exact⟨rfl,ak.new _ _ _,gV⟩
section
def Bt (w:World) (F:Nat->Prop) (A:Option Addr) (n c:Nat) (bs:List UInt8):Prop:=n<=c/\c<=maxLen/\Hid (n=bs.length)/\Rd w F 1 A n (aI bs)
def Tx (w:World) (F:Nat->Prop) (A:Option Addr) (n c:Nat) (ts:List (List UInt8)):Prop:=
 n<=c/\c<=maxLen/\Hid (n=ts.length)/\∃vs,Rd w F 1 A n vs/\∀(i:Nat) (t:List UInt8),ts[i]? =some t->∃v,vs[i]? =some v/\SB w F v t
def It (w:World) (F:Nat->Prop) (A:Option Addr) (n c:Nat) (ks:List Int):Prop:=n<=c/\c<=maxLen/\Hid (n=ks.length)/\Rd w F 1 A n (ks.map (Value.int .i64))
section
variable {S F G:Nat->Prop} {w w':World} {A:Option Addr} {n c:Nat} {bs:List UInt8} {ts:List (List UInt8)} {ks:List Int}
theorem Bt.nil (w:World) (F:Nat->Prop):Bt w F none 0 0 []:=⟨jO,by simp [maxLen],rfl,Rd.none_ _ _ _ _⟩
theorem Tx.nil (w:World) (F:Nat->Prop):Tx w F none 0 0 []:=⟨jO,by simp [maxLen],rfl,[],Rd.none_ _ _ _ _,fun i t h=>by simp at h⟩
theorem It.nil (w:World) (F:Nat->Prop):It w F none 0 0 []:=⟨jO,by simp [maxLen],rfl,Rd.none_ _ _ _ _⟩
theorem Bt.sb (h:Bt w F A n c bs):SB w F (.slice A n c) bs:=⟨A,n,c,rfl,h.1,h.2.1,h.2.2.1,h.2.2.2⟩
theorem SB.bt (h:SB w F (.slice A n c) bs):Bt w F A n c bs:=by
 obtain⟨k,m,l,e,f,g,i,j⟩:=h;injection e with a b d;subst a;subst b;subst d;exact⟨f,g,i,j⟩
theorem Bt.len (h:Bt w F A n c bs):n=bs.length:=h.2.2.1
theorem Tx.len (h:Tx w F A n c ts):n=ts.length:=h.2.2.1
theorem It.len (h:It w F A n c ks):n=ks.length:=h.2.2.1
theorem Bt.weak (h:Bt w F A n c bs) (K:∀b,F b->G b):Bt w G A n c bs:=⟨h.1,h.2.1,h.2.2.1,h.2.2.2.weak K⟩
theorem Bt.chg (h:Bt w F A n c bs) (hc:ag S w w') (Q:∀b,F b->¬S b):Bt w' F A n c bs:=⟨h.1,h.2.1,h.2.2.1,h.2.2.2.chg hc Q⟩
theorem Bt.below (h:Bt w F A n c bs) (o:Below w w w'):Bt w' F A n c bs:=⟨h.1,h.2.1,h.2.2.1,h.2.2.2.below o⟩
theorem Tx.weak (h:Tx w F A n c ts) (K:∀b,F b->G b):Tx w G A n c ts:=
 let⟨d,e,f,vs,g,j⟩:=h;⟨d,e,f,vs,g.weak K,fun i t k=>let⟨v,a,b⟩:=j i t k;⟨v,a,b.weak K⟩⟩
theorem Tx.chg (h:Tx w F A n c ts) (hc:ag S w w') (Q:∀b,F b->¬S b):Tx w' F A n c ts:=
 let⟨d,e,f,vs,g,j⟩:=h;⟨d,e,f,vs,g.chg hc Q,fun i t k=>let⟨v,a,b⟩:=j i t k;⟨v,a,b.chg hc Q⟩⟩
theorem Tx.below (h:Tx w F A n c ts) (o:Below w w w'):Tx w' F A n c ts:=h.chg (ag.of_below (S:=Nil) o) (fun _ _ a=>a)
theorem It.weak (h:It w F A n c ks) (K:∀b,F b->G b):It w G A n c ks:=⟨h.1,h.2.1,h.2.2.1,h.2.2.2.weak K⟩
theorem It.chg (h:It w F A n c ks) (hc:ag S w w') (Q:∀b,F b->¬S b):It w' F A n c ks:=⟨h.1,h.2.1,h.2.2.1,h.2.2.2.chg hc Q⟩
theorem It.below (h:It w F A n c ks) (o:Below w w w'):It w' F A n c ks:=⟨h.1,h.2.1,h.2.2.1,h.2.2.2.below o⟩
theorem Tx.at_ {k:Nat} (h:Tx w F A n c ts) (p:k<n):∃b o e a d t,A=some ⟨b,o,none⟩/\F b/\ts[k]? =some t/\w.cell? ⟨b,o+k,none⟩=some (.slice e a d)/\a<=d/\d<=maxLen/\Hid (a=t.length)/\Rd w F 1 e a (aI t):=by
 obtain⟨x,y,i,vs,j,l⟩:=h;have hl:k<ts.length:=by have:n=ts.length:=i;omega
 obtain⟨b,o,u,hA,m,g,c1⟩:=j.at_ p;obtain⟨v,f,s⟩:=l k ts[k] (mP hl);rw [g] at f;injection f with f;subst f;obtain⟨e,a,d,rfl,k1,k2,q,r⟩:=s;exact⟨b,o,e,a,d,ts[k],hA,m,mP hl,c1,k1,k2,q,r⟩
theorem It.at_ {k:Nat} (h:It w F A n c ks) (f:k<n):∃b o x,A=some ⟨b,o,none⟩/\F b/\ks[k]? =some x/\w.cell? ⟨b,o+k,none⟩=some (.int .i64 x):=by
 obtain⟨b,o,u,hA,e,a,c1⟩:=h.2.2.2.at_ f;rw [List.getElem?_map,Option.map_eq_some_iff] at a;obtain⟨x,d,rfl⟩:=a;exact⟨b,o,x,hA,e,d,c1⟩
theorem GV (ks:List Int):∀u∈ks.map (Value.int .i64),u.oneCell'=true:=by
 intro u a;rw [List.mem_map] at a;obtain⟨c,_,rfl⟩:=a;rfl
end
def Dh (w:World) (g hi:Nat) (A:Option Addr) (n c:Nat) (ts:List (List UInt8)):Prop:=
 n<=c/\c<=maxLen/\Hid (n=ts.length)/\A=some ⟨g,0,none⟩/\g<hi/\∃vs,Rd w (fG (jX g) w) 1 A n vs/\∀(i:Nat) (t:List UInt8),ts[i]? =some t->∃v,vs[i]? =some v/\SB w (fG (fun b=>g<b/\b<hi) w) v t
section
variable {S:Nat->Prop} {w w':World} {A:Option Addr} {n c g hi:Nat} {bs:List UInt8} {ts:List (List UInt8)} {ks:List Int}
theorem Dh.chg (h:Dh w g hi A n c ts) (hc:ag S w w') (e:∀b,g<=b->b<hi->¬S b):Dh w' g hi A n c ts:=
 let⟨f,j,k,l,m,vs,o,p⟩:=h
 ⟨f,j,k,l,m,vs,o.soft_chg Nat.zero_lt_one hc (fun b d=>by have d:b=g:=d;exact e b (by omega) (by omega)),fun i t q=>let⟨v,a,b⟩:=p i t q;⟨v,a,b.soft_chg hc (fun b d=>e b (by omega) d.2)⟩⟩
theorem Dh.below (h:Dh w g hi A n c ts) (o:Below w w w'):Dh w' g hi A n c ts:=h.chg (ag.of_below (S:=Nil) o) (fun _ _ _ a=>a)
theorem Dh.tx {B:Nat} (h:Dh w g hi A n c ts) (o:B<=g):Tx w (From B) A n c ts:=
 let⟨e,f,j,_,_,vs,k,l⟩:=h
 ⟨e,f,j,vs,k.weak (fun b d=>by have d:b=g:=d.1;show B<=b;omega),fun i t m=>let⟨v,a,b⟩:=l i t m;⟨v,a,b.weak (fun b d=>by have d:=d.1.1;show B<=b;omega)⟩⟩
theorem Bt.soft_chg {F:Nat->Prop} (h:Bt w (fG F w) A n c bs) (hc:ag S w w') (Q:∀b,F b->¬S b):Bt w' (fG F w') A n c bs:=⟨h.1,h.2.1,h.2.2.1,h.2.2.2.soft_chg Nat.zero_lt_one hc Q⟩
theorem It.soft_chg {F:Nat->Prop} (h:It w (fG F w) A n c ks) (hc:ag S w w') (Q:∀b,F b->¬S b):It w' (fG F w') A n c ks:=⟨h.1,h.2.1,h.2.2.1,h.2.2.2.soft_chg Nat.zero_lt_one hc Q⟩
theorem Bt.soft_below {F:Nat->Prop} (h:Bt w (fG F w) A n c bs) (o:Below w w w'):Bt w' (fG F w') A n c bs:=h.soft_chg (ag.of_below (S:=Nil) o) (fun _ _ a=>a)
end
structure Nd where
 lev:Int
 high:List UInt8
 right:Int
 keys:List (List UInt8)
 vals:List (List UInt8)
 kids:List Int
def Nd.zero:Nd:=⟨0,[],0,[],[],[]⟩
section
variable {S F G:Nat->Prop} {w w':World} {vs:List Value} {lev right:Int} {high:List UInt8} {keys vals:List (List UInt8)} {kids:List Int}
end
end
section
section
variable {P:Program} (w:World)
end
theorem Qg (w:World) (e:TypeId) (size c:Nat) (cs:Array Value) (a:cs.size=c*size) (hc:c<=maxLen):(w.alloc (.cells cs e)).ownsRow w e size (.slice (some ⟨w,0,none⟩) 0 c) 0 []:=
 ⟨by simp,.inr ⟨w,c,cs,rfl,jO,heap_alloc_new w _,Nat.zero_le _,hc,a,by simp⟩⟩
end
def y8 (w:World) (e:Ending) (w':World):Prop:=∃v,e= .returned v/\Ow w' w v []/\Below w w w'
theorem QI (n:Nat) (w:World) (hn:n<=1152921504606):Calls prog 192 #[(),(n:Int)] w (y8 w):=by
 obtain⟨l,g,h,i,c⟩:=info_parts bD;refine letter fun R j=> ?_
 by_cases p:n=0
 ·subst p;go_enter func192,ntmps192;go_wp2;rw [j.out]
  exact⟨_,rfl,Ow.nil _ _,mh⟩
 ·have t:0<n:=by omega
  have v:¬((n:Int)<0):=by omega
  have x:(n:Int)>0:=by omega
  have b:=fun u=>Lib.run_append_grow_zeros (P:=prog) w 24 3 u 5 l _ .i64 .i64 underlying24 underlying3 g h none 0 0 [] (run_firstCells_none w.drew l.size 0 0 0) n t (by rw [i];omega) (by omega) (by omega) (by rw [c];omega) (growslice_fits (by omega) (by rw [c];omega));have d:Hid (0<=grownCap w (0+n) 0 5/\n<=grownCap w (0+n) 0 5/\grownCap w (0+n) 0 5<=maxLen):=aa ⟨Nat.zero_le _,by have:=grownCap_ge w (0+n) 0 5;omega,grownCap_le_maxLen w _ _ _ (by unfold maxLen;omega)⟩;obtain⟨G,k⟩:=gF (grownCap w (0+n) 0 5);rw [<-k] at b d;have s:n<=G:=d.out.2.1;have r:G<=9223372036854775807:=by have:=d.out.2.2;unfold maxLen at this;exact this
  obtain⟨cs,a⟩:∃cs:Array Value,cs=(([]:List Value).toArray++Builtin.zeroCells (Value.int IntKind.u8 0).cells n++Builtin.zeroCells (Value.int IntKind.u8 0).cells (G-(0+n))):=⟨_,rfl⟩
  have o:Hid (cs.size=G*1):=aa (by
   rw [a];have q:∀m,(Builtin.zeroCells (Value.int IntKind.u8 0).cells m).size=m:=fun m=>by rw [size_zeroCells];simp [Value.cells]
   simp only [Array.size_append,q];simp;omega)
  have f:=b 24;rw [<-a,Nat.zero_add] at f;have e:=aa f;clear b k a f;go_enter func192,ntmps192;go_wp2_with (at_builtin;go_loud (refine Lib.wpList_append_run _ rfl _ _ _ _ rfl _ _ rfl rfl _ _ e ?_))
  rw [j.out];exact⟨_,rfl,Qg w.drew 5 1 G cs o d.2.2,(mh.drew).alloc jO _⟩
theorem BV (h:ts[i]? =some t):(ts.take (i+1)).flatten=(ts.take i).flatten++t:=by
 rw [List.take_add_one,h];simp
theorem LV (ts:List (List UInt8)) (i:Nat):(ts.take i).flatten.length<=ts.flatten.length:=by
 conv=>rhs;rw [<-List.take_append_drop i ts,List.flatten_append,mq]
 omega
theorem yB (F:Nat->Prop) (A:Option Addr) (n c:Nat) (h:Tx w F A n c ts) (a:∀b,F b->b<w) (hn:n<=1152921504606) (hl:ts.flatten.length<=1152921504606):
  Calls prog 170 #[.slice A n c] w (fun e w'=>∃v,e= .returned v/\Ow w' w v ts.flatten/\Below w w w'):=by
 obtain⟨i0,P,X,Y,Z⟩:=info_parts bD;refine letter fun R HR=> ?_;have HH:=aa h;have HF:=aa a;have LW:Hid (n=ts.length):=h.len;have K:=aa hl;clear h a hl;go_enter func170,ntmps170;go_wp2
 go_loop [3,11] (fun s i=>∃k:Nat,k<=n/\i= (k:Int)/\s= .int .i64 ((ts.take k).flatten.length:Nat)) (fun _ i=>n-(intOf i).toNat)
 case atStart=>exact⟨0,Nat.zero_le _,rfl,by simp⟩
 case round=>
  obtain⟨k,hk,rfl,rfl⟩:=hrel
  by_cases V:k<n
  ·obtain⟨b,o,H,r,M,t,rfl,_,G,B,T,U,l,q⟩:=HH.out.at_ V;have u:Hid ((ts.take (k+1)).flatten.length=(ts.take k).flatten.length+r):=aa (by rw [BV G,mq,l.out]);have f:=LV ts (k+1);have O:=K.out;rw [u.out] at f;obtain⟨S,z⟩:=gF ((ts.take k).flatten.length);rw [<-z] at f u|-;have HS:=aa z;have hs:S+r<=1152921504606:=by omega
   have al:¬((S:Int)+(r:Int)<0):=by omega
   clear f O z G l q;go_wp2
   go_round
   case rel=>exact⟨k+1,by omega,by go_num,by rw [u.out];go_num⟩
   case measure=>simp [intOf];omega
  ·have E:k=n:=by omega
   have HT:Hid ((ts.take k).flatten=ts.flatten):=aa (by rw [E,LW.out,List.take_length]);obtain⟨S,z⟩:=gF ((ts.take k).flatten.length);rw [<-z];have N:S<=1152921504606:=by rw [z,HT.out];exact K
   have hd:decide ((k:Int)<(n:Int))=false:=decide_eq_false (by omega);have ad:decide (k<n)=false:=decide_eq_false (by omega);have HG:=aa (QI S w N);clear E z;go_wp2_with (go_at_call 192;go_loud (refine HG.mono ?_);rintro e w1 ⟨v0,rfl,hO,hB⟩;have HO:=aa hO;have HB:=aa hB;clear hO hB)
   go_loopw [6,27] (fun v i wz=>∃j:Nat,j<=n/\i= (j:Int)/\Ow wz w v (ts.take j).flatten/\Below w w wz) (fun _ i _=>n-(intOf i).toNat)
   case atStart=>exact⟨0,Nat.zero_le _,rfl,HO,HB⟩
   case round=>
    obtain⟨j,hj,rfl,y,x⟩:=hrel;have I:=aa y;have p:=aa x;obtain⟨A2,c2,W,ab,ac⟩:=ax y;subst W;have xu:=aa x.size;clear y x
    by_cases Q:j<n
    ·obtain⟨b,o,H,r,M,t,rfl,FX,G,d,T,U,l,q⟩:=HH.out.at_ Q;have B:wr.cell? ⟨b,o+j,none⟩=some (.slice H r M):=aj p d;have tL:Hid (Rd wr F 1 H r (aI t)):=aa (q.below p);have f:=LV ts (j+1);have O:=K.out;have u:Hid ((ts.take (j+1)).flatten=(ts.take j).flatten++t):=aa (BV G);rw [u.out,mq] at f;have J:Hid ((ts.take j).flatten.length+r<=1152921504606):=aa (by have:=l.out;omega);obtain⟨xs,C⟩:=gF ((ts.take j).flatten);rw [<-C] at I u J|-;have FY:=aa C;clear f O C G d q;go_wp2_with (at_builtin;go_loud (refine af _ rfl (.tmp 31) (.tmp 32) _ rfl w 5 i0 _ 1 1 underlying24 P X Y Z rfl (by omega) _ _ (aI xs) rfl I F H r M (aI t) rfl tL (bJ _) (by have:=J.out;simp only [maxLen];omega) (by have:=J.out;omega) xu ?_);intro v6 w6 m eX dF;have lX:=aa m;have mE:=aa eX;clear m eX dF)
     go_roundw
     case rel=>
      refine⟨j+1,by omega,by go_num,?_,p.grown mE xu (fun g hg=>(ah I g hg).1)⟩;rw [u.out];have h1:=lX.out
      unfold Ow;rw [mq,<-l.out];simpa [aI] using h1
     case measure=>simp [intOf];omega
    ·have D:j=n:=by omega
     have ae:decide ((j:Int)<(n:Int))=false:=decide_eq_false (by omega);have L:Hid ((ts.take j).flatten=ts.flatten):=aa (by rw [D,LW.out,List.take_length]);clear D;go_wp2;rw [HR.out];exact⟨_,rfl,by rw [<-L.out];exact I,p⟩
structure sP where
 key:List UInt8
 val:List UInt8
 next:Nat
 err:Int
def bZ (prev b:List UInt8) (at_ s m l p:Nat):sP:=
 if prev.length<s then⟨[],[],at_,52⟩
 else if 64<m\/256<l\/s+m=0\/64<s+m then⟨[],[],at_,3⟩
 else if b.length-p<m+l then⟨[],[],b.length,53⟩
 else if comm prev (prev.take s++(b.drop p).take m)≠s then⟨[],[],at_,52⟩
 else if 0<prev.length/\0<=compareBytes prev (prev.take s++(b.drop p).take m) then⟨[],[],at_,51⟩
 else⟨prev.take s++(b.drop p).take m,(b.drop (p+m)).take l,p+m+l,0⟩
def pread (prev b:List UInt8) (at_:Nat):sP:=
 if(ai b at_).2.2≠0 then⟨[],[],(ai b at_).2.1,(ai b at_).2.2⟩
 else if(ai b (ai b at_).2.1).2.2≠0 then⟨[],[],(ai b (ai b at_).2.1).2.1,(ai b (ai b at_).2.1).2.2⟩
 else if(ai b (ai b (ai b at_).2.1).2.1).2.2≠0 then⟨[],[],(ai b (ai b (ai b at_).2.1).2.1).2.1,(ai b (ai b (ai b at_).2.1).2.1).2.2⟩
 else bZ prev b at_ (ai b at_).1 (ai b (ai b at_).2.1).1 (ai b (ai b (ai b at_).2.1).2.1).1 (ai b (ai b (ai b at_).2.1).2.1).2.1
def aD (l:List aR):List UInt8:=(l.getLast?.getD ([],[])).1
def aS (l:List aR):List UInt8:=if l.length%8=0 then [] else aD l
structure M6 where
 ents:List aR
 ats:List Nat
 at_:Nat
 err:Int
 place:Nat
def bO (b:List UInt8):Nat->List aR->List Nat->Nat->M6
 |0,l,ats,p=>⟨l,ats,p,0,0⟩
 |m+1,l,ats,p=>
  if(pread (aS l) b p).err≠0 then⟨l,ats,p,(pread (aS l) b p).err,(pread (aS l) b p).next⟩
  else if 0<l.length/\0<=compareBytes (aD l) (pread (aS l) b p).key then⟨l,ats,p,51,p⟩
  else bO b m (l++ [((pread (aS l) b p).key,(pread (aS l) b p).val)]) (ats++ [p]) (pread (aS l) b p).next
def eighth:List Nat->List Nat
 | []=> []
 |a::r=>a::eighth (r.drop 7)
termination_by l=>l.length
decreasing_by simp;omega
def two (a:Nat):List UInt8:= [UInt8.ofNat a,UInt8.ofNat (a/256)]
def stand (b:List UInt8):List UInt8->Nat->Nat
 | [],_=>0
 |c::r,p=>if b[p]? =some c then stand b r (p+1)+1 else 0
def aH (b:List UInt8):List aR×Int×Nat:=
 if(ai b 0).2.2≠0 then([],(ai b 0).2.2,(ai b 0).2.1)
 else if(ai b 0).1=0\/64<(ai b 0).1 then([],61,0)
 else if(bO b (ai b 0).1 [] [] (ai b 0).2.1).err≠0 then([],(bO b (ai b 0).1 [] [] (ai b 0).2.1).err,(bO b (ai b 0).1 [] [] (ai b 0).2.1).place)
 else if stand b ((eighth (bO b (ai b 0).1 [] [] (ai b 0).2.1).ats).flatMap two) (bO b (ai b 0).1 [] [] (ai b 0).2.1).at_<((eighth (bO b (ai b 0).1 [] [] (ai b 0).2.1).ats).flatMap two).length
  then([],62,(bO b (ai b 0).1 [] [] (ai b 0).2.1).at_+stand b ((eighth (bO b (ai b 0).1 [] [] (ai b 0).2.1).ats).flatMap two) (bO b (ai b 0).1 [] [] (ai b 0).2.1).at_)
 else if(bO b (ai b 0).1 [] [] (ai b 0).2.1).at_+((eighth (bO b (ai b 0).1 [] [] (ai b 0).2.1).ats).flatMap two).length<b.length
  then([],63,(bO b (ai b 0).1 [] [] (ai b 0).2.1).at_+((eighth (bO b (ai b 0).1 [] [] (ai b 0).2.1).ats).flatMap two).length)
 else((bO b (ai b 0).1 [] [] (ai b 0).2.1).ents,0,0)
structure Row where
 last:List UInt8
 at_:Nat
 len:Nat
 ents:Nat
def Row.bytes (x:Row):List UInt8:=aP x.last.length++x.last++aP x.at_++aP x.len++aP x.ents
def bK (l:List Row):Nat:=(l.map Row.ents).foldl (·+·) 0
def aJ (l:List Row):List UInt8:=aP l.length++l.flatMap Row.bytes++aP (bK l)
def dD (l:List Row):Nat:=match l.getLast? with
 |some x=>x.at_+x.len
 |none=>8
structure iy (l:List Row):Prop where
 many:l.length<=8388608
 key:∀x∈l,1<=x.last.length/\x.last.length<=64
 rise:∀(i:Nat) (x y:Row),l[i]? =some x->l[i+1]? =some y->compareBytes x.last y.last<0
 place:∀(i:Nat) (x:Row),l[i]? =some x->x.at_=dD (l.take i)
 len:∀x∈l,1<=x.len/\x.len<=131072
 count:∀x∈l,1<=x.ents/\x.ents<=64
structure dM where
 cur:ay
 st:Nat
 rows:List Row
 err:Int
 bad:Nat
def dM.fail (r:dM) (c:ay) (e:Int) (p:Nat):dM:={r with cur:=c,st:=2,err:=e,bad:=p}
def gD:List UInt8:= [99,111,112,112,105,99,101,1]
def dV (n:Nat):List UInt8:=(List.range 8).map (fun i=>UInt8.ofNat (n/256^i))++ [101,110,100,46]
structure Body where
 body:List UInt8
 err:Int
 place:Nat
 cur:ay
def ay.body (c:ay) (n:Nat):Body:=
 if(c.bytes n).2.1≠0 then⟨[],(c.bytes n).2.1,c.at_,(c.bytes n).2.2⟩
 else if((c.bytes n).2.2.bytes 4).2.1≠0 then⟨[],((c.bytes n).2.2.bytes 4).2.1,(c.bytes n).2.2.at_,((c.bytes n).2.2.bytes 4).2.2⟩
 else if((c.bytes n).2.2.bytes 4).1≠four (bg (c.bytes n).1) then⟨[],22,(c.bytes n).2.2.at_,((c.bytes n).2.2.bytes 4).2.2⟩
 else⟨(c.bytes n).1,0,0,((c.bytes n).2.2.bytes 4).2.2⟩
def dM.block (r:dM) (c:ay) (at_:Nat):Option (List aR)×dM:=
 if r.rows.length=8388608 then(none,r.fail c 71 at_)
 else if c.number.2.1≠0 then(none,r.fail c.number.2.2 c.number.2.1 c.at_)
 else if c.number.1<1\/65535<c.number.1 then(none,r.fail c.number.2.2 83 c.at_)
 else if(c.number.2.2.body c.number.1).err≠0 then(none,r.fail (c.number.2.2.body c.number.1).cur (c.number.2.2.body c.number.1).err (c.number.2.2.body c.number.1).place)
 else if(aH (c.number.2.2.body c.number.1).body).2.1≠0 then(none,r.fail (c.number.2.2.body c.number.1).cur (aH (c.number.2.2.body c.number.1).body).2.1 (c.number.2.2.at_+(aH (c.number.2.2.body c.number.1).body).2.2))
 else if 0<r.rows.length/\0<=compareBytes (r.rows.getLast?.getD ⟨[],0,0,0⟩).last (((aH (c.number.2.2.body c.number.1).body).1.headD ([],[])).1) then(none,r.fail (c.number.2.2.body c.number.1).cur 51 c.number.2.2.at_)
 else(some (aH (c.number.2.2.body c.number.1).body).1,{r with cur:=(c.number.2.2.body c.number.1).cur,rows:=r.rows++ [⟨aD (aH (c.number.2.2.body c.number.1).body).1,at_,(c.number.2.2.body c.number.1).cur.at_-at_,(aH (c.number.2.2.body c.number.1).body).1.length⟩]})
def dM.footR (r:dM) (c:ay) (at_:Nat):dM:=
 if c.number.2.1≠0 then r.fail c.number.2.2 c.number.2.1 c.at_
 else if c.number.1≠(aJ r.rows).length then r.fail c.number.2.2 84 c.at_
 else if(c.number.2.2.body (aJ r.rows).length).err≠0 then r.fail (c.number.2.2.body (aJ r.rows).length).cur (c.number.2.2.body (aJ r.rows).length).err (c.number.2.2.body (aJ r.rows).length).place
 else if comm (c.number.2.2.body (aJ r.rows).length).body (aJ r.rows)<(aJ r.rows).length then r.fail (c.number.2.2.body (aJ r.rows).length).cur 84 (c.number.2.2.at_+comm (c.number.2.2.body (aJ r.rows).length).body (aJ r.rows))
 else if((c.number.2.2.body (aJ r.rows).length).cur.bytes 12).2.1≠0 then r.fail ((c.number.2.2.body (aJ r.rows).length).cur.bytes 12).2.2 ((c.number.2.2.body (aJ r.rows).length).cur.bytes 12).2.1 (c.number.2.2.body (aJ r.rows).length).cur.at_
 else if((c.number.2.2.body (aJ r.rows).length).cur.bytes 12).1≠dV at_ then r.fail ((c.number.2.2.body (aJ r.rows).length).cur.bytes 12).2.2 85 (c.number.2.2.body (aJ r.rows).length).cur.at_
 else if((c.number.2.2.body (aJ r.rows).length).cur.bytes 12).2.2.end_.2.1≠0 then r.fail ((c.number.2.2.body (aJ r.rows).length).cur.bytes 12).2.2.end_.2.2 ((c.number.2.2.body (aJ r.rows).length).cur.bytes 12).2.2.end_.2.1 ((c.number.2.2.body (aJ r.rows).length).cur.bytes 12).2.2.at_
 else if((c.number.2.2.body (aJ r.rows).length).cur.bytes 12).2.2.end_.1=false then r.fail ((c.number.2.2.body (aJ r.rows).length).cur.bytes 12).2.2.end_.2.2 86 ((c.number.2.2.body (aJ r.rows).length).cur.bytes 12).2.2.at_
 else{r with cur:=((c.number.2.2.body (aJ r.rows).length).cur.bytes 12).2.2.end_.2.2,st:=2}
def dM.frame (r:dM):Option (List aR)×dM:=
 if(r.cur.bytes 1).2.1≠0 then(none,r.fail (r.cur.bytes 1).2.2 (r.cur.bytes 1).2.1 r.cur.at_)
 else if((r.cur.bytes 1).1.headD 0)=70 then(none,r.footR (r.cur.bytes 1).2.2 r.cur.at_)
 else if((r.cur.bytes 1).1.headD 0)≠66 then(none,r.fail (r.cur.bytes 1).2.2 82 r.cur.at_)
 else r.block (r.cur.bytes 1).2.2 r.cur.at_
def dM.next (r:dM):Option (List aR)×dM:=
 if r.st=2 then(none,r)
 else if r.st=1 then r.frame
 else if(r.cur.bytes 8).2.1≠0 then(none,r.fail (r.cur.bytes 8).2.2 (r.cur.bytes 8).2.1 0)
 else if(r.cur.bytes 8).1≠gD then(none,r.fail (r.cur.bytes 8).2.2 81 0)
 else({r with cur:=(r.cur.bytes 8).2.2,st:=1}:dM).frame
theorem Pb {l:Nat} (k:p<=b.length) (h:(bZ prev b a s m l p).err=0):
  (bZ prev b a s m l p).key=prev.take s++(b.drop p).take m/\(bZ prev b a s m l p).val=(b.drop (p+m)).take l/\(bZ prev b a s m l p).next=p+m+l/\s<=prev.length/\m<=64/\l<=256/\1<=s+m/\s+m<=64/\p+m+l<=b.length/\(0<prev.length->compareBytes prev (prev.take s++(b.drop p).take m)<0):=by
 unfold bZ at h|-
 split at h
 ·exact absurd h (by simp)
 ·rename_i f
  split at h
  ·exact absurd h (by simp)
  ·rename_i g
   split at h
   ·exact absurd h (by simp)
   ·rename_i i
    split at h
    ·exact absurd h (by simp)
    ·rename_i j
     split at h
     ·exact absurd h (by simp)
     ·rename_i d;rw [if_neg f,if_neg g,if_neg i,if_neg j,if_neg d]
      exact⟨rfl,rfl,rfl,by omega,by omega,by omega,by omega,by omega,by omega,fun e=>by
       rcases Int.lt_or_le (compareBytes prev (prev.take s++(b.drop p).take m)) 0 with c|c
       ·exact c
       ·exact absurd ⟨e,c⟩ d⟩
theorem Le (h:(pread prev b p).err=0):
  (ai b p).2.2=0/\(ai b (ai b p).2.1).2.2=0/\(ai b (ai b (ai b p).2.1).2.1).2.2=0/\pread prev b p=bZ prev b p (ai b p).1 (ai b (ai b p).2.1).1 (ai b (ai b (ai b p).2.1).2.1).1 (ai b (ai b (ai b p).2.1).2.1).2.1:=by
 unfold pread at h|-
 split at h
 ·rename_i a;exact absurd h a
 ·rename_i a
  split at h
  ·rename_i c;exact absurd h c
  ·rename_i c
   split at h
   ·rename_i d;exact absurd h d
   ·rename_i d;rw [if_neg a,if_neg c,if_neg d];exact⟨Decidable.byContradiction a,Decidable.byContradiction c,Decidable.byContradiction d,rfl⟩
structure xQ (prev b:List UInt8) (r:sP):Prop where
 k1:1<=r.key.length
 k2:r.key.length<=64
 v:r.val.length<=256
 next:r.next<=b.length
 lt:0<prev.length->compareBytes prev r.key<0
theorem kY (j:p<=b.length) (h:(pread prev b p).err=0):xQ prev b (pread prev b p):=by
 obtain⟨t,u,v,i⟩:=Le h;have k:=(gz b p j).2;have l:=(gz b _ k).2;have m:=(gz b _ l).2;rw [i] at h|-;obtain⟨a,d,e,n,o,q,r,s,f,c⟩:=Pb m h
 refine⟨?_,?_,?_,by rw [e];exact f,fun g=>by rw [a];exact c g⟩
 ·rw [a,mq,List.length_take,List.length_take,List.length_drop];omega
 ·rw [a,mq,List.length_take,List.length_take,List.length_drop];omega
 ·rw [d,List.length_take];omega
theorem iY (l:List aR) (e:aR):aD (l++ [e])=e.1:=by simp [aD]
theorem iP (h:l[l.length-1]? =some e):aD l=e.1:=by
 unfold aD;rw [List.getLast?_eq_getElem?,h];rfl
theorem qm (a:1<=e.1.length) (b:e.1.length<=64) (c:e.2.length<=256):jf e=0:=by unfold jf;rw [if_pos ⟨a,b,c⟩]
theorem gQ:bY []:=fun j a=>by simp at a
theorem Lf (l:List aR) (e:aR) (j:Nat) (c:j<l.length):fO (l++ [e]) j=fO l j:=by
 unfold fO;have a:(l++ [e]).getD j ([],[])=l.getD j ([],[]):=by simp [List.getD,qK c]
 have b:(l++ [e]).getD (j-1) ([],[])=l.getD (j-1) ([],[]):=by simp [List.getD,qK (show j-1<l.length by omega)]
 rw [a,b]
theorem om (h:bY l) (g:jf e=0) (hc:0<l.length->compareBytes (aD l) e.1<0):bY (l++ [e]):=by
 intro j c;rw [mq,List.length_singleton] at c
 rcases Nat.lt_or_ge j l.length with b|b
 ·rw [Lf l e j b];exact h j b
 ·have c:j=l.length:=by omega
  subst c
  rcases Nat.eq_zero_or_pos l.length with a|a
  ·have:l= []:=List.eq_nil_of_length_eq_zero a;subst this
   exact xc (e:=e) rfl g
  ·have f:l[l.length-1]? =some l[l.length-1]:=mP (by omega);refine zA (d:=l[l.length-1]) (e:=e) (by simp) (by rw [qK (by omega)];exact f) g ?_;have:=hc a;rwa [iP f] at this
theorem dB (h:bY l) (g:e∈l):1<=e.1.length/\e.1.length<=64/\e.2.length<=256:=by
 obtain⟨j,d,rfl⟩:=List.mem_iff_getElem.1 g;have b:=h j d;have f:l.getD j ([],[])=l[j]:=by simp [List.getD,d]
 have c:jf l[j]=0:=by
  rcases nY l[j] with a|a
  ·exact a
  ·unfold fO at b;rw [f,if_pos (by rw [a];decide),a] at b;exact absurd b (by decide)
 unfold jf at c
 split at c
 ·assumption
 ·exact absurd c (by decide)
structure XM (b:List UInt8) (l:List aR) (m:Nat) (r:M6):Prop where
 rise:bY r.ents
 len:r.err=0->r.ents.length=l.length+m
 ats:r.ats.length=r.ents.length
 le:r.at_<=b.length
 most:r.ents.length<=l.length+m
theorem uP (b:List UInt8):∀(m:Nat) (l:List aR) (ats:List Nat) (p:Nat),p<=b.length->bY l->ats.length=l.length->XM b l m (bO b m l ats p)
 |0,l,ats,p,c,hl,a=>⟨hl,fun _=>rfl,a,c,jO⟩
 |m+1,l,ats,p,c,hl,a=>by
  unfold bO
  split
  ·rename_i f;exact⟨hl,fun h=>absurd h f,a,c,Nat.le_add_right _ _⟩
  ·rename_i f;have e:=kY c (Decidable.byContradiction f)
   split
   ·exact⟨hl,fun h=>absurd h (by simp),a,c,Nat.le_add_right _ _⟩
   ·rename_i j
    have d:=uP b m (l++ [((pread (aS l) b p).key,(pread (aS l) b p).val)]) (ats++ [p]) (pread (aS l) b p).next e.next (om hl (qm e.k1 e.k2 e.v) (fun i=>by
     rcases Int.lt_or_le (compareBytes (aD l) (pread (aS l) b p).key) 0 with g|g
     ·exact g
     ·exact absurd ⟨i,g⟩ j)) (by rw [mq,mq,a];rfl)
    refine⟨d.rise,fun h=> ?_,d.ats,d.le,?_⟩
    ·rw [d.len h,mq,List.length_singleton];omega
    ·have:=d.most;rw [mq,List.length_singleton] at this;omega
theorem zQ (h:(aH b).2.1=0):bY (aH b).1/\1<=(aH b).1.length/\(aH b).1.length<=64:=by
 have hv:=(gz b 0 (Nat.zero_le _)).2;have d:=uP b (ai b 0).1 [] [] (ai b 0).2.1 hv gQ rfl;unfold aH at h|-
 split at h
 ·rename_i c;exact absurd h c
 ·rename_i c
  split at h
  ·exact absurd h (by simp)
  ·rename_i e
   split at h
   ·rename_i a;exact absurd h a
   ·rename_i a
    split at h
    ·exact absurd h (by simp)
    ·rename_i f
     split at h
     ·exact absurd h (by simp)
     ·rename_i g;rw [if_neg c,if_neg e,if_neg a,if_neg f,if_neg g];have:=d.len (Decidable.byContradiction a);rw [List.length_nil] at this;exact⟨d.rise,by simp only [];omega,by simp only [];omega⟩
theorem Ng (h:(aH b).2.1≠0):(aH b).1= []:=by
 unfold aH at h|-
 split
 ·rfl
 ·rename_i a;rw [if_neg a] at h
  split
  ·rfl
  ·rename_i c;rw [if_neg c] at h
   split
   ·rfl
   ·rename_i d;rw [if_neg d] at h
    split
    ·rfl
    ·rename_i e;rw [if_neg e] at h
     split
     ·rfl
     ·rename_i f;rw [if_neg f] at h;exact absurd rfl h
theorem ay.bytes_step (_h:c.Ok K) (n:Nat) (a:(c.bytes n).2.1=0):(c.bytes n).2.2.at_=c.at_+n:=by
 unfold ay.bytes at a|-
 split
 ·rename_i b;rw [if_pos b] at a;exact absurd a b
 ·rename_i b;rw [if_neg b] at a
  split
  ·rename_i d;simp only [];omega
  ·rename_i d;rw [if_neg d] at a
   split
   ·rfl
   ·rename_i e;rw [if_neg e] at a;exact absurd a e
theorem ay.bytes_held (h:c.Ok K) (n:Nat) (t:c.held=none):(c.bytes n).2.2.held=none:=by
 unfold ay.bytes
 split
 ·exact t
 ·rename_i a;have a:c.err=0:=Decidable.byContradiction a
  split
  ·exact t
  ·obtain⟨d,e,f,g,i,b⟩:=ay.loop_out (K:=K) n _ {c with held:=none} c.held.toList jO ⟨(h.fine a).idle,(h.fine a).pot⟩ (by have:=c.held_len;omega)
   split
   ·exact b
   ·exact b
theorem ay.numL_step:∀(m k v:Nat) (c:ay),k+m=10->c.Ok K->c.held=none->(c.numL k v).2.2.held=none/\((c.numL k v).2.1=0->c.at_<(c.numL k v).2.2.at_/\(c.numL k v).2.2.at_<=c.at_+m):=by
 intro m
 induction m with
 |zero=>
  intro k v c j h d;have:10<=k:=by omega
  unfold ay.numL;rw [if_pos this]
  exact⟨ay.bytes_held h 1 d,fun h=>absurd h (by simp)⟩
 |succ m l=>
  intro k v c j h d;have i:=ay.bytes_ok h 1;have a:=ay.bytes_held h 1 d;have e:=ay.bytes_step h 1;rw [ay.numL_eq _ _ _ (by omega)]
  split
  ·rename_i b;exact⟨a,fun h=>absurd h b⟩
  ·rename_i b;have e:=e (Decidable.byContradiction b)
   split
   ·exact⟨a,fun h=>absurd h (by simp)⟩
   ·split
    ·exact⟨a,fun h=>absurd h (by simp)⟩
    ·split
     ·exact⟨a,fun _=>⟨by simp only [];omega,by simp only [];omega⟩⟩
     ·obtain⟨f,g⟩:=l (k+1) (v+((c.bytes 1).1.headD 0).toNat%128*128^k) (c.bytes 1).2.2 (by omega) i a;exact⟨f,fun h=>by have:=g h;omega⟩
theorem ay.number_step (h:c.Ok K) (t:c.held=none):c.number.2.2.held=none/\(c.number.2.1=0->c.at_<c.number.2.2.at_/\c.number.2.2.at_<=c.at_+10):=by
 obtain⟨a,b⟩:=ay.numL_step (K:=K) 10 0 0 c rfl h t;unfold ay.number
 split
 ·exact⟨a,b⟩
 ·rename_i d;exact⟨a,fun h=>absurd h d⟩
structure UB (K n:Nat) (c:ay) (x:Body):Prop where
 ok:x.cur.Ok K
 held:x.cur.held=none
 at_:x.err=0->x.cur.at_=c.at_+n+4
 len:x.err=0->x.body.length=n
theorem ay.body_ok (h:c.Ok K) (t:c.held=none) (n:Nat) (hn:0<n):UB K n c (c.body n):=by
 have d:=ay.bytes_ok h n;have e:=ay.bytes_held h n t;have f:=ay.bytes_step h n;have k1:=ay.bytes_ok d 4;have k2:=ay.bytes_held d 4 e;have g:=ay.bytes_step d 4;unfold ay.body
 split
 ·rename_i a;exact⟨d,e,fun h=>absurd h a,fun h=>absurd h a⟩
 ·rename_i a;have a:=Decidable.byContradiction a
  split
  ·rename_i b;exact⟨k1,k2,fun h=>absurd h b,fun h=>absurd h b⟩
  ·rename_i b;have b:=Decidable.byContradiction b
   split
   ·exact⟨k1,k2,fun h=>absurd h (by simp),fun h=>absurd h (by simp)⟩
   ·exact⟨k1,k2,fun _=>by have:=f a;have:=g b;simp only [];omega,fun _=>ay.bytes_len h n hn a⟩
theorem uR (l:List Row) (x:Row):dD (l++ [x])=x.at_+x.len:=by simp [dD]
theorem Ry:iy []:=⟨by simp,fun x a=>by simp at a,fun i x y h=>by simp at h,fun i x h=>by simp at h,fun x a=>by simp at a,fun x a=>by simp at a⟩
theorem Pf {l:List Row} {x:Row} (h:iy l) (q:l.length<8388608) (f:1<=x.last.length) (g:x.last.length<=64) (j:0<l.length->compareBytes (l.getLast?.getD ⟨[],0,0,0⟩).last x.last<0) (k:x.at_=dD l) (m:1<=x.len) (n:x.len<=131072) (o:1<=x.ents) (p:x.ents<=64):iy (l++ [x]):=by
 refine⟨by simp;omega,?_,?_,?_,?_,?_⟩
 ·intro y a
  rcases List.mem_append.1 a with a|a
  ·exact h.key y a
  ·rw [List.mem_singleton] at a;subst a;exact⟨f,g⟩
 ·intro i y z a d
  rcases Nat.lt_or_ge (i+1) l.length with hi|hi
  ·rw [qK (by omega)] at a;rw [qK hi] at d
   exact h.rise i y z a d
  ·have c:i+1<(l++ [x]).length:=(nE.1 d).1;rw [mq,List.length_singleton] at c;have b:i+1=l.length:=by omega
   rw [q9 (by omega),b,Nat.sub_self] at d;simp only [List.getElem?_cons_zero,Option.some.injEq] at d;subst d;rw [qK (by omega)] at a;have e:=j (by omega)
   rwa [List.getLast?_eq_getElem?,<-b,Nat.add_sub_cancel,a] at e
 ·intro i y a
  rcases Nat.lt_or_ge i l.length with hi|hi
  ·rw [qK hi] at a
   rw [h.place i y a,List.take_append_of_le_length (by omega)]
  ·have c:i<(l++ [x]).length:=(nE.1 a).1;rw [mq,List.length_singleton] at c;have b:i=l.length:=by omega
   subst b;rw [q9 jO,Nat.sub_self] at a;simp only [List.getElem?_cons_zero,Option.some.injEq] at a;subst a
   rw [k,List.take_append_of_le_length jO,List.take_length]
 ·intro y a
  rcases List.mem_append.1 a with a|a
  ·exact h.len y a
  ·rw [List.mem_singleton] at a;subst a;exact⟨m,n⟩
 ·intro y a
  rcases List.mem_append.1 a with a|a
  ·exact h.count y a
  ·rw [List.mem_singleton] at a;subst a;exact⟨o,p⟩
end Go.Proofs.YtepgcjbhabnciaaGreat
