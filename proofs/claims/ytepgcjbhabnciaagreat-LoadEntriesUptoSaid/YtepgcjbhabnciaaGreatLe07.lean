/- Part 7. -/
import Derived.Test.YtepgcjbhabnciaaGreatLe06
import Derived.Lib.AppendZerosOnto
import Derived.Deep.CutBlock
namespace Go.Proofs.YtepgcjbhabnciaaGreat
set_option maxRecDepth 100000
set_option maxHeartbeats 8000000
open Go.RowKit Go.Proofs.Tryz
variable {K i:Nat}
structure Src where
 left:List UInt8
 gives:List Int
 fail:Int
 eager:Bool
 calls:Nat
def Src.most (s:Src) (n:Nat):Nat:=match s.gives[s.calls]? with
 |some g=>min n g.toNat
 |none=>n
def Src.asked (s:Src):Src:={s with calls:=s.calls+1}
def Src.read (s:Src) (n:Nat):List UInt8×Int×Src:=
 if 0<s.fail/\s.fail<=(s.calls:Int)+1 then([],32,s.asked)
 else if s.left= [] then([],31,s.asked)
 else(s.left.take (s.most n),if s.eager=true/\s.left.drop (s.most n)= [] then 31 else 0,{s.asked with left:=s.left.drop (s.most n)})
theorem Src.most_le (s:Src) (n:Nat):s.most n<=n:=by unfold Src.most;split<;>omega
theorem Src.read_len (s:Src) (n:Nat):(s.read n).1.length<=n:=by
 unfold Src.read;have:=s.most_le n
 split
 ·simp
 ·split
  ·simp
  ·simp only [List.length_take];omega
theorem Src.read_calls (s:Src) (n:Nat):(s.read n).2.2.calls=s.calls+1:=by
 unfold Src.read
 split
 ·rfl
 ·split<;>rfl
theorem Src.read_left (s:Src) (n:Nat):(s.read n).1.length+(s.read n).2.2.left.length=s.left.length:=by
 unfold Src.read
 split
 ·simp [Src.asked]
 ·split
  ·simp [Src.asked]
  ·simp only [List.length_take,List.length_drop];omega
structure ay where
 src:Src
 at_:Nat
 err:Int
 idle:Nat
 held:Option UInt8
def ay.ask (c:ay) (n:Nat):List UInt8×Int×ay:=
 ((c.src.read (min n 4096)).1,(c.src.read (min n 4096)).2.1,{c with src:=(c.src.read (min n 4096)).2.2,idle:=if(c.src.read (min n 4096)).1≠ []\/(c.src.read (min n 4096)).2.1≠0 then 0 else c.idle+1})
def ay.loop (c:ay) (b:List UInt8) (n:Nat):List UInt8×Int×ay:=
 if n<=b.length then(b,0,c)
 else if n<=(b++(c.ask (n-b.length)).1).length then(b++(c.ask (n-b.length)).1,0,(c.ask (n-b.length)).2.2)
 else if(c.ask (n-b.length)).2.1=31 then([],41,(c.ask (n-b.length)).2.2)
 else if(c.ask (n-b.length)).2.1≠0 then([],(c.ask (n-b.length)).2.1,(c.ask (n-b.length)).2.2)
 else if 16<=(c.ask (n-b.length)).2.2.idle then([],33,(c.ask (n-b.length)).2.2)
 else(c.ask (n-b.length)).2.2.loop (b++(c.ask (n-b.length)).1) n
termination_by (n-b.length)*17+(16-c.idle)
decreasing_by
 rename_i h f _i e g;simp only [List.length_append] at f|-;have d:(c.ask (n-b.length)).2.2.idle=if(c.ask (n-b.length)).1≠ []\/(c.ask (n-b.length)).2.1≠0 then 0 else c.idle+1:=rfl
 by_cases a:(c.ask (n-b.length)).1= []
 ·rw [d,if_neg (by simp [a,e])];rw [d,if_neg (by simp [a,e])] at g;rw [a];simp only [List.length_nil]
  omega
 ·have j:0<(c.ask (n-b.length)).1.length:=List.length_pos_iff.2 a;rw [d,if_pos (.inl a)];omega
def ay.bytes (c:ay) (n:Nat):List UInt8×Int×ay:=
 if c.err≠0 then([],c.err,c)
 else if n=0 then([],0,c)
 else if(ay.loop {c with held:=none} c.held.toList n).2.1=0 then((ay.loop {c with held:=none} c.held.toList n).1,0,{(ay.loop {c with held:=none} c.held.toList n).2.2 with at_:=c.at_+n})
 else([],(ay.loop {c with held:=none} c.held.toList n).2.1,{(ay.loop {c with held:=none} c.held.toList n).2.2 with err:=(ay.loop {c with held:=none} c.held.toList n).2.1})
def ay.numL (k:Nat) (v:Nat) (c:ay):Nat×Int×ay:=
 if 10<=k then(0,12,{(c.bytes 1).2.2 with err:=12})
 else if(c.bytes 1).2.1≠0 then(0,(c.bytes 1).2.1,(c.bytes 1).2.2)
 else if k=9/\1<((c.bytes 1).1.headD 0).toNat then(0,12,{(c.bytes 1).2.2 with err:=12})
 else if 0<k/\((c.bytes 1).1.headD 0).toNat=0 then(0,13,{(c.bytes 1).2.2 with err:=13})
 else if((c.bytes 1).1.headD 0).toNat<128 then(v+((c.bytes 1).1.headD 0).toNat%128*128^k,0,(c.bytes 1).2.2)
 else ay.numL (k+1) (v+((c.bytes 1).1.headD 0).toNat%128*128^k) (c.bytes 1).2.2
termination_by 10-k
def ay.number (c:ay):Nat×Int×ay:=
 if(c.numL 0 0).2.1=0 then c.numL 0 0 else(0,(c.numL 0 0).2.1,{(c.numL 0 0).2.2 with at_:=c.at_})
def ay.end_ (c:ay):Bool×Int×ay:=
 if c.err≠0\/c.held.isSome=true then(false,c.err,c)
 else if(c.loop [] 1).2.1=0 then(false,0,{(c.loop [] 1).2.2 with held:=(c.loop [] 1).1.head?})
 else if(c.loop [] 1).2.1=41 then(true,0,(c.loop [] 1).2.2)
 else(false,(c.loop [] 1).2.1,{(c.loop [] 1).2.2 with err:=(c.loop [] 1).2.1})
variable {c:ay}
section
section
variable {P:Program} (w:World)
end
theorem L9 (w:World) (e:TypeId) (size c:Nat) (cs:Array Value) (b:cs.size=c*size) (a:c<=maxLen):(w.alloc (.cells cs e)).ownsRow w.heap.size e size (.slice (some ⟨w.heap.size,0,none⟩) 0 c) 0 []:=
 ⟨by simp,.inr ⟨w.heap.size,c,cs,rfl,Nat.le_refl _,heap_alloc_new w _,Nat.zero_le _,a,b,by simp⟩⟩
end
section
def Bt (w:World) (F:Nat->Prop) (A:Option Addr) (n c:Nat) (bs:List UInt8):Prop:=n<=c/\c<=maxLen/\Hid (n=bs.length)/\Rd w F 1 A n (aF bs)
def Tx (w:World) (F:Nat->Prop) (A:Option Addr) (n c:Nat) (ts:List (List UInt8)):Prop:=
 n<=c/\c<=maxLen/\Hid (n=ts.length)/\∃vs,Rd w F 1 A n vs/\∀(i:Nat) (t:List UInt8),ts[i]? =some t->∃v,vs[i]? =some v/\SB w F v t
def It (w:World) (F:Nat->Prop) (A:Option Addr) (n c:Nat) (ks:List Int):Prop:=n<=c/\c<=maxLen/\Hid (n=ks.length)/\Rd w F 1 A n (ks.map (Value.int .i64))
section
variable {S F G:Nat->Prop} {w w':World} {A:Option Addr} {n c:Nat} {bs:List UInt8} {ts:List (List UInt8)} {ks:List Int}
theorem Bt.nil (w:World) (F:Nat->Prop):Bt w F none 0 0 []:=⟨Nat.le_refl _,by simp [maxLen],rfl,Rd.none_ _ _ _ _⟩
theorem Tx.nil (w:World) (F:Nat->Prop):Tx w F none 0 0 []:=⟨Nat.le_refl _,by simp [maxLen],rfl,[],Rd.none_ _ _ _ _,fun i t h=>by simp at h⟩
theorem It.nil (w:World) (F:Nat->Prop):It w F none 0 0 []:=⟨Nat.le_refl _,by simp [maxLen],rfl,Rd.none_ _ _ _ _⟩
theorem Bt.sb (h:Bt w F A n c bs):SB w F (.slice A n c) bs:=⟨A,n,c,rfl,h.1,h.2.1,h.2.2.1,h.2.2.2⟩
theorem SB.bt (h:SB w F (.slice A n c) bs):Bt w F A n c bs:=by
 obtain⟨k,m,l,e,f,g,i,j⟩:=h;injection e with a b d
 subst a;subst b;subst d;exact⟨f,g,i,j⟩
theorem Bt.len (h:Bt w F A n c bs):n=bs.length:=h.2.2.1
theorem Tx.len (h:Tx w F A n c ts):n=ts.length:=h.2.2.1
theorem It.len (h:It w F A n c ks):n=ks.length:=h.2.2.1
theorem Bt.weak (h:Bt w F A n c bs) (k:∀b,F b->G b):Bt w G A n c bs:=⟨h.1,h.2.1,h.2.2.1,h.2.2.2.weak k⟩
theorem Bt.chg (h:Bt w F A n c bs) (y:ag S w w') (K:∀b,F b->¬S b):Bt w' F A n c bs:=⟨h.1,h.2.1,h.2.2.1,h.2.2.2.chg y K⟩
theorem Bt.below (h:Bt w F A n c bs) (a:Below w.heap.size w w'):Bt w' F A n c bs:=⟨h.1,h.2.1,h.2.2.1,h.2.2.2.below a⟩
theorem Tx.weak (h:Tx w F A n c ts) (k:∀b,F b->G b):Tx w G A n c ts:=
 let⟨d,e,f,vs,g,j⟩:=h;⟨d,e,f,vs,g.weak k,fun i t l=>let⟨v,a,b⟩:=j i t l;⟨v,a,b.weak k⟩⟩
theorem Tx.chg (h:Tx w F A n c ts) (y:ag S w w') (K:∀b,F b->¬S b):Tx w' F A n c ts:=
 let⟨d,e,f,vs,g,j⟩:=h;⟨d,e,f,vs,g.chg y K,fun i t k=>let⟨v,a,b⟩:=j i t k;⟨v,a,b.chg y K⟩⟩
theorem Tx.below (h:Tx w F A n c ts) (a:Below w.heap.size w w'):Tx w' F A n c ts:=h.chg (ag.of_below (S:=Nil) a) (fun _ _ b=>b)
theorem It.weak (h:It w F A n c ks) (k:∀b,F b->G b):It w G A n c ks:=⟨h.1,h.2.1,h.2.2.1,h.2.2.2.weak k⟩
theorem It.chg (h:It w F A n c ks) (y:ag S w w') (K:∀b,F b->¬S b):It w' F A n c ks:=⟨h.1,h.2.1,h.2.2.1,h.2.2.2.chg y K⟩
theorem It.below (h:It w F A n c ks) (a:Below w.heap.size w w'):It w' F A n c ks:=⟨h.1,h.2.1,h.2.2.1,h.2.2.2.below a⟩
theorem Tx.at_ {k:Nat} (h:Tx w F A n c ts) (q:k<n):∃b o e a d t,A=some ⟨b,o,none⟩/\F b/\ts[k]? =some t/\w.cell? ⟨b,o+k,none⟩=some (.slice e a d)/\a<=d/\d<=maxLen/\Hid (a=t.length)/\Rd w F 1 e a (aF t):=by
 obtain⟨y,z,i,vs,j,l⟩:=h;have hl:k<ts.length:=by have:n=ts.length:=i;omega
 obtain⟨b,o,u,m,p,g,c1⟩:=j.at_ q;obtain⟨v,f,x⟩:=l k ts[k] (List.getElem?_eq_getElem hl);rw [g] at f;injection f with f
 subst f;obtain⟨e,a,d,rfl,k1,k2,r,s⟩:=x;exact⟨b,o,e,a,d,ts[k],m,p,List.getElem?_eq_getElem hl,c1,k1,k2,r,s⟩
theorem It.at_ {k:Nat} (h:It w F A n c ks) (g:k<n):∃b o x,A=some ⟨b,o,none⟩/\F b/\ks[k]? =some x/\w.cell? ⟨b,o+k,none⟩=some (.int .i64 x):=by
 obtain⟨b,o,u,e,f,a,c1⟩:=h.2.2.2.at_ g;rw [List.getElem?_map,Option.map_eq_some_iff] at a;obtain⟨x,d,rfl⟩:=a;exact⟨b,o,x,e,f,d,c1⟩
theorem Oa (ks:List Int):∀u∈ks.map (Value.int .i64),u.oneCell'=true:=by
 intro u a;rw [List.mem_map] at a;obtain⟨c,_,rfl⟩:=a;rfl
end
def Hz (w:World) (g hi:Nat) (A:Option Addr) (n c:Nat) (ts:List (List UInt8)):Prop:=
 n<=c/\c<=maxLen/\Hid (n=ts.length)/\A=some ⟨g,0,none⟩/\g<hi/\∃vs,Rd w (fG (mZ g) w) 1 A n vs/\∀(i:Nat) (t:List UInt8),ts[i]? =some t->∃v,vs[i]? =some v/\SB w (fG (fun b=>g<b/\b<hi) w) v t
section
variable {S:Nat->Prop} {w w':World} {A:Option Addr} {n c g hi:Nat} {bs:List UInt8} {ts:List (List UInt8)} {ks:List Int}
theorem Hz.chg (h:Hz w g hi A n c ts) (y:ag S w w') (e:∀b,g<=b->b<hi->¬S b):Hz w' g hi A n c ts:=
 let⟨f,j,k,l,m,vs,o,p⟩:=h
 ⟨f,j,k,l,m,vs,o.soft_chg Nat.zero_lt_one y (fun b d=>by have d:b=g:=d;exact e b (by omega) (by omega)),fun i t q=>let⟨v,a,b⟩:=p i t q;⟨v,a,b.soft_chg y (fun b d=>e b (by omega) d.2)⟩⟩
theorem Hz.below (h:Hz w g hi A n c ts) (a:Below w.heap.size w w'):Hz w' g hi A n c ts:=h.chg (ag.of_below (S:=Nil) a) (fun _ _ _ b=>b)
theorem Hz.tx {B:Nat} (h:Hz w g hi A n c ts) (o:B<=g):Tx w (From B) A n c ts:=
 let⟨e,f,j,_,_,vs,k,l⟩:=h
 ⟨e,f,j,vs,k.weak (fun b d=>by have d:b=g:=d.1;show B<=b;omega),fun i t m=>let⟨v,a,b⟩:=l i t m;⟨v,a,b.weak (fun b d=>by have d:=d.1.1;show B<=b;omega)⟩⟩
theorem Bt.soft_chg {F:Nat->Prop} (h:Bt w (fG F w) A n c bs) (y:ag S w w') (K:∀b,F b->¬S b):Bt w' (fG F w') A n c bs:=⟨h.1,h.2.1,h.2.2.1,h.2.2.2.soft_chg Nat.zero_lt_one y K⟩
theorem It.soft_chg {F:Nat->Prop} (h:It w (fG F w) A n c ks) (y:ag S w w') (K:∀b,F b->¬S b):It w' (fG F w') A n c ks:=⟨h.1,h.2.1,h.2.2.1,h.2.2.2.soft_chg Nat.zero_lt_one y K⟩
theorem Bt.soft_below {F:Nat->Prop} (h:Bt w (fG F w) A n c bs) (a:Below w.heap.size w w'):Bt w' (fG F w') A n c bs:=h.soft_chg (ag.of_below (S:=Nil) a) (fun _ _ b=>b)
end
structure Nd where
 lev:Int
 high:List UInt8
 right:Int
 keys:List (List UInt8)
 vals:List (List UInt8)
 kids:List Int
def Nd.zero:Nd:=⟨0,[],0,[],[],[]⟩
section
variable {S F G:Nat->Prop} {w w':World} {vs:List Value} {lev right:Int} {high:List UInt8} {keys vals:List (List UInt8)} {kids:List Int}
end
end
section
theorem ou {b:List UInt8} {i:Nat} {c:UInt8} (h:b[i]? =some c):b.drop i=c::b.drop (i+1):=by
 obtain⟨hi,rfl⟩:=List.getElem?_eq_some_iff.1 h;exact List.drop_eq_getElem_cons hi
theorem pQ (k:Nat) (c:UInt8) (r:List UInt8):dG k (c::r)=if k=9/\1<c.toNat then(12,k) else if 0<k/\c.toNat=0 then(13,k) else if c.toNat<128 then(0,k+1) else dG (k+1) r:=rfl
structure Bz (b:List UInt8) (p i v:Nat):Prop where
 le:p<=i
 k9:i-p<=9
 sc:dG 0 (b.drop p)=dG (i-p) (b.drop i)
 vl:v=fM ((b.drop p).take (i-p))
 ltv:v<128^(i-p)
theorem Bz.start (b:List UInt8) (p:Nat):Bz b p p 0:=⟨Nat.le_refl _,by omega,by simp,by simp [fM],by simp⟩
section
variable {b:List UInt8} {p i v:Nat} {c:UInt8}
theorem Bz.taken (h:Bz b p i v) (w:b[i]? =some c):fM ((b.drop p).take (i+1-p))=v+c.toNat%128*128^(i-p):=by
 have hl:=h.le;have a:(b.drop p)[i-p]? =some c:=by rw [List.getElem?_drop,show p+(i-p)=i by omega];exact w
 have hi:=(List.getElem?_eq_some_iff.1 a).1;rw [show i+1-p=(i-p)+1 by omega,List.take_add_one,a];show fM ((b.drop p).take (i-p)++ [c])=_;rw [oq,<-h.vl,List.length_take,Nat.min_eq_left (by omega)]
theorem Bz.bad (h:Bz b p i v) (w:b[i]? =some c) (e:aT (i-p) c≠0):ai b p=(0,i,aT (i-p) c):=by
 have hl:=h.le;have f:=h.sc;rw [ou w] at f;unfold aT at e|-;unfold ai;rw [f,pQ]
 split
 ·rename_i a;simp [a];omega
 ·rename_i a
  split
  ·rename_i d;simp;omega
  ·rename_i d;exact absurd (by rw [if_neg a,if_neg d]) e
theorem Bz.whole (h:Bz b p i v) (w:b[i]? =some c) (a:aT (i-p) c=0) (j:c.toNat<128):ai b p=(v+c.toNat%128*128^(i-p),i+1,0):=by
 have hl:=h.le;have d:=h.sc;rw [ou w] at d;have g:=h.taken w;unfold aT at a
 split at a
 ·cases a
 ·rename_i e
  split at a
  ·cases a
  ·rename_i f;rw [pQ,if_neg e,if_neg f,if_pos j] at d;unfold ai;rw [d];simp only [if_true];rw [show i-p+1=i+1-p by omega,g,show p+(i+1-p)=i+1 by omega]
theorem Bz.next (h:Bz b p i v) (w:b[i]? =some c) (a:aT (i-p) c=0) (j:¬c.toNat<128):Bz b p (i+1) (v+c.toNat%128*128^(i-p)):=by
 have hl:=h.le;have l:=h.k9;have d:=h.sc;rw [ou w] at d;have g:=h.taken w;have m:c.toNat%128<128:=Nat.mod_lt _ (by omega);unfold aT at a
 split at a
 ·cases a
 ·rename_i e
  split at a
  ·cases a
  ·rename_i f;rw [pQ,if_neg e,if_neg f,if_neg j] at d;refine⟨by omega,by omega,by rw [d,show i-p+1=i+1-p by omega],g.symm,?_⟩;have hv:=h.ltv;rw [show i+1-p=(i-p)+1 by omega,Nat.pow_succ];have k:c.toNat%128*128^(i-p)<=127*128^(i-p):=Nat.mul_le_mul_right _ (by omega);omega
theorem Bz.short (h:Bz b p i v) (hi:i=b.length):ai b p=(0,i,11):=by
 have hl:=h.le;have a:=h.sc;rw [List.drop_of_length_le (i:=i) (by omega)] at a;unfold ai;rw [a,show dG (i-p) []=(11,i-p) from rfl];rw [if_neg (by simp),show p+(i-p)=i by omega]
end
theorem kL (F:Nat->Prop) (A:Option Addr) (n c p:Nat) (b:List UInt8) (w:World) (h:Rd w F 1 A n (aF b)) (K:n=b.length) (Q:p<=n) (hn2:n<=1152921504606):
  Calls prog 194 #[.slice A n c,.int .i64 p] w fun e w'=>e= .returned (.tuple #[.int .u64 (ai b p).1,.int .i64 (ai b p).2.1,.int .i64 (ai b p).2.2])/\Below w.heap.size w w':=by
 have HR:=aa h;have HN:=aa K;clear h K;refine letter fun vr N=> ?_;refine letter fun R m=> ?_;have ac:¬((n:Int)<(p:Int)):=by omega
 have ab:decide (n<p)=false:=decide_eq_false (by omega);go_enter func194,ntmps194
 go_wp2;go_step3
 go_wp2;go_step3
 obtain⟨w1,l⟩:∃W,W=w.alloc (.cells #[.int .u64 0,.int .i64 0,.int .i64 0] 308):=⟨_,rfl⟩;rw [<-l];have L:Hid (uC w1 w.heap.size 0 0 0):=aa (by rw [l];exact aj.new _ _ _);have t:Hid (Below w.heap.size w w1):=aa (by rw [l];exact(Below.refl _ _).alloc (Nat.le_refl _) _);clear l;go_wp2
 go_loopg [8] (n-p) (fun g' iv wz=>∃(i v:Nat),g'=n-i/\i<=n/\iv= .int .i64 i/\Bz b p i v/\uC wz w.heap.size v (i-p) 0/\ag (fun g=>g=w.heap.size) w1 wz)
 case atStart=>exact⟨p,0,rfl,Q,rfl,Bz.start _ _,by rw [Nat.sub_self];exact L,ag.refl _ _⟩
 case round=>
  obtain⟨i,v,B,hi,rfl,z,D,S⟩:=hrel;have HG:=aa B;have f:=aa z;have J:=aa D;have HC:=aa S;have s:Hid (Below w.heap.size w wr):=aa (t.out.trans (S.below_of t.size (fun g B e=>by have e:g=w.heap.size:=e;omega)));clear B z D S
  by_cases U:i<n
  ·have Z:(i:Int)<(n:Int):=by omega
   have C:¬((i:Int)=(n:Int)):=by omega
   obtain⟨bb,o,u,rfl,_,hx,q⟩:=(HR.out.below s).at_ U;obtain⟨x,H,rfl⟩:=dX hx;have O:=aa H;simp only [bv] at q;clear hx H;obtain⟨P,Y⟩:∃P,P=aT (i-p) x:=⟨_,rfl⟩;obtain⟨I,G⟩:∃I,I=decide (aT (i-p) x=0/\x.toNat<128):=⟨_,rfl⟩;have j:=aa Y;have r:=aa G;clear Y G
   by_cases T:P=0
   ·subst T
    cases I with
    |true=>
     have k:Hid (x.toNat<128):=aa (of_decide_eq_true r.out.symm).2;obtain⟨v2,E⟩:∃v2,v2=v+x.toNat%128*128^(i-p):=⟨_,rfl⟩;have X:=aa E;clear E;go_wp2_with (go_at_call 167;go_loud (refine(qi w.heap.size v (i-p) x wr J f.k9 f.ltv).mono ?_);rintro e w2 ⟨rfl,a,d⟩;rw [<-r.out,<-j.out];have z0:w2.cell? ⟨w.heap.size,0,none⟩=some (.int .u64 v2):=(by rw [X.out];exact(d j.out.symm).cell 0);have y:=aa a;clear a d)
     simp only [Exit.noGoto];go_ret3
     rw [m.out];rw [N.out,f.out.whole O.out j.out.symm k.out,<-X.out]
     exact⟨rfl,s.out.trans (y.below_of s.size (fun g B e=>by have e:g=w.heap.size:=e;omega))⟩
    |false=>
     have k:Hid (¬x.toNat<128):=aa (fun h=>of_decide_eq_false r.out.symm ⟨j.out.symm,h⟩);go_wp2_with (go_at_call 167;go_loud (refine(qi w.heap.size v (i-p) x wr J f.k9 f.ltv).mono ?_);rintro e w2 ⟨rfl,a,d⟩;rw [<-r.out,<-j.out];have y:=aa a;have M:=aa (d j.out.symm);clear a d)
     go_roundg (n-(i+1))
     case measure=>have:=HG.out;omega
     case rel=>
      have hl:=f.out.le;have ht:=M.out;rw [if_neg k.out,show i-p+1=i+1-p by omega] at ht
      exact⟨i+1,_,rfl,by omega,by go_num,f.next O j.out.symm k,ht,HC.out.trans y (fun _ _ h=>h)⟩
   ·have V:I=false:=by rw [r.out];exact decide_eq_false (fun h=>T (by rw [j.out];exact h.1))
    subst V;go_wp2_with (go_at_call 167;go_loud (refine(qi w.heap.size v (i-p) x wr J f.k9 f.ltv).mono ?_);rintro e w2 ⟨rfl,a,d⟩;rw [<-r.out,<-j.out];have y:=aa a;clear a d)
    simp only [Exit.noGoto];go_ret3
    rw [m.out];rw [N.out,f.out.bad O.out (by rw [<-j.out];exact T),<-j.out]
    exact⟨rfl,s.out.trans (y.below_of s.size (fun g B e=>by have e:g=w.heap.size:=e;omega))⟩
  ·have C:i=n:=by omega
   subst C;go_wp2;simp only [Exit.noGoto];go_ret3
   rw [m.out];rw [N.out,f.out.short HN.out];exact⟨rfl,s⟩
end
def ay.pot (c:ay):Nat:=c.src.calls+17*c.src.left.length+(16-c.idle)
structure ay.Fine (K:Nat) (c:ay):Prop where
 idle:c.idle<=15
 pot:c.pot<=K
theorem ay.ask_len (c:ay) (n:Nat):(c.ask n).1.length<=n:=Nat.le_trans (Src.read_len _ _) (Nat.min_le_left _ _)
theorem ay.ask_len2 (c:ay) (n:Nat):(c.ask n).1.length<=4096:=Nat.le_trans (Src.read_len _ _) (Nat.min_le_right _ _)
theorem ay.ask_calls (c:ay) (n:Nat):(c.ask n).2.2.src.calls=c.src.calls+1:=Src.read_calls _ _
theorem ay.ask_left (c:ay) (n:Nat):(c.ask n).1.length+(c.ask n).2.2.src.left.length=c.src.left.length:=Src.read_left _ _
theorem ay.ask_idle (c:ay) (n:Nat):(c.ask n).2.2.idle=if(c.ask n).1≠ []\/(c.ask n).2.1≠0 then 0 else c.idle+1:=rfl
theorem ay.ask_pot (n:Nat) (h:c.Fine K) (g:(c.ask n).1≠ []\/(c.ask n).2.1=0):(c.ask n).2.2.pot<=K:=by
 have i:=c.ask_calls n;have b:=c.ask_left n;have d:=c.ask_idle n;have j:=h.idle;have e:=h.pot;unfold ay.pot at e|-
 by_cases a:(c.ask n).1= []
 ·have f:(c.ask n).2.1=0:=by rcases g with h|h;exact absurd a h;exact h
  rw [if_neg (by simp [a,f])] at d;rw [a] at b;simp only [List.length_nil] at b
  omega
 ·have k:0<(c.ask n).1.length:=List.length_pos_iff.2 a;rw [if_pos (.inl a)] at d;omega
theorem ay.ask_any (n:Nat) (h:c.Fine K):(c.ask n).2.2.pot<=K+17/\(c.ask n).2.2.idle<=16:=by
 have d:=c.ask_calls n;have e:=c.ask_left n;have a:=c.ask_idle n;have f:=h.idle;have b:=h.pot;unfold ay.pot at b|-;split at a<;>omega
theorem ay.loop_eq (c:ay) (b:List UInt8) (n:Nat):c.loop b n=if n<=b.length then(b,0,c)
 else if n<=(b++(c.ask (n-b.length)).1).length then(b++(c.ask (n-b.length)).1,0,(c.ask (n-b.length)).2.2)
 else if(c.ask (n-b.length)).2.1=31 then([],41,(c.ask (n-b.length)).2.2)
 else if(c.ask (n-b.length)).2.1≠0 then([],(c.ask (n-b.length)).2.1,(c.ask (n-b.length)).2.2)
 else if 16<=(c.ask (n-b.length)).2.2.idle then([],33,(c.ask (n-b.length)).2.2)
 else(c.ask (n-b.length)).2.2.loop (b++(c.ask (n-b.length)).1) n:=by
 conv=>lhs;unfold ay.loop
theorem ay.loop_out (n:Nat):∀(M:Nat) (c:ay) (b:List UInt8),(n-b.length)*17+(16-c.idle)<=M->c.Fine K->b.length<=n->
  ((c.loop b n).2.1=0->(c.loop b n).1.length=n/\(c.loop b n).2.2.pot<=K/\(c.loop b n).2.2.idle<=15/\(c.loop b n).2.2.src.left.length+n=c.src.left.length+b.length)/\(c.loop b n).2.2.pot<=K+17/\(c.loop b n).2.2.src.left.length<=c.src.left.length/\(c.loop b n).2.2.at_=c.at_/\(c.loop b n).2.2.err=c.err/\(c.loop b n).2.2.held=c.held:=by
 intro M
 induction M with
 |zero=>
  intro c b r a s;have:=a.idle
  omega
 |succ M u=>
  intro c b r a s;have G:=c.ask_left (n-b.length);have H:=c.ask_len (n-b.length);have l:=c.ask_idle (n-b.length);have i:=ay.ask_any (n-b.length) a;have p:=a.idle;have q:=a.pot;rw [ay.loop_eq]
  split
  ·rename_i o;exact⟨fun _=>⟨by simp only [];omega,q,p,by simp only [];omega⟩,by simp only [];omega,Nat.le_refl _,rfl,rfl,rfl⟩
  ·rename_i o
   split
   ·rename_i d;rw [List.length_append] at d;have f:(c.ask (n-b.length)).1≠ []:=fun e=>by rw [e] at d;simp at d;omega
    have k:=ay.ask_pot (n-b.length) a (.inl f);rw [if_pos (.inl f)] at l
    exact⟨fun _=>⟨by rw [List.length_append];omega,k,by simp only [];omega,by simp only [];omega⟩,by simp only [];omega,by simp only [];omega,rfl,rfl,rfl⟩
   ·rename_i d
    split
    ·exact⟨fun h=>by simp at h,i.1,by simp only [];omega,rfl,rfl,rfl⟩
    ·split
     ·rename_i g;exact⟨fun h=>absurd h g,i.1,by simp only [];omega,rfl,rfl,rfl⟩
     ·rename_i E g;have m:(c.ask (n-b.length)).2.1=0:=Decidable.byContradiction g
      split
      ·exact⟨fun h=>by simp at h,i.1,by simp only [];omega,rfl,rfl,rfl⟩
      ·rename_i F;have k:=ay.ask_pot (n-b.length) a (.inr m);rw [List.length_append] at d
       have t:(n-(b++(c.ask (n-b.length)).1).length)*17+(16-(c.ask (n-b.length)).2.2.idle)<=M:=by
        rw [List.length_append]
        by_cases j:(c.ask (n-b.length)).1= []
        ·rw [if_neg (by simp [j,m])] at l
         rw [j];simp only [List.length_nil];omega
        ·have I:0<(c.ask (n-b.length)).1.length:=List.length_pos_iff.2 j;omega
       obtain⟨v,w,J,x,y,z⟩:=u (c.ask (n-b.length)).2.2 (b++(c.ask (n-b.length)).1) t ⟨by omega,k⟩ (by rw [List.length_append];omega);refine⟨fun h=> ?_,w,by omega,x,y,z⟩;obtain⟨A,B,C,D⟩:=v h;exact⟨A,B,C,by rw [List.length_append] at D;omega⟩
def mi (w:World) (e:Ending) (w':World):Prop:=∃v,e= .returned v/\Ow w' w.heap.size v []/\Below w.heap.size w w'
theorem MK (n:Nat) (w:World) (T:n<=1152921504606):Calls prog 192 #[.slice none 0 0,.int .i64 n] w (mi w):=by
 obtain⟨l,g,h,i,c⟩:=info_parts bu;refine letter fun R j=> ?_
 by_cases p:n=0
 ·subst p;go_enter func192,ntmps192
  go_wp2;rw [j.out]
  exact⟨_,rfl,Ow.nil _ _,Below.refl _ _⟩
 ·have s:0<n:=by omega
  have v:¬((n:Int)<0):=by omega
  have x:(n:Int)>0:=by omega
  have b:=fun t=>Lib.run_append_grow_zeros (P:=prog) w 24 3 t 5 l _ .i64 .i64 underlying24 underlying3 g h none 0 0 [] (run_firstCells_none w.drew l.size 0 0 0) n s (by rw [i];omega) (by omega) (by omega) (by rw [c];omega) (growslice_fits (by omega) (by rw [c];omega));have d:Hid (0<=grownCap w (0+n) 0 5/\n<=grownCap w (0+n) 0 5/\grownCap w (0+n) 0 5<=maxLen):=aa ⟨Nat.zero_le _,by have:=grownCap_ge w (0+n) 0 5;omega,grownCap_le_maxLen w _ _ _ (by unfold maxLen;omega)⟩;obtain⟨G,k⟩:∃G,G=grownCap w (0+n) 0 5:=⟨_,rfl⟩;rw [<-k] at b d;have r:n<=G:=d.out.2.1;have u:G<=9223372036854775807:=by have:=d.out.2.2;unfold maxLen at this;exact this
  obtain⟨cs,a⟩:∃cs:Array Value,cs=(([]:List Value).toArray++Builtin.zeroCells (Value.int IntKind.u8 0).cells n++Builtin.zeroCells (Value.int IntKind.u8 0).cells (G-(0+n))):=⟨_,rfl⟩
  have o:Hid (cs.size=G*1):=aa (by
   rw [a];have q:∀m,(Builtin.zeroCells (Value.int IntKind.u8 0).cells m).size=m:=fun m=>by rw [size_zeroCells];simp [Value.cells]
   simp only [Array.size_append,q];simp;omega)
  have f:=b 24;rw [<-a,Nat.zero_add] at f;have e:=aa f;clear b k a f;go_enter func192,ntmps192
  go_wp2_with (at_builtin;go_loud (refine Lib.wpList_append_run _ rfl _ _ _ _ rfl _ _ rfl rfl _ _ e ?_))
  rw [j.out];exact⟨_,rfl,L9 w.drew 5 1 G cs o d.2.2,((Below.refl _ _).drew).alloc (Nat.le_refl _) _⟩
theorem yS {ts:List (List UInt8)} {t:List UInt8} (h:ts[i]? =some t):(ts.take (i+1)).flatten=(ts.take i).flatten++t:=by
 rw [List.take_add_one,h];simp
theorem Im (ts:List (List UInt8)) (i:Nat):(ts.take i).flatten.length<=ts.flatten.length:=by
 conv=>rhs;rw [<-List.take_append_drop i ts,List.flatten_append,List.length_append]
 omega
theorem uV (F:Nat->Prop) (A:Option Addr) (n c:Nat) (ts:List (List UInt8)) (w:World) (h:Tx w F A n c ts) (hF:∀b,F b->b<w.heap.size) (T:n<=1152921504606) (hl:ts.flatten.length<=1152921504606):
  Calls prog 170 #[.slice A n c] w (fun e w'=>∃v,e= .returned v/\Ow w' w.heap.size v ts.flatten/\Below w.heap.size w w'):=by
 obtain⟨i0,N,W,X,Y⟩:=info_parts bu;refine letter fun R HR=> ?_;have HH:=aa h;have HF:=aa hF;have Io:Hid (n=ts.length):=h.len;have I:=aa hl;clear h hF hl;go_enter func170,ntmps170
 go_wp2
 go_loop [3,11] (fun s i=>∃k:Nat,k<=n/\i= .int .i64 k/\s= .int .i64 ((ts.take k).flatten.length:Nat)) (fun _ i=>n-(intOf i).toNat)
 case atStart=>exact⟨0,Nat.zero_le _,rfl,by simp⟩
 case round=>
  obtain⟨k,hk,rfl,rfl⟩:=hrel
  by_cases U:k<n
  ·obtain⟨b,o,G,q,K,t,rfl,_,E,z,P,Q,f,p⟩:=HH.out.at_ U;have r:Hid ((ts.take (k+1)).flatten.length=(ts.take k).flatten.length+q):=aa (by rw [yS E,List.length_append,f.out]);have d:=Im ts (k+1);have M:=I.out;rw [r.out] at d;obtain⟨S,y⟩:∃S,S=(ts.take k).flatten.length:=⟨_,rfl⟩;rw [<-y] at d r|-;have HS:=aa y;have hs:S+q<=1152921504606:=by omega
   have al:¬((S:Int)+(q:Int)<0):=by omega
   clear d M y E f p;go_wp2
   go_round
   case rel=>exact⟨k+1,by omega,by go_num,by rw [r.out];go_num⟩
   case measure=>simp [intOf];omega
  ·have D:k=n:=by omega
   have HT:Hid ((ts.take k).flatten=ts.flatten):=aa (by rw [D,Io.out,List.take_length]);obtain⟨S,y⟩:∃S,S=(ts.take k).flatten.length:=⟨_,rfl⟩;rw [<-y];have L:S<=1152921504606:=by rw [y,HT.out];exact I
   have hd:decide ((k:Int)<(n:Int))=false:=decide_eq_false (by omega);have ad:decide (k<n)=false:=decide_eq_false (by omega);have HG:=aa (MK S w L);clear D y;go_wp2_with (go_at_call 192;go_loud (refine HG.mono ?_);rintro e w1 ⟨v0,rfl,hO,hB⟩;have HO:=aa hO;have HB:=aa hB;clear hO hB)
   go_loopw [6,27] (fun v i wz=>∃j:Nat,j<=n/\i= .int .i64 j/\Ow wz w.heap.size v (ts.take j).flatten/\Below w.heap.size w wz) (fun _ i _=>n-(intOf i).toNat)
   case atStart=>exact⟨0,Nat.zero_le _,rfl,HO,HB⟩
   case round=>
    obtain⟨j,hj,rfl,x,u⟩:=hrel;have H:=aa x;have m:=aa u;obtain⟨A2,c2,V,ab,ac⟩:=au x;subst V;have sN:=aa u.size;clear x u
    by_cases O:j<n
    ·obtain⟨b,o,G,q,K,t,rfl,BM,E,a,P,Q,f,p⟩:=HH.out.at_ O;have z:wr.cell? ⟨b,o+j,none⟩=some (.slice G q K):=ak m a;have uf:Hid (Rd wr F 1 G q (aF t)):=aa (p.below m);have d:=Im ts (j+1);have M:=I.out;have r:Hid ((ts.take (j+1)).flatten=(ts.take j).flatten++t):=aa (yS E);rw [r.out,List.length_append] at d;have Z:Hid ((ts.take j).flatten.length+q<=1152921504606):=aa (by have:=f.out;omega);obtain⟨xs,B⟩:∃xs,xs=(ts.take j).flatten:=⟨_,rfl⟩;rw [<-B] at H r Z|-;have P7:=aa B;clear d M B E a p;go_wp2_with (at_builtin;go_loud (refine af _ rfl (.tmp 31) (.tmp 32) _ rfl w.heap.size 5 i0 _ 1 1 underlying24 N W X Y rfl (by omega) _ _ (aF xs) rfl H F G q K (aF t) rfl uf (bC _) (by have:=Z.out;simp only [maxLen];omega) (by have:=Z.out;omega) sN ?_);intro v6 w6 l fu dD;have lU:=aa l;have kE:=aa fu;clear l fu dD)
     go_roundw
     case rel=>
      refine⟨j+1,by omega,by go_num,?_,m.grown kE sN (fun g hg=>(ah H g hg).1)⟩;rw [r.out];have h1:=lU.out
      unfold Ow;rw [List.length_append,<-f.out];simpa [aF] using h1
     case measure=>simp [intOf];omega
    ·have C:j=n:=by omega
     have ae:decide ((j:Int)<(n:Int))=false:=decide_eq_false (by omega);have J:Hid ((ts.take j).flatten=ts.flatten):=aa (by rw [C,Io.out,List.take_length]);clear C;go_wp2;rw [HR.out];exact⟨_,rfl,by rw [<-J.out];exact H,m⟩
structure ay.Ok (K:Nat) (c:ay):Prop where
 fine:c.err=0->c.Fine K
 sum:c.at_+c.held.toList.length+c.src.left.length<=1152921504606
 gives:c.src.gives.length<=1152921504606
theorem Src.read_gives (s:Src) (n:Nat):(s.read n).2.2.gives=s.gives:=by
 unfold Src.read
 split
 ·rfl
 ·split<;>rfl
theorem ay.loop_gives (n:Nat):∀(M:Nat) (c:ay) (b:List UInt8),(n-b.length)*17+(16-c.idle)<=M->(c.loop b n).2.2.src.gives=c.src.gives:=by
 intro M
 induction M with
 |zero=>
  intro c b h
  rw [ay.loop_eq,if_pos (by omega)]
 |succ M j=>
  intro c b h;have a:(c.ask (n-b.length)).2.2.src.gives=c.src.gives:=Src.read_gives _ _;have e:=c.ask_idle (n-b.length);rw [ay.loop_eq]
  split
  ·rfl
  ·split
   ·exact a
   ·rename_i k f
    split
    ·exact a
    ·split
     ·exact a
     ·rename_i l g;have i:(c.ask (n-b.length)).2.1=0:=Decidable.byContradiction g
      split
      ·exact a
      ·rename_i m;rw [j _ _ ?_,a];rw [List.length_append] at f|-
       by_cases d:(c.ask (n-b.length)).1= []
       ·rw [if_neg (by simp [d,i])] at e
        rw [d];simp only [List.length_nil];omega
       ·have o:0<(c.ask (n-b.length)).1.length:=List.length_pos_iff.2 d;rw [if_pos (.inl d)] at e;omega
theorem ay.held_len (c:ay):c.held.toList.length<=1:=by cases c.held<;>simp
theorem ay.bytes_len (h:c.Ok K) (n:Nat) (e:0<n) (a:(c.bytes n).2.1=0):(c.bytes n).1.length=n:=by
 unfold ay.bytes at a|-
 by_cases b:c.err=0
 ·rw [if_neg (fun h=>h b),if_neg (by omega)] at a|-
  split at a
  ·rename_i d;rw [if_pos d]
   exact((ay.loop_out (K:=K) n _ {c with held:=none} c.held.toList (Nat.le_refl _) ⟨(h.fine b).idle,(h.fine b).pot⟩ (by have:=c.held_len;omega)).1 d).1
  ·rename_i d;exact absurd a d
 ·rw [if_pos b] at a;exact absurd a b
theorem ay.bytes_err (c:ay) (n:Nat) (h:(c.bytes n).2.1≠0):(c.bytes n).1= []:=by
 unfold ay.bytes at h|-
 split
 ·rfl
 ·rename_i a;rw [if_neg a] at h
  split
  ·rfl
  ·rename_i b;rw [if_neg b] at h
   split
   ·rename_i d;rw [if_pos d] at h;exact absurd rfl h
   ·rfl
theorem ay.bytes_ok (h:c.Ok K) (n:Nat):(c.bytes n).2.2.Ok K:=by
 unfold ay.bytes
 split
 ·exact h
 ·rename_i b;have b:c.err=0:=Decidable.byContradiction b
  split
  ·exact h
  ·rename_i r;obtain⟨g,q,l,i,m,e⟩:=ay.loop_out (K:=K) n _ {c with held:=none} c.held.toList (Nat.le_refl _) ⟨(h.fine b).idle,(h.fine b).pot⟩ (by have:=c.held_len;omega);have f:=ay.loop_gives n _ {c with held:=none} c.held.toList (Nat.le_refl _);have s:=h.sum;have a:=h.gives;simp only [] at g l i m e f
   split
   ·rename_i d;obtain⟨o,j,k,p⟩:=g d
    refine⟨fun _=>⟨k,j⟩,?_,?_⟩
    ·simp only [e,Option.toList_none,List.length_nil];omega
    ·simp only [f];exact a
   ·rename_i d
    refine⟨fun h=>absurd h d,?_,?_⟩
    ·simp only [e,i,Option.toList_none,List.length_nil];omega
    ·simp only [f];exact a
theorem ay.bytes_e (n:Nat) (h:c.err≠0):c.bytes n=([],c.err,c):=by unfold ay.bytes;rw [if_pos h]
theorem ay.bytes_same (h:c.Ok K) (n:Nat):(c.bytes n).2.2.err=(c.bytes n).2.1:=by
 unfold ay.bytes
 split
 ·rfl
 ·rename_i a;have a:c.err=0:=Decidable.byContradiction a
  split
  ·exact a
  ·rename_i j;obtain⟨d,e,f,g,b,i⟩:=ay.loop_out (K:=K) n _ {c with held:=none} c.held.toList (Nat.le_refl _) ⟨(h.fine a).idle,(h.fine a).pot⟩ (by have:=c.held_len;omega)
   split
   ·exact b.trans a
   ·rfl
theorem ay.err_ok (h:c.Ok K) {e:Int} (a:e≠0):({c with err:=e}:ay).Ok K:=⟨fun h=>absurd h a,h.sum,h.gives⟩
theorem ay.numL_eq (k v:Nat) (c:ay) (a:k<10):c.numL k v=if(c.bytes 1).2.1≠0 then(0,(c.bytes 1).2.1,(c.bytes 1).2.2)
 else if k=9/\1<((c.bytes 1).1.headD 0).toNat then(0,12,{(c.bytes 1).2.2 with err:=12})
 else if 0<k/\((c.bytes 1).1.headD 0).toNat=0 then(0,13,{(c.bytes 1).2.2 with err:=13})
 else if((c.bytes 1).1.headD 0).toNat<128 then(v+((c.bytes 1).1.headD 0).toNat%128*128^k,0,(c.bytes 1).2.2)
 else(c.bytes 1).2.2.numL (k+1) (v+((c.bytes 1).1.headD 0).toNat%128*128^k):=by
 conv=>lhs;unfold ay.numL
 rw [if_neg (by omega)]
theorem ay.numL_ok:∀(m k v:Nat) (c:ay),k+m=10->c.Ok K->(c.numL k v).2.2.Ok K/\(c.numL k v).2.2.err=(c.numL k v).2.1:=by
 intro m
 induction m with
 |zero=>
  intro k v c e h;have:10<=k:=by omega
  unfold ay.numL;rw [if_pos this]
  exact⟨ay.err_ok (ay.bytes_ok h 1) (by decide),rfl⟩
 |succ m f=>
  intro k v c e h;have a:=ay.bytes_ok h 1;have d:=ay.bytes_same h 1;rw [ay.numL_eq _ _ _ (by omega)]
  split
  ·exact⟨a,d⟩
  ·rename_i b;have b:(c.bytes 1).2.1=0:=Decidable.byContradiction b
   split
   ·exact⟨ay.err_ok a (by decide),rfl⟩
   ·split
    ·exact⟨ay.err_ok a (by decide),rfl⟩
    ·split
     ·exact⟨a,d.trans b⟩
     ·exact f _ _ _ (by omega) a
theorem ay.bytes_at' (h:c.Ok K) (n:Nat):c.at_<=(c.bytes n).2.2.at_:=by
 unfold ay.bytes
 split
 ·exact Nat.le_refl _
 ·rename_i a;have a:c.err=0:=Decidable.byContradiction a
  split
  ·exact Nat.le_refl _
  ·rename_i j;obtain⟨d,e,f,b,g,i⟩:=ay.loop_out (K:=K) n _ {c with held:=none} c.held.toList (Nat.le_refl _) ⟨(h.fine a).idle,(h.fine a).pot⟩ (by have:=c.held_len;omega)
   split
   ·exact Nat.le_add_right _ _
   ·exact Nat.le_of_eq b.symm
theorem ay.number_ok (h:c.Ok K):c.number.2.2.Ok K/\c.number.2.2.err=c.number.2.1:=by
 obtain⟨d,f⟩:=ay.numL_ok (K:=K) 10 0 0 c rfl h;unfold ay.number
 split
 ·exact⟨d,f⟩
 ·rename_i g
  have hl:∀(m k v:Nat) (c:ay),k+m=10->c.Ok K->c.at_<=(c.numL k v).2.2.at_:=by
   intro m
   induction m with
   |zero=>
    intro k v c i b;have:10<=k:=by omega
    unfold ay.numL;rw [if_pos this]
    exact ay.bytes_at' b 1
   |succ m j=>
    intro k v c i b;have a:=ay.bytes_at' b 1;rw [ay.numL_eq _ _ _ (by omega)]
    split
    ·exact a
    ·split
     ·exact a
     ·split
      ·exact a
      ·split
       ·exact a
       ·exact Nat.le_trans a (j _ _ _ (by omega) (ay.bytes_ok b 1))
  have l:=hl 10 0 0 c rfl h;have n:=d.sum;exact⟨⟨fun e=>absurd (f.symm.trans e) g,by simp only [];omega,d.gives⟩,f⟩
end Go.Proofs.YtepgcjbhabnciaaGreat
