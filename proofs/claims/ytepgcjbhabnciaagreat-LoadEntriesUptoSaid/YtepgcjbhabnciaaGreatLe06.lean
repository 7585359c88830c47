/- Part 6. -/
import Derived.Shelf.Spec.TrailingZeros
import Derived.Test.YtepgcjbhabnciaaGreatLe05
namespace Go.Proofs.YtepgcjbhabnciaaGreat
set_option maxRecDepth 100000
set_option maxHeartbeats 8000000
open Go Go.Proofs.Tryz Go.RowKit
variable {s base m i x:Nat} {w w' w2:World} {v u:Value} {bs l:List UInt8} {c:UInt8}
theorem dI (a b:Nat) (e:a<4294967296) (f:b<4294967296):bits .xor .u32 (a:Int) (b:Int)=((a^^^b:Nat):Int):=by
 have g:a^^^b<2^32:=Nat.xor_lt_two_pow (by omega) (by omega);have c:(BitVec.ofInt 32 (a:Int)).toNat=a:=by rw [BitVec.ofInt_natCast,BitVec.toNat_ofNat];exact Nat.mod_eq_of_lt (by omega)
 have d:(BitVec.ofInt 32 (b:Int)).toNat=b:=by rw [BitVec.ofInt_natCast,BitVec.toNat_ofNat];exact Nat.mod_eq_of_lt (by omega)
 show IntKind.u32.wrap ((BitVec.ofInt 32 (a:Int)^^^BitVec.ofInt 32 (b:Int)).toNat:Int)=_;rw [BitVec.toNat_xor,c,d,IntKind.wrap_u32];omega
def kN (s:Nat):Nat:=if s%2=1 then(s/2)^^^3988292384 else s/2
def oM:Nat->Nat->Nat
 |0,s=>s
 |k+1,s=>kN (oM k s)
def Jp (s:Nat) (l:List UInt8):Nat:=l.foldl (fun s c=>oM 8 (s^^^c.toNat)) s
def aW (l:List UInt8):Nat:=4294967295^^^Jp 4294967295 l
def four (s:Nat):List UInt8:= [UInt8.ofNat s,UInt8.ofNat (s/256),UInt8.ofNat (s/65536),UInt8.ofNat (s/16777216)]
theorem MO (h:s<4294967296):kN s<4294967296:=by
 unfold kN
 split
 ·exact Nat.xor_lt_two_pow (n:=32) (by omega) (by omega)
 ·omega
theorem qh {s:Nat} (h:s<4294967296):∀k,oM k s<4294967296
 |0=>h
 |k+1=>MO (qh h k)
theorem zZ (h:s<4294967296) (c:UInt8):s^^^c.toNat<4294967296:=Nat.xor_lt_two_pow (n:=32) (by omega) (by have:=c.toNat_lt;omega)
theorem uX:∀(l:List UInt8) {_s:Nat},_s<4294967296->Jp _s l<4294967296
 | [],_s,h=>h
 |c::r,_s,h=>uX r (_s:=oM 8 (_s^^^c.toNat)) (qh (zZ h c) 8)
theorem MP (s:Nat) (l:List UInt8) (c:UInt8):Jp s (l++ [c])=oM 8 (Jp s l^^^c.toNat):=by simp [Jp,List.foldl_append]
theorem CP (h:l[i]? =some c):Jp s (l.take (i+1))=oM 8 (Jp s (l.take i)^^^c.toNat):=by
 rw [List.take_add_one,h];exact MP _ _ _
theorem CQ (l:List UInt8):aW l<4294967296:=Nat.xor_lt_two_pow (n:=32) (by omega) (uX l (by omega))
theorem E8 (h:x<4294967296):4294967295^^^x=4294967295-x:=by
 have a:(BitVec.allOnes 32^^^BitVec.ofNat 32 x).toNat=(~~~BitVec.ofNat 32 x).toNat:=by rw [BitVec.allOnes_xor]
 rw [BitVec.toNat_xor,BitVec.toNat_not,BitVec.toNat_allOnes,BitVec.toNat_ofNat,Nat.mod_eq_of_lt (by omega)] at a;exact a
theorem Jo (s:Nat) (w:World) (h:s<4294967296):Calls prog 217 #[.int .u32 s] w fun e w'=>e= .returned (.int .u32 (kN s))/\w=w':=by
 have c:s/2<4294967296:=by omega
 have g:bits .and .u32 3988292384 4294967295=3988292384:=by decide
 have i:bits .and .u32 3988292384 0=0:=by decide
 have j:=dI (s/2) 3988292384 c (by omega);have d:=dI (s/2) 0 c (by omega)
 have b:bits .and .u32 (s:Int) 1=((s%2:Nat):Int):=by
  have:=bits_and_u32_nat s 1 h (by omega);rw [Nat.and_one_is_mod] at this;exact this
 rcases Nat.mod_two_eq_zero_or_one s with a|a
 ·rw [a] at b;have f:kN s=s/2:=by unfold kN;rw [a];simp
  rw [Nat.xor_zero] at d;go_enter func217,ntmps217
  go_wp2;go_ret
  refine⟨?_,rfl⟩
  simp_all
 ·rw [a] at b;have f:kN s=(s/2)^^^3988292384:=by unfold kN;rw [a];simp
  go_enter func217,ntmps217
  go_wp2;go_ret
  refine⟨?_,rfl⟩
  simp_all
theorem P8 (s:Nat) (z:Int) (A:Option Addr) (n c:Nat) (F:Nat->Prop) (l:List UInt8) (w:World) (Y:s<4294967296) (Z:z=(s:Int)) (h:Rd w F 1 A n (aF l)) (j:n=l.length) (K:n<=1152921504606):
  Calls prog 206 #[.int .u32 z,.slice A n c] w fun e w'=>e= .returned (.int .u32 (Jp s l))/\w=w':=by
 have M:=aa h;have P:=aa j;clear h j;subst Z;go_enter func206,ntmps206
 go_wp2
 go_loopg [9,0] n (fun U iv sv wz=>∃i:Nat,U=n-i/\i<=n/\iv= .int .i64 i/\sv= .int .u32 (Jp s (l.take i))/\w=wz)
 case atStart=>exact⟨0,by omega,by omega,rfl,rfl,rfl⟩
 case round=>
  obtain⟨i,G,hi,rfl,rfl,rfl⟩:=hrel;have N:=aa G;clear G;obtain⟨t,m⟩:∃t,t=Jp s (l.take i):=⟨_,rfl⟩;have C:=aa m;have d:t<4294967296:=by rw [m];exact uX _ Y
  rw [<-m];clear m
  by_cases y:i<n
  ·have H:(i:Int)<(n:Int):=by omega
   obtain⟨b,o,u,rfl,_,J,W⟩:=M.out.at_ y;obtain⟨x,f,rfl⟩:=dX J;have R:=aa f;simp only [bv] at W;have T:=dI t x.toNat d (by have:=x.toNat_lt;omega);have hm:(x.toNat:Int)%4294967296=(x.toNat:Int):=by have:=x.toNat_lt;omega
   have I:t^^^x.toNat<4294967296:=zZ d x;obtain⟨r,a⟩:∃r,r=t^^^x.toNat:=⟨_,rfl⟩;have Q:=aa a;rw [<-a] at T I;clear J f a;go_wp2
   go_loopg [17,0] 8 (fun V kv tv wy=>∃k:Nat,V=8-k/\k<=8/\kv= .int .i64 k/\tv= .int .u32 (oM k r)/\w=wy)
   case atStart=>exact⟨0,by omega,by omega,rfl,rfl,rfl⟩
   case round=>
    obtain⟨k,D,hk,rfl,rfl,rfl⟩:=hrel;have O:=aa D;clear D;obtain⟨q,g⟩:∃q,q=oM k r:=⟨_,rfl⟩;have B:=aa g;have L:q<4294967296:=by rw [g];exact qh I k
    rw [<-g];clear g
    by_cases X:k<8
    ·have S:(k:Int)<8:=by omega
     go_wp2_with (go_at_call 217;refine(Jo q w L).mono ?_;rintro e w2 ⟨rfl,rfl⟩)
     go_roundg (8-(k+1))
     case measure=>have:=O.out;omega
     case rel=>exact⟨k+1,rfl,by omega,by go_num,by rw [B.out];rfl,rfl⟩
    ·have v:k=8:=by omega
     subst v;go_wp2
     go_roundg (n-(i+1))
     case measure=>have:=N.out;omega
     case rel=>exact⟨i+1,rfl,by omega,by go_num,by rw [B.out,Q.out,C.out,CP R.out],rfl⟩
  ·have p:i=n:=by omega
   subst p;have E:=C.out;rw [List.take_of_length_le (by have:=P.out;omega)] at E;subst E;go_wp2;go_ret
   exact⟨rfl,rfl⟩
theorem P9 (A:Option Addr) (n c:Nat) (F:Nat->Prop) (l:List UInt8) (w:World) (h:Rd w F 1 A n (aF l)) (j:n=l.length) (K:n<=1152921504606):
  Calls prog 191 #[.slice A n c] w fun e w'=>e= .returned (.int .u32 (aW l))/\w=w':=by
 have d:=aa (P8 4294967295 4294967295 A n c F l w (by omega) (by omega) h j K);obtain⟨t,a⟩:∃t,t=Jp 4294967295 l:=⟨_,rfl⟩;have hl:t<4294967296:=by rw [a];exact uX l (by omega)
 have i:Hid (bits .xor .u32 IntKind.u32.max (t:Int)=((aW l:Nat):Int)):=aa (by
  have f:=dI 4294967295 t (by omega) hl;rw [a] at f|-;exact f)
 rw [<-a] at d;obtain⟨R,b⟩:∃R:Ending->World->Prop,R=fun e w'=>e= .returned (.int .u32 (aW l))/\w=w':=⟨_,rfl⟩;have g:=aa b;rw [<-b];clear h j a hl b;go_enter func191,ntmps191
 go_wp2_with (go_at_call 206;refine d.mono ?_;rintro e w2 ⟨rfl,rfl⟩)
 rw [g.out,i.out];exact⟨rfl,rfl⟩
theorem ag.of_grown (a:w.grownBy w2 v.ownBlock):ag (fun b=>v.ownBlock=some b) w w2:=(ag.refl _ _).grown a (fun _ c _=>c)
def Ow (w:World) (base:Nat) (v:Value) (bs:List UInt8):Prop:=w.ownsRow base 5 1 v bs.length (aF bs)
theorem Ow.nil (w:World) (base:Nat):Ow w base (.slice none 0 0) []:=World.ownsRow_nil _ _ _ _
theorem Ow.sb (h:Ow w base v bs):SB w (From base) v bs:=L8 h
theorem Ow.below (h:Ow w base v bs) (a:Below w.heap.size w w'):Ow w' base v bs:=own_below h a
theorem Ow.chg {S:Nat->Prop} (h:Ow w base v bs) (y:ag S w w') (a:∀g,v.ownBlock=some g->¬S g):Ow w' base v bs:=aD h y a
theorem Ow.snoc (h:w.ownsRow base 5 1 v (bs.length+1) (aF bs++ [u])) (a:u=bv c):Ow w base v (bs++ [c]):=by
 subst a;unfold Ow;simpa [aF] using h
def C9 (w:World) (base:Nat) (bs:List UInt8) (e:Ending) (w':World):Prop:=∃v,e= .returned v/\Ow w' base v bs/\ag (From base) w w'
theorem KD:∀x:Nat,x<256->x|||128=x%128+128:=by decide
theorem gV (m:Nat):bits .or .u8 ((m:Int)%256) 128=((m%128+128:Nat):Int):=by
 have h:=(bits_nat .u8 8 (by decide) wraps_u8 (m%256) 128 (by omega) (by omega)).2;rw [KD _ (by omega),show m%256%128=m%128 by omega] at h;exact h
theorem TT (m:Nat):Value.int .u8 ((m%128+128:Nat):Int)=bv (UInt8.ofNat (m%128+128)):=by
 unfold bv;congr 1;rw [UInt8.toNat_ofNat'];omega
theorem TU (h:m<128):Value.int .u8 (m:Int)=bv (UInt8.ofNat m):=by
 unfold bv;congr 1;rw [UInt8.toNat_ofNat'];omega
theorem zK (h:¬m<128):aM m=UInt8.ofNat (m%128+128)::aM (m/128):=by rw [aM,if_neg h]
theorem om (h:m<128):aM m= [UInt8.ofNat m]:=by rw [aM,if_pos h]
theorem Eo (base n:Nat) (v:Value) (d:List UInt8) (w:World) (I:Ow w base v d) (V:d.length<=1152921504606) (Y:n<18446744073709551616) (W:base<=w.heap.size):
  Calls prog 205 #[v,.int .u64 n] w (C9 w base (d++aM n)):=by
 obtain⟨J,k,p,q,r⟩:=info_parts bu;obtain⟨N,u⟩:∃N,N=d++aM n:=⟨_,rfl⟩;have i:N.length<=1152921504616:=by have:=lX n 9 (by omega);rw [u];rw [List.length_append];omega
 obtain⟨R,C⟩:∃R,R=C9 w base N:=⟨_,rfl⟩;have A:=aa C;rw [<-u,<-C];have S:=aa u;have P:=aa W;have yX:=aa i;have z:=aa I;clear I;clear C u W i;go_enter func205,ntmps205
 go_wp2
 go_loopg [0,1] n (fun U T Z O=>∃(m:Nat) (bs:List UInt8),U=m/\Z= .int .u64 m/\m<18446744073709551616/\bs++aM m=N/\Ow O base T bs/\ag (From base) w O)
 case atStart=>exact⟨n,d,rfl,rfl,Y,S.out.symm,z,ag.refl _ _⟩
 case round=>
  obtain⟨m,bs,H,rfl,hm,y,o,D⟩:=hrel;have Q:=aa H;have G:=aa y;have s:=aa o;have L:=aa D;have j:bs.length<=1152921504616:=by have:=yX.out;rw [<-y] at this;rw [List.length_append] at this;omega
  have x:=aa j;have K:Hid (base<=wr.heap.size):=aa (Nat.le_trans P D.size);clear H y o D j
  by_cases b:m<128
  ·have l:¬((128:Int)<=(m:Int)):=by omega
   have X:(m:Int)%256=(m:Int):=by omega
   go_wp2_with (at_builtin;go_loud (refine af _ rfl (.tmp 15) (.tmp 18) _ rfl base 5 J _ 1 1 underlying24 k p q r rfl (by omega) u0 _ (aF bs) rfl (own_below s ((Below.refl _ _).alloc (Nat.le_refl _) _)) (From wr.heap.size) (some ⟨wr.heap.size,0,none⟩) 1 1 [.int .u8 m] rfl (Rd.one wr _ _) (by simp [Value.oneCell']) (by have:=x.out;simp only [maxLen];omega) (by have:=x.out;omega) (by have:=K.out;simp;omega) ?_);intro M w6 a f B;have F:=aa a;have E:=aa f;clear a f B)
   rw [A.out];have t:=Ow.snoc F (TU b);have h:=G.out;rw [om b] at h;rw [h] at t
   exact⟨M,rfl,t,(L.then ((Below.refl _ _).alloc (Nat.le_refl _) _)).trans (ag.of_grown E) (fun g _ e=>(ah s g e).1)⟩
  ·have l:(128:Int)<=(m:Int):=by omega
   have e1:=gV m;go_wp2_with (at_builtin;go_loud (refine af _ rfl (.tmp 9) (.tmp 13) _ rfl base 5 J _ 1 1 underlying24 k p q r rfl (by omega) u0 _ (aF bs) rfl (own_below s ((Below.refl _ _).alloc (Nat.le_refl _) _)) (From wr.heap.size) (some ⟨wr.heap.size,0,none⟩) 1 1 [.int .u8 ((m%128+128:Nat):Int)] rfl (Rd.one wr _ _) (by simp [Value.oneCell']) (by have:=x.out;simp only [maxLen];omega) (by have:=x.out;omega) (by have:=K.out;simp;omega) ?_);intro M w6 a f B;have F:=aa a;have E:=aa f;clear a f B)
   go_roundg (m/128)
   case measure=>have:=Q.out;omega
   case rel=>
    have t:=Ow.snoc (c:=UInt8.ofNat (m%128+128)) F (by rw [<-TT]);have h:=G.out;rw [zK b] at h;exact⟨m/128,bs++ [UInt8.ofNat (m%128+128)],rfl,by congr 1,by omega,by simpa using h,t,(L.then ((Below.refl _ _).alloc (Nat.le_refl _) _)).trans (ag.of_grown E) (fun g _ e=>(ah s g e).1)⟩
theorem fI (base n:Nat) (w:World) (S:n<18446744073709551616) (W:base<=w.heap.size):
  Calls prog 105 #[.int .u64 n] w (C9 w base (aM n)):=by
 obtain⟨F,j,o,p,q⟩:=info_parts bu;obtain⟨N,t⟩:∃N,N=aM n:=⟨_,rfl⟩;have h:N.length<=1152921504616:=by have:=lX n 9 (by omega);rw [t];omega
 obtain⟨R,z⟩:∃R,R=C9 w base N:=⟨_,rfl⟩;have x:=aa z;rw [<-t,<-z];have M:=aa t;have K:=aa W;have V:=aa h
 skip
 clear z t W h;go_enter func105,ntmps105
 go_wp2
 go_loopg [3,0] n (fun P O T J=>∃(m:Nat) (bs:List UInt8),P=m/\T= .int .u64 m/\m<18446744073709551616/\bs++aM m=N/\Ow J base O bs/\ag (From base) w J)
 case atStart=>exact⟨n,[],rfl,rfl,S,M.out.symm,Ow.nil _ _,ag.refl _ _⟩
 case round=>
  obtain⟨m,bs,E,rfl,Y,v,l,A⟩:=hrel;have L:=aa E;have D:=aa v;have r:=aa l;have H:=aa A;have i:bs.length<=1152921504616:=by have:=V.out;rw [<-v] at this;rw [List.length_append] at this;omega
  have u:=aa i;have G:Hid (base<=wr.heap.size):=aa (Nat.le_trans K A.size);clear E v l A i
  by_cases b:m<128
  ·have k:¬((128:Int)<=(m:Int)):=by omega
   have Q:(m:Int)%256=(m:Int):=by omega
   go_wp2_with (at_builtin;go_loud (refine af _ rfl (.tmp 15) (.tmp 18) _ rfl base 5 F _ 1 1 underlying24 j o p q rfl (by omega) u3 _ (aF bs) rfl (own_below r ((Below.refl _ _).alloc (Nat.le_refl _) _)) (From wr.heap.size) (some ⟨wr.heap.size,0,none⟩) 1 1 [.int .u8 m] rfl (Rd.one wr _ _) (by simp [Value.oneCell']) (by have:=u.out;simp only [maxLen];omega) (by have:=u.out;omega) (by have:=G.out;simp;omega) ?_);intro I U a d y;have C:=aa a;have B:=aa d;clear a d y)
   rw [x.out];have s:=Ow.snoc C (TU b);have f:=D.out;rw [om b] at f;rw [f] at s
   exact⟨I,rfl,s,(H.then ((Below.refl _ _).alloc (Nat.le_refl _) _)).trans (ag.of_grown B) (fun g _ e=>(ah r g e).1)⟩
  ·have k:(128:Int)<=(m:Int):=by omega
   have X:=gV m;go_wp2_with (at_builtin;go_loud (refine af _ rfl (.tmp 6) (.tmp 11) _ rfl base 5 F _ 1 1 underlying24 j o p q rfl (by omega) u3 _ (aF bs) rfl (own_below r ((Below.refl _ _).alloc (Nat.le_refl _) _)) (From wr.heap.size) (some ⟨wr.heap.size,0,none⟩) 1 1 [.int .u8 ((m%128+128:Nat):Int)] rfl (Rd.one wr _ _) (by simp [Value.oneCell']) (by have:=u.out;simp only [maxLen];omega) (by have:=u.out;omega) (by have:=G.out;simp;omega) ?_);intro I U a d y;have C:=aa a;have B:=aa d;clear a d y)
   go_roundg (m/128)
   case measure=>have:=L.out;omega
   case rel=>
    have s:=Ow.snoc (c:=UInt8.ofNat (m%128+128)) C (by rw [<-TT]);have f:=D.out;rw [zK b] at f;exact⟨m/128,bs++ [UInt8.ofNat (m%128+128)],rfl,by congr 1,by omega,by simpa using f,s,(H.then ((Below.refl _ _).alloc (Nat.le_refl _) _)).trans (ag.of_grown B) (fun g _ e=>(ah r g e).1)⟩
theorem pz (base n:Nat) (w:World) (d:n<18446744073709551616) (W:base<=w.heap.size):Calls prog 187 #[.int .u64 n] w (C9 w base (aM n)):=by
 have b:=aa (Eo base n (.slice none 0 0) [] w (Ow.nil _ _) (by simp) d W);refine letter fun R a=> ?_;go_enter func187,ntmps187
 go_wp2_with (go_at_call 205;refine b.mono ?_;rintro e w2 ⟨v,rfl,f,c⟩)
 rw [a.out];exact⟨v,rfl,by simpa using f,c⟩
theorem Nv (w:World):Calls prog 166 #[] w fun e w'=>e= .returned (.pointer (some ⟨w.heap.size,0,none⟩))/\uC w' w.heap.size 0 0 0/\Below w.heap.size w w':=by
 go_enter func166,ntmps166
 go_wp2;go_ret
 exact⟨rfl,aj.new _ _ _,(Below.refl _ _).alloc (Nat.le_refl _) _⟩
theorem Nw (q v k:Nat) (w:World) (h:uC w q v k 1):Calls prog 168 #[.pointer (some ⟨q,0,none⟩)] w fun e w'=>e= .returned (.tuple #[.int .u64 v,.bool true])/\w=w':=by
 have a:w.cell? ⟨q,0,none⟩=some (.int .u64 v):=h.cell 0;have b:w.cell? ⟨q,2,none⟩=some (.int .i64 1):=h.cell 2;go_enter func168,ntmps168
 go_wp2;go_ret2
 exact⟨rfl,rfl⟩
end Go.Proofs.YtepgcjbhabnciaaGreat
