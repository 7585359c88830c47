/- Part 27. -/
import Derived.Test.YtepgcjbhabnciaaGreatLp26
namespace Go.Proofs.YtepgcjbhabnciaaGreat
set_option maxRecDepth 100000
set_option maxHeartbeats 8000000
open Go.Proofs.Tryz Go.RowKit
variable {n c m d p q r t base y c1 j d1 H k g:Nat} {v b v1 v2 i v5:Value} {A B z C:Option Addr} {a id root e:Int} {F G D:Nat->Prop} {keys ts vals:List (List UInt8)} {w w':World} {l:List Row} {s:Src} {kids:List Int} {sl:List aX} {us:List Value}
theorem uV (h:Tx w F A n c ts) (k:Tx w G B m d ts) (hn:n<=1152921504606):
  Calls prog 158 #[.slice A n c,.slice B m d] w fun e w'=>e= .returned true/\Below w w w':=by
 have C:n=m:=by rw [h.len,k.len]
 subst C;have v:=aa h;have x:=aa k;clear h k;go_enter func158,ntmps158;go_wp2
 go_loopg [5] n (fun g i wr=>∃(k:Nat),g=n-k/\k<=n/\i= (k:Int)/\Below w w wr)
 case atStart=>exact⟨0,by omega,by omega,rfl,mh⟩
 case round=>
  obtain⟨k,p,N,rfl,a⟩:=hrel;have u:=aa p;clear p
  by_cases j:k<n
  ·obtain⟨b,o,H,O,y,t,rfl,_,q,c1,L,M,D,l⟩:=(v.out.below a).at_ j;obtain⟨J,P,I,mk,z,S,rfl,_,f,K,k1,k2,E,s⟩:=(x.out.below a).at_ j;rw [q] at f;injection f with f;subst f;have Q:=fun(r:Nat)=>bC y (l.drewN r) D.out;have R:=fun(r:Nat)=>bC z (s.drewN r) E.out;clear q l s;go_wp2;go_quiet (fail);go_wp2
   go_roundg (n-(k+1))
   case measure=>have:=u.out;omega
   case rel=>exact⟨k+1,rfl,by omega,by go_num,below_drewN a _⟩
  ·go_wp2;go_ret
   exact⟨rfl,a⟩
theorem Ip {high:List UInt8} (lev right:Int) (h:Bt w F A n c high) (k:Bt w G B m d high):
  Calls prog 126 #[.agg #[lev,.slice A n c,right],.agg #[lev,.slice B m d,right]] w fun e w'=>e= .returned true/\Below w w w':=by
 have a:Below w w ((w.alloc (.cells #[lev,.slice A n c,right] 127)).alloc (.cells #[lev,.slice B m d,right] 127)):=gV.alloc (by simp) _;have b:=bC c (h.below a).2.2.2 h.len;have f:=bC d (k.below a).2.2.2 k.len;clear h k;go_enter func126,ntmps126;go_wp2;go_ret
 exact⟨rfl,a⟩
theorem Iq {l m n p:Option Addr} {a B v s:Nat}
  (Q:Tx w F z y c1 keys) (R:Tx w F l j q vals) (N:It w F m a r kids) (k1:Tx w G A B d1 keys) (k2:Tx w G n v s vals) (P:It w G p H t kids) (l1:y<=1152921504606) (l2:j<=1152921504606) (l3:a<=1152921504606):
  Calls prog 127 #[.agg #[.slice z y c1,.slice l j q,.slice m a r],.agg #[.slice A B d1,.slice n v s,.slice p H t]] w fun e w'=>e= .returned true/\Below w w w':=by
 have d:Below w w ((w.alloc (.cells #[.slice z y c1,.slice l j q,.slice m a r] 130)).alloc (.cells #[.slice A B d1,.slice n v s,.slice p H t] 130)):=gV.alloc (by simp) _;obtain⟨u,I⟩:=gF ((w.alloc (.cells #[.slice z y c1,.slice l j q,.slice m a r] 130)).alloc (.cells #[.slice A B d1,.slice n v s,.slice p H t] 130));rw [<-I] at d;have e3:a=H:=by rw [N.len,P.len]
 subst e3;have U:=aa (Q.below d);have V:=aa (R.below d);have W:=aa (N.below d);have Y:=aa (k1.below d);have Z:=aa (k2.below d);have K3:=aa (P.below d);have K:ak u w 130 #[.slice z y c1,.slice l j q,.slice m a r]:=by rw [I];exact(ak.new _ _ _).alloc _
 have L:ak u (w+1) 130 #[.slice A B d1,.slice n v s,.slice p a t]:=by rw [I];simpa using ak.new (w.alloc (.cells #[.slice z y c1,.slice l j q,.slice m a r] 130)) 130 #[.slice A B d1,.slice n v s,.slice p a t]
 have C:=aa K;have D:=aa L;clear Q R N k1 k2 P;go_enter func127,ntmps127;go_wp2_with (first|(go_at_call 158;rw [<-I];refine(uV U Y.out l1).mono ?_;rintro e w1 ⟨rfl,c⟩;have x1:w1.cell? ⟨w,1,none⟩=some (.slice l j q):=aj c (by rw [C.out.cell];rfl);have x2:w1.cell? ⟨w+1,1,none⟩=some (.slice n v s):=aj c (by rw [D.out.cell];rfl))|(go_at_call 158;refine(uV (V.below c) (Z.out.below c) l2).mono ?_;rintro e w2 ⟨rfl,O⟩;have J:=c.trans (O.mono c.size);have x3:w2.cell? ⟨w,2,none⟩=some (.slice m a r):=aj J (by rw [C.out.cell];rfl);have x4:w2.cell? ⟨w+1,2,none⟩=some (.slice p a t):=aj J (by rw [D.out.cell];rfl)))
 go_loopg [7] a (fun g i wr=>∃(k:Nat),g=a-k/\k<=a/\i= (k:Int)/\Below w2 w2 wr)
 case atStart=>exact⟨0,by omega,by omega,rfl,mh⟩
 case round=>
  obtain⟨k,S,hk,rfl,f⟩:=hrel;have X:=aa S;have y3:=aj f x3;have y4:=aj f x4;have M:=J.trans (f.mono J.size);clear S
  by_cases E:k<a
  ·obtain⟨b,o,x,rfl,_,T,p1⟩:=(W.out.below M).at_ E;obtain⟨b',o',x',rfl,_,h,p2⟩:=(K3.out.below M).at_ E;rw [T] at h;injection h with h;subst h;clear T;go_wp2;go_quiet (fail);go_wp2
   go_roundg (a-(k+1))
   case measure=>have:=X.out;omega
   case rel=>exact⟨k+1,rfl,by omega,by go_num,below_drewN f _⟩
  ·go_wp2;go_ret
   exact⟨rfl,d.trans (M.mono d.size)⟩
section
def Cells (w:World) (F:Nat->Prop) (P:Value->Prop) (A:Option Addr) (n:Nat):Prop:=
 n<=maxLen/\∀j,j<n->∃b o v,A=some ⟨b,o,none⟩/\F b/\b<w/\fe w b/\w.cell? ⟨b,o+j,none⟩=some v/\P v
def BD (v:Value):Prop:=∃x,v= .int .u8 x
def TR (v:Value):Prop:=∃x,v= (x:Int)
def Rows (w:World) (g:Nat) (F:Nat->Prop) (A:Option Addr) (n:Nat):Prop:=
 n<=maxLen/\∀j,j<n->∃a b c,A=some ⟨g,0,none⟩/\g<w/\fe w g/\w.cell? ⟨g,j,none⟩=some (.slice a b c)/\Cells w F BD a b
section
variable {S F G:Nat->Prop} {w w':World} {A:Option Addr} {n c g hi:Nat} {P:Value->Prop}
theorem Cells.weak (h:Cells w F P A n) (K:∀b,F b->G b):Cells w G P A n:=⟨h.1,fun j i=>let⟨b,o,v,e,a,c,d,f,g⟩:=h.2 j i;⟨b,o,v,e,K b a,c,d,f,g⟩⟩
theorem Cells.lt (h:Cells w F P A n):Cells w (fun b=>F b/\b<w) P A n:=⟨h.1,fun j i=>let⟨b,o,v,e,c,a,d,f,g⟩:=h.2 j i;⟨b,o,v,e,⟨c,a⟩,a,d,f,g⟩⟩
theorem Cells.chg (h:Cells w F P A n) (hc:ag S w w') (Q:∀b,F b->¬S b):Cells w' F P A n:=
 ⟨h.1,fun j i=>let⟨b,o,v,e,a,c,d,f,g⟩:=h.2 j i;⟨b,o,v,e,a,mU c hc.size,d.chg hc c (Q b a),hc.cell (Q b a) f,g⟩⟩
theorem fe.set_ {b:Nat} (h:fe w b) (p:Addr) (v:Value):fe (w.setCell p v) b:=fun o=>by rw [World.frozen?_setCell];exact h o
theorem Cells.put (h:Cells w F P A n) (p:Addr) {v:Value} (hv:P v):Cells (w.setCell p v) F P A n:=by
 refine⟨h.1,fun j k=> ?_⟩;obtain⟨b,o,u,e,a,c,d,f,i⟩:=h.2 j k
 by_cases g:p=⟨b,o+j,none⟩
 ·subst g
  exact⟨b,o,v,e,a,by simpa [World.setCell] using c,d.set_ _ _,World.cell?_setCell_same _ _ _ f,hv⟩
 ·exact⟨b,o,u,e,a,by simpa [World.setCell] using c,d.set_ _ _,by rw [World.cell?_setCell_other _ _ _ _ g];exact f,i⟩
theorem Cells.far (h:Cells w F P A n) (p:Addr) (v:Value) (c:¬F p.block):Cells (w.setCell p v) F P A n:=
 h.chg (S:=jX p.block) ((ag.refl (jX p.block) w).setCell (p:=p) (fun _=>rfl) v) (fun b a e=>by have e:b=p.block:=e;subst e;exact c a)
theorem Cells.none_ (w:World) (F:Nat->Prop) (P:Value->Prop) (A:Option Addr):Cells w F P A 0:=⟨Nat.zero_le _,fun j a=>absurd a (by omega)⟩
theorem Cells.of_bytes {bs:List UInt8} (h:Bt w (fG F w) A n c bs):Cells w F BD A n:=by
 refine⟨ma h.1 h.2.1,fun j f=> ?_⟩;obtain⟨b,o,u,e,a,d,c1⟩:=h.2.2.2.at_ f;obtain⟨x,_,rfl⟩:=eO d;exact⟨b,o,_,e,a.1,eU c1,a.2,c1,⟨_,rfl⟩⟩
theorem Cells.of_ints {ks:List Int} (h:It w (fG F w) A n c ks):Cells w F TR A n:=by
 refine⟨ma h.1 h.2.1,fun j d=> ?_⟩;obtain⟨b,o,x,e,a,f,c1⟩:=h.at_ d;exact⟨b,o,_,e,a.1,eU c1,a.2,c1,⟨_,rfl⟩⟩
theorem Rows.none_ (w:World) (g:Nat) (F:Nat->Prop) (A:Option Addr):Rows w g F A 0:=⟨Nat.zero_le _,fun j a=>absurd a (by omega)⟩
theorem Rows.of_texts {ts:List (List UInt8)} (h:Dh w g hi A n c ts):Rows w g (fun b=>g<b/\b<hi) A n:=by
 obtain⟨p,q,r,l,B,vs,s,t⟩:=h;refine⟨ma p q,fun j y=> ?_⟩;obtain⟨b,o,u,e,x,d,c1⟩:=s.at_ y;have hl:j<ts.length:=by have:n=ts.length:=r;omega
 obtain⟨v,a,z⟩:=t j ts[j] (mP hl);rw [d] at a;injection a with a;subst a;obtain⟨f,m,i,rfl,k⟩:=z;rw [l] at e;injection e with e
 injection e with d a
 subst d;subst a;rw [Nat.zero_add] at c1;exact⟨f,m,i,l,eU c1,x.2,c1,Cells.of_bytes (show Bt w (fG (fun b=>g<b/\b<hi) w) f m i ts[j] from k)⟩
theorem Rows.chg (h:Rows w g F A n) (hc:ag S w w') (c:¬S g) (Q:∀b,F b->¬S b):Rows w' g F A n:=
 ⟨h.1,fun j m=>let⟨d,o,f,e,a,i,k,l⟩:=h.2 j m;⟨d,o,f,e,mU a hc.size,i.chg hc a c,hc.cell c k,l.chg hc Q⟩⟩
theorem Rows.lt (h:Rows w g F A n):Rows w g (fun b=>F b/\b<w) A n:=
 ⟨h.1,fun j l=>let⟨a,m,c,e,d,f,i,k⟩:=h.2 j l;⟨a,m,c,e,d,f,i,k.lt⟩⟩
theorem Rows.put (h:Rows w g F A n) (p:Addr) {v:Value} (hv:BD v) (l:p.block≠g):Rows (w.setCell p v) g F A n:=by
 refine⟨h.1,fun j k=> ?_⟩;obtain⟨a,m,b,e,c,d,f,i⟩:=h.2 j k;exact⟨a,m,b,e,by simpa [World.setCell] using c,d.set_ _ _,by rw [World.cell?_setCell_other _ _ _ _ (fun e=>l (by rw [e]))];exact f,i.put p hv⟩
theorem Rows.nil_ (h:Rows w g F A n) (z:Nat) (l:¬F g):Rows (w.setCell ⟨g,z,none⟩ ()) g F A n:=by
 refine⟨h.1,fun j m=> ?_⟩;obtain⟨f,o,i,e,a,b,c,k⟩:=h.2 j m
 by_cases d:z=j
 ·subst d
  exact⟨none,0,0,e,by simpa [World.setCell] using a,b.set_ _ _,World.cell?_setCell_same _ _ _ c,Cells.none_ _ _ _ _⟩
 ·exact⟨f,o,i,e,by simpa [World.setCell] using a,b.set_ _ _,by rw [World.cell?_setCell_other _ _ _ _ (fun e=>d (by injection e))];exact c,k.far _ _ l⟩
end
end
def kE (sl:List aX) (id:Int):aX×Int:=if 1<=id/\id<=sl.length then(sl.getD (id.toNat-1) (0,Nd.zero),0) else((0,Nd.zero),101)
theorem jD (a:1<=id) (o:id<=sl.length):∃s,sl[id.toNat-1]? =some s/\kE sl id=(s,0):=by
 have hl:id.toNat-1<sl.length:=by omega
 refine⟨sl[id.toNat-1],mP hl,?_⟩;rw [kE,if_pos ⟨a,o⟩,List.getD_eq_getElem?_getD,mP hl];rfl
theorem iQ (h:id<1\/(sl.length:Int)<id):kE sl id=((0,Nd.zero),101):=by
 rw [kE,if_neg (by omega)]
theorem EN (h:∀s∈sl,Small s.2) (id:Int):Small (kE sl id).1.2:=by
 by_cases hi:1<=id/\id<=(sl.length:Int)
 ·obtain⟨s,a,b⟩:=jD hi.1 hi.2;rw [b]
  exact h s (nT a)
 ·rw [iQ (by omega)];exact⟨by simp [Nd.zero],by simp [Nd.zero],by simp [Nd.zero],by simp [Nd.zero],by simp [Nd.zero],by simp [Nd.zero]⟩
theorem XR {nodes:Int} (id:Int) (h:gL w F p nodes sl root) (hn:sl.length<=65536) (s:aX) (x:Int) (b:kE sl id=(s,x)):
  Calls prog 122 #[p,id] w fun e w'=>e= .returned (.tuple #[.int .u64 s.1,x])/\w=w':=by
 by_cases hi:1<=id/\id<=(sl.length:Int)
 ·obtain⟨g,d,f⟩:=jD hi.1 hi.2;rw [f] at b;injection b with a c;subst a;subst c
  exact Ux id g h hi.1 hi.2 hn d
 ·rw [iQ (by omega)] at b;injection b with a c;subst a;subst c
  exact Qi id h (by omega)
theorem TW {nodes:Int} (id:Int) (h:pG w F p nodes sl root) (hn:sl.length<=65536) (s:aX) (x:Int) (b:kE sl id=(s,x)):
  Calls prog 123 #[p,id] w fun e w'=>e= .returned (.tuple #[.int .u64 s.1,x])/\w=w':=by
 by_cases hi:1<=id/\id<=(sl.length:Int)
 ·obtain⟨g,d,f⟩:=jD hi.1 hi.2;rw [f] at b;injection b with a c;subst a;subst c
  exact TM id g h hi.1 hi.2 hn d
 ·rw [iQ (by omega)] at b;injection b with a c;subst a;subst c
  exact Pg id h (by omega)
theorem XT {nodes:Int} (id:Int) (h:gL w F p nodes sl root) (hn:sl.length<=65536) (q:∀s∈sl,Small s.2) (s:aX) (x:Int) (b:kE sl id=(s,x)):
  Calls prog 87 #[p,id] w (yc w s.2.lev s.2.high s.2.right x):=by
 by_cases hi:1<=id/\id<=(sl.length:Int)
 ·obtain⟨f,d,e⟩:=jD hi.1 hi.2;rw [e] at b;injection b with a c;subst a;subst c
  exact LF id f h hi.1 hi.2 hn d (q _ (nT d)).1
 ·rw [iQ (by omega)] at b;injection b with a c;subst a;subst c
  exact Fv id h (by omega)
theorem TX {nodes:Int} (id:Int) (h:pG w F p nodes sl root) (hn:sl.length<=65536) (q:∀s∈sl,Small s.2) (s:aX) (x:Int) (b:kE sl id=(s,x)):
  Calls prog 124 #[p,id] w (Df w s.2.lev s.2.high s.2.right x):=by
 by_cases hi:1<=id/\id<=(sl.length:Int)
 ·obtain⟨f,d,e⟩:=jD hi.1 hi.2;rw [e] at b;injection b with a c;subst a;subst c
  exact TN id h hi.1 hi.2 hn d (q _ (nT d))
 ·rw [iQ (by omega)] at b;injection b with a c;subst a;subst c
  exact Ph id h (by omega)
theorem XU {nodes:Int} (id:Int) (h:gL w F p nodes sl root) (hn:sl.length<=65536) (q:∀s∈sl,Small s.2) (s:aX) (x:Int) (b:kE sl id=(s,x)):
  Calls prog 88 #[p,id] w (pI w s.2.keys s.2.vals s.2.kids x):=by
 by_cases hi:1<=id/\id<=(sl.length:Int)
 ·obtain⟨f,d,e⟩:=jD hi.1 hi.2;rw [e] at b;injection b with a c;subst a;subst c
  exact LG id h hi.1 hi.2 hn d (q _ (nT d))
 ·rw [iQ (by omega)] at b;injection b with a c;subst a;subst c
  exact Fw id h (by omega)
theorem TY {nodes:Int} (id:Int) (h:pG w F p nodes sl root) (hn:sl.length<=65536) (q:∀s∈sl,Small s.2) (s:aX) (x:Int) (b:kE sl id=(s,x)):
  Calls prog 125 #[p,id] w (Dg w s.2.keys s.2.vals s.2.kids x):=by
 by_cases hi:1<=id/\id<=(sl.length:Int)
 ·obtain⟨f,d,e⟩:=jD hi.1 hi.2;rw [e] at b;injection b with a c;subst a;subst c
  exact TP id h hi.1 hi.2 hn d (q _ (nT d))
 ·rw [iQ (by omega)] at b;injection b with a c;subst a;subst c
  exact Pi id h (by omega)
theorem pI.cells {l:Nat}
  (h:keys= []/\n=0/\kids= []/\l=0\/∃g hi,w.heap.size<=g/\Dh w' g hi A n c keys/\It w' (fG (From hi) w') C l k kids):
  ∃g hi,w.heap.size<=g/\g<hi/\Rows w' g (fun b=>g<b/\b<hi) A n/\Cells w' (From hi) TR C l:=by
 rcases h with⟨rfl,rfl,rfl,rfl⟩|⟨g,hi,d,a,e⟩
 ·exact⟨w,w.heap.size+1,Nat.le_refl _,by omega,Rows.none_ _ _ _ _,Cells.none_ _ _ _ _⟩
 ·exact⟨g,hi,d,a.2.2.2.2.1,Rows.of_texts a,Cells.of_ints e⟩
theorem IZ {nodes:Int} (id:Int) (hq:ak w q 107 #[p,r]) (hx:gL w F p nodes sl root) (hy:pG w G r nodes sl root)
  (hn:sl.length<=65536) (hsm:∀s∈sl,Small s.2):
  Calls prog 79 #[q,id] w fun e w'=>e= .returned true/\Below w w w':=by
 obtain⟨s,x,hs⟩:∃s x,kE sl id=(s,x):=⟨_,_,rfl⟩;have HX:=aa hx;have HY:=aa hy;have HQ:=aa hq;have HM:=aa hsm;have Z:=aa hs;obtain⟨l1,l2,l3,l4,_,_⟩:Small s.2:=by have:=EN hsm id;rw [hs] at this;exact this
 have c0:w.cell? q=some (p:Value):=by rw [hq.cell];rfl
 have c1:w.cell? ⟨q,1,none⟩=some (r:Value):=by rw [hq.cell];rfl
 clear hx hy hq hsm hs;go_enter func79,ntmps79;go_wp2_with (first|(go_at_call 122;refine(XR id HX hn s x Z).mono ?_;rintro e w' ⟨rfl,rfl⟩)|(go_at_call 123;refine(TW id HY hn s x Z).mono ?_;rintro e w' ⟨rfl,rfl⟩)|(go_at_call 87;refine(XT id HX hn HM s x Z).mono ?_;rintro e w1 ⟨A1,N,d1,rfl,r1,l⟩;have y0:=aj l c0;have y1:=aj l c1;have yl:=eU y0;have i1:Below w w (w1.alloc (.cells #[(s.2.lev:Int),.slice A1 N d1,(s.2.right:Int)] 127)):=l.alloc l.size _)|(go_at_call 124;refine(TX id (HY.below i1) hn HM s x Z).mono ?_;rintro e w2 ⟨A2,n2,d2,rfl,r2,K⟩;have M2:Below w1 w1 w2:=gV.trans (K.mono (by simp));have j2:=i1.trans (K.mono i1.size);have u0:=aj j2 c0;have u1:=aj j2 c1;have ul:=eU u0;have i2:Below w w (w2.alloc (.cells #[(s.2.lev:Int),.slice A2 n2 d2,(s.2.right:Int)] 127)):=j2.alloc j2.size _)|(go_at_call 88;refine(XU id (HX.below i2) hn HM s x Z).mono ?_;rintro e f ⟨A3,I,d3,A4,n4,d4,A5,O,d5,rfl,r3,r4,r5,r6,A⟩;have M3:Below w2 w2 f:=gV.trans (A.mono (by simp));have j3:=i2.trans (A.mono i2.size);have v0:=aj j3 c0;have v1:=aj j3 c1;have vl:=eU v0;have i3:Below w w (f.alloc (.cells #[.slice A3 I d3,.slice A4 n4 d4,.slice A5 O d5] 130)):=j3.alloc j3.size _)|(go_at_call 125;refine(TY id (HY.below i3) hn HM s x Z).mono ?_;rintro e P ⟨B3,m3,T,B4,m4,e4,B5,m5,e5,rfl,t3,t4,t5,m⟩;have J:Below f f P:=gV.trans (m.mono (by simp));have v:Below P P (P.alloc (.cells #[.slice B3 m3 T,.slice B4 m4 e4,.slice B5 m5 e5] 130)):=gV;have j4:=i3.trans (m.mono i3.size);have i4:Below w w (P.alloc (.cells #[.slice B3 m3 T,.slice B4 m4 e4,.slice B5 m5 e5] 130)):=j4.alloc j4.size _;have k1:ak P w1 127 #[(s.2.lev:Int),.slice A1 N d1,(s.2.right:Int)]:=((((ak.new w1 _ _).below K).alloc _).below A|>.alloc _).below m;have k2:ak P w2 127 #[(s.2.lev:Int),.slice A2 n2 d2,(s.2.right:Int)]:=(((ak.new w2 _ _).below A).alloc _).below m;have k3:ak P f 130 #[.slice A3 I d3,.slice A4 n4 d4,.slice A5 O d5]:=(ak.new f _ _).below m;obtain⟨a0,a1,a2,a3⟩:=oW k1;obtain⟨b0,b1,b2,b3⟩:=oW k2;obtain⟨f0,f1,f2,f3⟩:=oW k3;have g1:=k1.lt;have g2:=k2.lt;have g3:=k3.lt)|(go_at_call 126;refine(Ip s.2.lev s.2.right ((((r1.below M2).below M3).below J).below v) (((r2.below M3).below J).below v)).mono ?_;rintro e w5 ⟨rfl,a⟩;have j5:=i4.trans (a.mono i4.size);have X:=((k3.alloc (.cells #[.slice B3 m3 T,.slice B4 m4 e4,.slice B5 m5 e5] 130)).below a);have ae:=(ak.new P 130 #[.slice B3 m3 T,.slice B4 m4 e4,.slice B5 m5 e5]).below a;obtain⟨o0,o1,o2,o3⟩:=oW X;obtain⟨p0,p1,p2,p3⟩:=oW ae)|(go_at_call 127;refine(Iq (((r4.below J).below v).below a) (((r5.below J).below v).below a) (((r6.below J).below v).below a) ((t3.below v).below a) ((t4.below v).below a) ((t5.below v).below a) (by rw [r4.len];exact l2) (by rw [r5.len];exact l3) (by rw [r6.len];exact l4)).mono ?_;rintro e w6 ⟨rfl,n⟩))
 have J6:=aa (j5.trans (n.mono j5.size));have al:=M2.size;have au:=M3.size;have aw:=J.size;have E1:=aa (((k1.alloc (.cells #[.slice B3 m3 T,.slice B4 m4 e4,.slice B5 m5 e5] 130)).below a).below n);have E3:=aa (X.below n);have am:Below w1 w1 w6:=M2.trans ((M3.mono al).trans ((J.mono (ma al au)).trans ((v.mono (by omega)).trans ((a.mono (by simp;omega)).trans (n.mono (by have:=a.size;simp at this;omega))))));have XV:Below f f w6:=J.trans ((v.mono aw).trans ((a.mono (by simp;omega)).trans (n.mono (by have:=a.size;simp at this;omega))));have C1:=aa ((Cells.of_bytes r1).lt.chg (S:=Nil) (ag.of_below am) (fun _ _ H=>H));obtain⟨g,hi,ad,aq,R3,C3⟩:=pI.cells r3;have ar:0<I->g<f:=fun h=>let⟨_,_,_,_,h1,_⟩:=R3.2 0 h;h1;have ao:=aa (R3.lt.chg (S:=Nil) (ag.of_below XV) (fun H=>H) (fun _ _ H=>H));have C5:=aa (C3.lt.chg (S:=Nil) (ag.of_below XV) (fun _ _ H=>H));have N1:N<=maxLen:=ma r1.1 r1.2.1;have N3:I<=maxLen:=ma r4.1 r4.2.1;have N5:O<=maxLen:=ma r6.1 r6.2.1;simp only [maxLen] at N1 N3 N5;have HW:w.heap.size<=w1:=l.size;have a4:w2+1<=g:=by simpa using ad
 have a5:=XV.size;clear l K A m a n i1 i2 i3 i4 j2 j3 j4 j5 M2 M3 J v k1 k2 k3 X ae a0 a1 a2 a3 b0 b1 b2 b3 f0 f1 f2 f3 o0 o1 o2 o3 p0 p1 p2 p3 r1 r2 r3 r4 r5 r6 t3 t4 t5 R3 C3 am XV ad y0 y1 u0 u1 v0 v1 yl ul vl g1 g2 g3
 go_loopg [19] N (fun g i wr=>∃(k:Nat),g=N-k/\k<=N/\i= (k:Int)/\ag (fun b=>w<=b/\b<w1) w6 wr/\Cells wr (fun b=>From w b/\b<w1) BD A1 N)
 case atStart=>exact⟨0,by omega,by omega,rfl,ag.refl _ _,C1.out⟩
 case round=>
  obtain⟨k,hg,hk,rfl,c,C⟩:=hrel;have HG:=aa hg;have Y:=aa c;have HE:=aa C;obtain⟨a0,a1,a2,a3⟩:=oW (E1.out.chg c (fun h=>by omega));clear hg c C
  by_cases L:k<N
  ·obtain⟨b,o,u,rfl,U,_,R,D,x,rfl⟩:=HE.out.2 k L;have H:=R (o+k);go_wp2
   go_roundg (N-(k+1))
   case measure=>have:=HG.out;omega
   case rel=>exact⟨k+1,rfl,by omega,by go_num,Y.setCell (p:=⟨b,o+k,none⟩) (fun _=>U) _,HE.put _ ⟨_,rfl⟩⟩
  ·have z7:=Y.out.size;have R7:=aa (ao.out.chg Y (fun h=>by omega) (fun b V h=>by omega));have C7:=aa (C5.out.chg Y (fun b V h=>by simp only [From] at V;omega));have E7:=aa (E3.out.chg Y (fun h=>by omega));clear HE;go_wp2
   go_loopg [20] I (fun g' i wz=>∃(k:Nat),g'=I-k/\k<=I/\i= (k:Int)/\ag (fun b=>g<=b/\b<hi/\b<f) wr wz/\Rows wz g (fun b=>(g<b/\b<hi)/\b<f) A3 I)
   case atStart=>exact⟨0,by omega,by omega,rfl,ag.refl _ _,R7.out⟩
   case round=>
    obtain⟨z,ac,hz,rfl,c,t⟩:=hrel;have rC:=aa ac;have bz:=aa c;have Q:=aa t;obtain⟨f0,f1,f2,f3⟩:=oW (E7.out.chg c (fun h=>by omega));clear ac c t
    by_cases L:z<I
    ·have ap:=ar (by omega);obtain⟨Az,nz,cz,rfl,_,M,E,j⟩:=Q.out.2 z L;have NZ:=j.1;simp only [maxLen] at NZ;have HZ:=aa E;clear j M;go_wp2;clear E
     go_loopg [21] nz (fun g' i wy=>∃(k:Nat),g'=nz-k/\k<=nz/\i= (k:Int)/\ag (fun b=>(g<b/\b<hi)/\b<f) wr wy/\wy.cell? ⟨g,z,none⟩=some (.slice Az nz cz)/\Rows wy g (fun b=>(g<b/\b<hi)/\b<f) (some ⟨g,0,none⟩) I)
     case atStart=>exact⟨0,by omega,by omega,rfl,ag.refl _ _,HZ,Q⟩
     case round=>
      obtain⟨y,d,hy,rfl,c,E,t⟩:=hrel;have P5:=aa d;have fu:=aa c;have ab:=aa t;have an:=aa E;obtain⟨o0,o1,o2,o3⟩:=oW ((E7.out.chg bz (fun h=>by omega)).chg c (fun h=>by omega));obtain⟨aA,a6,aE,_,_,M,XW,j⟩:=t.2 z L;rw [E] at XW;injection XW with XW;injection XW with e1 e2 T
      subst e1;subst e2;subst T;clear d c t
      by_cases W:y<nz
      ·obtain⟨b,o,u,rfl,U,_,R,D,x,rfl⟩:=j.2 y W;have H:=R (o+y);clear j R;go_wp2
       go_roundg (nz-(y+1))
       case measure=>have:=P5.out;omega
       case rel=>exact⟨y+1,rfl,by omega,by go_num,fu.setCell (p:=⟨b,o+y,none⟩) (fun _=>U) _,by rw [World.cell?_setCell_other _ _ _ _ (fun e=>by injection e with e1;have:=U.1.1;omega)];exact an,ab.put _ ⟨_,rfl⟩ (by have:=U.1.1;show b≠g;omega)⟩
      ·have H:=M z;clear j M;go_wp2
       go_roundg (I-(z+1))
       case measure=>have:=rC.out;omega
       case rel=>exact⟨z+1,rfl,by omega,by go_num,(bz.out.trans fu (fun b _ h=>⟨by omega,h.1.2,h.2⟩)).setCell (p:=⟨g,z,none⟩) (fun _=>⟨jO,aq,ap⟩) _,ab.nil_ z (by omega)⟩
    ·have eY:=aa (Y.below_of (B:=w.heap.size) (ma HW (by omega)) (fun b V h=>by omega));have fK:=aa (bz.below_of (B:=w.heap.size) (ma HW (by omega)) (fun b V h=>by omega));have C8:=aa (C7.out.chg bz (fun b V h=>by simp only [From] at V;omega));have E8:=aa (E7.out.chg bz (fun h=>by omega));have z8:=bz.out.size;clear Q;go_wp2
     go_loopg [22] O (fun g' i wz=>∃(k:Nat),g'=O-k/\k<=O/\i= (k:Int)/\ag (fun b=>hi<=b/\b<f) wr wz/\Cells wz (fun b=>From hi b/\b<f) TR A5 O)
     case atStart=>exact⟨0,by omega,by omega,rfl,ag.refl _ _,C8.out⟩
     case round=>
      obtain⟨y,d,hy,rfl,c,C⟩:=hrel;have P5:=aa d;have fu:=aa c;have IM:=aa C;obtain⟨o0,o1,o2,o3⟩:=oW (E8.out.chg c (fun h=>by omega));clear d c C
      by_cases W:y<O
      ·obtain⟨b,o,u,rfl,U,_,R,D,x,rfl⟩:=IM.out.2 y W;have H:=R (o+y);clear R;go_wp2
       go_roundg (O-(y+1))
       case measure=>have:=P5.out;omega
       case rel=>exact⟨y+1,rfl,by omega,by go_num,fu.setCell (p:=⟨b,o+y,none⟩) (fun _=>U) _,IM.put _ ⟨_,rfl⟩⟩
      ·go_wp2;go_ret
       exact⟨rfl,J6.out.trans (eY.out.trans (fK.out.trans (fu.below_of (ma HW (by omega)) (fun b V h=>by omega))))⟩
theorem gL.drewN {nodes:Int} (h:gL w F p nodes sl root) (k:Nat):gL (w.drewN k) F p nodes sl root:=h.chg (S:=Nil) (ag.of_below (below_drewN mh k)) (fun _ _ a=>a)
theorem pG.drewN {nodes:Int} (h:pG w F p nodes sl root) (k:Nat):pG (w.drewN k) F p nodes sl root:=h.chg (S:=Nil) (ag.of_below (below_drewN mh k)) (fun _ _ a=>a)
theorem IY {nodes:Int} (m:ak w q 107 #[p,r]) (A:gL w F p nodes sl root) (B:pG w G r nodes sl root)
  (hn:sl.length<=65536) (h:0<=nodes) (x:nodes<=65536) (hsm:∀s∈sl,Small s.2) (c:∀s∈sl,0<=s.1/\s.1<=4611686018427387904/\s.1%2=0):
  Calls prog 38 #[q] w fun e w'=>e= .returned true/\Below w w w':=by
 have t:=aa A;have j:=aa B;have J:=aa m;have I:=aa hsm;have y:Hid (gN sl sl.length= []):=aa (Fh (fun s n=>(c s n).2.2) _);have z:=aa (fun s n=>⟨(c s n).1,(c s n).2.1⟩:∀s∈sl,0<=s.1/\s.1<=4611686018427387904);have c0:w.cell? q=some (p:Value):=by rw [m.cell];rfl
 have c1:w.cell? ⟨q,1,none⟩=some (r:Value):=by rw [m.cell];rfl
 clear A B m hsm c;go_enter func38,ntmps38;go_wp2_with (first|(go_at_call 72;refine(MW j).mono ?_;rintro e w' ⟨rfl,rfl⟩)|(go_at_call 73;refine(Qb t hn z).mono ?_;rw [y.out];rintro e w1 ⟨S,L,d1,rfl,C,_,b⟩;obtain rfl:L=0:=C.len;have O:=aj b c0;have P:=aj b c1)|(go_at_call 74;refine(MX (j.below b) hn z).mono ?_;rw [y.out];rintro e w2 ⟨T,M,U,rfl,D,_,f⟩;obtain rfl:M=0:=D.len;have d:=b.trans (f.mono b.size);have Q:=aj d c0;have R:=aj d c1))
 have o:=aa (t.below d);have v:=aa (j.below d);clear C D;go_quiet (first|(go_at_call 75;exact dX (Qc (o.drewN _)))|(go_at_call 76;exact Calls.quiet_of (Qd (o.drewN _) hn h x))|(go_at_call 77;exact Calls.quiet_of (MY (v.drewN _) hn h x))|(go_at_call 48;exact dX (Fj (o.drewN _)))|(go_at_call 78;exact dX (MZ (v.drewN _))));go_wp2
 go_loopg [6] 0 (fun g i wr=>g=0/\i= .int .i64 0/\Below w2 w2 wr)
 case atStart=>exact⟨rfl,rfl,below_drewN mh _⟩
 case round=>
  obtain⟨l,rfl,a⟩:=hrel;have E:=aa (d.trans (a.mono d.size));clear l a b f d O P Q R o v;have V:=IntWalk.i64_in ((sl.length:Int)+1) (by omega);go_wp2
  go_loopg [7] (sl.length+2) (fun g i N=>∃k:Nat,g=sl.length+2-k/\k<=sl.length+2/\i= (k:Int)/\Below w w N)
  case atStart=>exact⟨0,by omega,by omega,rfl,E⟩
  case round=>
   obtain⟨k,l,W,rfl,a⟩:=hrel;have H:=aa l;clear l
   by_cases K:(k:Int)<=sl.length+1
   ·go_wp2_with (go_at_call 79;refine(IZ k (J.below a) (t.below a) (j.below a) hn I).mono ?_;rintro e X ⟨rfl,u⟩)
    go_roundg (sl.length+2-(k+1))
    case measure=>have:=H.out;omega
    case rel=>exact⟨k+1,rfl,by omega,by go_num,a.trans (u.mono a.size)⟩
   ·go_wp2;go_ret
    exact⟨rfl,a⟩
def xC (w:World) (s:Nat) (v:Value) (e a:Int):Prop:=(e=0/\v= .nilIface)\/(e≠0/\∃g,v= .iface 108 (.pointer (some ⟨g,0,none⟩))/\ak w g 111 #[.int .i64 e,.int .i64 a]/\s<=g)
theorem xC.chg {S:Nat->Prop} {w w':World} {s:Nat} {v:Value} {e a:Int} (h:xC w s v e a) (hc:ag S w w') (n:∀b,s<=b->¬S b):xC w' s v e a:=by
 rcases h with h|⟨h,g,d,f,c⟩
 ·exact .inl h
 ·exact .inr ⟨h,g,d,f.chg hc (n g c),c⟩
theorem Gn (a:Int) (w:World):Calls prog 30 #[.int .i64 0,.int .i64 a] w fun b w'=>b= .returned .nilIface/\w'=w:=by
 go_enter func30,ntmps30
 go_wp2;go_ret
 exact⟨rfl,rfl⟩
theorem pQ (e a:Int) (w:World) (c:e≠0):Calls prog 30 #[.int .i64 e,.int .i64 a] w fun b w'=>b= .returned (.iface 108 (.pointer (some ⟨w.heap.size,0,none⟩)))/\ak w' w.heap.size 111 #[.int .i64 e,.int .i64 a]/\Below w.heap.size w w':=by
 have d:(e==0)=false:=by rw [beq_eq_false_iff_ne];exact c
 go_enter func30,ntmps30
 go_wp2;go_ret
 exact⟨rfl,ak.new _ _ _,(Below.refl _ _).alloc (Nat.le_refl _) _⟩
theorem DD (v:Value) (a:TypeId) (w:World):(Instr.typeAssert (.iface 108 v) a 108 true).run prog w= .ok (.tuple #[v,.bool true]) w:=by kernel_rfl
theorem Gp (a:Int) (w:World):Calls prog 13 #[.nilIface,.int .i64 0,.int .i64 a] w fun b w'=>b= .returned (.bool true)/\Below w.heap.size w w':=by
 go_enter func13,ntmps13
 go_wp2;go_ret
 exact⟨rfl,Below.refl _ _⟩
theorem Gq (f:e≠0) (h:ak w g 111 #[.int .i64 e,.int .i64 a]):Calls prog 13 #[.iface 108 (.pointer (some ⟨g,0,none⟩)),.int .i64 e,.int .i64 a] w fun b w'=>b= .returned (.bool true)/\Below w.heap.size w w':=by
 have i:(e==0)=false:=by rw [beq_eq_false_iff_ne];exact f
 have j:(e==e)=true:=beq_self_eq_true e;have d:(a==a)=true:=beq_self_eq_true a;have c:w.cell? ⟨g,0,none⟩=some (.int .i64 e):=h.cell 0;have k:w.cell? ⟨g,1,none⟩=some (.int .i64 a):=h.cell 1;have l:=DD;go_enter func13,ntmps13;go_wp2_with (go_at_call 39;go_loud (refine(QR g e _ c).mono ?_);rintro b w2 ⟨rfl,rfl⟩)
 go_ret
 exact⟨rfl,Below.refl _ _⟩
theorem lg {s:Nat} (h:xC w s v e a):Calls prog 13 #[v,.int .i64 e,.int .i64 a] w fun b w'=>b= .returned (.bool true)/\Below w.heap.size w w':=by
 rcases h with⟨rfl,rfl⟩|⟨h,g,rfl,c,d⟩
 ·exact Gp a w
 ·exact Gq h c
theorem JD (h:ig w F p s):Calls prog 40 #[.pointer (some ⟨p,0,none⟩)] w fun a w'=>a= .returned (.int .i64 (s.calls:Nat))/\w=w':=by
 obtain⟨b,d,e,f,g,i,y⟩:=h;have c:w.cell? ⟨p,2,none⟩=some (.int .i64 (s.calls:Nat)):=y.blk.cell 2;clear y;go_enter func40,ntmps40;go_wp2;go_ret
 exact⟨rfl,rfl⟩
theorem NR (h:ig w F p s):Calls prog 41 #[.pointer (some ⟨p,0,none⟩)] w fun e w'=>e= .returned (.int .i64 (s.left.length:Nat))/\w=w':=by
 obtain⟨f,b,g,i,a,d,y⟩:=h;have c:w.cell? ⟨p,3,none⟩=some (.slice b a d):=y.blk.cell 3;have hl:a=s.left.length:=y.sb.parts.2.2.1;rw [<-hl];clear y hl;go_enter func41,ntmps41;go_wp2;go_ret
 exact⟨rfl,rfl⟩
theorem mZ (h:ig w F p s) (k:eP w G t s):Calls prog 14 #[.pointer (some ⟨p,0,none⟩),.pointer (some ⟨t,0,none⟩)] w fun d w'=>d= .returned (.bool true)/\Below w.heap.size w w':=by
 have l:=aa (JD h);have j:=aa (NR h);obtain⟨bA,gA,bn,bc,gn,gc,i,B,n7,n8,n9,n10,n11,y⟩:=k;obtain⟨cl,a⟩:∃cl,cl=s.calls:=⟨_,rfl⟩;obtain⟨ln,b⟩:∃ln,ln=s.left.length:=⟨_,rfl⟩;have c0:w.cell? ⟨t,0,none⟩=some (.slice bA bn bc):=y.blk.cell 0;have r:w.cell? ⟨t,4,none⟩=some (.int .i64 (cl:Nat)):=(y.blk.cell 4).trans (by rw [a];rfl);have u:w.cell? ⟨t,5,none⟩=some (.int .i64 (i:Nat)):=y.blk.cell 5;have f:bn=B.length:=y.sb.parts.2.2.1;have e:=y.bd;have g:=y.le;have c:(bn:Int)-(i:Int)=(ln:Int):=by rw [b,y.left,List.length_drop];omega
 have q:IntKind.i64.wrap ((bn:Int)-(i:Int))=(ln:Int):=by rw [c];exact IntWalk.i64_in _ (by omega)
 have m:IntKind.i64.wrap (ln:Int)=(ln:Int):=IntWalk.i64_in _ (by omega);have n:((cl:Int)==(cl:Int))=true:=beq_self_eq_true _;have o:((ln:Int)==(ln:Int))=true:=beq_self_eq_true _;rw [<-a] at l;rw [<-b] at j;clear y a b f g h e;go_enter func14,ntmps14;go_upto_region 3 with(first|(go_at_call 40;go_loud (refine l.mono ?_);rintro d w2 ⟨rfl,rfl⟩)|(go_at_call 41;go_loud (refine j.mono ?_);rintro d w2 ⟨rfl,rfl⟩))
 go_quiet (fail);go_wp2;go_ret;exact⟨rfl,below_drewN (Below.refl _ _) _⟩
theorem pR (t:Nat) (w:World):Calls prog 28 #[.pointer (some ⟨t,0,none⟩)] w fun b w'=>b= .returned (.pointer (some ⟨w.heap.size+1,0,none⟩))/\
  ak w' w.heap.size 142 #[.pointer (some ⟨t,0,none⟩),.int .i64 4611686018427387904,.int .i64 0,.int .i64 0,.slice none 0 0,.int .i64 0]/\
  ak w' (w.heap.size+1) 103 #[.pointer (some ⟨w.heap.size,0,none⟩),.bool false,.bool false,.int .i64 0,.int .i64 0,.slice none 0 0,.slice none 0 0]/\Below w.heap.size w w':=by
 go_enter func28,ntmps28
 go_wp2;go_ret
 have a:=ak.new (w.alloc (.cells #[.pointer (some ⟨t,0,none⟩),.int .i64 4611686018427387904,.int .i64 0,.int .i64 0,.slice none 0 0,.int .i64 0] 142)) 103 #[.pointer (some ⟨w.heap.size,0,none⟩),.bool false,.bool false,.int .i64 0,.int .i64 0,.slice none 0 0,.slice none 0 0];rw [World.size_alloc] at a;exact⟨rfl,(ak.new _ _ _).below ((Below.refl _ _).alloc (Nat.le_refl _) _),a,((Below.refl _ _).alloc (Nat.le_refl _) _).alloc (by simp) _⟩
theorem Cc (w:World):Calls prog 12 #[.pointer none,.pointer none] w fun e w'=>e= .returned (.bool true)/\Below w.heap.size w w':=by
 go_enter func12,ntmps12
 go_wp2;go_ret
 exact⟨rfl,Below.refl _ _⟩
theorem Gr {nodes:Int} (f:gL w F p nodes sl root) (g:pG w G r nodes sl root)
  (hn:sl.length<=65536) (d:0<=nodes) (x:nodes<=65536) (q:∀s∈sl,Small s.2) (a:∀s∈sl,0<=s.1/\s.1<=4611686018427387904/\s.1%2=0):
  Calls prog 12 #[.pointer (some ⟨p,0,none⟩),.pointer (some ⟨r,0,none⟩)] w fun e w'=>e= .returned (.bool true)/\Below w.heap.size w w':=by
 have b:Below w.heap.size w (w.alloc (.cells #[.pointer (some ⟨p,0,none⟩),.pointer (some ⟨r,0,none⟩)] 107)):=(Below.refl _ _).alloc (Nat.le_refl _) _;have j:=aa (f.below b);have k:=aa (g.below b);have i:=aa q;have h:=aa a;have l:ak (w.alloc (.cells #[.pointer (some ⟨p,0,none⟩),.pointer (some ⟨r,0,none⟩)] 107)) w.heap.size 107 #[.pointer (some ⟨p,0,none⟩),.pointer (some ⟨r,0,none⟩)]:=ak.new _ _ _;clear f g q a;go_enter func12,ntmps12;go_wp2_with (go_at_call 38;refine(IY l j k hn d x i h).mono ?_;rintro e m ⟨rfl,c⟩)
 go_ret
 exact⟨rfl,b.trans (c.mono b.size)⟩
theorem bu.one (h:bu w base D v n l us):∀u∈us,u.oneCell'=true:=by
 intro u r;obtain⟨k,o,rfl⟩:=List.mem_iff_getElem.mp r;have x:=h.own.1;have y:=h.len;have i:k/4<l.length:=by omega
 obtain⟨z,a,b,c,d,s⟩:=h.at_ (k/4) _ (mP i);obtain⟨t,g⟩:=gF (us[k]);have f:us[k]? =some t:=by rw [g];exact mP o
 rw [<-g];clear g;have j:k=k/4*4\/k=k/4*4+1\/k=k/4*4+2\/k=k/4*4+3:=by omega
 obtain⟨A,m,q,p,_⟩:=s
 rcases j with e|e|e|e
 ·rw [e] at f;rw [a] at f;injection f with f;rw [<-f,p];rfl
 ·rw [e] at f;rw [b] at f;injection f with f;rw [<-f];rfl
 ·rw [e] at f;rw [c] at f;injection f with f;rw [<-f];rfl
 ·rw [e] at f;rw [d] at f;injection f with f;rw [<-f];rfl
theorem yP {a:Addr} (c:Nat) (h:Rd w F 4 (some a) n us) (l:∀u∈us,u.oneCell'=true) (o:n<=8388608):
  Calls prog 100 #[.slice (some a) n c] w fun e w'=>∃v,e= .returned v/\w'.ownsRow w 100 4 v n us/\Below w w w':=by
 obtain⟨p,f,g,i,j⟩:=info_parts qw;have q:=fun(w:World) (a:Option Addr) (n c:Nat)=>Lib.run_eql_slice_nil (P:=prog) w 97 100 a n c 0 0 underlying97;go_enter func100,ntmps100;go_wp2_with (at_builtin;refine af _ rfl (.tmp 5) (.tmp 6) _ rfl w 100 p _ 4 48 underlying97 f g i j rfl (by omega) (.slice (some ⟨w,0,none⟩) 0 0) 0 [] rfl (gq w _ 4) F (some a) n c us rfl (h.alloc _) l (by simp only [maxLen];omega) (by omega) (by simp) ?_;intro v1 w1 b d r)
 go_ret
 simp only [Nat.zero_add,List.nil_append] at b;refine⟨_,rfl,b,gV.grown d (by simp) (fun k m=> ?_)⟩;simp [Value.ownBlock] at m;omega
def tX (w:World) (n:Nat) (l:List Row) (e:Ending) (w':World):Prop:=
 ∃g cc,w.heap.size<=g/\e= .returned (.slice (some ⟨g,0,none⟩) n cc)/\(∀(j:Nat) (x:Row),l[j]? =some x->w'.cell? ⟨g,j*4+1,none⟩=some (.int .i64 x.at_))/\Below w w w'
structure uW (w:World) (g i:Nat) (l:List Row) (w1 wr:World):Prop where
 at_:∀(j:Nat) (x:Row),l[j]? =some x->wr.cell? ⟨g,j*4+1,none⟩=some (.int .i64 x.at_)
 key:∀(j:Nat) (x:Row),i<=j->l[j]? =some x->∃u,wr.cell? ⟨g,j*4,none⟩=some u/\SB wr (fun b=>b<w) u x.last
 soft:fe wr g
 gw:w<=g
 gl:g<wr
 chg:ag (fun b=>b=g) w1 wr
theorem JE {a:Addr} (h:bu w base D (.slice (some a) n c) n l us) (hn:0<n) (H:n<=8388608) (P:∀x∈l,x.last.length<=64):
  Calls prog 58 #[.slice (some a) n c] w (tX w n l):=by
 refine letter fun R X=> ?_;have B:=aa h;have N:=aa h.len;have W:=aa P;clear h P;go_enter func58,ntmps58;go_upto_region 2 with(go_at_call 100;go_loud (refine(yP c (Rd.of_own B.own) B.one H).mono ?_);rintro e w1 ⟨v,rfl,I,z⟩;obtain⟨g,gc,rfl,A,_⟩:=I.form (by omega);have r:=aa I;have M:=aa z;have HG:=aa A;clear I z A)
 have F:Hid (uW w g 0 l w1 w1):=aa (by
  have ae:=r.out.1;have h2:=N.out
  refine⟨fun j x q=> ?_,fun j x _ q=> ?_,?_,?_,(ah r g rfl).2,ag.refl _ _⟩
  ·have G:=(nE.mp q).1;obtain⟨u,m,t,e3,e4,s⟩:=B.out.at_ j x q
   rw [r.out.cellAt (j*4+1) (by omega)];exact t
  ·have G:=(nE.mp q).1;obtain⟨u,m,t,e3,e4,s⟩:=B.out.at_ j x q
   exact⟨u,by rw [r.out.cellAt (j*4) (by omega)];exact m,(s.lt.weak (fun b z=>z.2)).below M⟩
  ·obtain⟨b,o,e,hs,_⟩:=(Rd.soft_of_own r).2 hn
   injection e with e;injection e with m t;subst m;exact hs.2
  ·exact(ah r g rfl).1)
 clear r;go_wp2
 go_loopg [9] n (fun g' iv V=>∃i:Nat,g'=n-i/\i<=n/\iv= (i:Int)/\Hid (uW w g i l w1 V)/\Hid (Below w w V))
 case atStart=>exact⟨0,by omega,by omega,rfl,F,M⟩
 case round=>
  obtain⟨i,O,hi,rfl,d,L⟩:=hrel;have Y:=aa O;clear O
  by_cases ac:i<n
  ·have Q:(i:Int)<(n:Int):=by omega
   obtain⟨x,C⟩:∃x,l[i]? =some x:=⟨_,mP (by have:=N.out;omega)⟩;obtain⟨u,hu,K,kn,kc,rfl,q1,q2,T,U⟩:=d.out.key i x jO C;have HX:=aa C;have iI:=aa (eG kc U T (by have:=W.out x (nT C);omega));have X8:wr.frozen? ⟨g,i*4,none⟩=false:=d.out.soft _;clear C q1 q2 T U;go_wp2_with (go_at_call 24;go_loud (refine iI.mono ?_);rintro e w2 ⟨J,jn,jc,rfl,r1,r2,r3,r4,E⟩;have f:=aa E;have Z:w2.frozen? ⟨g,i*4,none⟩=false:=(fe.chg (S:=Nil) d.soft (ag.of_below E) d.gl (fun h=>h)) _;have ad:=aj E hu;clear r1 r2 r3 r4 E)
   go_roundg (n-(i+1))
   case measure=>have:=Y.out;omega
   case rel=>
    have k:ag (fun b=>b=g) wr (w2.setCell ⟨g,i*4,none⟩ (.slice J jn jc)):=(ag.of_below (S:=fun b=>b=g) f).setCell (p:=⟨g,i*4,none⟩) (fun _=>rfl) _
    refine⟨i+1,rfl,by omega,by go_num,aa ⟨fun j y q=> ?_,fun j y q hy=> ?_,?_,d.gw,mU d.gl k.size,d.chg.trans k (fun _ _ h=>h)⟩,aa (L.out.trans (k.below_of L.size (fun b z e=>by have e:b=g:=e;have:=d.out.gw;omega)))⟩
    ·rw [World.cell?_setCell_other _ _ _ _ (fun e=>by injection e with m t;omega)]
     exact aj f (d.at_ j y q)
    ·obtain⟨u,m,t⟩:=d.out.key j y (by omega) hy;refine⟨u,?_,t.chg k (fun b z e=>by have e:b=g:=e;have:=d.out.gw;omega)⟩;rw [World.cell?_setCell_other _ _ _ _ (fun e=>by injection e with m t;omega)]
     exact aj f m
    ·intro o;rw [World.frozen?_setCell]
     exact(fe.chg (S:=Nil) d.soft (ag.of_below f) d.gl (fun h=>h)) o
  ·have ab:i=n:=by omega
   go_wp2;rw [X.out]
   exact⟨g,gc,d.gw,rfl,d.at_,L⟩
theorem NS {z:Nat} (a:Addr) (m:ak w z 140 #[b,v1,v2,.slice (some a) n c,i,v5]) (h:bu w base D (.slice (some a) n c) n l us) (hn:0<n) (d:n<=8388608) (o:∀x∈l,x.last.length<=64):
  Calls prog 34 #[z] w (tX w n l):=by
 have s:=aa (JE h hn d o);refine letter fun R t=> ?_;have u:w.cell? ⟨z,3,none⟩=some (.slice (some a) n c):=m.cell 3;clear m h o;go_enter func34,ntmps34;go_wp2_with (go_at_call 58;go_loud (refine s.mono ?_);rintro e w1 ⟨g,cc,f,rfl,j,k⟩;have p:=aa f;have q:=aa j;have r:=aa k;clear f j k)
 rw [t.out];exact⟨g,cc,p,rfl,q,r⟩
end Go.Proofs.YtepgcjbhabnciaaGreat
